/- The reference of chapter 8: configurations that are right. -/
import Derived.Test.YthpdddnkpjnllaaGreatGPG
import Derived.KernelRfl
import Derived.Test.YthpdddnkpjnllaaGreatGPF
open Go Go.Lft
namespace Go.Proofs.Pw
theorem jxM {x y:ByteArray} (h:x≠y):(x.toList==y.toList)=false:=by
 rw [ByteArray.toList_eq,ByteArray.toList_eq]
 exact Bool.eq_false_iff.2 fun hh=>h (ByteArray.ext (Array.toList_inj.mp (eq_of_beq hh)))
def okC (b:Int):Prop:=(97≤b∧b≤122)∨(48≤b∧b≤57)∨b=95∨b=45
theorem jyf {s:ByteArray} (hs:s.size≤24):∀ (n i:Nat),i+n=s.size→((j5r s (s.size:Int) (i:Int)).bind fun q0=>sumC q0 (fun a=>some a) (fun _=>some true))=some true→∀ j:Nat,i≤j→j<s.size→okC (j2d s j)
 | 0,i,hi,_,j,h1,h2=>by omega
 | n+1,i,hi,h,j,h1,h2=>by
  rw [jl1] at h
  simp only [j6a,jbB,jhV,j3] at h
  rw [j01 (by omega),j0Z (by omega) (by omega),j03 (x:=(i:Int)+1) (by omega) (by omega)] at h
  simp only [j5] at h
  have key:okC (j2d s i)∧((j5r s (s.size:Int) ((i:Int)+1)).bind fun q0=>sumC q0 (fun a=>some a) (fun _=>some true))=some true:=by
   by_cases ha:97≤j2d s i∧j2d s i≤122
   ·rw [j01 (show j2d s i≥97 from ha.1),j01 ha.2] at h
    simp only [j5,Bool.not_true,j6,j0a] at h
    exact ⟨.inl ha,h⟩
   ·have e:cond (decide (j2d s i≥97)) (decide (j2d s i≤122)) false=false:=by
     by_cases hx:j2d s i≥97
     ·rw [j01 hx,j5];exact j00 (by omega)
     ·rw [j00 hx,j6]
    rw [e] at h
    simp only [Bool.not_false,j5] at h
    by_cases hb:48≤j2d s i∧j2d s i≤57
    ·rw [j01 (show j2d s i≥48 from hb.1),j01 hb.2] at h
     simp only [j5,Bool.not_true,j6,j0a] at h
     exact ⟨.inr (.inl hb),h⟩
    ·have e2:cond (decide (j2d s i≥48)) (decide (j2d s i≤57)) false=false:=by
      by_cases hx:j2d s i≥48
      ·rw [j01 hx,j5];exact j00 (by omega)
      ·rw [j00 hx,j6]
     rw [e2] at h
     simp only [Bool.not_false,j5] at h
     by_cases hc:j2d s i=95
     ·have e3:(j2d s i != 95)=false:=by rw [hc];rfl
      rw [e3] at h
      simp only [j6,j0a] at h
      exact ⟨.inr (.inr (.inl hc)),h⟩
     ·have e3:(j2d s i != 95)=true:=by simpa using hc
      rw [e3] at h
      simp only [j5] at h
      by_cases hd:j2d s i=45
      ·have e4:(j2d s i != 45)=false:=by rw [hd];rfl
       rw [e4] at h
       simp only [j6,j0a] at h
       exact ⟨.inr (.inr (.inr hd)),h⟩
      ·have e4:(j2d s i != 45)=true:=by simpa using hd
       rw [e4] at h
       simp [j0e,jtq] at h
  by_cases hj:j=i
  ·subst hj;exact key.1
  ·exact jyf hs n (i+1) (by omega) key.2 j (by omega) h2
theorem jyg {s:ByteArray} (hs:s.size≤24) (hok:∀ j:Nat,j<s.size→okC (j2d s j)):∀ (n i:Nat),i+n=s.size→j9y s (i:Int)=some (.inr ())
 | 0,i,hi=>by
  rw [jht]
  simp only [j5K,show Int.ofNat s.size=(s.size:Int) from rfl]
  rw [j00 (by omega),j6,j0e]
 | n+1,i,hi=>by
  have ih:=jyg hs hok n (i+1) (by omega)
  have ho:=hok i (by omega)
  rw [jht]
  simp only [j5K,jmk,j3,show Int.ofNat s.size=(s.size:Int) from rfl]
  rw [j01 (by omega),j0Z (by omega) (by omega),j03 (x:=(i:Int)+1) (by omega) (by omega)]
  simp only [j5,Bool.true_or]
  have fin:lpK (some (.inl (s,(i:Int)+1)):Option ((ByteArray×Int) ⊕ (Bool ⊕ Unit))) (fun h=>j9y h.1 h.2)=some (.inr ()):=by rw [j0a];exact ih
  by_cases ha:97≤j2d s i∧j2d s i≤122
  ·rw [j00 (show ¬ j2d s i<97 by omega),j00 (show ¬ j2d s i>122 by omega)]
   exact fin
  ·have e:cond (decide (j2d s i<97)) true (decide (j2d s i>122))=true:=by
    by_cases hx:j2d s i<97
    ·rw [j01 hx,j5]
    ·rw [j00 hx,j6];exact j01 (by omega)
   rw [e]
   simp only [j5]
   by_cases hb:48≤j2d s i∧j2d s i≤57
   ·rw [j01 (show j2d s i≥48 from hb.1),j01 hb.2]
    exact fin
   ·have e2:cond (decide (j2d s i≥48)) (decide (j2d s i≤57)) false=false:=by
     by_cases hx:j2d s i≥48
     ·rw [j01 hx,j5];exact j00 (by omega)
     ·rw [j00 hx,j6]
    rw [e2]
    rcases ho with ho | ho | ho | ho
    ·exact absurd ho ha
    ·exact absurd ho hb
    ·rw [ho];exact fin
    ·rw [ho];exact fin
theorem jAh {s:ByteArray} (h:j62 s=some true):jlB s=some true:=by
 simp only [j62,show Int.ofNat s.size=(s.size:Int) from rfl] at h
 have hz:¬ (cond (s.toList==ByteArray.empty.toList) true (decide ((s.size:Int)>24)))=true:=by
  intro hx
  rw [hx] at h
  simp at h
 have hz':cond (s.toList==ByteArray.empty.toList) true (decide ((s.size:Int)>24))=false:=Bool.eq_false_iff.2 hz
 rw [hz'] at h
 simp only [Bool.not_false,Bool.not_true,Bool.or_false,j6] at h
 have h0:inR 0 s.size=true:=by
  cases hc:inR 0 s.size with
  | true=>rfl
  | false=>rw [hc] at h;simp at h
 have hlo:0<s.size:=by
  simp only [inR,Bool.and_eq_true,decide_eq_true_eq] at h0
  omega
 have hhi:s.size≤24:=by
  have:decide ((s.size:Int)>24)=false:=by
   revert hz'
   cases (s.toList==ByteArray.empty.toList)<;>simp
  have:=of_decide_eq_false this
  omega
 rw [h0] at h
 simp only [j5,jbB,j3] at h
 have ha:97≤j2d s 0∧j2d s 0≤122:=by
  apply Classical.byContradiction
  intro hn
  have e:cond (decide (j2d s 0≥97)) (decide (j2d s 0≤122)) false=false:=by
   by_cases hx:j2d s 0≥97
   ·rw [j01 hx,j5];exact j00 (by omega)
   ·rw [j00 hx,j6]
  rw [e] at h
  simp at h
 rw [j01 (show j2d s 0≥97 from ha.1),j01 ha.2] at h
 simp only [j5,Bool.not_true,j6] at h
 have hok:=jyf hhi s.size 0 (by omega) h
 simp only [jlB,show Int.ofNat s.size=(s.size:Int) from rfl]
 rw [h0,j00 (show ¬ (s.size:Int)<1 by omega),j00 (show ¬ (s.size:Int)>24 by omega),j00 (show ¬ j2d s 0<97 by omega),j00 (show ¬ j2d s 0>122 by omega)]
 simp only [j6,Bool.true_or,j5]
 rw [show j9y s 0=_ from jyg hhi (fun j hj=>hok j (by omega) hj) s.size 0 (by omega)]
 rfl
theorem jdb {n lo hi:Int} (h1:lo≤n) (h2:n≤hi):j7A n lo hi=some true:=by
 simp only [j7A,j01 (show n≥lo from h1),j01 h2,j5]
theorem jAi {n lo hi:Int} (h:n<lo):j7A n lo hi=some false:=by
 simp only [j7A,j00 (show ¬ n≥lo by omega),j6]
theorem jwB:jbu=some 98980:=by kernel_rfl
theorem jwC {d:Int} (h:j0D d=some true):d≤98980:=by
 apply Classical.byContradiction
 intro hd
 simp only [j0D,j3T,jgP,jgO,j3] at h
 rw [j00 (show ¬ d<0 by omega),j01 (show d≥98981 by omega)] at h
 simp at h
theorem jAj {d:Int} (h:j0D d=some true):0≤d:=by
 apply Classical.byContradiction
 intro hd
 simp only [j0D,j3T,jgP,jgO,j3] at h
 rw [j01 (show d<0 by omega)] at h
 simp at h
theorem jwD {ks:List ByteArray} (hn:ks.Nodup) {i:Nat} (hi:i<ks.length) {l:List ByteArray} (hl:l=ks.take (i+1)) (hs:ks.length≤1000):∀ (n k:Nat),k+n=i→jbX l (i:Int) (k:Int)=some (.inr ())
 | 0,k,hk=>by
  rw [jhu]
  simp only [j5L]
  rw [j00 (by omega),j6,j0e]
 | n+1,k,hk=>by
  have hll:l.length=i+1:=by rw [hl,List.length_take];omega
  have hk':k<ks.length:=by omega
  have g1:l.getD k ByteArray.empty=ks[k]:=by
   rw [hl,List.getD_eq_getElem?_getD,List.getElem?_take_of_lt (by omega),List.getElem?_eq_getElem hk'];rfl
  have g2:l.getD i ByteArray.empty=ks[i]:=by
   rw [hl,List.getD_eq_getElem?_getD,List.getElem?_take_of_lt (by omega),List.getElem?_eq_getElem hi];rfl
  have hne:ks[k]≠ks[i]:=fun e=>by
   have:=(List.getElem_inj (h₀:=hk') (h₁:=hi) hn).1 e
   omega
  rw [jhu]
  simp only [j5L]
  rw [j01 (by omega),j0Z (show (0:Int)≤(k:Int) by omega) (by omega),j0Z (show (0:Int)≤(i:Int) by omega) (by omega)]
  simp only [j5,j7,g1,g2,jxM hne,j6]
  rw [j03 (x:=(k:Int)+1) (by omega) (by omega),j0a]
  exact jwD hn hi hl hs n (k+1) (by omega)
theorem jAk {ks:List ByteArray} (h:NmL ks) {i:Nat} (hi:i<ks.length) (hs:ks.length≤1000):jbc (ks.take (i+1)) (i:Int)=some 0:=by
 have hll:(ks.take (i+1)).length=i+1:=by rw [List.length_take];omega
 have g2:(ks.take (i+1)).getD i ByteArray.empty=ks[i]:=by
  rw [List.getD_eq_getElem?_getD,List.getElem?_take_of_lt (by omega),List.getElem?_eq_getElem hi];rfl
 simp only [jbc]
 rw [j0Z (by omega) (by omega)]
 simp only [j5,j7,g2,jAh (h.2 _ (List.getElem_mem hi)),j3,Bool.not_true,j6]
 rw [show jbX (ks.take (i+1)) (i:Int) 0=_ from jwD h.1 hi rfl hs i 0 (by omega)]
 rfl
theorem jrp {α:Type} (f:α→ByteArray) {xs:List α} (h:NmL (xs.map f)) {i:Nat} (hi:i<xs.length) (hs:xs.length≤1000) :
  (xs.take i).map f++[f xs[i]]=(xs.take (i+1)).map f∧jbc ((xs.take (i+1)).map f) (i:Int)=some 0:=by
 refine ⟨?_,?_⟩
 ·rw [List.take_add_one,List.getElem?_eq_getElem hi,List.map_append];rfl
 ·have:=jAk h (i:=i) (by simpa using hi) (by simpa using hs)
  rwa [←List.map_take] at this
theorem jtJ {nm:ByteArray} {o:Int} {rs:List Rule} (h:∀ r∈rs,Int.tmod r.2.2.2.2.2.2 60=0) (hl:rs.length≤1000):∀ (n i:Nat),i+n=rs.length→j7z true (i:Int) nm o rs=some true
 | 0,i,hi=>by
  rw [je3]
  simp only [j47,show Int.ofNat rs.length=(rs.length:Int) from rfl]
  rw [j00 (by omega),j6,j0e]
 | n+1,i,hi=>by
  have hi':i<rs.length:=by omega
  have hgd:rs.getD i ((0:Int),((0:Int),((0:Int),((0:Int),((0:Int),((0:Int),(0:Int)))))))=rs[i]:=by simp [List.getD,hi']
  rw [je3]
  simp only [j47,show Int.ofNat rs.length=(rs.length:Int) from rfl]
  rw [j01 (by omega),j0Z (by omega) (by omega)]
  simp only [j5,Bool.true_or,j7,hgd,h _ (List.getElem_mem hi'),beq_self_eq_true]
  rw [j03 (x:=(i:Int)+1) (by omega) (by omega),j0a]
  exact jtJ h hl n (i+1) (by omega)
theorem jAT {z:j1w} (h:ZCk z):jbY z=some true:=by
 simp only [jbY,h.o60,beq_self_eq_true]
 rw [show j7z true 0 z.1 z.2.1 z.2.2=_ from jtJ h.r60 h.len z.2.2.length 0 (by omega)]
 rfl
section
variable {zs:List j1w} {ps:List j1C} {cs:List CalT} {ss:List j2c}
theorem jyh (hn:NmL (zs.map (·.1))) (hc:∀ z∈zs,ZCk z) (hr:∀ z∈zs,j6x z=some 0) (hl:zs.length≤100):∀ (n i:Nat),i+n=zs.length→jaf (i:Int) zs ps cs ss ((zs.take i).map (·.1))=some (.inr ())
 | 0,i,hi=>by
  rw [jga]
  simp only [j5b,show Int.ofNat zs.length=(zs.length:Int) from rfl]
  rw [j00 (by omega),j6,j0e]
 | n+1,i,hi=>by
  have hi':i<zs.length:=by omega
  have hgd:zs.getD i (ByteArray.empty,((0:Int),([]:List Rule)))=zs[i]:=by simp [List.getD,hi']
  obtain ⟨n1,n2⟩:=jrp (·.1) hn hi' (by omega)
  have hck:=hc _ (List.getElem_mem hi')
  rw [jga]
  simp only [j5b,show Int.ofNat zs.length=(zs.length:Int) from rfl]
  rw [j01 (by omega),j0Z (by omega) (by omega)]
  simp only [j5,j7,hgd]
  rw [j01 (show ((zs.take i).map (·.1)).length+[zs[i].1].length≤j0c by simp [j0c];omega),j5,n1,n2]
  simp only [j3,bne_self_eq_false,j6,show j6x (zs[i].1,(zs[i].2.1,zs[i].2.2))=_ from hr _ (List.getElem_mem hi'),Bool.true_or,j5,show jbY (zs[i].1,(zs[i].2.1,zs[i].2.2))=_ from jAT hck,Bool.not_true]
  rw [j03 (x:=(i:Int)+1) (by omega) (by omega),j0a]
  exact jyh hn hc hr hl n (i+1) (by omega)
theorem jwE {w:WL} (h:WOk 0 w) (hl:w.length≤14):∀ (n i:Nat),i+n=w.length→jag w (i:Int)=some (.inr ())
 | 0,i,hi=>by
  rw [jgb]
  simp only [j5c,show Int.ofNat w.length=(w.length:Int) from rfl]
  rw [j00 (by omega),j6,j0e]
 | n+1,i,hi=>by
  have hi':i<w.length:=by omega
  have hg:=jsH h i hi'
  have ih:=jwE h hl n (i+1) (by omega)
  rw [jgb]
  simp only [j5c,show Int.ofNat w.length=(w.length:Int) from rfl]
  rw [j01 (by omega),j0Z (by omega) (by omega)]
  simp only [j5,j7]
  rw [j00 (show ¬ (w.getD i (0,0)).1<0 by omega),j00 (show ¬ (w.getD i (0,0)).1≥(w.getD i (0,0)).2 by omega),j00 (show ¬ (w.getD i (0,0)).2>604800 by omega),j03 (x:=(i:Int)+1) (by omega) (by omega)]
  simp only [j6]
  by_cases h0:(i:Int)>0
  ·obtain ⟨k,rfl⟩:∃ k,i=k+1:=⟨i-1,by omega⟩
   have hgap:=jsI h k (by omega)
   rw [j01 h0,j5,j03 (x:=((k+1:Nat):Int)-1) (by omega) (by omega),show ((k+1:Nat):Int)-1=(k:Int) by omega,j0Z (show (0:Int)≤(k:Int) by omega) (by omega)]
   simp only [j5,j7]
   rw [j00 (show ¬ (w.getD (k+1) (0,0)).1<(w.getD k (0,0)).2 by omega),j6,j0a]
   exact ih
  ·rw [j00 h0,j6,j0a]
   exact ih
theorem r5ck {w:WL} (h:WOk 0 w) (hl:w.length≤14):je4 w=some 0:=by
 simp only [je4,show Int.ofNat w.length=(w.length:Int) from rfl]
 rw [j00 (by omega),j6,show jag w 0=_ from jwE h hl w.length 0 (by omega)]
 rfl
theorem jAl {n:Int} (h:j4q n=some true):jja n=some true:=h
theorem jyi (hn:NmL (ps.map (·.1))) (hc:∀ p∈ps,PCk zs.length p) (hl:ps.length≤100) (hzl:zs.length≤100):∀ (n i:Nat),i+n=ps.length→j8B (i:Int) zs ps cs ss ((ps.take i).map (·.1))=some (.inr ())
 | 0,i,hi=>by
  rw [jfm]
  simp only [j4B,show Int.ofNat ps.length=(ps.length:Int) from rfl]
  rw [j00 (by omega),j6,j0e]
 | n+1,i,hi=>by
  have hi':i<ps.length:=by omega
  have hgd:ps.getD i (ByteArray.empty,((0:Int),(([]:WL),((0:Int),((0:Int),false)))))=ps[i]:=by simp [List.getD,hi']
  obtain ⟨n1,n2⟩:=jrp (·.1) hn hi' (by omega)
  have hck:=hc _ (List.getElem_mem hi')
  have h0:=hck.z0;have h1:=hck.z1
  rw [jfm]
  simp only [j4B,show Int.ofNat ps.length=(ps.length:Int) from rfl,show Int.ofNat zs.length=(zs.length:Int) from rfl]
  rw [j01 (by omega),j0Z (by omega) (by omega)]
  simp only [j5,j7,hgd]
  rw [j01 (show ((ps.take i).map (·.1)).length+[ps[i].1].length≤j0c by simp [j0c];omega),j5,n1,n2,hck.nb,j03 (x:=(zs.length:Int)-1) (by omega) (by omega),jdb h0 (by omega)]
  simp only [j3,bne_self_eq_false,j6,Bool.not_true,r5ck hck.w hck.wl,jAl hck.m,jAl hck.r]
  rw [j03 (x:=(i:Int)+1) (by omega) (by omega),j0a]
  exact jyi hn hc hl hzl n (i+1) (by omega)
theorem jwF {ds:List Int} (h:∀ d∈ds,j0D d=some true) (hl:ds.length≤64) {m z:Int} {nm:ByteArray} {l3:List ByteArray}:∀ (n i:Nat),i+n=ds.length→j5M m (i:Int) zs ps cs ss nm z ds l3=some (.inr (m,zs,ps,cs,ss,nm,z,ds,l3))
 | 0,i,hi=>by
  rw [jbZ]
  simp only [j3g,show Int.ofNat ds.length=(ds.length:Int) from rfl]
  rw [j00 (by omega),j6,j0e]
 | n+1,i,hi=>by
  have hi':i<ds.length:=by omega
  have hgd:ds.getD i (0:Int)=ds[i]:=by simp [hi']
  have hd:=h _ (List.getElem_mem hi')
  rw [jbZ]
  simp only [j3g,show Int.ofNat ds.length=(ds.length:Int) from rfl]
  rw [j01 (by omega),j0Z (by omega) (by omega)]
  simp only [j5,j7,hgd,jwB,j3,jdb (jAj hd) (jwC hd),Bool.not_true,j6]
  rw [j03 (x:=(i:Int)+1) (by omega) (by omega),j0a]
  exact jwF h hl n (i+1) (by omega)
theorem jwG {ds:List Int} (h:ds.Pairwise (· < ·)) (hl:ds.length≤64) {m z:Int} {nm:ByteArray} {l3:List ByteArray}:∀ (n i:Nat),ds.length≤i+n→1≤i→j5N m (i:Int) zs ps cs ss nm z ds l3=some (.inr (m,zs,ps,cs,ss,l3))
 | n,i,hi,h1=>by
  rw [jhX]
  simp only [j4C,show Int.ofNat ds.length=(ds.length:Int) from rfl]
  by_cases hi':i<ds.length
  ·obtain ⟨n,rfl⟩:∃ m,n=m+1:=⟨n-1,by omega⟩
   obtain ⟨k,rfl⟩:∃ k,i=k+1:=⟨i-1,by omega⟩
   have hgd:ds.getD (k+1) (0:Int)=ds[k+1]:=by simp [hi']
   have hgk:ds.getD k (0:Int)=ds[k]:=by simp [show k<ds.length by omega]
   have hlt:=List.pairwise_iff_getElem.1 h k (k+1) (by omega) hi' (by omega)
   rw [j01 (by omega),j0Z (by omega) (by omega),j03 (x:=((k+1:Nat):Int)-1) (by omega) (by omega),show ((k+1:Nat):Int)-1=(k:Int) by omega,j0Z (show (0:Int)≤(k:Int) by omega) (by omega)]
   simp only [j5,j7,hgd,hgk]
   rw [j00 (show ¬ ds[k+1]≤ds[k] by omega),j6,j03 (x:=((k+1:Nat):Int)+1) (by omega) (by omega),j0a]
   exact jwG h hl n (k+1+1) (by omega) (by omega)
  ·rw [j00 (by omega),j6,j0e]
 termination_by n=>n
theorem jyj (hn:NmL (cs.map (·.1))) (hc:∀ x∈cs,CCk zs.length x) (hl:cs.length≤100) (hzl:zs.length≤100):∀ (n i:Nat),i+n=cs.length→j5O (i:Int) zs ps cs ss ((cs.take i).map (·.1))=some (.inr ())
 | 0,i,hi=>by
  rw [jc0]
  simp only [j3h,show Int.ofNat cs.length=(cs.length:Int) from rfl]
  rw [j00 (by omega),j6,j0e]
 | n+1,i,hi=>by
  have hi':i<cs.length:=by omega
  have hgd:cs.getD i (ByteArray.empty,((0:Int),([]:List Int)))=cs[i]:=by simp [List.getD,hi']
  obtain ⟨n1,n2⟩:=jrp (·.1) hn hi' (by omega)
  have hck:=hc _ (List.getElem_mem hi')
  have h0:=hck.z0;have h1:=hck.z1;have h2:=hck.len
  have l2:=jwF (zs:=zs) (ps:=ps) (cs:=cs) (ss:=ss) hck.day h2 (m:=(i:Int)) (z:=cs[i].2.1) (nm:=cs[i].1) (l3:=(cs.take (i+1)).map (·.1)) cs[i].2.2.length 0 (by omega)
  have l4:=jwG (zs:=zs) (ps:=ps) (cs:=cs) (ss:=ss) hck.asc h2 (m:=(i:Int)) (z:=cs[i].2.1) (nm:=cs[i].1) (l3:=(cs.take (i+1)).map (·.1)) cs[i].2.2.length 1 (by omega) (by omega)
  rw [jc0]
  simp only [j3h,show Int.ofNat cs.length=(cs.length:Int) from rfl,show Int.ofNat zs.length=(zs.length:Int) from rfl]
  rw [j01 (by omega),j0Z (by omega) (by omega)]
  simp only [j5,j7,hgd]
  rw [j01 (show ((cs.take i).map (·.1)).length+[cs[i].1].length≤j0c by simp [j0c];omega),j5,n1,n2,j03 (x:=(zs.length:Int)-1) (by omega) (by omega),jdb h0 (by omega)]
  simp only [j3,bne_self_eq_false,j6,Bool.not_true,show Int.ofNat cs[i].2.2.length=(cs[i].2.2.length:Int) from rfl]
  rw [j00 (by omega),j6,show j5M (i:Int) 0 zs ps cs ss cs[i].1 cs[i].2.1 cs[i].2.2 ((cs.take (i+1)).map (·.1))=_ from l2]
  simp only [j3,j69]
  rw [show j5N (i:Int) 1 zs ps cs ss cs[i].1 cs[i].2.1 cs[i].2.2 ((cs.take (i+1)).map (·.1))=_ from l4]
  simp only [j3,j69]
  rw [j03 (x:=(i:Int)+1) (by omega) (by omega),j0a]
  exact jyj hn hc hl hzl n (i+1) (by omega)
theorem jyk {L:j0J} (h:∀ m∈L.2.2.2.2.2.1,0≤m∧m<(ps.length:Int)) (hl:L.2.2.2.2.2.1.length≤12) (hp:ps.length≤100):∀ (n i:Nat),i+n=L.2.2.2.2.2.1.length→
  jah (i:Int) zs ps cs ss L.1 L.2.1 L.2.2.1.1 L.2.2.1.2 L.2.2.2.1 L.2.2.2.2.1 L.2.2.2.2.2.1 L.2.2.2.2.2.2.1 L.2.2.2.2.2.2.2.1 L.2.2.2.2.2.2.2.2=some (.inr (zs,ps,cs,ss,L.1,L.2.1,L.2.2.1.1,L.2.2.1.2,L.2.2.2.1,L.2.2.2.2.1,L.2.2.2.2.2.1,L.2.2.2.2.2.2.1,L.2.2.2.2.2.2.2.1,L.2.2.2.2.2.2.2.2))
 | 0,i,hi=>by
  rw [jgc]
  simp only [j5d,show Int.ofNat L.2.2.2.2.2.1.length=(L.2.2.2.2.2.1.length:Int) from rfl]
  rw [j00 (by omega),j6,j0e]
 | n+1,i,hi=>by
  have hi':i<L.2.2.2.2.2.1.length:=by omega
  have hgd:L.2.2.2.2.2.1.getD i (0:Int)=L.2.2.2.2.2.1[i]:=by simp [hi']
  have hd:=h _ (List.getElem_mem hi')
  rw [jgc]
  simp only [j5d,show Int.ofNat L.2.2.2.2.2.1.length=(L.2.2.2.2.2.1.length:Int) from rfl,show Int.ofNat ps.length=(ps.length:Int) from rfl]
  rw [j01 (by omega),j0Z (by omega) (by omega),j03 (x:=(ps.length:Int)-1) (by omega) (by omega)]
  simp only [j5,j7,hgd,jdb hd.1 (show L.2.2.2.2.2.1[i]≤(ps.length:Int)-1 by omega),j3,Bool.not_true,j6]
  rw [j03 (x:=(i:Int)+1) (by omega) (by omega),j0a]
  exact jyk h hl hp n (i+1) (by omega)
theorem jzh {L:j0J} (h:LCk zs.length ps.length cs.length L) (hz:zs.length≤100) (hp:ps.length≤100) (hc:cs.length≤100):jgd (zs,(ps,(cs,ss))) L=some 0:=by
 have h0:=h.z0;have h1:=h.z1;have hm0:=h.m0;have hm1:=h.m1;have hc1:=h.c1;have hwl:=h.wl
 have lp:=jyk (zs:=zs) (ps:=ps) (cs:=cs) (ss:=ss) h.mem hm1 hp L.2.2.2.2.2.1.length 0 (by omega)
 simp only [jgd,show Int.ofNat zs.length=(zs.length:Int) from rfl,show Int.ofNat L.2.2.2.2.2.1.length=(L.2.2.2.2.2.1.length:Int) from rfl]
 rw [j03 (x:=(zs.length:Int)-1) (by omega) (by omega),jdb h0 (by omega),jwB]
 simp only [j3,Bool.not_true,j6,jdb h.d0 (jwC h.day),jdb h.c0 hc1,jdb h.u0 h.u1,jdb h.e0 h.e1]
 rw [j3S (show ¬ (L.2.2.2.2.2.1.length:Int)=0 by omega),j00 (show ¬ (L.2.2.2.2.2.1.length:Int)>12 by omega)]
 simp only [j6]
 rw [show jah 0 zs ps cs ss L.1 L.2.1 L.2.2.1.1 L.2.2.1.2 L.2.2.2.1 L.2.2.2.2.1 L.2.2.2.2.2.1 L.2.2.2.2.2.2.1 L.2.2.2.2.2.2.2.1 L.2.2.2.2.2.2.2.2=_ from lp]
 simp only [j3,j69,r5ck h.w hwl,bne_self_eq_false,j6,jdb h.mode0 h.mode1,Bool.not_true,show Int.ofNat cs.length=(cs.length:Int) from rfl]
 rw [j03 (x:=(cs.length:Int)-1) (by omega) (by omega)]
 by_cases hm:L.2.2.2.2.2.2.2.2=0
 ·have e:(L.2.2.2.2.2.2.2.2 != 0)=false:=by rw [hm];rfl
  have e2:(L.2.2.2.2.2.2.2.1 != 0)=false:=by rw [h.cal0 hm];rfl
  rw [e,e2,j7q hm]
  rfl
 ·have e:(L.2.2.2.2.2.2.2.2 != 0)=true:=by simpa using hm
  have hcal:=h.cal hm
  rw [e,j3S hm,jdb hcal.1 (by omega)]
  rfl
theorem jAm {x:j94} (h:ECk ps.length x) (hp:ps.length≤100):jjb (zs,(ps,(cs,ss))) x=some 0:=by
 have hf0:=h.f0;have hft:=h.ft;have ht1:=h.t1;have hd:=jwC h.day
 have htd:Int.tdiv x.2.2.2.2 86400=x.2.2.2.2/86400:=jdD (by omega)
 have hin:∃ b,j7A x.2.1 0 ((ps.length:Int)-1)=some b∧cond (!b) (cond (x.1 != 1) true (x.2.1 != -1)) false=false:=by
  rcases h.a with ⟨a1,a2⟩ | ⟨a1,a2⟩
  ·exact ⟨true,jdb a1 (by omega),rfl⟩
  ·exact ⟨false,jAi (by omega),by rw [a1,a2];rfl⟩
 obtain ⟨b,eb,hb⟩:=hin
 simp only [jjb,show Int.ofNat ps.length=(ps.length:Int) from rfl]
 rw [j03 (x:=(ps.length:Int)-1) (by omega) (by omega),jdb h.k0 h.k1,eb]
 simp only [j3,Bool.not_true,j6,hb]
 rw [j00 (show ¬ x.2.2.2.1<0 by omega),j00 (show ¬ x.2.2.2.2<0 by omega),j03 (x:=Int.tdiv x.2.2.2.2 86400) (by rw [htd];omega) (by rw [htd];omega),jwB]
 simp only [j6,j3]
 rw [j00 (show ¬ Int.tdiv x.2.2.2.2 86400>98980 by omega),j00 (show ¬ x.2.2.2.1≥x.2.2.2.2 by omega)]
 simp only [j6]
 by_cases hk:x.1=2
 ·obtain ⟨b1,b2,b3⟩:=h.b hk
  have e2:(x.1 != 2)=false:=by rw [hk];rfl
  rw [j7q hk,j5,jdb b1 (by omega),e2,j3S b3]
  rfl
 ·have e2:(x.1 != 2)=true:=by simpa using hk
  rw [j3S hk,e2,h.b0 hk]
  rfl
theorem jwH {ls:List j0J} (hn:NmL (ls.map (·.1))) (hc:∀ x∈ls,LCk zs.length ps.length cs.length x) (hl:ls.length≤100) (hz:zs.length≤100) (hp:ps.length≤100) (hcl:cs.length≤100) {m:Int} {nm:ByteArray} {es:List j94} {l3:List ByteArray}:∀ (n i:Nat),i+n=ls.length→
  j5P m (i:Int) zs ps cs ss nm ls es l3 ((ls.take i).map (·.1))=some (.inr (m,zs,ps,cs,ss,nm,ls,es,l3))
 | 0,i,hi=>by
  rw [jc1]
  simp only [j3i,show Int.ofNat ls.length=(ls.length:Int) from rfl]
  rw [j00 (by omega),j6,j0e]
 | n+1,i,hi=>by
  have hi':i<ls.length:=by omega
  have hgd:ls.getD i (ByteArray.empty,((0:Int),(((0:Int),(0:Int)),((0:Int),((0:Int),(([]:List Int),(([]:WL),((0:Int),(0:Int)))))))))=ls[i]:=by simp [List.getD,hi']
  obtain ⟨n1,n2⟩:=jrp (·.1) hn hi' (by omega)
  have hck:=hc _ (List.getElem_mem hi')
  rw [jc1]
  simp only [j3i,show Int.ofNat ls.length=(ls.length:Int) from rfl]
  rw [j01 (by omega),j0Z (by omega) (by omega)]
  simp only [j5,j7,hgd]
  rw [j01 (show ((ls.take i).map (·.1)).length+[ls[i].1].length≤j0c by simp [j0c];omega),j5,n1,n2]
  simp only [j3,bne_self_eq_false,j6]
  rw [show jgd (zs,ps,cs,ss) (ls[i].1,ls[i].2.1,(ls[i].2.2.1.1,ls[i].2.2.1.2),ls[i].2.2.2.1,ls[i].2.2.2.2.1,ls[i].2.2.2.2.2.1,ls[i].2.2.2.2.2.2.1,ls[i].2.2.2.2.2.2.2.1,ls[i].2.2.2.2.2.2.2.2)=_ from jzh hck hz hp hcl]
  simp only [j3,bne_self_eq_false,j6]
  rw [j03 (x:=(i:Int)+1) (by omega) (by omega),j0a]
  exact jwH hn hc hl hz hp hcl n (i+1) (by omega)
theorem jwI {es:List j94} (hc:∀ x∈es,ECk ps.length x) (hl:es.length≤48) (hp:ps.length≤100) {m:Int} {nm:ByteArray} {ls:List j0J} {l3:List ByteArray}:∀ (n i:Nat),i+n=es.length→
  j5Q m (i:Int) zs ps cs ss nm ls es l3=some (.inr (m,zs,ps,cs,ss,l3))
 | 0,i,hi=>by
  rw [jc2]
  simp only [j3j,show Int.ofNat es.length=(es.length:Int) from rfl]
  rw [j00 (by omega),j6,j0e]
 | n+1,i,hi=>by
  have hi':i<es.length:=by omega
  have hgd:es.getD i ((0:Int),((0:Int),((0:Int),((0:Int),(0:Int)))))=es[i]:=by simp [List.getD,hi']
  have hck:=hc _ (List.getElem_mem hi')
  rw [jc2]
  simp only [j3j,show Int.ofNat es.length=(es.length:Int) from rfl]
  rw [j01 (by omega),j0Z (by omega) (by omega)]
  simp only [j5,j7,hgd]
  rw [show jjb (zs,ps,cs,ss) (es[i].1,es[i].2.1,es[i].2.2.1,es[i].2.2.2.1,es[i].2.2.2.2)=_ from jAm hck hp]
  simp only [j3,bne_self_eq_false,j6]
  rw [j03 (x:=(i:Int)+1) (by omega) (by omega),j0a]
  exact jwI hc hl hp n (i+1) (by omega)
theorem jyl (hn:NmL (ss.map (·.1))) (hc:∀ x∈ss,SCk zs.length ps.length cs.length x) (hl:ss.length≤100) (hz:zs.length≤100) (hp:ps.length≤100) (hcl:cs.length≤100):∀ (n i:Nat),i+n=ss.length→
  j5R (i:Int) zs ps cs ss ((ss.take i).map (·.1))=some (.inr ())
 | 0,i,hi=>by
  rw [jc3]
  simp only [j3k,show Int.ofNat ss.length=(ss.length:Int) from rfl]
  rw [j00 (by omega),j6,j0e]
 | n+1,i,hi=>by
  have hi':i<ss.length:=by omega
  have hgd:ss.getD i (ByteArray.empty,(([]:List j0J),([]:List j94)))=ss[i]:=by simp [List.getD,hi']
  obtain ⟨n1,n2⟩:=jrp (·.1) hn hi' (by omega)
  have hck:=hc _ (List.getElem_mem hi')
  have h1:=hck.ll;have h2:=hck.el
  have l2:=jwH (ss:=ss) hck.nm hck.ly (by omega) hz hp hcl (m:=(i:Int)) (nm:=ss[i].1) (es:=ss[i].2.2) (l3:=(ss.take (i+1)).map (·.1)) ss[i].2.1.length 0 (by omega)
  have l4:=jwI (zs:=zs) (cs:=cs) (ss:=ss) hck.ed h2 hp (m:=(i:Int)) (nm:=ss[i].1) (ls:=ss[i].2.1) (l3:=(ss.take (i+1)).map (·.1)) ss[i].2.2.length 0 (by omega)
  rw [jc3]
  simp only [j3k,show Int.ofNat ss.length=(ss.length:Int) from rfl]
  rw [j01 (by omega),j0Z (by omega) (by omega)]
  simp only [j5,j7,hgd]
  rw [j01 (show ((ss.take i).map (·.1)).length+[ss[i].1].length≤j0c by simp [j0c];omega),j5,n1,n2]
  simp only [j3,bne_self_eq_false,j6,show Int.ofNat ss[i].2.1.length=(ss[i].2.1.length:Int) from rfl,show Int.ofNat ss[i].2.2.length=(ss[i].2.2.length:Int) from rfl]
  rw [j00 (show ¬ (ss[i].2.1.length:Int)>6 by omega),j00 (show ¬ (ss[i].2.2.length:Int)>48 by omega)]
  simp only [j6]
  rw [show j5P (i:Int) 0 zs ps cs ss ss[i].1 ss[i].2.1 ss[i].2.2 ((ss.take (i+1)).map (·.1)) []=_ from l2]
  simp only [j3,j69]
  rw [show j5Q (i:Int) 0 zs ps cs ss ss[i].1 ss[i].2.1 ss[i].2.2 ((ss.take (i+1)).map (·.1))=_ from l4]
  simp only [j3,j69]
  rw [j03 (x:=(i:Int)+1) (by omega) (by omega),j0a]
  exact jyl hn hc hl hz hp hcl n (i+1) (by omega)
theorem jAU (h:jsK (zs,(ps,(cs,ss)))) (hr:∀ z∈zs,j6x z=some 0):jjc (zs,(ps,(cs,ss)))=some 0:=by
 have hzl:zs.length≤16:=h.zl
 have hpl:ps.length≤32:=h.pl
 have hcl:cs.length≤8:=h.cl
 have hsl:ss.length≤12:=h.sl
 have lz:=jyh (zs:=zs) (ps:=ps) (cs:=cs) (ss:=ss) h.zn h.zc hr (by omega) zs.length 0 (by omega)
 have lp:=jyi (zs:=zs) (ps:=ps) (cs:=cs) (ss:=ss) h.pn h.pc (by omega) (by omega) ps.length 0 (by omega)
 have lc:=jyj (zs:=zs) (ps:=ps) (cs:=cs) (ss:=ss) h.cn h.cc (by omega) (by omega) cs.length 0 (by omega)
 have ls:=jyl (zs:=zs) (ps:=ps) (cs:=cs) (ss:=ss) h.sn h.sc (by omega) (by omega) (by omega) (by omega) ss.length 0 (by omega)
 simp only [jjc,show Int.ofNat zs.length=(zs.length:Int) from rfl,show Int.ofNat ps.length=(ps.length:Int) from rfl,show Int.ofNat cs.length=(cs.length:Int) from rfl,show Int.ofNat ss.length=(ss.length:Int) from rfl]
 rw [j00 (show ¬ (zs.length:Int)>16 by omega),j00 (show ¬ (ps.length:Int)>32 by omega),j00 (show ¬ (cs.length:Int)>8 by omega),j00 (show ¬ (ss.length:Int)>12 by omega)]
 simp only [j6,jml,show jaf 0 zs ps cs ss []=_ from lz,j3,j69,bne_self_eq_false,jkh,show j8B 0 zs ps cs ss []=_ from lp,jeD,show j5O 0 zs ps cs ss []=_ from lc,jeE,show j5R 0 zs ps cs ss []=_ from ls]
end
theorem r4ck {z:j1w} (h:ZOk z):j6x z=some 0:=by
 have h4:=h.zref.2.1
 simp only [j6x]
 rw [show j1k (z.1,(z.2.1,z.2.2))=_ from h4.1]
 rfl
theorem jym {z:j1w} {l:TrL} (hz:Z4 z l) {L:j0J} (h:Rt L) {t N:Int} (hN:N≤8589934592):∀ n:Nat,(n:Int)≤N→
  ∃ K:Int,j6y t ((n:Int)-1) z.1 z.2.1 z.2.2 L.1 L.2.1 L.2.2.1.1 L.2.2.1.2 L.2.2.2.1 L.2.2.2.2.1 L.2.2.2.2.2.1 L.2.2.2.2.2.2.1 L.2.2.2.2.2.2.2.1 L.2.2.2.2.2.2.2.2=some K∧
   (K = -1∨0≤K∧QO z.2.1 l L t K)∧K<n∧∀ j:Int,K<j→0≤j→j<n→¬ QO z.2.1 l L t j
 | 0,_=>by
  rw [jgg]
  simp only [j5e]
  rw [j00 (by omega),j6,j0e]
  exact ⟨_,rfl,.inl (by omega),by omega,fun j h1 h2 h3=>by omega⟩
 | n+1,hn=>by
  obtain ⟨K,e,k0,k1,k2⟩:=jym hz h (t:=t) hN n (by omega)
  obtain ⟨v,hH,hv⟩:=r10H hz h (k:=(n:Int)) (by omega) (by omega)
  rw [jgg,show ((n+1:Nat):Int)-1=(n:Int) by omega]
  simp only [j5e]
  rw [j01 (by omega),j5,show jaj (z.1,(z.2.1,z.2.2)) (L.1,L.2.1,(L.2.2.1.1,L.2.2.1.2),L.2.2.2.1,L.2.2.2.2.1,L.2.2.2.2.2.1,L.2.2.2.2.2.2.1,L.2.2.2.2.2.2.2.1,L.2.2.2.2.2.2.2.2) (n:Int)=_ from hH]
  simp only [j3]
  rw [j03 (x:=(n:Int)-1) (by omega) (by omega)]
  have down:¬ QO z.2.1 l L t (n:Int)→(lpK (some (Sum.inl (t,(n:Int)-1,z.1,z.2.1,z.2.2,L.1,L.2.1,L.2.2.1.1,L.2.2.1.2,L.2.2.2.1,L.2.2.2.2.1,L.2.2.2.2.2.1,L.2.2.2.2.2.2.1,L.2.2.2.2.2.2.2.1,L.2.2.2.2.2.2.2.2)):Option ((Int×Int×ByteArray×Int×List Rule×ByteArray×Int×Int×Int×Int×Int×List Int×WL×Int×Int) ⊕ Int)) (fun h=>j6y h.1 h.2.1 h.2.2.1 h.2.2.2.1 h.2.2.2.2.1 h.2.2.2.2.2.1 h.2.2.2.2.2.2.1 h.2.2.2.2.2.2.2.1 h.2.2.2.2.2.2.2.2.1 h.2.2.2.2.2.2.2.2.2.1 h.2.2.2.2.2.2.2.2.2.2.1 h.2.2.2.2.2.2.2.2.2.2.2.1 h.2.2.2.2.2.2.2.2.2.2.2.2.1 h.2.2.2.2.2.2.2.2.2.2.2.2.2.1 h.2.2.2.2.2.2.2.2.2.2.2.2.2.2))=some K∧∀ j:Int,K<j→0≤j→j<((n+1:Nat):Int)→¬ QO z.2.1 l L t j:=by
   intro hq
   refine ⟨by rw [j0a];exact e,fun j h1 h2 h3=> ?_⟩
   by_cases hjn:j<n
   ·exact k2 j h1 h2 hjn
   ·rw [show j=(n:Int) by omega];exact hq
  cases hx:hO z.2.1 l L (n:Int) with
  | none=>
   simp only [Option.isSome_none,j6]
   obtain ⟨d1,d2⟩:=down fun ⟨y,hy,_⟩=>by rw [hx] at hy;simp at hy
   exact ⟨K,d1,k0,by omega,d2⟩
  | some x=>
   have:=hv x hx
   subst this
   simp only [Option.isSome_some,j5]
   by_cases hc:v≤t
   ·rw [j01 hc,j5,j0e]
    exact ⟨_,rfl,.inr ⟨by omega,v,hx,hc⟩,by omega,fun j h1 h2 h3=>by omega⟩
   ·rw [j00 hc,j6]
    obtain ⟨d1,d2⟩:=down fun ⟨y,hy,hyt⟩=>by rw [hx] at hy;simp at hy;omega
    exact ⟨K,d1,k0,by omega,d2⟩
theorem jAV {z:j1w} {l:TrL} (hz:Z4 z l) {L:j0J} (h:Rt L) {t:Int} (h0t:0≤t) (htt:t≤8589934592):∃ K:Int,jgh z L t=some K∧ShO z.2.1 l L t K:=by
 have hs:=h.step
 have hd0:=h.d0;have hd1:=h.d1;have he0:=h.e0;have he1:=h.e1;have hc0:=h.c0;have hc1:=h.c1
 simp only [jgh]
 by_cases h0:L.2.2.2.1=0
 ·have hF:=jiH hz (d:=L.2.2.1.1) (c:=L.2.2.1.2) (by omega) hc0 hc1
  have hs0:L.2.2.1.1*86400+L.2.2.1.2=sLoc L 0:=by unfold sLoc;omega
  rw [j7q h0,j5,show j4E (z.1,(z.2.1,z.2.2)) (L.2.2.1.1,L.2.2.1.2)=_ from hF,hs0]
  simp only [j3]
  have nq:(∀ v,fO z.2.1 l (sLoc L 0)=some v→t<v)→¬ QO z.2.1 l L t 0:=by
   rintro hn ⟨y,hy,hyt⟩
   have:=hn y (jww h0 hy)
   omega
  cases hf:fO z.2.1 l (sLoc L 0) with
  | none=>exact ⟨-1,rfl,.inl ⟨rfl,nq fun v hv=>by rw [hf] at hv;simp at hv⟩⟩
  | some v=>
   have hva:=jro hz.2 hf
   simp only [beq_self_eq_true,j5]
   by_cases hc:v≤t
   ·obtain ⟨s1,s2,s3⟩:=jtH (o:=z.2.1) (l:=l) h h0 htt hf hc hva.2.1
    rw [j01 hc,j5,j03 (x:=t-v) (by omega) (by omega),j03 (x:=3600*L.2.2.2.2.1) (by omega) (by omega),j3S (show ¬ 3600*L.2.2.2.2.1=0 by omega),Int.tdiv_eq_ediv_of_nonneg (by omega),j03 (x:=(t-v)/(3600*L.2.2.2.2.1)) (by omega) (by omega)]
    exact ⟨_,rfl,s1⟩
   ·rw [j00 hc]
    exact ⟨-1,rfl,.inl ⟨rfl,nq fun v' hv=>by rw [hf] at hv;simp at hv;omega⟩⟩
 ·obtain ⟨j,hj,j1,j2⟩:=jlE hz.2 h0t htt
  have o0:=hz.2.of0 j hj;have o1:=hz.2.of1 j hj
  have eT:=jtF hz (t:=t) h0t htt hj j1 j2
  rw [j3S h0,j6,show j3y (z.1,(z.2.1,z.2.2)) t=_ from eT]
  simp only [j3]
  have hday:∀ k:Int,QO z.2.1 l L t k→L.2.2.1.1+k*j4c L≤(t+tof z.2.1 l j)/86400+2:=fun k hq=>QO.day hz.2 h h0 hq hj
  generalize hld:(t+tof z.2.1 l j)/86400=ld at hday
  rw [j03 (x:=ld+2) (by omega) (by omega),j03 (x:=ld+2-L.2.2.1.1) (by omega) (by omega)]
  have fin:∀ st:Int,st=j4c L→∃ K:Int,((j6y t (w64 (Int.tdiv (if (0:Int)>ld+2-L.2.2.1.1 then (0:Int) else ld+2-L.2.2.1.1) st)) z.1 z.2.1 z.2.2 L.1 L.2.1 L.2.2.1.1 L.2.2.1.2 L.2.2.2.1 L.2.2.2.2.1 L.2.2.2.2.2.1 L.2.2.2.2.2.2.1 L.2.2.2.2.2.2.2.1 L.2.2.2.2.2.2.2.2).bind fun q0=>some q0)=some K∧ShO z.2.1 l L t K:=by
   rintro st rfl
   obtain ⟨m,hm,hm0,hm1⟩:∃ m:Int,(if (0:Int)>ld+2-L.2.2.1.1 then (0:Int) else ld+2-L.2.2.1.1)=m∧0≤m∧m≤1000000:=⟨_,rfl,by split<;>omega,by split<;>omega⟩
   have hml:ld+2-L.2.2.1.1≤m:=by rw [←hm];split<;>omega
   rw [hm,Int.tdiv_eq_ediv_of_nonneg hm0]
   have q0:0≤m/j4c L:=Int.ediv_nonneg hm0 (by omega)
   have q1:m/j4c L≤m:=Int.ediv_le_self _ hm0
   have q2:m<j4c L*(m/j4c L)+j4c L:=Int.lt_mul_ediv_self_add (by omega)
   rw [j03 (by omega) (by omega)]
   generalize m/j4c L=km at *
   obtain ⟨K,e,k0,k1,k2⟩:=jym hz h (t:=t) (Int.le_refl _) (km+1).toNat (by omega)
   rw [show (((km+1).toNat:Nat):Int)-1=km by omega] at e
   rw [e]
   refine ⟨K,rfl,?_⟩
   have top:¬ QO z.2.1 l L t (K+1):=by
    by_cases hK:K+1≤km
    ·exact k2 (K+1) (by omega) (by rcases k0 with k0 | k0<;>omega) (by omega)
    ·intro hq
     have hd:=hday _ hq
     have hkk:K=km:=by omega
     rw [hkk,Int.add_mul,Int.one_mul] at hd
     have:j4c L*km=km*j4c L:=Int.mul_comm _ _
     omega
   rcases k0 with k0 | k0
   ·subst k0;exact .inl ⟨rfl,top⟩
   ·exact .inr ⟨k0.1,k0.2,top⟩
  by_cases h2:L.2.2.2.1=2
  ·have hsd:j4c L=7*L.2.2.2.2.1:=by unfold j4c;rw [if_pos h2]
   rw [j7q h2,j5,j03 (x:=L.2.2.2.2.1*7) (by omega) (by omega),j3S (show ¬ L.2.2.2.2.1*7=0 by omega)]
   simp only [Bool.not_false,j5]
   exact fin _ (by rw [hsd,Int.mul_comm])
  ·have hsd:j4c L=L.2.2.2.2.1:=by unfold j4c;rw [if_neg h2]
   rw [j3S h2,j6,j3S (show ¬ L.2.2.2.2.1=0 by omega)]
   simp only [Bool.not_false,j5]
   exact fin _ hsd.symm
instance (L:j0J):Decidable (Rt L):=
 decidable_of_iff (1≤L.2.2.1.1∧L.2.2.1.1≤100000∧0≤L.2.2.1.2∧L.2.2.1.2≤86399∧0≤L.2.2.2.1∧L.2.2.2.1≤2∧1≤L.2.2.2.2.1∧L.2.2.2.2.1≤400∧L.2.2.2.2.2.1≠[])
  ⟨fun ⟨a,b,c,d,e,f,g,h,i⟩=>⟨a,b,c,d,e,f,g,h,i⟩,fun ⟨a,b,c,d,e,f,g,h,i⟩=>⟨a,b,c,d,e,f,g,h,i⟩⟩
section
variable {z:j1w} {l:TrL} (h4:Z4 z l)
include h4
theorem jsP (L:j0J):jge z L=some (if Rt L then 0 else 8):=by
 have hc:j6x (z.1,(z.2.1,z.2.2))=some 0:=by
  simp only [j6x,show j1k (z.1,(z.2.1,z.2.2))=_ from h4.1,j3]
 simp only [jge,hc,j3,bne_self_eq_false,j6]
 have key:(cond (cond (cond (cond (cond (cond (cond (cond (decide (L.2.2.1.1<1)) true (decide (L.2.2.1.1>100000))) true (decide (L.2.2.1.2<0))) true (decide (L.2.2.1.2≥86400))) true (decide (L.2.2.2.1<0))) true (decide (L.2.2.2.1>2))) true (decide (L.2.2.2.2.1<1))) true (decide (L.2.2.2.2.1>400))) true (Int.ofNat L.2.2.2.2.2.1.length==0)) = !decide (Rt L):=by
  have hlen:(Int.ofNat L.2.2.2.2.2.1.length==0)=decide (L.2.2.2.2.2.1=[]):=by
   cases L.2.2.2.2.2.1 with
   | nil=>rfl
   | cons x r=>simp;omega
  rw [hlen]
  rw [Bool.eq_iff_iff]
  simp only [Bool.not_eq_true',decide_eq_false_iff_not]
  constructor
  ·intro hh h
   have a1:=h.d0;have a2:=h.d1;have a3:=h.c0;have a4:=h.c1;have a5:=h.u0;have a6:=h.u1;have a7:=h.e0;have a8:=h.e1
   rw [j00 (show ¬ L.2.2.1.1<1 by omega),j00 (show ¬ L.2.2.1.1>100000 by omega),j00 (show ¬ L.2.2.1.2<0 by omega),j00 (show ¬ L.2.2.1.2≥86400 by omega),j00 (show ¬ L.2.2.2.1<0 by omega),j00 (show ¬ L.2.2.2.1>2 by omega),j00 (show ¬ L.2.2.2.2.1<1 by omega),j00 (show ¬ L.2.2.2.2.1>400 by omega),j00 h.m0] at hh
   simp at hh
  ·intro hn
   by_cases a1:L.2.2.1.1<1
   ·rw [j01 a1];rfl
   rw [j00 a1]
   by_cases a2:L.2.2.1.1>100000
   ·rw [j01 a2];rfl
   rw [j00 a2]
   by_cases a3:L.2.2.1.2<0
   ·rw [j01 a3];rfl
   rw [j00 a3]
   by_cases a4:L.2.2.1.2≥86400
   ·rw [j01 a4];rfl
   rw [j00 a4]
   by_cases a5:L.2.2.2.1<0
   ·rw [j01 a5];rfl
   rw [j00 a5]
   by_cases a6:L.2.2.2.1>2
   ·rw [j01 a6];rfl
   rw [j00 a6]
   by_cases a7:L.2.2.2.2.1<1
   ·rw [j01 a7];rfl
   rw [j00 a7]
   by_cases a8:L.2.2.2.2.1>400
   ·rw [j01 a8];rfl
   rw [j00 a8]
   by_cases a9:L.2.2.2.2.2.1=[]
   ·rw [j01 a9];rfl
   exact absurd ⟨by omega,by omega,by omega,by omega,by omega,by omega,by omega,by omega,a9⟩ hn
 rw [key]
 by_cases h:Rt L
 ·rw [j01 h,if_pos h];rfl
 ·rw [j00 h,if_neg h];rfl
end
end Go.Proofs.Pw
