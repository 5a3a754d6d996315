/- The reference of chapter 8: configurations that are right. -/
import Derived.Test.YthpdddnkpjnllaaGreatDPG
import Derived.KernelRfl
import Derived.Test.YthpdddnkpjnllaaGreatDPF
open Go Go.Lft
namespace Go.Proofs.Pw
theorem jzR {x y:ByteArray} (h:x≠y):(x.toList==y.toList)=false:=by
 rw [ByteArray.toList_eq,ByteArray.toList_eq]
 exact Bool.eq_false_iff.2 fun hh=>h (ByteArray.ext (Array.toList_inj.mp (eq_of_beq hh)))
def okC (b:Int):Prop:=(97≤b∧b≤122)∨(48≤b∧b≤57)∨b=95∨b=45
theorem jAA {s:ByteArray} (hs:s.size≤24):∀ (n i:Nat),i+n=s.size→((j6t s (s.size:Int) (i:Int)).bind fun q0=>sumC q0 (fun a=>some a) (fun _=>some true))=some true→∀ j:Nat,i≤j→j<s.size→okC (j2Q s j)
 | 0,i,hi,_,j,h1,h2=>by omega
 | n+1,i,hi,h,j,h1,h2=>by
  rw [jlX] at h
  simp only [j7i,jcy,jiN,j3] at h
  rw [j01 (by omega),j0q (by omega) (by omega),j02 (x:=(i:Int)+1) (by omega) (by omega)] at h
  simp only [j5] at h
  have key:okC (j2Q s i)∧((j6t s (s.size:Int) ((i:Int)+1)).bind fun q0=>sumC q0 (fun a=>some a) (fun _=>some true))=some true:=by
   by_cases ha:97≤j2Q s i∧j2Q s i≤122
   ·rw [j01 (show j2Q s i≥97 from ha.1),j01 ha.2] at h
    simp only [j5,Bool.not_true,j6,j05] at h
    exact ⟨.inl ha,h⟩
   ·have e:cond (decide (j2Q s i≥97)) (decide (j2Q s i≤122)) false=false:=by
     by_cases hx:j2Q s i≥97
     ·rw [j01 hx,j5];exact j00 (by omega)
     ·rw [j00 hx,j6]
    rw [e] at h
    simp only [Bool.not_false,j5] at h
    by_cases hb:48≤j2Q s i∧j2Q s i≤57
    ·rw [j01 (show j2Q s i≥48 from hb.1),j01 hb.2] at h
     simp only [j5,Bool.not_true,j6,j05] at h
     exact ⟨.inr (.inl hb),h⟩
    ·have e2:cond (decide (j2Q s i≥48)) (decide (j2Q s i≤57)) false=false:=by
      by_cases hx:j2Q s i≥48
      ·rw [j01 hx,j5];exact j00 (by omega)
      ·rw [j00 hx,j6]
     rw [e2] at h
     simp only [Bool.not_false,j5] at h
     by_cases hc:j2Q s i=95
     ·have e3:(j2Q s i != 95)=false:=by rw [hc];rfl
      rw [e3] at h
      simp only [j6,j05] at h
      exact ⟨.inr (.inr (.inl hc)),h⟩
     ·have e3:(j2Q s i != 95)=true:=by simpa using hc
      rw [e3] at h
      simp only [j5] at h
      by_cases hd:j2Q s i=45
      ·have e4:(j2Q s i != 45)=false:=by rw [hd];rfl
       rw [e4] at h
       simp only [j6,j05] at h
       exact ⟨.inr (.inr (.inr hd)),h⟩
      ·have e4:(j2Q s i != 45)=true:=by simpa using hd
       rw [e4] at h
       simp [j07,jjQ] at h
  by_cases hj:j=i
  ·subst hj;exact key.1
  ·exact jAA hs n (i+1) (by omega) key.2 j (by omega) h2
theorem jAB {s:ByteArray} (hs:s.size≤24) (hok:∀ j:Nat,j<s.size→okC (j2Q s j)):∀ (n i:Nat),i+n=s.size→jaz s (i:Int)=some (.inr ())
 | 0,i,hi=>by
  rw [jil]
  simp only [j6R,show Int.ofNat s.size=(s.size:Int) from rfl]
  rw [j00 (by omega),j6,j07]
 | n+1,i,hi=>by
  have ih:=jAB hs hok n (i+1) (by omega)
  have ho:=hok i (by omega)
  rw [jil]
  simp only [j6R,jnf,j3,show Int.ofNat s.size=(s.size:Int) from rfl]
  rw [j01 (by omega),j0q (by omega) (by omega),j02 (x:=(i:Int)+1) (by omega) (by omega)]
  simp only [j5,Bool.true_or]
  have fin:lpK (some (.inl (s,(i:Int)+1)):Option ((ByteArray×Int) ⊕ (Bool ⊕ Unit))) (fun h=>jaz h.1 h.2)=some (.inr ()):=by rw [j05];exact ih
  by_cases ha:97≤j2Q s i∧j2Q s i≤122
  ·rw [j00 (show ¬ j2Q s i<97 by omega),j00 (show ¬ j2Q s i>122 by omega)]
   exact fin
  ·have e:cond (decide (j2Q s i<97)) true (decide (j2Q s i>122))=true:=by
    by_cases hx:j2Q s i<97
    ·rw [j01 hx,j5]
    ·rw [j00 hx,j6];exact j01 (by omega)
   rw [e]
   simp only [j5]
   by_cases hb:48≤j2Q s i∧j2Q s i≤57
   ·rw [j01 (show j2Q s i≥48 from hb.1),j01 hb.2]
    exact fin
   ·have e2:cond (decide (j2Q s i≥48)) (decide (j2Q s i≤57)) false=false:=by
     by_cases hx:j2Q s i≥48
     ·rw [j01 hx,j5];exact j00 (by omega)
     ·rw [j00 hx,j6]
    rw [e2]
    rcases ho with ho | ho | ho | ho
    ·exact absurd ho ha
    ·exact absurd ho hb
    ·rw [ho];exact fin
    ·rw [ho];exact fin
theorem jD7 {s:ByteArray} (h:j7a s=some true):jmy s=some true:=by
 simp only [j7a,show Int.ofNat s.size=(s.size:Int) from rfl] at h
 have hz:¬ (cond (s.toList==ByteArray.empty.toList) true (decide ((s.size:Int)>24)))=true:=by
  intro hx
  rw [hx] at h
  simp at h
 have hz':cond (s.toList==ByteArray.empty.toList) true (decide ((s.size:Int)>24))=false:=Bool.eq_false_iff.2 hz
 rw [hz'] at h
 simp only [Bool.not_false,Bool.not_true,Bool.or_false,j6] at h
 have h0:inR 0 s.size=true:=by
  cases hc:inR 0 s.size with
  | true=>rfl
  | false=>rw [hc] at h;simp at h
 have hlo:0<s.size:=by
  simp only [inR,Bool.and_eq_true,decide_eq_true_eq] at h0
  omega
 have hhi:s.size≤24:=by
  have:decide ((s.size:Int)>24)=false:=by
   revert hz'
   cases (s.toList==ByteArray.empty.toList)<;>simp
  have:=of_decide_eq_false this
  omega
 rw [h0] at h
 simp only [j5,jcy,j3] at h
 have ha:97≤j2Q s 0∧j2Q s 0≤122:=by
  apply Classical.byContradiction
  intro hn
  have e:cond (decide (j2Q s 0≥97)) (decide (j2Q s 0≤122)) false=false:=by
   by_cases hx:j2Q s 0≥97
   ·rw [j01 hx,j5];exact j00 (by omega)
   ·rw [j00 hx,j6]
  rw [e] at h
  simp at h
 rw [j01 (show j2Q s 0≥97 from ha.1),j01 ha.2] at h
 simp only [j5,Bool.not_true,j6] at h
 have hok:=jAA hhi s.size 0 (by omega) h
 simp only [jmy,show Int.ofNat s.size=(s.size:Int) from rfl]
 rw [h0,j00 (show ¬ (s.size:Int)<1 by omega),j00 (show ¬ (s.size:Int)>24 by omega),j00 (show ¬ j2Q s 0<97 by omega),j00 (show ¬ j2Q s 0>122 by omega)]
 simp only [j6,Bool.true_or,j5]
 rw [show jaz s 0=_ from jAB hhi (fun j hj=>hok j (by omega) hj) s.size 0 (by omega)]
 rfl
theorem je3 {n lo hi:Int} (h1:lo≤n) (h2:n≤hi):j8N n lo hi=some true:=by
 simp only [j8N,j01 (show n≥lo from h1),j01 h2,j5]
theorem jD8 {n lo hi:Int} (h:n<lo):j8N n lo hi=some false:=by
 simp only [j8N,j00 (show ¬ n≥lo by omega),j6]
theorem jyq:jcs=some 98980:=by kernel_rfl
theorem jyr {d:Int} (h:j0Q d=some true):d≤98980:=by
 apply Classical.byContradiction
 intro hd
 simp only [j0Q,j4N,jhF,jhE,j3] at h
 rw [j00 (show ¬ d<0 by omega),j01 (show d≥98981 by omega)] at h
 simp at h
theorem jD9 {d:Int} (h:j0Q d=some true):0≤d:=by
 apply Classical.byContradiction
 intro hd
 simp only [j0Q,j4N,jhF,jhE,j3] at h
 rw [j01 (show d<0 by omega)] at h
 simp at h
theorem jys {ks:List ByteArray} (hn:ks.Nodup) {i:Nat} (hi:i<ks.length) {l:List ByteArray} (hl:l=ks.take (i+1)) (hs:ks.length≤1000):∀ (n k:Nat),k+n=i→jcJ l (i:Int) (k:Int)=some (.inr ())
 | 0,k,hk=>by
  rw [jim]
  simp only [j6S]
  rw [j00 (by omega),j6,j07]
 | n+1,k,hk=>by
  have hll:l.length=i+1:=by rw [hl,List.length_take];omega
  have hk':k<ks.length:=by omega
  have g1:l.getD k ByteArray.empty=ks[k]:=by
   rw [hl,List.getD_eq_getElem?_getD,List.getElem?_take_of_lt (by omega),List.getElem?_eq_getElem hk'];rfl
  have g2:l.getD i ByteArray.empty=ks[i]:=by
   rw [hl,List.getD_eq_getElem?_getD,List.getElem?_take_of_lt (by omega),List.getElem?_eq_getElem hi];rfl
  have hne:ks[k]≠ks[i]:=fun e=>by
   have:=(List.getElem_inj (h₀:=hk') (h₁:=hi) hn).1 e
   omega
  rw [jim]
  simp only [j6S]
  rw [j01 (by omega),j0q (show (0:Int)≤(k:Int) by omega) (by omega),j0q (show (0:Int)≤(i:Int) by omega) (by omega)]
  simp only [j5,j7,g1,g2,jzR hne,j6]
  rw [j02 (x:=(k:Int)+1) (by omega) (by omega),j05]
  exact jys hn hi hl hs n (k+1) (by omega)
theorem jDa {ks:List ByteArray} (h:NmL ks) {i:Nat} (hi:i<ks.length) (hs:ks.length≤1000):jca (ks.take (i+1)) (i:Int)=some 0:=by
 have hll:(ks.take (i+1)).length=i+1:=by rw [List.length_take];omega
 have g2:(ks.take (i+1)).getD i ByteArray.empty=ks[i]:=by
  rw [List.getD_eq_getElem?_getD,List.getElem?_take_of_lt (by omega),List.getElem?_eq_getElem hi];rfl
 simp only [jca]
 rw [j0q (by omega) (by omega)]
 simp only [j5,j7,g2,jD7 (h.2 _ (List.getElem_mem hi)),j3,Bool.not_true,j6]
 rw [show jcJ (ks.take (i+1)) (i:Int) 0=_ from jys h.1 hi rfl hs i 0 (by omega)]
 rfl
theorem jsz {α:Type} (f:α→ByteArray) {xs:List α} (h:NmL (xs.map f)) {i:Nat} (hi:i<xs.length) (hs:xs.length≤1000) :
  (xs.take i).map f++[f xs[i]]=(xs.take (i+1)).map f∧jca ((xs.take (i+1)).map f) (i:Int)=some 0:=by
 refine ⟨?_,?_⟩
 ·rw [List.take_add_one,List.getElem?_eq_getElem hi,List.map_append];rfl
 ·have:=jDa h (i:=i) (by simpa using hi) (by simpa using hs)
  rwa [←List.map_take] at this
theorem jv7 {nm:ByteArray} {o:Int} {rs:List Rule} (h:∀ r∈rs,Int.tmod r.2.2.2.2.2.2 60=0) (hl:rs.length≤1000):∀ (n i:Nat),i+n=rs.length→j8M true (i:Int) nm o rs=some true
 | 0,i,hi=>by
  rw [jeS]
  simp only [j53,show Int.ofNat rs.length=(rs.length:Int) from rfl]
  rw [j00 (by omega),j6,j07]
 | n+1,i,hi=>by
  have hi':i<rs.length:=by omega
  have hgd:rs.getD i ((0:Int),((0:Int),((0:Int),((0:Int),((0:Int),((0:Int),(0:Int)))))))=rs[i]:=by simp [List.getD,hi']
  rw [jeS]
  simp only [j53,show Int.ofNat rs.length=(rs.length:Int) from rfl]
  rw [j01 (by omega),j0q (by omega) (by omega)]
  simp only [j5,Bool.true_or,j7,hgd,h _ (List.getElem_mem hi'),beq_self_eq_true]
  rw [j02 (x:=(i:Int)+1) (by omega) (by omega),j05]
  exact jv7 h hl n (i+1) (by omega)
theorem jDS {z:j1r} (h:ZCk z):jcK z=some true:=by
 simp only [jcK,h.o60,beq_self_eq_true]
 rw [show j8M true 0 z.1 z.2.1 z.2.2=_ from jv7 h.r60 h.len z.2.2.length 0 (by omega)]
 rfl
section
variable {zs:List j1r} {ps:List j1p} {cs:List CalT} {ss:List j15}
theorem jAC (hn:NmL (zs.map (·.1))) (hc:∀ z∈zs,ZCk z) (hr:∀ z∈zs,j7I z=some 0) (hl:zs.length≤100):∀ (n i:Nat),i+n=zs.length→jbg (i:Int) zs ps cs ss ((zs.take i).map (·.1))=some (.inr ())
 | 0,i,hi=>by
  rw [jh0]
  simp only [j6f,show Int.ofNat zs.length=(zs.length:Int) from rfl]
  rw [j00 (by omega),j6,j07]
 | n+1,i,hi=>by
  have hi':i<zs.length:=by omega
  have hgd:zs.getD i (ByteArray.empty,((0:Int),([]:List Rule)))=zs[i]:=by simp [List.getD,hi']
  obtain ⟨n1,n2⟩:=jsz (·.1) hn hi' (by omega)
  have hck:=hc _ (List.getElem_mem hi')
  rw [jh0]
  simp only [j6f,show Int.ofNat zs.length=(zs.length:Int) from rfl]
  rw [j01 (by omega),j0q (by omega) (by omega)]
  simp only [j5,j7,hgd]
  rw [j01 (show ((zs.take i).map (·.1)).length+[zs[i].1].length≤j08 by simp [j08];omega),j5,n1,n2]
  simp only [j3,bne_self_eq_false,j6,show j7I (zs[i].1,(zs[i].2.1,zs[i].2.2))=_ from hr _ (List.getElem_mem hi'),Bool.true_or,j5,show jcK (zs[i].1,(zs[i].2.1,zs[i].2.2))=_ from jDS hck,Bool.not_true]
  rw [j02 (x:=(i:Int)+1) (by omega) (by omega),j05]
  exact jAC hn hc hr hl n (i+1) (by omega)
theorem jyt {w:WL} (h:WOk 0 w) (hl:w.length≤14):∀ (n i:Nat),i+n=w.length→jbh w (i:Int)=some (.inr ())
 | 0,i,hi=>by
  rw [jh1]
  simp only [j6g,show Int.ofNat w.length=(w.length:Int) from rfl]
  rw [j00 (by omega),j6,j07]
 | n+1,i,hi=>by
  have hi':i<w.length:=by omega
  have hg:=jlB h i hi'
  have ih:=jyt h hl n (i+1) (by omega)
  rw [jh1]
  simp only [j6g,show Int.ofNat w.length=(w.length:Int) from rfl]
  rw [j01 (by omega),j0q (by omega) (by omega)]
  simp only [j5,j7]
  rw [j00 (show ¬ (w.getD i (0,0)).1<0 by omega),j00 (show ¬ (w.getD i (0,0)).1≥(w.getD i (0,0)).2 by omega),j00 (show ¬ (w.getD i (0,0)).2>604800 by omega),j02 (x:=(i:Int)+1) (by omega) (by omega)]
  simp only [j6]
  by_cases h0:(i:Int)>0
  ·obtain ⟨k,rfl⟩:∃ k,i=k+1:=⟨i-1,by omega⟩
   have hgap:=jtS h k (by omega)
   rw [j01 h0,j5,j02 (x:=((k+1:Nat):Int)-1) (by omega) (by omega),show ((k+1:Nat):Int)-1=(k:Int) by omega,j0q (show (0:Int)≤(k:Int) by omega) (by omega)]
   simp only [j5,j7]
   rw [j00 (show ¬ (w.getD (k+1) (0,0)).1<(w.getD k (0,0)).2 by omega),j6,j05]
   exact ih
  ·rw [j00 h0,j6,j05]
   exact ih
theorem r5ck {w:WL} (h:WOk 0 w) (hl:w.length≤14):jeT w=some 0:=by
 simp only [jeT,show Int.ofNat w.length=(w.length:Int) from rfl]
 rw [j00 (by omega),j6,show jbh w 0=_ from jyt h hl w.length 0 (by omega)]
 rfl
theorem jDb {n:Int} (h:j5k n=some true):jjZ n=some true:=h
theorem jAD (hn:NmL (ps.map (·.1))) (hc:∀ p∈ps,PCk zs.length p) (hl:ps.length≤100) (hzl:zs.length≤100):∀ (n i:Nat),i+n=ps.length→j9E (i:Int) zs ps cs ss ((ps.take i).map (·.1))=some (.inr ())
 | 0,i,hi=>by
  rw [jge]
  simp only [j5w,show Int.ofNat ps.length=(ps.length:Int) from rfl]
  rw [j00 (by omega),j6,j07]
 | n+1,i,hi=>by
  have hi':i<ps.length:=by omega
  have hgd:ps.getD i (ByteArray.empty,((0:Int),(([]:WL),((0:Int),((0:Int),false)))))=ps[i]:=by simp [List.getD,hi']
  obtain ⟨n1,n2⟩:=jsz (·.1) hn hi' (by omega)
  have hck:=hc _ (List.getElem_mem hi')
  have h0:=hck.z0;have h1:=hck.z1
  rw [jge]
  simp only [j5w,show Int.ofNat ps.length=(ps.length:Int) from rfl,show Int.ofNat zs.length=(zs.length:Int) from rfl]
  rw [j01 (by omega),j0q (by omega) (by omega)]
  simp only [j5,j7,hgd]
  rw [j01 (show ((ps.take i).map (·.1)).length+[ps[i].1].length≤j08 by simp [j08];omega),j5,n1,n2,hck.nb,j02 (x:=(zs.length:Int)-1) (by omega) (by omega),je3 h0 (by omega)]
  simp only [j3,bne_self_eq_false,j6,Bool.not_true,r5ck hck.w hck.wl,jDb hck.m,jDb hck.r]
  rw [j02 (x:=(i:Int)+1) (by omega) (by omega),j05]
  exact jAD hn hc hl hzl n (i+1) (by omega)
theorem jyu {ds:List Int} (h:∀ d∈ds,j0Q d=some true) (hl:ds.length≤64) {m z:Int} {nm:ByteArray} {l3:List ByteArray}:∀ (n i:Nat),i+n=ds.length→j6T m (i:Int) zs ps cs ss nm z ds l3=some (.inr (m,zs,ps,cs,ss,nm,z,ds,l3))
 | 0,i,hi=>by
  rw [jcL]
  simp only [j46,show Int.ofNat ds.length=(ds.length:Int) from rfl]
  rw [j00 (by omega),j6,j07]
 | n+1,i,hi=>by
  have hi':i<ds.length:=by omega
  have hgd:ds.getD i (0:Int)=ds[i]:=by simp [hi']
  have hd:=h _ (List.getElem_mem hi')
  rw [jcL]
  simp only [j46,show Int.ofNat ds.length=(ds.length:Int) from rfl]
  rw [j01 (by omega),j0q (by omega) (by omega)]
  simp only [j5,j7,hgd,jyq,j3,je3 (jD9 hd) (jyr hd),Bool.not_true,j6]
  rw [j02 (x:=(i:Int)+1) (by omega) (by omega),j05]
  exact jyu h hl n (i+1) (by omega)
theorem jyv {ds:List Int} (h:ds.Pairwise (· < ·)) (hl:ds.length≤64) {m z:Int} {nm:ByteArray} {l3:List ByteArray}:∀ (n i:Nat),ds.length≤i+n→1≤i→j6U m (i:Int) zs ps cs ss nm z ds l3=some (.inr (m,zs,ps,cs,ss,l3))
 | n,i,hi,h1=>by
  rw [jiQ]
  simp only [j5x,show Int.ofNat ds.length=(ds.length:Int) from rfl]
  by_cases hi':i<ds.length
  ·obtain ⟨n,rfl⟩:∃ m,n=m+1:=⟨n-1,by omega⟩
   obtain ⟨k,rfl⟩:∃ k,i=k+1:=⟨i-1,by omega⟩
   have hgd:ds.getD (k+1) (0:Int)=ds[k+1]:=by simp [hi']
   have hgk:ds.getD k (0:Int)=ds[k]:=by simp [show k<ds.length by omega]
   have hlt:=List.pairwise_iff_getElem.1 h k (k+1) (by omega) hi' (by omega)
   rw [j01 (by omega),j0q (by omega) (by omega),j02 (x:=((k+1:Nat):Int)-1) (by omega) (by omega),show ((k+1:Nat):Int)-1=(k:Int) by omega,j0q (show (0:Int)≤(k:Int) by omega) (by omega)]
   simp only [j5,j7,hgd,hgk]
   rw [j00 (show ¬ ds[k+1]≤ds[k] by omega),j6,j02 (x:=((k+1:Nat):Int)+1) (by omega) (by omega),j05]
   exact jyv h hl n (k+1+1) (by omega) (by omega)
  ·rw [j00 (by omega),j6,j07]
 termination_by n=>n
theorem jAE (hn:NmL (cs.map (·.1))) (hc:∀ x∈cs,CCk zs.length x) (hl:cs.length≤100) (hzl:zs.length≤100):∀ (n i:Nat),i+n=cs.length→j6V (i:Int) zs ps cs ss ((cs.take i).map (·.1))=some (.inr ())
 | 0,i,hi=>by
  rw [jcM]
  simp only [j47,show Int.ofNat cs.length=(cs.length:Int) from rfl]
  rw [j00 (by omega),j6,j07]
 | n+1,i,hi=>by
  have hi':i<cs.length:=by omega
  have hgd:cs.getD i (ByteArray.empty,((0:Int),([]:List Int)))=cs[i]:=by simp [List.getD,hi']
  obtain ⟨n1,n2⟩:=jsz (·.1) hn hi' (by omega)
  have hck:=hc _ (List.getElem_mem hi')
  have h0:=hck.z0;have h1:=hck.z1;have h2:=hck.len
  have l2:=jyu (zs:=zs) (ps:=ps) (cs:=cs) (ss:=ss) hck.day h2 (m:=(i:Int)) (z:=cs[i].2.1) (nm:=cs[i].1) (l3:=(cs.take (i+1)).map (·.1)) cs[i].2.2.length 0 (by omega)
  have l4:=jyv (zs:=zs) (ps:=ps) (cs:=cs) (ss:=ss) hck.asc h2 (m:=(i:Int)) (z:=cs[i].2.1) (nm:=cs[i].1) (l3:=(cs.take (i+1)).map (·.1)) cs[i].2.2.length 1 (by omega) (by omega)
  rw [jcM]
  simp only [j47,show Int.ofNat cs.length=(cs.length:Int) from rfl,show Int.ofNat zs.length=(zs.length:Int) from rfl]
  rw [j01 (by omega),j0q (by omega) (by omega)]
  simp only [j5,j7,hgd]
  rw [j01 (show ((cs.take i).map (·.1)).length+[cs[i].1].length≤j08 by simp [j08];omega),j5,n1,n2,j02 (x:=(zs.length:Int)-1) (by omega) (by omega),je3 h0 (by omega)]
  simp only [j3,bne_self_eq_false,j6,Bool.not_true,show Int.ofNat cs[i].2.2.length=(cs[i].2.2.length:Int) from rfl]
  rw [j00 (by omega),j6,show j6T (i:Int) 0 zs ps cs ss cs[i].1 cs[i].2.1 cs[i].2.2 ((cs.take (i+1)).map (·.1))=_ from l2]
  simp only [j3,j4F]
  rw [show j6U (i:Int) 1 zs ps cs ss cs[i].1 cs[i].2.1 cs[i].2.2 ((cs.take (i+1)).map (·.1))=_ from l4]
  simp only [j3,j4F]
  rw [j02 (x:=(i:Int)+1) (by omega) (by omega),j05]
  exact jAE hn hc hl hzl n (i+1) (by omega)
theorem jAF {L:j0t} (h:∀ m∈L.2.2.2.2.2.1,0≤m∧m<(ps.length:Int)) (hl:L.2.2.2.2.2.1.length≤12) (hp:ps.length≤100):∀ (n i:Nat),i+n=L.2.2.2.2.2.1.length→
  jbi (i:Int) zs ps cs ss L.1 L.2.1 L.2.2.1.1 L.2.2.1.2 L.2.2.2.1 L.2.2.2.2.1 L.2.2.2.2.2.1 L.2.2.2.2.2.2.1 L.2.2.2.2.2.2.2.1 L.2.2.2.2.2.2.2.2=some (.inr (zs,ps,cs,ss,L.1,L.2.1,L.2.2.1.1,L.2.2.1.2,L.2.2.2.1,L.2.2.2.2.1,L.2.2.2.2.2.1,L.2.2.2.2.2.2.1,L.2.2.2.2.2.2.2.1,L.2.2.2.2.2.2.2.2))
 | 0,i,hi=>by
  rw [jh2]
  simp only [j6h,show Int.ofNat L.2.2.2.2.2.1.length=(L.2.2.2.2.2.1.length:Int) from rfl]
  rw [j00 (by omega),j6,j07]
 | n+1,i,hi=>by
  have hi':i<L.2.2.2.2.2.1.length:=by omega
  have hgd:L.2.2.2.2.2.1.getD i (0:Int)=L.2.2.2.2.2.1[i]:=by simp [hi']
  have hd:=h _ (List.getElem_mem hi')
  rw [jh2]
  simp only [j6h,show Int.ofNat L.2.2.2.2.2.1.length=(L.2.2.2.2.2.1.length:Int) from rfl,show Int.ofNat ps.length=(ps.length:Int) from rfl]
  rw [j01 (by omega),j0q (by omega) (by omega),j02 (x:=(ps.length:Int)-1) (by omega) (by omega)]
  simp only [j5,j7,hgd,je3 hd.1 (show L.2.2.2.2.2.1[i]≤(ps.length:Int)-1 by omega),j3,Bool.not_true,j6]
  rw [j02 (x:=(i:Int)+1) (by omega) (by omega),j05]
  exact jAF h hl hp n (i+1) (by omega)
theorem jBN {L:j0t} (h:LCk zs.length ps.length cs.length L) (hz:zs.length≤100) (hp:ps.length≤100) (hc:cs.length≤100):jh3 (zs,(ps,(cs,ss))) L=some 0:=by
 have h0:=h.z0;have h1:=h.z1;have hm0:=h.m0;have hm1:=h.m1;have hc1:=h.c1;have hwl:=h.wl
 have lp:=jAF (zs:=zs) (ps:=ps) (cs:=cs) (ss:=ss) h.mem hm1 hp L.2.2.2.2.2.1.length 0 (by omega)
 simp only [jh3,show Int.ofNat zs.length=(zs.length:Int) from rfl,show Int.ofNat L.2.2.2.2.2.1.length=(L.2.2.2.2.2.1.length:Int) from rfl]
 rw [j02 (x:=(zs.length:Int)-1) (by omega) (by omega),je3 h0 (by omega),jyq]
 simp only [j3,Bool.not_true,j6,je3 h.d0 (jyr h.day),je3 h.c0 hc1,je3 h.u0 h.u1,je3 h.e0 h.e1]
 rw [j2j (show ¬ (L.2.2.2.2.2.1.length:Int)=0 by omega),j00 (show ¬ (L.2.2.2.2.2.1.length:Int)>12 by omega)]
 simp only [j6]
 rw [show jbi 0 zs ps cs ss L.1 L.2.1 L.2.2.1.1 L.2.2.1.2 L.2.2.2.1 L.2.2.2.2.1 L.2.2.2.2.2.1 L.2.2.2.2.2.2.1 L.2.2.2.2.2.2.2.1 L.2.2.2.2.2.2.2.2=_ from lp]
 simp only [j3,j4F,r5ck h.w hwl,bne_self_eq_false,j6,je3 h.mode0 h.mode1,Bool.not_true,show Int.ofNat cs.length=(cs.length:Int) from rfl]
 rw [j02 (x:=(cs.length:Int)-1) (by omega) (by omega)]
 by_cases hm:L.2.2.2.2.2.2.2.2=0
 ·have e:(L.2.2.2.2.2.2.2.2 != 0)=false:=by rw [hm];rfl
  have e2:(L.2.2.2.2.2.2.2.1 != 0)=false:=by rw [h.cal0 hm];rfl
  rw [e,e2,j4L hm]
  rfl
 ·have e:(L.2.2.2.2.2.2.2.2 != 0)=true:=by simpa using hm
  have hcal:=h.cal hm
  rw [e,j2j hm,je3 hcal.1 (by omega)]
  rfl
theorem jDc {x:j3Y} (h:ECk ps.length x) (hp:ps.length≤100):jk0 (zs,(ps,(cs,ss))) x=some 0:=by
 have hf0:=h.f0;have hft:=h.ft;have ht1:=h.t1;have hd:=jyr h.day
 have htd:Int.tdiv x.2.2.2.2 86400=x.2.2.2.2/86400:=jfX (by omega)
 have hin:∃ b,j8N x.2.1 0 ((ps.length:Int)-1)=some b∧cond (!b) (cond (x.1 != 1) true (x.2.1 != -1)) false=false:=by
  rcases h.a with ⟨a1,a2⟩ | ⟨a1,a2⟩
  ·exact ⟨true,je3 a1 (by omega),rfl⟩
  ·exact ⟨false,jD8 (by omega),by rw [a1,a2];rfl⟩
 obtain ⟨b,eb,hb⟩:=hin
 simp only [jk0,show Int.ofNat ps.length=(ps.length:Int) from rfl]
 rw [j02 (x:=(ps.length:Int)-1) (by omega) (by omega),je3 h.k0 h.k1,eb]
 simp only [j3,Bool.not_true,j6,hb]
 rw [j00 (show ¬ x.2.2.2.1<0 by omega),j00 (show ¬ x.2.2.2.2<0 by omega),j02 (x:=Int.tdiv x.2.2.2.2 86400) (by rw [htd];omega) (by rw [htd];omega),jyq]
 simp only [j6,j3]
 rw [j00 (show ¬ Int.tdiv x.2.2.2.2 86400>98980 by omega),j00 (show ¬ x.2.2.2.1≥x.2.2.2.2 by omega)]
 simp only [j6]
 by_cases hk:x.1=2
 ·obtain ⟨b1,b2,b3⟩:=h.b hk
  have e2:(x.1 != 2)=false:=by rw [hk];rfl
  rw [j4L hk,j5,je3 b1 (by omega),e2,j2j b3]
  rfl
 ·have e2:(x.1 != 2)=true:=by simpa using hk
  rw [j2j hk,e2,h.b0 hk]
  rfl
theorem jyw {ls:List j0t} (hn:NmL (ls.map (·.1))) (hc:∀ x∈ls,LCk zs.length ps.length cs.length x) (hl:ls.length≤100) (hz:zs.length≤100) (hp:ps.length≤100) (hcl:cs.length≤100) {m:Int} {nm:ByteArray} {es:List j3Y} {l3:List ByteArray}:∀ (n i:Nat),i+n=ls.length→
  j6W m (i:Int) zs ps cs ss nm ls es l3 ((ls.take i).map (·.1))=some (.inr (m,zs,ps,cs,ss,nm,ls,es,l3))
 | 0,i,hi=>by
  rw [jcN]
  simp only [j48,show Int.ofNat ls.length=(ls.length:Int) from rfl]
  rw [j00 (by omega),j6,j07]
 | n+1,i,hi=>by
  have hi':i<ls.length:=by omega
  have hgd:ls.getD i (ByteArray.empty,((0:Int),(((0:Int),(0:Int)),((0:Int),((0:Int),(([]:List Int),(([]:WL),((0:Int),(0:Int)))))))))=ls[i]:=by simp [List.getD,hi']
  obtain ⟨n1,n2⟩:=jsz (·.1) hn hi' (by omega)
  have hck:=hc _ (List.getElem_mem hi')
  rw [jcN]
  simp only [j48,show Int.ofNat ls.length=(ls.length:Int) from rfl]
  rw [j01 (by omega),j0q (by omega) (by omega)]
  simp only [j5,j7,hgd]
  rw [j01 (show ((ls.take i).map (·.1)).length+[ls[i].1].length≤j08 by simp [j08];omega),j5,n1,n2]
  simp only [j3,bne_self_eq_false,j6]
  rw [show jh3 (zs,ps,cs,ss) (ls[i].1,ls[i].2.1,(ls[i].2.2.1.1,ls[i].2.2.1.2),ls[i].2.2.2.1,ls[i].2.2.2.2.1,ls[i].2.2.2.2.2.1,ls[i].2.2.2.2.2.2.1,ls[i].2.2.2.2.2.2.2.1,ls[i].2.2.2.2.2.2.2.2)=_ from jBN hck hz hp hcl]
  simp only [j3,bne_self_eq_false,j6]
  rw [j02 (x:=(i:Int)+1) (by omega) (by omega),j05]
  exact jyw hn hc hl hz hp hcl n (i+1) (by omega)
theorem jyx {es:List j3Y} (hc:∀ x∈es,ECk ps.length x) (hl:es.length≤48) (hp:ps.length≤100) {m:Int} {nm:ByteArray} {ls:List j0t} {l3:List ByteArray}:∀ (n i:Nat),i+n=es.length→
  j6X m (i:Int) zs ps cs ss nm ls es l3=some (.inr (m,zs,ps,cs,ss,l3))
 | 0,i,hi=>by
  rw [jcO]
  simp only [j49,show Int.ofNat es.length=(es.length:Int) from rfl]
  rw [j00 (by omega),j6,j07]
 | n+1,i,hi=>by
  have hi':i<es.length:=by omega
  have hgd:es.getD i ((0:Int),((0:Int),((0:Int),((0:Int),(0:Int)))))=es[i]:=by simp [List.getD,hi']
  have hck:=hc _ (List.getElem_mem hi')
  rw [jcO]
  simp only [j49,show Int.ofNat es.length=(es.length:Int) from rfl]
  rw [j01 (by omega),j0q (by omega) (by omega)]
  simp only [j5,j7,hgd]
  rw [show jk0 (zs,ps,cs,ss) (es[i].1,es[i].2.1,es[i].2.2.1,es[i].2.2.2.1,es[i].2.2.2.2)=_ from jDc hck hp]
  simp only [j3,bne_self_eq_false,j6]
  rw [j02 (x:=(i:Int)+1) (by omega) (by omega),j05]
  exact jyx hc hl hp n (i+1) (by omega)
theorem jAG (hn:NmL (ss.map (·.1))) (hc:∀ x∈ss,SCk zs.length ps.length cs.length x) (hl:ss.length≤100) (hz:zs.length≤100) (hp:ps.length≤100) (hcl:cs.length≤100):∀ (n i:Nat),i+n=ss.length→
  j6Y (i:Int) zs ps cs ss ((ss.take i).map (·.1))=some (.inr ())
 | 0,i,hi=>by
  rw [jcP]
  simp only [j4a,show Int.ofNat ss.length=(ss.length:Int) from rfl]
  rw [j00 (by omega),j6,j07]
 | n+1,i,hi=>by
  have hi':i<ss.length:=by omega
  have hgd:ss.getD i (ByteArray.empty,(([]:List j0t),([]:List j3Y)))=ss[i]:=by simp [List.getD,hi']
  obtain ⟨n1,n2⟩:=jsz (·.1) hn hi' (by omega)
  have hck:=hc _ (List.getElem_mem hi')
  have h1:=hck.ll;have h2:=hck.el
  have l2:=jyw (ss:=ss) hck.nm hck.ly (by omega) hz hp hcl (m:=(i:Int)) (nm:=ss[i].1) (es:=ss[i].2.2) (l3:=(ss.take (i+1)).map (·.1)) ss[i].2.1.length 0 (by omega)
  have l4:=jyx (zs:=zs) (cs:=cs) (ss:=ss) hck.ed h2 hp (m:=(i:Int)) (nm:=ss[i].1) (ls:=ss[i].2.1) (l3:=(ss.take (i+1)).map (·.1)) ss[i].2.2.length 0 (by omega)
  rw [jcP]
  simp only [j4a,show Int.ofNat ss.length=(ss.length:Int) from rfl]
  rw [j01 (by omega),j0q (by omega) (by omega)]
  simp only [j5,j7,hgd]
  rw [j01 (show ((ss.take i).map (·.1)).length+[ss[i].1].length≤j08 by simp [j08];omega),j5,n1,n2]
  simp only [j3,bne_self_eq_false,j6,show Int.ofNat ss[i].2.1.length=(ss[i].2.1.length:Int) from rfl,show Int.ofNat ss[i].2.2.length=(ss[i].2.2.length:Int) from rfl]
  rw [j00 (show ¬ (ss[i].2.1.length:Int)>6 by omega),j00 (show ¬ (ss[i].2.2.length:Int)>48 by omega)]
  simp only [j6]
  rw [show j6W (i:Int) 0 zs ps cs ss ss[i].1 ss[i].2.1 ss[i].2.2 ((ss.take (i+1)).map (·.1)) []=_ from l2]
  simp only [j3,j4F]
  rw [show j6X (i:Int) 0 zs ps cs ss ss[i].1 ss[i].2.1 ss[i].2.2 ((ss.take (i+1)).map (·.1))=_ from l4]
  simp only [j3,j4F]
  rw [j02 (x:=(i:Int)+1) (by omega) (by omega),j05]
  exact jAG hn hc hl hz hp hcl n (i+1) (by omega)
theorem jDT (h:jnZ (zs,(ps,(cs,ss)))) (hr:∀ z∈zs,j7I z=some 0):jk1 (zs,(ps,(cs,ss)))=some 0:=by
 have hzl:zs.length≤16:=h.zl
 have hpl:ps.length≤32:=h.pl
 have hcl:cs.length≤8:=h.cl
 have hsl:ss.length≤12:=h.sl
 have lz:=jAC (zs:=zs) (ps:=ps) (cs:=cs) (ss:=ss) h.zn h.zc hr (by omega) zs.length 0 (by omega)
 have lp:=jAD (zs:=zs) (ps:=ps) (cs:=cs) (ss:=ss) h.pn h.pc (by omega) (by omega) ps.length 0 (by omega)
 have lc:=jAE (zs:=zs) (ps:=ps) (cs:=cs) (ss:=ss) h.cn h.cc (by omega) (by omega) cs.length 0 (by omega)
 have ls:=jAG (zs:=zs) (ps:=ps) (cs:=cs) (ss:=ss) h.sn h.sc (by omega) (by omega) (by omega) (by omega) ss.length 0 (by omega)
 simp only [jk1,show Int.ofNat zs.length=(zs.length:Int) from rfl,show Int.ofNat ps.length=(ps.length:Int) from rfl,show Int.ofNat cs.length=(cs.length:Int) from rfl,show Int.ofNat ss.length=(ss.length:Int) from rfl]
 rw [j00 (show ¬ (zs.length:Int)>16 by omega),j00 (show ¬ (ps.length:Int)>32 by omega),j00 (show ¬ (cs.length:Int)>8 by omega),j00 (show ¬ (ss.length:Int)>12 by omega)]
 simp only [j6,jng,show jbg 0 zs ps cs ss []=_ from lz,j3,j4F,bne_self_eq_false,jl9,show j9E 0 zs ps cs ss []=_ from lp,jfr,show j6V 0 zs ps cs ss []=_ from lc,jfs,show j6Y 0 zs ps cs ss []=_ from ls]
end
theorem r4ck {z:j1r} (h:ZOk z):j7I z=some 0:=by
 have h4:=h.zref.2.1
 simp only [j7I]
 rw [show j1P (z.1,(z.2.1,z.2.2))=_ from h4.1]
 rfl
theorem jAH {z:j1r} {l:TrL} (hz:Z4 z l) {L:j0t} (h:Rt L) {t N:Int} (hN:N≤8589934592):∀ n:Nat,(n:Int)≤N→
  ∃ K:Int,j7J t ((n:Int)-1) z.1 z.2.1 z.2.2 L.1 L.2.1 L.2.2.1.1 L.2.2.1.2 L.2.2.2.1 L.2.2.2.2.1 L.2.2.2.2.2.1 L.2.2.2.2.2.2.1 L.2.2.2.2.2.2.2.1 L.2.2.2.2.2.2.2.2=some K∧
   (K = -1∨0≤K∧QO z.2.1 l L t K)∧K<n∧∀ j:Int,K<j→0≤j→j<n→¬ QO z.2.1 l L t j
 | 0,_=>by
  rw [jh6]
  simp only [j6i]
  rw [j00 (by omega),j6,j07]
  exact ⟨_,rfl,.inl (by omega),by omega,fun j h1 h2 h3=>by omega⟩
 | n+1,hn=>by
  obtain ⟨K,e,k0,k1,k2⟩:=jAH hz h (t:=t) hN n (by omega)
  obtain ⟨v,hH,hv⟩:=r10H hz h (k:=(n:Int)) (by omega) (by omega)
  rw [jh6,show ((n+1:Nat):Int)-1=(n:Int) by omega]
  simp only [j6i]
  rw [j01 (by omega),j5,show jbk (z.1,(z.2.1,z.2.2)) (L.1,L.2.1,(L.2.2.1.1,L.2.2.1.2),L.2.2.2.1,L.2.2.2.2.1,L.2.2.2.2.2.1,L.2.2.2.2.2.2.1,L.2.2.2.2.2.2.2.1,L.2.2.2.2.2.2.2.2) (n:Int)=_ from hH]
  simp only [j3]
  rw [j02 (x:=(n:Int)-1) (by omega) (by omega)]
  have down:¬ QO z.2.1 l L t (n:Int)→(lpK (some (Sum.inl (t,(n:Int)-1,z.1,z.2.1,z.2.2,L.1,L.2.1,L.2.2.1.1,L.2.2.1.2,L.2.2.2.1,L.2.2.2.2.1,L.2.2.2.2.2.1,L.2.2.2.2.2.2.1,L.2.2.2.2.2.2.2.1,L.2.2.2.2.2.2.2.2)):Option ((Int×Int×ByteArray×Int×List Rule×ByteArray×Int×Int×Int×Int×Int×List Int×WL×Int×Int) ⊕ Int)) (fun h=>j7J h.1 h.2.1 h.2.2.1 h.2.2.2.1 h.2.2.2.2.1 h.2.2.2.2.2.1 h.2.2.2.2.2.2.1 h.2.2.2.2.2.2.2.1 h.2.2.2.2.2.2.2.2.1 h.2.2.2.2.2.2.2.2.2.1 h.2.2.2.2.2.2.2.2.2.2.1 h.2.2.2.2.2.2.2.2.2.2.2.1 h.2.2.2.2.2.2.2.2.2.2.2.2.1 h.2.2.2.2.2.2.2.2.2.2.2.2.2.1 h.2.2.2.2.2.2.2.2.2.2.2.2.2.2))=some K∧∀ j:Int,K<j→0≤j→j<((n+1:Nat):Int)→¬ QO z.2.1 l L t j:=by
   intro hq
   refine ⟨by rw [j05];exact e,fun j h1 h2 h3=> ?_⟩
   by_cases hjn:j<n
   ·exact k2 j h1 h2 hjn
   ·rw [show j=(n:Int) by omega];exact hq
  cases hx:hO z.2.1 l L (n:Int) with
  | none=>
   simp only [Option.isSome_none,j6]
   obtain ⟨d1,d2⟩:=down fun ⟨y,hy,_⟩=>by rw [hx] at hy;simp at hy
   exact ⟨K,d1,k0,by omega,d2⟩
  | some x=>
   have:=hv x hx
   subst this
   simp only [Option.isSome_some,j5]
   by_cases hc:v≤t
   ·rw [j01 hc,j5,j07]
    exact ⟨_,rfl,.inr ⟨by omega,v,hx,hc⟩,by omega,fun j h1 h2 h3=>by omega⟩
   ·rw [j00 hc,j6]
    obtain ⟨d1,d2⟩:=down fun ⟨y,hy,hyt⟩=>by rw [hx] at hy;simp at hy;omega
    exact ⟨K,d1,k0,by omega,d2⟩
theorem jDU {z:j1r} {l:TrL} (hz:Z4 z l) {L:j0t} (h:Rt L) {t:Int} (h0t:0≤t) (htt:t≤8589934592):∃ K:Int,jh7 z L t=some K∧ShO z.2.1 l L t K:=by
 have hs:=h.step
 have hd0:=h.d0;have hd1:=h.d1;have he0:=h.e0;have he1:=h.e1;have hc0:=h.c0;have hc1:=h.c1
 simp only [jh7]
 by_cases h0:L.2.2.2.1=0
 ·have hF:=jjy hz (d:=L.2.2.1.1) (c:=L.2.2.1.2) (by omega) hc0 hc1
  have hs0:L.2.2.1.1*86400+L.2.2.1.2=sLoc L 0:=by unfold sLoc;omega
  rw [j4L h0,j5,show j5z (z.1,(z.2.1,z.2.2)) (L.2.2.1.1,L.2.2.1.2)=_ from hF,hs0]
  simp only [j3]
  have nq:(∀ v,fO z.2.1 l (sLoc L 0)=some v→t<v)→¬ QO z.2.1 l L t 0:=by
   rintro hn ⟨y,hy,hyt⟩
   have:=hn y (jy2 h0 hy)
   omega
  cases hf:fO z.2.1 l (sLoc L 0) with
  | none=>exact ⟨-1,rfl,.inl ⟨rfl,nq fun v hv=>by rw [hf] at hv;simp at hv⟩⟩
  | some v=>
   have hva:=jtX hz.2 hf
   simp only [beq_self_eq_true,j5]
   by_cases hc:v≤t
   ·obtain ⟨s1,s2,s3⟩:=jv1 (o:=z.2.1) (l:=l) h h0 htt hf hc hva.2.1
    rw [j01 hc,j5,j02 (x:=t-v) (by omega) (by omega),j02 (x:=3600*L.2.2.2.2.1) (by omega) (by omega),j2j (show ¬ 3600*L.2.2.2.2.1=0 by omega),Int.tdiv_eq_ediv_of_nonneg (by omega),j02 (x:=(t-v)/(3600*L.2.2.2.2.1)) (by omega) (by omega)]
    exact ⟨_,rfl,s1⟩
   ·rw [j00 hc]
    exact ⟨-1,rfl,.inl ⟨rfl,nq fun v' hv=>by rw [hf] at hv;simp at hv;omega⟩⟩
 ·obtain ⟨j,hj,j1,j2⟩:=jfY hz.2 h0t htt
  have o0:=hz.2.of0 j hj;have o1:=hz.2.of1 j hj
  have eT:=juZ hz (t:=t) h0t htt hj j1 j2
  rw [j2j h0,j6,show j4p (z.1,(z.2.1,z.2.2)) t=_ from eT]
  simp only [j3]
  have hday:∀ k:Int,QO z.2.1 l L t k→L.2.2.1.1+k*j4v L≤(t+tof z.2.1 l j)/86400+2:=fun k hq=>QO.day hz.2 h h0 hq hj
  generalize hld:(t+tof z.2.1 l j)/86400=ld at hday
  rw [j02 (x:=ld+2) (by omega) (by omega),j02 (x:=ld+2-L.2.2.1.1) (by omega) (by omega)]
  have fin:∀ st:Int,st=j4v L→∃ K:Int,((j7J t (w64 (Int.tdiv (if (0:Int)>ld+2-L.2.2.1.1 then (0:Int) else ld+2-L.2.2.1.1) st)) z.1 z.2.1 z.2.2 L.1 L.2.1 L.2.2.1.1 L.2.2.1.2 L.2.2.2.1 L.2.2.2.2.1 L.2.2.2.2.2.1 L.2.2.2.2.2.2.1 L.2.2.2.2.2.2.2.1 L.2.2.2.2.2.2.2.2).bind fun q0=>some q0)=some K∧ShO z.2.1 l L t K:=by
   rintro st rfl
   obtain ⟨m,hm,hm0,hm1⟩:∃ m:Int,(if (0:Int)>ld+2-L.2.2.1.1 then (0:Int) else ld+2-L.2.2.1.1)=m∧0≤m∧m≤1000000:=⟨_,rfl,by split<;>omega,by split<;>omega⟩
   have hml:ld+2-L.2.2.1.1≤m:=by rw [←hm];split<;>omega
   rw [hm,Int.tdiv_eq_ediv_of_nonneg hm0]
   have q0:0≤m/j4v L:=Int.ediv_nonneg hm0 (by omega)
   have q1:m/j4v L≤m:=Int.ediv_le_self _ hm0
   have q2:m<j4v L*(m/j4v L)+j4v L:=Int.lt_mul_ediv_self_add (by omega)
   rw [j02 (by omega) (by omega)]
   generalize m/j4v L=km at *
   obtain ⟨K,e,k0,k1,k2⟩:=jAH hz h (t:=t) (Int.le_refl _) (km+1).toNat (by omega)
   rw [show (((km+1).toNat:Nat):Int)-1=km by omega] at e
   rw [e]
   refine ⟨K,rfl,?_⟩
   have top:¬ QO z.2.1 l L t (K+1):=by
    by_cases hK:K+1≤km
    ·exact k2 (K+1) (by omega) (by rcases k0 with k0 | k0<;>omega) (by omega)
    ·intro hq
     have hd:=hday _ hq
     have hkk:K=km:=by omega
     rw [hkk,Int.add_mul,Int.one_mul] at hd
     have:j4v L*km=km*j4v L:=Int.mul_comm _ _
     omega
   rcases k0 with k0 | k0
   ·subst k0;exact .inl ⟨rfl,top⟩
   ·exact .inr ⟨k0.1,k0.2,top⟩
  by_cases h2:L.2.2.2.1=2
  ·have hsd:j4v L=7*L.2.2.2.2.1:=by unfold j4v;rw [if_pos h2]
   rw [j4L h2,j5,j02 (x:=L.2.2.2.2.1*7) (by omega) (by omega),j2j (show ¬ L.2.2.2.2.1*7=0 by omega)]
   simp only [Bool.not_false,j5]
   exact fin _ (by rw [hsd,Int.mul_comm])
  ·have hsd:j4v L=L.2.2.2.2.1:=by unfold j4v;rw [if_neg h2]
   rw [j2j h2,j6,j2j (show ¬ L.2.2.2.2.1=0 by omega)]
   simp only [Bool.not_false,j5]
   exact fin _ hsd.symm
instance (L:j0t):Decidable (Rt L):=
 decidable_of_iff (1≤L.2.2.1.1∧L.2.2.1.1≤100000∧0≤L.2.2.1.2∧L.2.2.1.2≤86399∧0≤L.2.2.2.1∧L.2.2.2.1≤2∧1≤L.2.2.2.2.1∧L.2.2.2.2.1≤400∧L.2.2.2.2.2.1≠[])
  ⟨fun ⟨a,b,c,d,e,f,g,h,i⟩=>⟨a,b,c,d,e,f,g,h,i⟩,fun ⟨a,b,c,d,e,f,g,h,i⟩=>⟨a,b,c,d,e,f,g,h,i⟩⟩
section
variable {z:j1r} {l:TrL} (h4:Z4 z l)
include h4
theorem ju3 (L:j0t):jh4 z L=some (if Rt L then 0 else 8):=by
 have hc:j7I (z.1,(z.2.1,z.2.2))=some 0:=by
  simp only [j7I,show j1P (z.1,(z.2.1,z.2.2))=_ from h4.1,j3]
 simp only [jh4,hc,j3,bne_self_eq_false,j6]
 have key:(cond (cond (cond (cond (cond (cond (cond (cond (decide (L.2.2.1.1<1)) true (decide (L.2.2.1.1>100000))) true (decide (L.2.2.1.2<0))) true (decide (L.2.2.1.2≥86400))) true (decide (L.2.2.2.1<0))) true (decide (L.2.2.2.1>2))) true (decide (L.2.2.2.2.1<1))) true (decide (L.2.2.2.2.1>400))) true (Int.ofNat L.2.2.2.2.2.1.length==0)) = !decide (Rt L):=by
  have hlen:(Int.ofNat L.2.2.2.2.2.1.length==0)=decide (L.2.2.2.2.2.1=[]):=by
   cases L.2.2.2.2.2.1 with
   | nil=>rfl
   | cons x r=>simp;omega
  rw [hlen]
  rw [Bool.eq_iff_iff]
  simp only [Bool.not_eq_true',decide_eq_false_iff_not]
  constructor
  ·intro hh h
   have a1:=h.d0;have a2:=h.d1;have a3:=h.c0;have a4:=h.c1;have a5:=h.u0;have a6:=h.u1;have a7:=h.e0;have a8:=h.e1
   rw [j00 (show ¬ L.2.2.1.1<1 by omega),j00 (show ¬ L.2.2.1.1>100000 by omega),j00 (show ¬ L.2.2.1.2<0 by omega),j00 (show ¬ L.2.2.1.2≥86400 by omega),j00 (show ¬ L.2.2.2.1<0 by omega),j00 (show ¬ L.2.2.2.1>2 by omega),j00 (show ¬ L.2.2.2.2.1<1 by omega),j00 (show ¬ L.2.2.2.2.1>400 by omega),j00 h.m0] at hh
   simp at hh
  ·intro hn
   by_cases a1:L.2.2.1.1<1
   ·rw [j01 a1];rfl
   rw [j00 a1]
   by_cases a2:L.2.2.1.1>100000
   ·rw [j01 a2];rfl
   rw [j00 a2]
   by_cases a3:L.2.2.1.2<0
   ·rw [j01 a3];rfl
   rw [j00 a3]
   by_cases a4:L.2.2.1.2≥86400
   ·rw [j01 a4];rfl
   rw [j00 a4]
   by_cases a5:L.2.2.2.1<0
   ·rw [j01 a5];rfl
   rw [j00 a5]
   by_cases a6:L.2.2.2.1>2
   ·rw [j01 a6];rfl
   rw [j00 a6]
   by_cases a7:L.2.2.2.2.1<1
   ·rw [j01 a7];rfl
   rw [j00 a7]
   by_cases a8:L.2.2.2.2.1>400
   ·rw [j01 a8];rfl
   rw [j00 a8]
   by_cases a9:L.2.2.2.2.2.1=[]
   ·rw [j01 a9];rfl
   exact absurd ⟨by omega,by omega,by omega,by omega,by omega,by omega,by omega,by omega,a9⟩ hn
 rw [key]
 by_cases h:Rt L
 ·rw [j01 h,if_pos h];rfl
 ·rw [j00 h,if_neg h];rfl
end
end Go.Proofs.Pw
