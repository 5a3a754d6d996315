/- The reference of chapter 8: configurations that are right. -/
import Derived.Test.YtaieocafhcjelaaGreatAPI
import Derived.KernelRfl
open Go Go.Lft
namespace Go.Proofs.Pw
theorem jzu {x y:ByteArray} (h:x≠y):(x.toList==y.toList)=false:=by
 rw [ByteArray.toList_eq,ByteArray.toList_eq]
 exact ql.2 fun hh=>h (ByteArray.ext (Array.toList_inj.mp (eq_of_beq hh)))
def okC (b:Int):Prop:=(97≤b∧b≤122)∨(48≤b∧b≤57)∨b=95∨b=45
theorem jAe {s:ByteArray} (hs:s.size≤24):∀ (n i:Nat),i+n=s.size→((j6g s (s.size:Int) (i:Int)).bind fun q0=>sumC q0 (fun a=>some a) (fun _=>some true))=some true→∀ j:Nat,i≤j→j<s.size→okC (j3p s j)
 | 0,i,hi,_,j,h1,h2=>by omega
 | n+1,i,hi,h,j,h1,h2=>by
  rw [jlw] at h
  simp only [j70,jcg,jio,j3] at h
  rw [j01 (by omega),j0s (by omega) (by omega),j02 (x:=(i:Int)+1) (by omega) (by omega)] at h
  simp only [j5] at h
  have key:okC (j3p s i)∧((j6g s (s.size:Int) ((i:Int)+1)).bind fun q0=>sumC q0 (fun a=>some a) (fun _=>some true))=some true:=by
   by_cases ha:97≤j3p s i∧j3p s i≤122
   ·rw [j01 (show j3p s i≥97 from ha.1),j01 ha.2] at h
    simp only [j5,jj,j6,j05] at h
    exact ⟨.inl ha,h⟩
   ·have e:cond (decide (j3p s i≥97)) (decide (j3p s i≤122)) false=false:=by
     by_cases hx:j3p s i≥97
     ·rw [j01 hx,j5];exact j00 (by omega)
     ·rw [j00 hx,j6]
    rw [e] at h
    simp only [ju,j5] at h
    by_cases hb:48≤j3p s i∧j3p s i≤57
    ·rw [j01 (show j3p s i≥48 from hb.1),j01 hb.2] at h
     simp only [j5,jj,j6,j05] at h
     exact ⟨.inr (.inl hb),h⟩
    ·have e2:cond (decide (j3p s i≥48)) (decide (j3p s i≤57)) false=false:=by
      by_cases hx:j3p s i≥48
      ·rw [j01 hx,j5];exact j00 (by omega)
      ·rw [j00 hx,j6]
     rw [e2] at h
     simp only [ju,j5] at h
     by_cases hc:j3p s i=95
     ·have e3:(j3p s i != 95)=false:=by rw [hc];rfl
      rw [e3] at h
      simp only [j6,j05] at h
      exact ⟨.inr (.inr (.inl hc)),h⟩
     ·have e3:(j3p s i != 95)=true:=by simpa using hc
      rw [e3] at h
      simp only [j5] at h
      by_cases hd:j3p s i=45
      ·have e4:(j3p s i != 45)=false:=by rw [hd];rfl
       rw [e4] at h
       simp only [j6,j05] at h
       exact ⟨.inr (.inr (.inr hd)),h⟩
      ·have e4:(j3p s i != 45)=true:=by simpa using hd
       rw [e4] at h
       simp [j08,jma] at h
  by_cases hj:j=i
  ·subst hj;exact key.1
  ·exact jAe hs n (i+1) (by omega) key.2 j (by omega) h2
theorem jAf {s:ByteArray} (hs:s.size≤24) (hok:∀ j:Nat,j<s.size→okC (j3p s j)):∀ (n i:Nat),i+n=s.size→jah s (i:Int)=some (.inr ())
 | 0,i,hi=>by
  rw [jhX]
  simp only [j6B,show Int.ofNat s.size=(s.size:Int) from rfl]
  rw [j00 (by omega),j6,j08]
 | n+1,i,hi=>by
  have ih:=jAf hs hok n (i+1) (by omega)
  have ho:=hok i (by omega)
  rw [jhX]
  simp only [j6B,jmY,j3,show Int.ofNat s.size=(s.size:Int) from rfl]
  rw [j01 (by omega),j0s (by omega) (by omega),j02 (x:=(i:Int)+1) (by omega) (by omega)]
  simp only [j5,qy]
  have fin:lpK (some (.inl (s,(i:Int)+1)):Option ((ByteArray×Int) ⊕ (Bool ⊕ Unit))) (fun h=>jah h.1 h.2)=some (.inr ()):=by rw [j05];exact ih
  by_cases ha:97≤j3p s i∧j3p s i≤122
  ·rw [j00 (show ¬ j3p s i<97 by omega),j00 (show ¬ j3p s i>122 by omega)]
   exact fin
  ·have e:cond (decide (j3p s i<97)) true (decide (j3p s i>122))=true:=by
    by_cases hx:j3p s i<97
    ·rw [j01 hx,j5]
    ·rw [j00 hx,j6];exact j01 (by omega)
   rw [e]
   simp only [j5]
   by_cases hb:48≤j3p s i∧j3p s i≤57
   ·rw [j01 (show j3p s i≥48 from hb.1),j01 hb.2]
    exact fin
   ·have e2:cond (decide (j3p s i≥48)) (decide (j3p s i≤57)) false=false:=by
     by_cases hx:j3p s i≥48
     ·rw [j01 hx,j5];exact j00 (by omega)
     ·rw [j00 hx,j6]
    rw [e2]
    rcases ho with ho | ho | ho | ho
    ·exact absurd ho ha
    ·exact absurd ho hb
    ·rw [ho];exact fin
    ·rw [ho];exact fin
theorem jCK {s:ByteArray} (h:j51 s=some true):jmd s=some true:=by
 simp only [j51,show Int.ofNat s.size=(s.size:Int) from rfl] at h
 have hz:¬ (cond (s.toList==ByteArray.empty.toList) true (decide ((s.size:Int)>24)))=true:=by
  intro hx
  rw [hx] at h
  simp at h
 have hz':cond (s.toList==ByteArray.empty.toList) true (decide ((s.size:Int)>24))=false:=ql.2 hz
 rw [hz'] at h
 simp only [ju,jj,Bool.or_false,j6] at h
 have h0:inR 0 s.size=true:=by
  cases hc:inR 0 s.size with
  | true=>rfl
  | false=>rw [hc] at h;simp at h
 have hlo:0<s.size:=by
  simp only [inR,ja,jl] at h0
  omega
 have hhi:s.size≤24:=by
  have:decide ((s.size:Int)>24)=false:=by
   revert hz'
   cases (s.toList==ByteArray.empty.toList)<;>simp
  have:=of_decide_eq_false this
  omega
 rw [h0] at h
 simp only [j5,jcg,j3] at h
 have ha:97≤j3p s 0∧j3p s 0≤122:=by
  apply jm
  intro hn
  have e:cond (decide (j3p s 0≥97)) (decide (j3p s 0≤122)) false=false:=by
   by_cases hx:j3p s 0≥97
   ·rw [j01 hx,j5];exact j00 (by omega)
   ·rw [j00 hx,j6]
  rw [e] at h
  simp at h
 rw [j01 (show j3p s 0≥97 from ha.1),j01 ha.2] at h
 simp only [j5,jj,j6] at h
 have hok:=jAe hhi s.size 0 (by omega) h
 simp only [jmd,show Int.ofNat s.size=(s.size:Int) from rfl]
 rw [h0,j00 (show ¬ (s.size:Int)<1 by omega),j00 (show ¬ (s.size:Int)>24 by omega),j00 (show ¬ j3p s 0<97 by omega),j00 (show ¬ j3p s 0>122 by omega)]
 simp only [j6,qy,j5]
 rw [show jah s 0=_ from jAf hhi (fun j hj=>hok j (by omega) hj) s.size 0 (by omega)]
 rfl
theorem jdH {n lo hi:Int} (h1:lo≤n) (h2:n≤hi):j8s n lo hi=some true:=by
 simp only [j8s,j01 (show n≥lo from h1),j01 h2,j5]
theorem jCL {n lo hi:Int} (h:n<lo):j8s n lo hi=some false:=by
 simp only [j8s,j00 (show ¬ n≥lo by omega),j6]
theorem jy2:jcb=some 98980:=by kernel_rfl
theorem jy3 {d:Int} (h:j0W d=some true):d≤98980:=by
 apply jm
 intro hd
 simp only [j0W,j59,jkh,jkg,j3] at h
 rw [j00 (show ¬ d<0 by omega),j01 (show d≥98981 by omega)] at h
 simp at h
theorem jCM {d:Int} (h:j0W d=some true):0≤d:=by
 apply jm
 intro hd
 simp only [j0W,j59,jkh,jkg,j3] at h
 rw [j01 (show d<0 by omega)] at h
 simp at h
theorem jy4 {ks:List ByteArray} (hn:ks.Nodup) {i:Nat} (hi:i<ks.length) {l:List ByteArray} (hl:l=ks.take (i+1)) (hs:ks.length≤1000):∀ (n k:Nat),k+n=i→jcu l (i:Int) (k:Int)=some (.inr ())
 | 0,k,hk=>by
  rw [jhY]
  simp only [j6C]
  rw [j00 (by omega),j6,j08]
 | n+1,k,hk=>by
  have hll:l.length=i+1:=by rw [hl,qd];omega
  have hk':k<ks.length:=by omega
  have g1:l.getD k ByteArray.empty=ks[k]:=by
   rw [hl,List.getD_eq_getElem?_getD,zf (by omega),ji hk'];rfl
  have g2:l.getD i ByteArray.empty=ks[i]:=by
   rw [hl,List.getD_eq_getElem?_getD,zf (by omega),ji hi];rfl
  have hne:ks[k]≠ks[i]:=fun e=>by
   have:=(List.getElem_inj (h₀:=hk') (h₁:=hi) hn).1 e
   omega
  rw [jhY]
  simp only [j6C]
  rw [j01 (by omega),j0s (show (0:Int)≤(k:Int) by omega) (by omega),j0s (show (0:Int)≤(i:Int) by omega) (by omega)]
  simp only [j5,j7,g1,g2,jzu hne,j6]
  rw [j02 (x:=(k:Int)+1) (by omega) (by omega),j05]
  exact jy4 hn hi hl hs n (k+1) (by omega)
theorem jCN {ks:List ByteArray} (h:NmL ks) {i:Nat} (hi:i<ks.length) (hs:ks.length≤1000):jbS (ks.take (i+1)) (i:Int)=some 0:=by
 have hll:(ks.take (i+1)).length=i+1:=by rw [qd];omega
 have g2:(ks.take (i+1)).getD i ByteArray.empty=ks[i]:=by
  rw [List.getD_eq_getElem?_getD,zf (by omega),ji hi];rfl
 simp only [jbS]
 rw [j0s (by omega) (by omega)]
 simp only [j5,j7,g2,jCK (h.2 _ (jg hi)),j3,jj,j6]
 rw [show jcu (ks.take (i+1)) (i:Int) 0=_ from jy4 h.1 hi rfl hs i 0 (by omega)]
 rfl
theorem jsr {α:Type} (f:α→ByteArray) {xs:List α} (h:NmL (xs.map f)) {i:Nat} (hi:i<xs.length) (hs:xs.length≤1000) :
  (xs.take i).map f++[f xs[i]]=(xs.take (i+1)).map f∧jbS ((xs.take (i+1)).map f) (i:Int)=some 0:=by
 refine ⟨?_,?_⟩
 ·rw [ke,ji hi,zg];rfl
 ·have:=jCN h (i:=i) (by simpa using hi) (by simpa using hs)
  rwa [←List.map_take] at this
theorem juW {nm:ByteArray} {o:Int} {rs:List Rule} (h:∀ r∈rs,Int.tmod r.2.2.2.2.2.2 60=0) (hl:rs.length≤1000):∀ (n i:Nat),i+n=rs.length→j8r true (i:Int) nm o rs=some true
 | 0,i,hi=>by
  rw [jew]
  simp only [j4M,show Int.ofNat rs.length=(rs.length:Int) from rfl]
  rw [j00 (by omega),j6,j08]
 | n+1,i,hi=>by
  have hi':i<rs.length:=by omega
  have hgd:rs.getD i ((0:Int),((0:Int),((0:Int),((0:Int),((0:Int),((0:Int),(0:Int)))))))=rs[i]:=by simp [List.getD,hi']
  rw [jew]
  simp only [j4M,show Int.ofNat rs.length=(rs.length:Int) from rfl]
  rw [j01 (by omega),j0s (by omega) (by omega)]
  simp only [j5,qy,j7,hgd,h _ (jg hi'),qe]
  rw [j02 (x:=(i:Int)+1) (by omega) (by omega),j05]
  exact juW h hl n (i+1) (by omega)
theorem jDu {z:j1R} (h:ZCk z):jcv z=some true:=by
 simp only [jcv,h.o60,qe]
 rw [show j8r true 0 z.1 z.2.1 z.2.2=_ from juW h.r60 h.len z.2.2.length 0 (by omega)]
 rfl
section
variable {zs:List j1R} {ps:List j1q} {cs:List CalT} {ss:List j1y}
theorem jAg (hn:NmL (zs.map (·.1))) (hc:∀ z∈zs,ZCk z) (hr:∀ z∈zs,j7t z=some 0) (hl:zs.length≤100):∀ (n i:Nat),i+n=zs.length→jb1 (i:Int) zs ps cs ss ((zs.take i).map (·.1))=some (.inr ())
 | 0,i,hi=>by
  rw [jgD]
  simp only [j61,show Int.ofNat zs.length=(zs.length:Int) from rfl]
  rw [j00 (by omega),j6,j08]
 | n+1,i,hi=>by
  have hi':i<zs.length:=by omega
  have hgd:zs.getD i (ByteArray.empty,((0:Int),([]:List Rule)))=zs[i]:=by simp [List.getD,hi']
  obtain ⟨n1,n2⟩:=jsr (·.1) hn hi' (by omega)
  have hck:=hc _ (jg hi')
  rw [jgD]
  simp only [j61,show Int.ofNat zs.length=(zs.length:Int) from rfl]
  rw [j01 (by omega),j0s (by omega) (by omega)]
  simp only [j5,j7,hgd]
  rw [j01 (show ((zs.take i).map (·.1)).length+[zs[i].1].length≤j07 by simp [j07];omega),j5,n1,n2]
  simp only [j3,jd,j6,show j7t (zs[i].1,(zs[i].2.1,zs[i].2.2))=_ from hr _ (jg hi'),qy,j5,show jcv (zs[i].1,(zs[i].2.1,zs[i].2.2))=_ from jDu hck,jj]
  rw [j02 (x:=(i:Int)+1) (by omega) (by omega),j05]
  exact jAg hn hc hr hl n (i+1) (by omega)
theorem jy5 {w:WL} (h:WOk 0 w) (hl:w.length≤14):∀ (n i:Nat),i+n=w.length→jb2 w (i:Int)=some (.inr ())
 | 0,i,hi=>by
  rw [jgE]
  simp only [j62,show Int.ofNat w.length=(w.length:Int) from rfl]
  rw [j00 (by omega),j6,j08]
 | n+1,i,hi=>by
  have hi':i<w.length:=by omega
  have hg:=jl5 h i hi'
  have ih:=jy5 h hl n (i+1) (by omega)
  rw [jgE]
  simp only [j62,show Int.ofNat w.length=(w.length:Int) from rfl]
  rw [j01 (by omega),j0s (by omega) (by omega)]
  simp only [j5,j7]
  rw [j00 (show ¬ (w.getD i (0,0)).1<0 by omega),j00 (show ¬ (w.getD i (0,0)).1≥(w.getD i (0,0)).2 by omega),j00 (show ¬ (w.getD i (0,0)).2>604800 by omega),j02 (x:=(i:Int)+1) (by omega) (by omega)]
  simp only [j6]
  by_cases h0:(i:Int)>0
  ·obtain ⟨k,rfl⟩:∃ k,i=k+1:=⟨i-1,by omega⟩
   have hgap:=jtN h k (by omega)
   rw [j01 h0,j5,j02 (x:=((k+1:Nat):Int)-1) (by omega) (by omega),show ((k+1:Nat):Int)-1=(k:Int) by omega,j0s (show (0:Int)≤(k:Int) by omega) (by omega)]
   simp only [j5,j7]
   rw [j00 (show ¬ (w.getD (k+1) (0,0)).1<(w.getD k (0,0)).2 by omega),j6,j05]
   exact ih
  ·rw [j00 h0,j6,j05]
   exact ih
theorem r5ck {w:WL} (h:WOk 0 w) (hl:w.length≤14):jex w=some 0:=by
 simp only [jex,show Int.ofNat w.length=(w.length:Int) from rfl]
 rw [j00 (by omega),j6,show jb2 w 0=_ from jy5 h hl w.length 0 (by omega)]
 rfl
theorem jCO {n:Int} (h:j58 n=some true):jjA n=some true:=h
theorem jAh (hn:NmL (ps.map (·.1))) (hc:∀ p∈ps,PCk zs.length p) (hl:ps.length≤100) (hzl:zs.length≤100):∀ (n i:Nat),i+n=ps.length→j9j (i:Int) zs ps cs ss ((ps.take i).map (·.1))=some (.inr ())
 | 0,i,hi=>by
  rw [jfX]
  simp only [j5m,show Int.ofNat ps.length=(ps.length:Int) from rfl]
  rw [j00 (by omega),j6,j08]
 | n+1,i,hi=>by
  have hi':i<ps.length:=by omega
  have hgd:ps.getD i (ByteArray.empty,((0:Int),(([]:WL),((0:Int),((0:Int),false)))))=ps[i]:=by simp [List.getD,hi']
  obtain ⟨n1,n2⟩:=jsr (·.1) hn hi' (by omega)
  have hck:=hc _ (jg hi')
  have h0:=hck.z0;have h1:=hck.z1
  rw [jfX]
  simp only [j5m,show Int.ofNat ps.length=(ps.length:Int) from rfl,show Int.ofNat zs.length=(zs.length:Int) from rfl]
  rw [j01 (by omega),j0s (by omega) (by omega)]
  simp only [j5,j7,hgd]
  rw [j01 (show ((ps.take i).map (·.1)).length+[ps[i].1].length≤j07 by simp [j07];omega),j5,n1,n2,hck.nb,j02 (x:=(zs.length:Int)-1) (by omega) (by omega),jdH h0 (by omega)]
  simp only [j3,jd,j6,jj,r5ck hck.w hck.wl,jCO hck.m,jCO hck.r]
  rw [j02 (x:=(i:Int)+1) (by omega) (by omega),j05]
  exact jAh hn hc hl hzl n (i+1) (by omega)
theorem jy6 {ds:List Int} (h:∀ d∈ds,j0W d=some true) (hl:ds.length≤64) {m z:Int} {nm:ByteArray} {l3:List ByteArray}:∀ (n i:Nat),i+n=ds.length→j6D m (i:Int) zs ps cs ss nm z ds l3=some (.inr (m,zs,ps,cs,ss,nm,z,ds,l3))
 | 0,i,hi=>by
  rw [jcw]
  simp only [j3Q,show Int.ofNat ds.length=(ds.length:Int) from rfl]
  rw [j00 (by omega),j6,j08]
 | n+1,i,hi=>by
  have hi':i<ds.length:=by omega
  have hgd:ds.getD i (0:Int)=ds[i]:=by simp [hi']
  have hd:=h _ (jg hi')
  rw [jcw]
  simp only [j3Q,show Int.ofNat ds.length=(ds.length:Int) from rfl]
  rw [j01 (by omega),j0s (by omega) (by omega)]
  simp only [j5,j7,hgd,jy2,j3,jdH (jCM hd) (jy3 hd),jj,j6]
  rw [j02 (x:=(i:Int)+1) (by omega) (by omega),j05]
  exact jy6 h hl n (i+1) (by omega)
theorem jy7 {ds:List Int} (h:ds.Pairwise (· < ·)) (hl:ds.length≤64) {m z:Int} {nm:ByteArray} {l3:List ByteArray}:∀ (n i:Nat),ds.length≤i+n→1≤i→j6E m (i:Int) zs ps cs ss nm z ds l3=some (.inr (m,zs,ps,cs,ss,l3))
 | n,i,hi,h1=>by
  rw [jir]
  simp only [j5n,show Int.ofNat ds.length=(ds.length:Int) from rfl]
  by_cases hi':i<ds.length
  ·obtain ⟨n,rfl⟩:∃ m,n=m+1:=⟨n-1,by omega⟩
   obtain ⟨k,rfl⟩:∃ k,i=k+1:=⟨i-1,by omega⟩
   have hgd:ds.getD (k+1) (0:Int)=ds[k+1]:=by simp [hi']
   have hgk:ds.getD k (0:Int)=ds[k]:=by simp [show k<ds.length by omega]
   have hlt:=kq.1 h k (k+1) (by omega) hi' (by omega)
   rw [j01 (by omega),j0s (by omega) (by omega),j02 (x:=((k+1:Nat):Int)-1) (by omega) (by omega),show ((k+1:Nat):Int)-1=(k:Int) by omega,j0s (show (0:Int)≤(k:Int) by omega) (by omega)]
   simp only [j5,j7,hgd,hgk]
   rw [j00 (show ¬ ds[k+1]≤ds[k] by omega),j6,j02 (x:=((k+1:Nat):Int)+1) (by omega) (by omega),j05]
   exact jy7 h hl n (k+1+1) (by omega) (by omega)
  ·rw [j00 (by omega),j6,j08]
 termination_by n=>n
theorem jAi (hn:NmL (cs.map (·.1))) (hc:∀ x∈cs,CCk zs.length x) (hl:cs.length≤100) (hzl:zs.length≤100):∀ (n i:Nat),i+n=cs.length→j6F (i:Int) zs ps cs ss ((cs.take i).map (·.1))=some (.inr ())
 | 0,i,hi=>by
  rw [jcx]
  simp only [j3R,show Int.ofNat cs.length=(cs.length:Int) from rfl]
  rw [j00 (by omega),j6,j08]
 | n+1,i,hi=>by
  have hi':i<cs.length:=by omega
  have hgd:cs.getD i (ByteArray.empty,((0:Int),([]:List Int)))=cs[i]:=by simp [List.getD,hi']
  obtain ⟨n1,n2⟩:=jsr (·.1) hn hi' (by omega)
  have hck:=hc _ (jg hi')
  have h0:=hck.z0;have h1:=hck.z1;have h2:=hck.len
  have l2:=jy6 (zs:=zs) (ps:=ps) (cs:=cs) (ss:=ss) hck.day h2 (m:=(i:Int)) (z:=cs[i].2.1) (nm:=cs[i].1) (l3:=(cs.take (i+1)).map (·.1)) cs[i].2.2.length 0 (by omega)
  have l4:=jy7 (zs:=zs) (ps:=ps) (cs:=cs) (ss:=ss) hck.asc h2 (m:=(i:Int)) (z:=cs[i].2.1) (nm:=cs[i].1) (l3:=(cs.take (i+1)).map (·.1)) cs[i].2.2.length 1 (by omega) (by omega)
  rw [jcx]
  simp only [j3R,show Int.ofNat cs.length=(cs.length:Int) from rfl,show Int.ofNat zs.length=(zs.length:Int) from rfl]
  rw [j01 (by omega),j0s (by omega) (by omega)]
  simp only [j5,j7,hgd]
  rw [j01 (show ((cs.take i).map (·.1)).length+[cs[i].1].length≤j07 by simp [j07];omega),j5,n1,n2,j02 (x:=(zs.length:Int)-1) (by omega) (by omega),jdH h0 (by omega)]
  simp only [j3,jd,j6,jj,show Int.ofNat cs[i].2.2.length=(cs[i].2.2.length:Int) from rfl]
  rw [j00 (by omega),j6,show j6D (i:Int) 0 zs ps cs ss cs[i].1 cs[i].2.1 cs[i].2.2 ((cs.take (i+1)).map (·.1))=_ from l2]
  simp only [j3,j4S]
  rw [show j6E (i:Int) 1 zs ps cs ss cs[i].1 cs[i].2.1 cs[i].2.2 ((cs.take (i+1)).map (·.1))=_ from l4]
  simp only [j3,j4S]
  rw [j02 (x:=(i:Int)+1) (by omega) (by omega),j05]
  exact jAi hn hc hl hzl n (i+1) (by omega)
theorem jAj {L:j0w} (h:∀ m∈L.2.2.2.2.2.1,0≤m∧m<(ps.length:Int)) (hl:L.2.2.2.2.2.1.length≤12) (hp:ps.length≤100):∀ (n i:Nat),i+n=L.2.2.2.2.2.1.length→
  jb3 (i:Int) zs ps cs ss L.1 L.2.1 L.2.2.1.1 L.2.2.1.2 L.2.2.2.1 L.2.2.2.2.1 L.2.2.2.2.2.1 L.2.2.2.2.2.2.1 L.2.2.2.2.2.2.2.1 L.2.2.2.2.2.2.2.2=some (.inr (zs,ps,cs,ss,L.1,L.2.1,L.2.2.1.1,L.2.2.1.2,L.2.2.2.1,L.2.2.2.2.1,L.2.2.2.2.2.1,L.2.2.2.2.2.2.1,L.2.2.2.2.2.2.2.1,L.2.2.2.2.2.2.2.2))
 | 0,i,hi=>by
  rw [jgF]
  simp only [j63,show Int.ofNat L.2.2.2.2.2.1.length=(L.2.2.2.2.2.1.length:Int) from rfl]
  rw [j00 (by omega),j6,j08]
 | n+1,i,hi=>by
  have hi':i<L.2.2.2.2.2.1.length:=by omega
  have hgd:L.2.2.2.2.2.1.getD i (0:Int)=L.2.2.2.2.2.1[i]:=by simp [hi']
  have hd:=h _ (jg hi')
  rw [jgF]
  simp only [j63,show Int.ofNat L.2.2.2.2.2.1.length=(L.2.2.2.2.2.1.length:Int) from rfl,show Int.ofNat ps.length=(ps.length:Int) from rfl]
  rw [j01 (by omega),j0s (by omega) (by omega),j02 (x:=(ps.length:Int)-1) (by omega) (by omega)]
  simp only [j5,j7,hgd,jdH hd.1 (show L.2.2.2.2.2.1[i]≤(ps.length:Int)-1 by omega),j3,jj,j6]
  rw [j02 (x:=(i:Int)+1) (by omega) (by omega),j05]
  exact jAj h hl hp n (i+1) (by omega)
theorem jBn {L:j0w} (h:LCk zs.length ps.length cs.length L) (hz:zs.length≤100) (hp:ps.length≤100) (hc:cs.length≤100):jgG (zs,(ps,(cs,ss))) L=some 0:=by
 have h0:=h.z0;have h1:=h.z1;have hm0:=h.m0;have hm1:=h.m1;have hc1:=h.c1;have hwl:=h.wl
 have lp:=jAj (zs:=zs) (ps:=ps) (cs:=cs) (ss:=ss) h.mem hm1 hp L.2.2.2.2.2.1.length 0 (by omega)
 simp only [jgG,show Int.ofNat zs.length=(zs.length:Int) from rfl,show Int.ofNat L.2.2.2.2.2.1.length=(L.2.2.2.2.2.1.length:Int) from rfl]
 rw [j02 (x:=(zs.length:Int)-1) (by omega) (by omega),jdH h0 (by omega),jy2]
 simp only [j3,jj,j6,jdH h.d0 (jy3 h.day),jdH h.c0 hc1,jdH h.u0 h.u1,jdH h.e0 h.e1]
 rw [j2c (show ¬ (L.2.2.2.2.2.1.length:Int)=0 by omega),j00 (show ¬ (L.2.2.2.2.2.1.length:Int)>12 by omega)]
 simp only [j6]
 rw [show jb3 0 zs ps cs ss L.1 L.2.1 L.2.2.1.1 L.2.2.1.2 L.2.2.2.1 L.2.2.2.2.1 L.2.2.2.2.2.1 L.2.2.2.2.2.2.1 L.2.2.2.2.2.2.2.1 L.2.2.2.2.2.2.2.2=_ from lp]
 simp only [j3,j4S,r5ck h.w hwl,jd,j6,jdH h.mode0 h.mode1,jj,show Int.ofNat cs.length=(cs.length:Int) from rfl]
 rw [j02 (x:=(cs.length:Int)-1) (by omega) (by omega)]
 by_cases hm:L.2.2.2.2.2.2.2.2=0
 ·have e:(L.2.2.2.2.2.2.2.2 != 0)=false:=by rw [hm];rfl
  have e2:(L.2.2.2.2.2.2.2.1 != 0)=false:=by rw [h.cal0 hm];rfl
  rw [e,e2,j4Q hm]
  rfl
 ·have e:(L.2.2.2.2.2.2.2.2 != 0)=true:=by simpa using hm
  have hcal:=h.cal hm
  rw [e,j2c hm,jdH hcal.1 (by omega)]
  rfl
theorem jCP {x:j43} (h:ECk ps.length x) (hp:ps.length≤100):jjB (zs,(ps,(cs,ss))) x=some 0:=by
 have hf0:=h.f0;have hft:=h.ft;have ht1:=h.t1;have hd:=jy3 h.day
 have htd:Int.tdiv x.2.2.2.2 86400=x.2.2.2.2/86400:=jfE (by omega)
 have hin:∃ b,j8s x.2.1 0 ((ps.length:Int)-1)=some b∧cond (!b) (cond (x.1 != 1) true (x.2.1 != -1)) false=false:=by
  rcases h.a with ⟨a1,a2⟩ | ⟨a1,a2⟩
  ·exact ⟨true,jdH a1 (by omega),rfl⟩
  ·exact ⟨false,jCL (by omega),by rw [a1,a2];rfl⟩
 obtain ⟨b,eb,hb⟩:=hin
 simp only [jjB,show Int.ofNat ps.length=(ps.length:Int) from rfl]
 rw [j02 (x:=(ps.length:Int)-1) (by omega) (by omega),jdH h.k0 h.k1,eb]
 simp only [j3,jj,j6,hb]
 rw [j00 (show ¬ x.2.2.2.1<0 by omega),j00 (show ¬ x.2.2.2.2<0 by omega),j02 (x:=Int.tdiv x.2.2.2.2 86400) (by rw [htd];omega) (by rw [htd];omega),jy2]
 simp only [j6,j3]
 rw [j00 (show ¬ Int.tdiv x.2.2.2.2 86400>98980 by omega),j00 (show ¬ x.2.2.2.1≥x.2.2.2.2 by omega)]
 simp only [j6]
 by_cases hk:x.1=2
 ·obtain ⟨b1,b2,b3⟩:=h.b hk
  have e2:(x.1 != 2)=false:=by rw [hk];rfl
  rw [j4Q hk,j5,jdH b1 (by omega),e2,j2c b3]
  rfl
 ·have e2:(x.1 != 2)=true:=by simpa using hk
  rw [j2c hk,e2,h.b0 hk]
  rfl
theorem jy8 {ls:List j0w} (hn:NmL (ls.map (·.1))) (hc:∀ x∈ls,LCk zs.length ps.length cs.length x) (hl:ls.length≤100) (hz:zs.length≤100) (hp:ps.length≤100) (hcl:cs.length≤100) {m:Int} {nm:ByteArray} {es:List j43} {l3:List ByteArray}:∀ (n i:Nat),i+n=ls.length→
  j6G m (i:Int) zs ps cs ss nm ls es l3 ((ls.take i).map (·.1))=some (.inr (m,zs,ps,cs,ss,nm,ls,es,l3))
 | 0,i,hi=>by
  rw [jcy]
  simp only [j3S,show Int.ofNat ls.length=(ls.length:Int) from rfl]
  rw [j00 (by omega),j6,j08]
 | n+1,i,hi=>by
  have hi':i<ls.length:=by omega
  have hgd:ls.getD i (ByteArray.empty,((0:Int),(((0:Int),(0:Int)),((0:Int),((0:Int),(([]:List Int),(([]:WL),((0:Int),(0:Int)))))))))=ls[i]:=by simp [List.getD,hi']
  obtain ⟨n1,n2⟩:=jsr (·.1) hn hi' (by omega)
  have hck:=hc _ (jg hi')
  rw [jcy]
  simp only [j3S,show Int.ofNat ls.length=(ls.length:Int) from rfl]
  rw [j01 (by omega),j0s (by omega) (by omega)]
  simp only [j5,j7,hgd]
  rw [j01 (show ((ls.take i).map (·.1)).length+[ls[i].1].length≤j07 by simp [j07];omega),j5,n1,n2]
  simp only [j3,jd,j6]
  rw [show jgG (zs,ps,cs,ss) (ls[i].1,ls[i].2.1,(ls[i].2.2.1.1,ls[i].2.2.1.2),ls[i].2.2.2.1,ls[i].2.2.2.2.1,ls[i].2.2.2.2.2.1,ls[i].2.2.2.2.2.2.1,ls[i].2.2.2.2.2.2.2.1,ls[i].2.2.2.2.2.2.2.2)=_ from jBn hck hz hp hcl]
  simp only [j3,jd,j6]
  rw [j02 (x:=(i:Int)+1) (by omega) (by omega),j05]
  exact jy8 hn hc hl hz hp hcl n (i+1) (by omega)
theorem jy9 {es:List j43} (hc:∀ x∈es,ECk ps.length x) (hl:es.length≤48) (hp:ps.length≤100) {m:Int} {nm:ByteArray} {ls:List j0w} {l3:List ByteArray}:∀ (n i:Nat),i+n=es.length→
  j6H m (i:Int) zs ps cs ss nm ls es l3=some (.inr (m,zs,ps,cs,ss,l3))
 | 0,i,hi=>by
  rw [jcz]
  simp only [j3T,show Int.ofNat es.length=(es.length:Int) from rfl]
  rw [j00 (by omega),j6,j08]
 | n+1,i,hi=>by
  have hi':i<es.length:=by omega
  have hgd:es.getD i ((0:Int),((0:Int),((0:Int),((0:Int),(0:Int)))))=es[i]:=by simp [List.getD,hi']
  have hck:=hc _ (jg hi')
  rw [jcz]
  simp only [j3T,show Int.ofNat es.length=(es.length:Int) from rfl]
  rw [j01 (by omega),j0s (by omega) (by omega)]
  simp only [j5,j7,hgd]
  rw [show jjB (zs,ps,cs,ss) (es[i].1,es[i].2.1,es[i].2.2.1,es[i].2.2.2.1,es[i].2.2.2.2)=_ from jCP hck hp]
  simp only [j3,jd,j6]
  rw [j02 (x:=(i:Int)+1) (by omega) (by omega),j05]
  exact jy9 hc hl hp n (i+1) (by omega)
theorem jAk (hn:NmL (ss.map (·.1))) (hc:∀ x∈ss,SCk zs.length ps.length cs.length x) (hl:ss.length≤100) (hz:zs.length≤100) (hp:ps.length≤100) (hcl:cs.length≤100):∀ (n i:Nat),i+n=ss.length→
  j6I (i:Int) zs ps cs ss ((ss.take i).map (·.1))=some (.inr ())
 | 0,i,hi=>by
  rw [jcA]
  simp only [j3U,show Int.ofNat ss.length=(ss.length:Int) from rfl]
  rw [j00 (by omega),j6,j08]
 | n+1,i,hi=>by
  have hi':i<ss.length:=by omega
  have hgd:ss.getD i (ByteArray.empty,(([]:List j0w),([]:List j43)))=ss[i]:=by simp [List.getD,hi']
  obtain ⟨n1,n2⟩:=jsr (·.1) hn hi' (by omega)
  have hck:=hc _ (jg hi')
  have h1:=hck.ll;have h2:=hck.el
  have l2:=jy8 (ss:=ss) hck.nm hck.ly (by omega) hz hp hcl (m:=(i:Int)) (nm:=ss[i].1) (es:=ss[i].2.2) (l3:=(ss.take (i+1)).map (·.1)) ss[i].2.1.length 0 (by omega)
  have l4:=jy9 (zs:=zs) (cs:=cs) (ss:=ss) hck.ed h2 hp (m:=(i:Int)) (nm:=ss[i].1) (ls:=ss[i].2.1) (l3:=(ss.take (i+1)).map (·.1)) ss[i].2.2.length 0 (by omega)
  rw [jcA]
  simp only [j3U,show Int.ofNat ss.length=(ss.length:Int) from rfl]
  rw [j01 (by omega),j0s (by omega) (by omega)]
  simp only [j5,j7,hgd]
  rw [j01 (show ((ss.take i).map (·.1)).length+[ss[i].1].length≤j07 by simp [j07];omega),j5,n1,n2]
  simp only [j3,jd,j6,show Int.ofNat ss[i].2.1.length=(ss[i].2.1.length:Int) from rfl,show Int.ofNat ss[i].2.2.length=(ss[i].2.2.length:Int) from rfl]
  rw [j00 (show ¬ (ss[i].2.1.length:Int)>6 by omega),j00 (show ¬ (ss[i].2.2.length:Int)>48 by omega)]
  simp only [j6]
  rw [show j6G (i:Int) 0 zs ps cs ss ss[i].1 ss[i].2.1 ss[i].2.2 ((ss.take (i+1)).map (·.1)) []=_ from l2]
  simp only [j3,j4S]
  rw [show j6H (i:Int) 0 zs ps cs ss ss[i].1 ss[i].2.1 ss[i].2.2 ((ss.take (i+1)).map (·.1))=_ from l4]
  simp only [j3,j4S]
  rw [j02 (x:=(i:Int)+1) (by omega) (by omega),j05]
  exact jAk hn hc hl hz hp hcl n (i+1) (by omega)
theorem jzv (h:jhe (zs,(ps,(cs,ss)))) (hr:∀ z∈zs,j7t z=some 0):j8t (zs,(ps,(cs,ss)))=some 0:=by
 have hzl:zs.length≤16:=h.zl
 have hpl:ps.length≤32:=h.pl
 have hcl:cs.length≤8:=h.cl
 have hsl:ss.length≤12:=h.sl
 have lz:=jAg (zs:=zs) (ps:=ps) (cs:=cs) (ss:=ss) h.zn h.zc hr (by omega) zs.length 0 (by omega)
 have lp:=jAh (zs:=zs) (ps:=ps) (cs:=cs) (ss:=ss) h.pn h.pc (by omega) (by omega) ps.length 0 (by omega)
 have lc:=jAi (zs:=zs) (ps:=ps) (cs:=cs) (ss:=ss) h.cn h.cc (by omega) (by omega) cs.length 0 (by omega)
 have ls:=jAk (zs:=zs) (ps:=ps) (cs:=cs) (ss:=ss) h.sn h.sc (by omega) (by omega) (by omega) (by omega) ss.length 0 (by omega)
 simp only [j8t,show Int.ofNat zs.length=(zs.length:Int) from rfl,show Int.ofNat ps.length=(ps.length:Int) from rfl,show Int.ofNat cs.length=(cs.length:Int) from rfl,show Int.ofNat ss.length=(ss.length:Int) from rfl]
 rw [j00 (show ¬ (zs.length:Int)>16 by omega),j00 (show ¬ (ps.length:Int)>32 by omega),j00 (show ¬ (cs.length:Int)>8 by omega),j00 (show ¬ (ss.length:Int)>12 by omega)]
 simp only [j6,jmZ,show jb1 0 zs ps cs ss []=_ from lz,j3,j4S,jd,jkE,show j9j 0 zs ps cs ss []=_ from lp,jf9,show j6F 0 zs ps cs ss []=_ from lc,jfa,show j6I 0 zs ps cs ss []=_ from ls]
end
theorem r4ck {z:j1R} (h:ZOk z):j7t z=some 0:=by
 have h4:=h.zref.2.1
 simp only [j7t]
 rw [show j1H (z.1,(z.2.1,z.2.2))=_ from h4.1]
 rfl
end Go.Proofs.Pw
