/- The reference of chapter 8: configurations that are right. -/
import Derived.Test.YtpbnnhakjhalaaaGreatECPF
import Derived.KernelRfl
import Derived.Test.YtpbnnhakjhalaaaGreatECPB
import Derived.Test.YtpbnnhakjhalaaaGreatECLD
open Go Go.Lft
namespace Go.Proofs.Pw
theorem jsn {x y:ByteArray} (h:x≠y):(x.toList==y.toList)=false:=by
 rw [ByteArray.toList_eq,ByteArray.toList_eq]
 exact kp.2 fun hh=>h (ByteArray.ext (Array.toList_inj.mp (eq_of_beq hh)))
def okC (b:Int):Prop:=(97≤b∧b≤122)∨(48≤b∧b≤57)∨b=95∨b=45
theorem jsL {s:ByteArray} (hs:s.size≤24):∀ (n i:Nat),i+n=s.size→((j4w s (s.size:Int) (i:Int)).bind fun q0=>sumC q0 (fun a=>some a) (fun _=>some true))=some true→∀ j:Nat,i≤j→j<s.size→okC (j2t s j)
 | 0,i,hi,_,j,h1,h2=>by omega
 | n+1,i,hi,h,j,h1,h2=>by
  rw [jgP] at h
  simp only [j55,j9q,jeo,j2] at h
  rw [j01 (by omega),j1v (by omega) (by omega),j04 (x:=(i:Int)+1) (by omega) (by omega)] at h
  simp only [j4] at h
  have key:okC (j2t s i)∧((j4w s (s.size:Int) ((i:Int)+1)).bind fun q0=>sumC q0 (fun a=>some a) (fun _=>some true))=some true:=by
   by_cases ha:97≤j2t s i∧j2t s i≤122
   ·rw [j01 (show j2t s i≥97 from ha.1),j01 ha.2] at h
    simp only [j4,jd,j5,j0i] at h
    exact ⟨.inl ha,h⟩
   ·have e:cond (decide (j2t s i≥97)) (decide (j2t s i≤122)) false=false:=by
     by_cases hx:j2t s i≥97
     ·rw [j01 hx,j4];exact j00 (by omega)
     ·rw [j00 hx,j5]
    rw [e] at h
    simp only [qa,j4] at h
    by_cases hb:48≤j2t s i∧j2t s i≤57
    ·rw [j01 (show j2t s i≥48 from hb.1),j01 hb.2] at h
     simp only [j4,jd,j5,j0i] at h
     exact ⟨.inr (.inl hb),h⟩
    ·have e2:cond (decide (j2t s i≥48)) (decide (j2t s i≤57)) false=false:=by
      by_cases hx:j2t s i≥48
      ·rw [j01 hx,j4];exact j00 (by omega)
      ·rw [j00 hx,j5]
     rw [e2] at h
     simp only [qa,j4] at h
     by_cases hc:j2t s i=95
     ·have e3:(j2t s i != 95)=false:=by rw [hc];rfl
      rw [e3] at h
      simp only [j5,j0i] at h
      exact ⟨.inr (.inr (.inl hc)),h⟩
     ·have e3:(j2t s i != 95)=true:=by simpa using hc
      rw [e3] at h
      simp only [j4] at h
      by_cases hd:j2t s i=45
      ·have e4:(j2t s i != 45)=false:=by rw [hd];rfl
       rw [e4] at h
       simp only [j5,j0i] at h
       exact ⟨.inr (.inr (.inr hd)),h⟩
      ·have e4:(j2t s i != 45)=true:=by simpa using hd
       rw [e4] at h
       simp [j0n,js9] at h
  by_cases hj:j=i
  ·subst hj;exact key.1
  ·exact jsL hs n (i+1) (by omega) key.2 j (by omega) h2
theorem jsM {s:ByteArray} (hs:s.size≤24) (hok:∀ j:Nat,j<s.size→okC (j2t s j)):∀ (n i:Nat),i+n=s.size→j7M s (i:Int)=some (.inr ())
 | 0,i,hi=>by
  rw [jdZ]
  simp only [j4J,show Int.ofNat s.size=(s.size:Int) from rfl]
  rw [j00 (by omega),j5,j0n]
 | n+1,i,hi=>by
  have ih:=jsM hs hok n (i+1) (by omega)
  have ho:=hok i (by omega)
  rw [jdZ]
  simp only [j4J,jii,j2,show Int.ofNat s.size=(s.size:Int) from rfl]
  rw [j01 (by omega),j1v (by omega) (by omega),j04 (x:=(i:Int)+1) (by omega) (by omega)]
  simp only [j4,Bool.true_or]
  have fin:lpK (some (.inl (s,(i:Int)+1)):Option ((ByteArray×Int) ⊕ (Bool ⊕ Unit))) (fun h=>j7M h.1 h.2)=some (.inr ()):=by rw [j0i];exact ih
  by_cases ha:97≤j2t s i∧j2t s i≤122
  ·rw [j00 (show ¬ j2t s i<97 by omega),j00 (show ¬ j2t s i>122 by omega)]
   exact fin
  ·have e:cond (decide (j2t s i<97)) true (decide (j2t s i>122))=true:=by
    by_cases hx:j2t s i<97
    ·rw [j01 hx,j4]
    ·rw [j00 hx,j5];exact j01 (by omega)
   rw [e]
   simp only [j4]
   by_cases hb:48≤j2t s i∧j2t s i≤57
   ·rw [j01 (show j2t s i≥48 from hb.1),j01 hb.2]
    exact fin
   ·have e2:cond (decide (j2t s i≥48)) (decide (j2t s i≤57)) false=false:=by
     by_cases hx:j2t s i≥48
     ·rw [j01 hx,j4];exact j00 (by omega)
     ·rw [j00 hx,j5]
    rw [e2]
    rcases ho with ho | ho | ho | ho
    ·exact absurd ho ha
    ·exact absurd ho hb
    ·rw [ho];exact fin
    ·rw [ho];exact fin
theorem juB {s:ByteArray} (h:j48 s=some true):jho s=some true:=by
 simp only [j48,show Int.ofNat s.size=(s.size:Int) from rfl] at h
 have hz:¬ (cond (s.toList==ByteArray.empty.toList) true (decide ((s.size:Int)>24)))=true:=by
  intro hx
  rw [hx] at h
  simp at h
 have hz':cond (s.toList==ByteArray.empty.toList) true (decide ((s.size:Int)>24))=false:=kp.2 hz
 rw [hz'] at h
 simp only [qa,jd,Bool.or_false,j5] at h
 have h0:inR 0 s.size=true:=by
  cases hc:inR 0 s.size with
  | true=>rfl
  | false=>rw [hc] at h;simp at h
 have hlo:0<s.size:=by
  simp only [inR,j9,jg] at h0
  omega
 have hhi:s.size≤24:=by
  have:decide ((s.size:Int)>24)=false:=by
   revert hz'
   cases (s.toList==ByteArray.empty.toList)<;>simp
  have:=of_decide_eq_false this
  omega
 rw [h0] at h
 simp only [j4,j9q,j2] at h
 have ha:97≤j2t s 0∧j2t s 0≤122:=by
  apply qi
  intro hn
  have e:cond (decide (j2t s 0≥97)) (decide (j2t s 0≤122)) false=false:=by
   by_cases hx:j2t s 0≥97
   ·rw [j01 hx,j4];exact j00 (by omega)
   ·rw [j00 hx,j5]
  rw [e] at h
  simp at h
 rw [j01 (show j2t s 0≥97 from ha.1),j01 ha.2] at h
 simp only [j4,jd,j5] at h
 have hok:=jsL hhi s.size 0 (by omega) h
 simp only [jho,show Int.ofNat s.size=(s.size:Int) from rfl]
 rw [h0,j00 (show ¬ (s.size:Int)<1 by omega),j00 (show ¬ (s.size:Int)>24 by omega),j00 (show ¬ j2t s 0<97 by omega),j00 (show ¬ j2t s 0>122 by omega)]
 simp only [j5,Bool.true_or,j4]
 rw [show j7M s 0=_ from jsM hhi (fun j hj=>hok j (by omega) hj) s.size 0 (by omega)]
 rfl
theorem jay {n lo hi:Int} (h1:lo≤n) (h2:n≤hi):j6r n lo hi=some true:=by
 simp only [j6r,j01 (show n≥lo from h1),j01 h2,j4]
theorem juC {n lo hi:Int} (h:n<lo):j6r n lo hi=some false:=by
 simp only [j6r,j00 (show ¬ n≥lo by omega),j5]
theorem jri:j9l=some 98980:=by kernel_rfl
theorem jrj {d:Int} (h:j0Y d=some true):d≤98980:=by
 apply qi
 intro hd
 simp only [j0Y,j5o,jmI,jmH,j2] at h
 rw [j00 (show ¬ d<0 by omega),j01 (show d≥98981 by omega)] at h
 simp at h
theorem juD {d:Int} (h:j0Y d=some true):0≤d:=by
 apply qi
 intro hd
 simp only [j0Y,j5o,jmI,jmH,j2] at h
 rw [j01 (show d<0 by omega)] at h
 simp at h
theorem jrk {ks:List ByteArray} (hn:ks.Nodup) {i:Nat} (hi:i<ks.length) {l:List ByteArray} (hl:l=ks.take (i+1)) (hs:ks.length≤1000):∀ (n k:Nat),k+n=i→j9A l (i:Int) (k:Int)=some (.inr ())
 | 0,k,hk=>by
  rw [je0]
  simp only [j4K]
  rw [j00 (by omega),j5,j0n]
 | n+1,k,hk=>by
  have hll:l.length=i+1:=by rw [hl,kg];omega
  have hk':k<ks.length:=by omega
  have g1:l.getD k ByteArray.empty=ks[k]:=by
   rw [hl,jo,List.getElem?_take_of_lt (by omega),jl hk'];rfl
  have g2:l.getD i ByteArray.empty=ks[i]:=by
   rw [hl,jo,List.getElem?_take_of_lt (by omega),jl hi];rfl
  have hne:ks[k]≠ks[i]:=fun e=>by
   have:=(List.getElem_inj (h₀:=hk') (h₁:=hi) hn).1 e
   omega
  rw [je0]
  simp only [j4K]
  rw [j01 (by omega),j1v (show (0:Int)≤(k:Int) by omega) (by omega),j1v (show (0:Int)≤(i:Int) by omega) (by omega)]
  simp only [j4,j6,g1,g2,jsn hne,j5]
  rw [j04 (x:=(k:Int)+1) (by omega) (by omega),j0i]
  exact jrk hn hi hl hs n (k+1) (by omega)
theorem juE {ks:List ByteArray} (h:NmL ks) {i:Nat} (hi:i<ks.length) (hs:ks.length≤1000):j99 (ks.take (i+1)) (i:Int)=some 0:=by
 have hll:(ks.take (i+1)).length=i+1:=by rw [kg];omega
 have g2:(ks.take (i+1)).getD i ByteArray.empty=ks[i]:=by
  rw [jo,List.getElem?_take_of_lt (by omega),jl hi];rfl
 simp only [j99]
 rw [j1v (by omega) (by omega)]
 simp only [j4,j6,g2,juB (h.2 _ (jc hi)),j2,jd,j5]
 rw [show j9A (ks.take (i+1)) (i:Int) 0=_ from jrk h.1 hi rfl hs i 0 (by omega)]
 rfl
theorem jmJ {α:Type} (f:α→ByteArray) {xs:List α} (h:NmL (xs.map f)) {i:Nat} (hi:i<xs.length) (hs:xs.length≤1000) :
  (xs.take i).map f++[f xs[i]]=(xs.take (i+1)).map f∧j99 ((xs.take (i+1)).map f) (i:Int)=some 0:=by
 refine ⟨?_,?_⟩
 ·rw [List.take_add_one,jl hi,qv];rfl
 ·have:=juE h (i:=i) (by simpa using hi) (by simpa using hs)
  rwa [←List.map_take] at this
theorem joE {nm:ByteArray} {o:Int} {rs:List Rule} (h:∀ r∈rs,Int.tmod r.2.2.2.2.2.2 60=0) (hl:rs.length≤1000):∀ (n i:Nat),i+n=rs.length→j6q true (i:Int) nm o rs=some true
 | 0,i,hi=>by
  rw [jbf]
  simp only [j3k,show Int.ofNat rs.length=(rs.length:Int) from rfl]
  rw [j00 (by omega),j5,j0n]
 | n+1,i,hi=>by
  have hi':i<rs.length:=by omega
  have hgd:rs.getD i ((0:Int),((0:Int),((0:Int),((0:Int),((0:Int),((0:Int),(0:Int)))))))=rs[i]:=by simp [List.getD,hi']
  rw [jbf]
  simp only [j3k,show Int.ofNat rs.length=(rs.length:Int) from rfl]
  rw [j01 (by omega),j1v (by omega) (by omega)]
  simp only [j4,Bool.true_or,j6,hgd,h _ (jc hi'),jz]
  rw [j04 (x:=(i:Int)+1) (by omega) (by omega),j0i]
  exact joE h hl n (i+1) (by omega)
theorem jva {z:j2P} (h:ZCk z):j9B z=some true:=by
 simp only [j9B,h.o60,jz]
 rw [show j6q true 0 z.1 z.2.1 z.2.2=_ from joE h.r60 h.len z.2.2.length 0 (by omega)]
 rfl
section
variable {zs:List j2P} {ps:List j1b} {cs:List CalT} {ss:List j2M}
theorem jsN (hn:NmL (zs.map (·.1))) (hc:∀ z∈zs,ZCk z) (hr:∀ z∈zs,j8j z=some 0) (hl:zs.length≤100):∀ (n i:Nat),i+n=zs.length→j8k (i:Int) zs ps cs ss ((zs.take i).map (·.1))=some (.inr ())
 | 0,i,hi=>by
  rw [jd5]
  simp only [j4i,show Int.ofNat zs.length=(zs.length:Int) from rfl]
  rw [j00 (by omega),j5,j0n]
 | n+1,i,hi=>by
  have hi':i<zs.length:=by omega
  have hgd:zs.getD i (ByteArray.empty,((0:Int),([]:List Rule)))=zs[i]:=by simp [List.getD,hi']
  obtain ⟨n1,n2⟩:=jmJ (·.1) hn hi' (by omega)
  have hck:=hc _ (jc hi')
  rw [jd5]
  simp only [j4i,show Int.ofNat zs.length=(zs.length:Int) from rfl]
  rw [j01 (by omega),j1v (by omega) (by omega)]
  simp only [j4,j6,hgd]
  rw [j01 (show ((zs.take i).map (·.1)).length+[zs[i].1].length≤j0a by simp [j0a];omega),j4,n1,n2]
  simp only [j2,ja,j5,show j8j (zs[i].1,(zs[i].2.1,zs[i].2.2))=_ from hr _ (jc hi'),Bool.true_or,j4,show j9B (zs[i].1,(zs[i].2.1,zs[i].2.2))=_ from jva hck,jd]
  rw [j04 (x:=(i:Int)+1) (by omega) (by omega),j0i]
  exact jsN hn hc hr hl n (i+1) (by omega)
theorem jrl {w:WL} (h:WOk 0 w) (hl:w.length≤14):∀ (n i:Nat),i+n=w.length→j8l w (i:Int)=some (.inr ())
 | 0,i,hi=>by
  rw [jd6]
  simp only [j4j,show Int.ofNat w.length=(w.length:Int) from rfl]
  rw [j00 (by omega),j5,j0n]
 | n+1,i,hi=>by
  have hi':i<w.length:=by omega
  have hg:=jnR h i hi'
  have ih:=jrl h hl n (i+1) (by omega)
  rw [jd6]
  simp only [j4j,show Int.ofNat w.length=(w.length:Int) from rfl]
  rw [j01 (by omega),j1v (by omega) (by omega)]
  simp only [j4,j6]
  rw [j00 (show ¬ (w.getD i (0,0)).1<0 by omega),j00 (show ¬ (w.getD i (0,0)).1≥(w.getD i (0,0)).2 by omega),j00 (show ¬ (w.getD i (0,0)).2>604800 by omega),j04 (x:=(i:Int)+1) (by omega) (by omega)]
  simp only [j5]
  by_cases h0:(i:Int)>0
  ·obtain ⟨k,rfl⟩:∃ k,i=k+1:=⟨i-1,by omega⟩
   have hgap:=jnS h k (by omega)
   rw [j01 h0,j4,j04 (x:=((k+1:Nat):Int)-1) (by omega) (by omega),show ((k+1:Nat):Int)-1=(k:Int) by omega,j1v (show (0:Int)≤(k:Int) by omega) (by omega)]
   simp only [j4,j6]
   rw [j00 (show ¬ (w.getD (k+1) (0,0)).1<(w.getD k (0,0)).2 by omega),j5,j0i]
   exact ih
  ·rw [j00 h0,j5,j0i]
   exact ih
theorem r5ck {w:WL} (h:WOk 0 w) (hl:w.length≤14):jd7 w=some 0:=by
 simp only [jd7,show Int.ofNat w.length=(w.length:Int) from rfl]
 rw [j00 (by omega),j5,show j8l w 0=_ from jrl h hl w.length 0 (by omega)]
 rfl
theorem juF {n:Int} (h:j3C n=some true):jfw n=some true:=h
theorem jsO (hn:NmL (ps.map (·.1))) (hc:∀ p∈ps,PCk zs.length p) (hl:ps.length≤100) (hzl:zs.length≤100):∀ (n i:Nat),i+n=ps.length→j78 (i:Int) zs ps cs ss ((ps.take i).map (·.1))=some (.inr ())
 | 0,i,hi=>by
  rw [jcl]
  simp only [j3J,show Int.ofNat ps.length=(ps.length:Int) from rfl]
  rw [j00 (by omega),j5,j0n]
 | n+1,i,hi=>by
  have hi':i<ps.length:=by omega
  have hgd:ps.getD i (ByteArray.empty,((0:Int),(([]:WL),((0:Int),((0:Int),false)))))=ps[i]:=by simp [List.getD,hi']
  obtain ⟨n1,n2⟩:=jmJ (·.1) hn hi' (by omega)
  have hck:=hc _ (jc hi')
  have h0:=hck.z0;have h1:=hck.z1
  rw [jcl]
  simp only [j3J,show Int.ofNat ps.length=(ps.length:Int) from rfl,show Int.ofNat zs.length=(zs.length:Int) from rfl]
  rw [j01 (by omega),j1v (by omega) (by omega)]
  simp only [j4,j6,hgd]
  rw [j01 (show ((ps.take i).map (·.1)).length+[ps[i].1].length≤j0a by simp [j0a];omega),j4,n1,n2,hck.nb,j04 (x:=(zs.length:Int)-1) (by omega) (by omega),jay h0 (by omega)]
  simp only [j2,ja,j5,jd,r5ck hck.w hck.wl,juF hck.m,juF hck.r]
  rw [j04 (x:=(i:Int)+1) (by omega) (by omega),j0i]
  exact jsO hn hc hl hzl n (i+1) (by omega)
theorem jrm {ds:List Int} (h:∀ d∈ds,j0Y d=some true) (hl:ds.length≤64) {m z:Int} {nm:ByteArray} {l3:List ByteArray}:∀ (n i:Nat),i+n=ds.length→j4L m (i:Int) zs ps cs ss nm z ds l3=some (.inr (m,zs,ps,cs,ss,nm,z,ds,l3))
 | 0,i,hi=>by
  rw [j9C]
  simp only [j2F,show Int.ofNat ds.length=(ds.length:Int) from rfl]
  rw [j00 (by omega),j5,j0n]
 | n+1,i,hi=>by
  have hi':i<ds.length:=by omega
  have hgd:ds.getD i (0:Int)=ds[i]:=by simp [hi']
  have hd:=h _ (jc hi')
  rw [j9C]
  simp only [j2F,show Int.ofNat ds.length=(ds.length:Int) from rfl]
  rw [j01 (by omega),j1v (by omega) (by omega)]
  simp only [j4,j6,hgd,jri,j2,jay (juD hd) (jrj hd),jd,j5]
  rw [j04 (x:=(i:Int)+1) (by omega) (by omega),j0i]
  exact jrm h hl n (i+1) (by omega)
theorem jrn {ds:List Int} (h:ds.Pairwise (· < ·)) (hl:ds.length≤64) {m z:Int} {nm:ByteArray} {l3:List ByteArray}:∀ (n i:Nat),ds.length≤i+n→1≤i→j4M m (i:Int) zs ps cs ss nm z ds l3=some (.inr (m,zs,ps,cs,ss,l3))
 | n,i,hi,h1=>by
  rw [jer]
  simp only [j3K,show Int.ofNat ds.length=(ds.length:Int) from rfl]
  by_cases hi':i<ds.length
  ·obtain ⟨n,rfl⟩:∃ m,n=m+1:=⟨n-1,by omega⟩
   obtain ⟨k,rfl⟩:∃ k,i=k+1:=⟨i-1,by omega⟩
   have hgd:ds.getD (k+1) (0:Int)=ds[k+1]:=by simp [hi']
   have hgk:ds.getD k (0:Int)=ds[k]:=by simp [show k<ds.length by omega]
   have hlt:=List.pairwise_iff_getElem.1 h k (k+1) (by omega) hi' (by omega)
   rw [j01 (by omega),j1v (by omega) (by omega),j04 (x:=((k+1:Nat):Int)-1) (by omega) (by omega),show ((k+1:Nat):Int)-1=(k:Int) by omega,j1v (show (0:Int)≤(k:Int) by omega) (by omega)]
   simp only [j4,j6,hgd,hgk]
   rw [j00 (show ¬ ds[k+1]≤ds[k] by omega),j5,j04 (x:=((k+1:Nat):Int)+1) (by omega) (by omega),j0i]
   exact jrn h hl n (k+1+1) (by omega) (by omega)
  ·rw [j00 (by omega),j5,j0n]
 termination_by n=>n
theorem jsP (hn:NmL (cs.map (·.1))) (hc:∀ x∈cs,CCk zs.length x) (hl:cs.length≤100) (hzl:zs.length≤100):∀ (n i:Nat),i+n=cs.length→j4N (i:Int) zs ps cs ss ((cs.take i).map (·.1))=some (.inr ())
 | 0,i,hi=>by
  rw [j9D]
  simp only [j2G,show Int.ofNat cs.length=(cs.length:Int) from rfl]
  rw [j00 (by omega),j5,j0n]
 | n+1,i,hi=>by
  have hi':i<cs.length:=by omega
  have hgd:cs.getD i (ByteArray.empty,((0:Int),([]:List Int)))=cs[i]:=by simp [List.getD,hi']
  obtain ⟨n1,n2⟩:=jmJ (·.1) hn hi' (by omega)
  have hck:=hc _ (jc hi')
  have h0:=hck.z0;have h1:=hck.z1;have h2:=hck.len
  have l2:=jrm (zs:=zs) (ps:=ps) (cs:=cs) (ss:=ss) hck.day h2 (m:=(i:Int)) (z:=cs[i].2.1) (nm:=cs[i].1) (l3:=(cs.take (i+1)).map (·.1)) cs[i].2.2.length 0 (by omega)
  have l4:=jrn (zs:=zs) (ps:=ps) (cs:=cs) (ss:=ss) hck.asc h2 (m:=(i:Int)) (z:=cs[i].2.1) (nm:=cs[i].1) (l3:=(cs.take (i+1)).map (·.1)) cs[i].2.2.length 1 (by omega) (by omega)
  rw [j9D]
  simp only [j2G,show Int.ofNat cs.length=(cs.length:Int) from rfl,show Int.ofNat zs.length=(zs.length:Int) from rfl]
  rw [j01 (by omega),j1v (by omega) (by omega)]
  simp only [j4,j6,hgd]
  rw [j01 (show ((cs.take i).map (·.1)).length+[cs[i].1].length≤j0a by simp [j0a];omega),j4,n1,n2,j04 (x:=(zs.length:Int)-1) (by omega) (by omega),jay h0 (by omega)]
  simp only [j2,ja,j5,jd,show Int.ofNat cs[i].2.2.length=(cs[i].2.2.length:Int) from rfl]
  rw [j00 (by omega),j5,show j4L (i:Int) 0 zs ps cs ss cs[i].1 cs[i].2.1 cs[i].2.2 ((cs.take (i+1)).map (·.1))=_ from l2]
  simp only [j2,j2s]
  rw [show j4M (i:Int) 1 zs ps cs ss cs[i].1 cs[i].2.1 cs[i].2.2 ((cs.take (i+1)).map (·.1))=_ from l4]
  simp only [j2,j2s]
  rw [j04 (x:=(i:Int)+1) (by omega) (by omega),j0i]
  exact jsP hn hc hl hzl n (i+1) (by omega)
theorem jsQ {L:j2l} (h:∀ m∈L.2.2.2.2.2.1,0≤m∧m<(ps.length:Int)) (hl:L.2.2.2.2.2.1.length≤12) (hp:ps.length≤100):∀ (n i:Nat),i+n=L.2.2.2.2.2.1.length→
  j8m (i:Int) zs ps cs ss L.1 L.2.1 L.2.2.1.1 L.2.2.1.2 L.2.2.2.1 L.2.2.2.2.1 L.2.2.2.2.2.1 L.2.2.2.2.2.2.1 L.2.2.2.2.2.2.2.1 L.2.2.2.2.2.2.2.2=some (.inr (zs,ps,cs,ss,L.1,L.2.1,L.2.2.1.1,L.2.2.1.2,L.2.2.2.1,L.2.2.2.2.1,L.2.2.2.2.2.1,L.2.2.2.2.2.2.1,L.2.2.2.2.2.2.2.1,L.2.2.2.2.2.2.2.2))
 | 0,i,hi=>by
  rw [jd8]
  simp only [j4k,show Int.ofNat L.2.2.2.2.2.1.length=(L.2.2.2.2.2.1.length:Int) from rfl]
  rw [j00 (by omega),j5,j0n]
 | n+1,i,hi=>by
  have hi':i<L.2.2.2.2.2.1.length:=by omega
  have hgd:L.2.2.2.2.2.1.getD i (0:Int)=L.2.2.2.2.2.1[i]:=by simp [hi']
  have hd:=h _ (jc hi')
  rw [jd8]
  simp only [j4k,show Int.ofNat L.2.2.2.2.2.1.length=(L.2.2.2.2.2.1.length:Int) from rfl,show Int.ofNat ps.length=(ps.length:Int) from rfl]
  rw [j01 (by omega),j1v (by omega) (by omega),j04 (x:=(ps.length:Int)-1) (by omega) (by omega)]
  simp only [j4,j6,hgd,jay hd.1 (show L.2.2.2.2.2.1[i]≤(ps.length:Int)-1 by omega),j2,jd,j5]
  rw [j04 (x:=(i:Int)+1) (by omega) (by omega),j0i]
  exact jsQ h hl hp n (i+1) (by omega)
theorem jtM {L:j2l} (h:LCk zs.length ps.length cs.length L) (hz:zs.length≤100) (hp:ps.length≤100) (hc:cs.length≤100):jd9 (zs,(ps,(cs,ss))) L=some 0:=by
 have h0:=h.z0;have h1:=h.z1;have hm0:=h.m0;have hm1:=h.m1;have hc1:=h.c1;have hwl:=h.wl
 have lp:=jsQ (zs:=zs) (ps:=ps) (cs:=cs) (ss:=ss) h.mem hm1 hp L.2.2.2.2.2.1.length 0 (by omega)
 simp only [jd9,show Int.ofNat zs.length=(zs.length:Int) from rfl,show Int.ofNat L.2.2.2.2.2.1.length=(L.2.2.2.2.2.1.length:Int) from rfl]
 rw [j04 (x:=(zs.length:Int)-1) (by omega) (by omega),jay h0 (by omega),jri]
 simp only [j2,jd,j5,jay h.d0 (jrj h.day),jay h.c0 hc1,jay h.u0 h.u1,jay h.e0 h.e1]
 rw [j9f (show ¬ (L.2.2.2.2.2.1.length:Int)=0 by omega),j00 (show ¬ (L.2.2.2.2.2.1.length:Int)>12 by omega)]
 simp only [j5]
 rw [show j8m 0 zs ps cs ss L.1 L.2.1 L.2.2.1.1 L.2.2.1.2 L.2.2.2.1 L.2.2.2.2.1 L.2.2.2.2.2.1 L.2.2.2.2.2.2.1 L.2.2.2.2.2.2.2.1 L.2.2.2.2.2.2.2.2=_ from lp]
 simp only [j2,j2s,r5ck h.w hwl,ja,j5,jay h.mode0 h.mode1,jd,show Int.ofNat cs.length=(cs.length:Int) from rfl]
 rw [j04 (x:=(cs.length:Int)-1) (by omega) (by omega)]
 by_cases hm:L.2.2.2.2.2.2.2.2=0
 ·have e:(L.2.2.2.2.2.2.2.2 != 0)=false:=by rw [hm];rfl
  have e2:(L.2.2.2.2.2.2.2.1 != 0)=false:=by rw [h.cal0 hm];rfl
  rw [e,e2,jeS hm]
  rfl
 ·have e:(L.2.2.2.2.2.2.2.2 != 0)=true:=by simpa using hm
  have hcal:=h.cal hm
  rw [e,j9f hm,jay hcal.1 (by omega)]
  rfl
theorem juG {x:jaT} (h:ECk ps.length x) (hp:ps.length≤100):jfx (zs,(ps,(cs,ss))) x=some 0:=by
 have hf0:=h.f0;have hft:=h.ft;have ht1:=h.t1;have hd:=jrj h.day
 have htd:Int.tdiv x.2.2.2.2 86400=x.2.2.2.2/86400:=jdp (by omega)
 have hin:∃ b,j6r x.2.1 0 ((ps.length:Int)-1)=some b∧cond (!b) (cond (x.1 != 1) true (x.2.1 != -1)) false=false:=by
  rcases h.a with ⟨a1,a2⟩ | ⟨a1,a2⟩
  ·exact ⟨true,jay a1 (by omega),rfl⟩
  ·exact ⟨false,juC (by omega),by rw [a1,a2];rfl⟩
 obtain ⟨b,eb,hb⟩:=hin
 simp only [jfx,show Int.ofNat ps.length=(ps.length:Int) from rfl]
 rw [j04 (x:=(ps.length:Int)-1) (by omega) (by omega),jay h.k0 h.k1,eb]
 simp only [j2,jd,j5,hb]
 rw [j00 (show ¬ x.2.2.2.1<0 by omega),j00 (show ¬ x.2.2.2.2<0 by omega),j04 (x:=Int.tdiv x.2.2.2.2 86400) (by rw [htd];omega) (by rw [htd];omega),jri]
 simp only [j5,j2]
 rw [j00 (show ¬ Int.tdiv x.2.2.2.2 86400>98980 by omega),j00 (show ¬ x.2.2.2.1≥x.2.2.2.2 by omega)]
 simp only [j5]
 by_cases hk:x.1=2
 ·obtain ⟨b1,b2,b3⟩:=h.b hk
  have e2:(x.1 != 2)=false:=by rw [hk];rfl
  rw [jeS hk,j4,jay b1 (by omega),e2,j9f b3]
  rfl
 ·have e2:(x.1 != 2)=true:=by simpa using hk
  rw [j9f hk,e2,h.b0 hk]
  rfl
theorem jro {ls:List j2l} (hn:NmL (ls.map (·.1))) (hc:∀ x∈ls,LCk zs.length ps.length cs.length x) (hl:ls.length≤100) (hz:zs.length≤100) (hp:ps.length≤100) (hcl:cs.length≤100) {m:Int} {nm:ByteArray} {es:List jaT} {l3:List ByteArray}:∀ (n i:Nat),i+n=ls.length→
  j4O m (i:Int) zs ps cs ss nm ls es l3 ((ls.take i).map (·.1))=some (.inr (m,zs,ps,cs,ss,nm,ls,es,l3))
 | 0,i,hi=>by
  rw [j9E]
  simp only [j2H,show Int.ofNat ls.length=(ls.length:Int) from rfl]
  rw [j00 (by omega),j5,j0n]
 | n+1,i,hi=>by
  have hi':i<ls.length:=by omega
  have hgd:ls.getD i (ByteArray.empty,((0:Int),(((0:Int),(0:Int)),((0:Int),((0:Int),(([]:List Int),(([]:WL),((0:Int),(0:Int)))))))))=ls[i]:=by simp [List.getD,hi']
  obtain ⟨n1,n2⟩:=jmJ (·.1) hn hi' (by omega)
  have hck:=hc _ (jc hi')
  rw [j9E]
  simp only [j2H,show Int.ofNat ls.length=(ls.length:Int) from rfl]
  rw [j01 (by omega),j1v (by omega) (by omega)]
  simp only [j4,j6,hgd]
  rw [j01 (show ((ls.take i).map (·.1)).length+[ls[i].1].length≤j0a by simp [j0a];omega),j4,n1,n2]
  simp only [j2,ja,j5]
  rw [show jd9 (zs,ps,cs,ss) (ls[i].1,ls[i].2.1,(ls[i].2.2.1.1,ls[i].2.2.1.2),ls[i].2.2.2.1,ls[i].2.2.2.2.1,ls[i].2.2.2.2.2.1,ls[i].2.2.2.2.2.2.1,ls[i].2.2.2.2.2.2.2.1,ls[i].2.2.2.2.2.2.2.2)=_ from jtM hck hz hp hcl]
  simp only [j2,ja,j5]
  rw [j04 (x:=(i:Int)+1) (by omega) (by omega),j0i]
  exact jro hn hc hl hz hp hcl n (i+1) (by omega)
theorem jrp {es:List jaT} (hc:∀ x∈es,ECk ps.length x) (hl:es.length≤48) (hp:ps.length≤100) {m:Int} {nm:ByteArray} {ls:List j2l} {l3:List ByteArray}:∀ (n i:Nat),i+n=es.length→
  j4P m (i:Int) zs ps cs ss nm ls es l3=some (.inr (m,zs,ps,cs,ss,l3))
 | 0,i,hi=>by
  rw [j9F]
  simp only [j2I,show Int.ofNat es.length=(es.length:Int) from rfl]
  rw [j00 (by omega),j5,j0n]
 | n+1,i,hi=>by
  have hi':i<es.length:=by omega
  have hgd:es.getD i ((0:Int),((0:Int),((0:Int),((0:Int),(0:Int)))))=es[i]:=by simp [List.getD,hi']
  have hck:=hc _ (jc hi')
  rw [j9F]
  simp only [j2I,show Int.ofNat es.length=(es.length:Int) from rfl]
  rw [j01 (by omega),j1v (by omega) (by omega)]
  simp only [j4,j6,hgd]
  rw [show jfx (zs,ps,cs,ss) (es[i].1,es[i].2.1,es[i].2.2.1,es[i].2.2.2.1,es[i].2.2.2.2)=_ from juG hck hp]
  simp only [j2,ja,j5]
  rw [j04 (x:=(i:Int)+1) (by omega) (by omega),j0i]
  exact jrp hc hl hp n (i+1) (by omega)
theorem jsR (hn:NmL (ss.map (·.1))) (hc:∀ x∈ss,SCk zs.length ps.length cs.length x) (hl:ss.length≤100) (hz:zs.length≤100) (hp:ps.length≤100) (hcl:cs.length≤100):∀ (n i:Nat),i+n=ss.length→
  j4Q (i:Int) zs ps cs ss ((ss.take i).map (·.1))=some (.inr ())
 | 0,i,hi=>by
  rw [j9G]
  simp only [j2J,show Int.ofNat ss.length=(ss.length:Int) from rfl]
  rw [j00 (by omega),j5,j0n]
 | n+1,i,hi=>by
  have hi':i<ss.length:=by omega
  have hgd:ss.getD i (ByteArray.empty,(([]:List j2l),([]:List jaT)))=ss[i]:=by simp [List.getD,hi']
  obtain ⟨n1,n2⟩:=jmJ (·.1) hn hi' (by omega)
  have hck:=hc _ (jc hi')
  have h1:=hck.ll;have h2:=hck.el
  have l2:=jro (ss:=ss) hck.nm hck.ly (by omega) hz hp hcl (m:=(i:Int)) (nm:=ss[i].1) (es:=ss[i].2.2) (l3:=(ss.take (i+1)).map (·.1)) ss[i].2.1.length 0 (by omega)
  have l4:=jrp (zs:=zs) (cs:=cs) (ss:=ss) hck.ed h2 hp (m:=(i:Int)) (nm:=ss[i].1) (ls:=ss[i].2.1) (l3:=(ss.take (i+1)).map (·.1)) ss[i].2.2.length 0 (by omega)
  rw [j9G]
  simp only [j2J,show Int.ofNat ss.length=(ss.length:Int) from rfl]
  rw [j01 (by omega),j1v (by omega) (by omega)]
  simp only [j4,j6,hgd]
  rw [j01 (show ((ss.take i).map (·.1)).length+[ss[i].1].length≤j0a by simp [j0a];omega),j4,n1,n2]
  simp only [j2,ja,j5,show Int.ofNat ss[i].2.1.length=(ss[i].2.1.length:Int) from rfl,show Int.ofNat ss[i].2.2.length=(ss[i].2.2.length:Int) from rfl]
  rw [j00 (show ¬ (ss[i].2.1.length:Int)>6 by omega),j00 (show ¬ (ss[i].2.2.length:Int)>48 by omega)]
  simp only [j5]
  rw [show j4O (i:Int) 0 zs ps cs ss ss[i].1 ss[i].2.1 ss[i].2.2 ((ss.take (i+1)).map (·.1)) []=_ from l2]
  simp only [j2,j2s]
  rw [show j4P (i:Int) 0 zs ps cs ss ss[i].1 ss[i].2.1 ss[i].2.2 ((ss.take (i+1)).map (·.1))=_ from l4]
  simp only [j2,j2s]
  rw [j04 (x:=(i:Int)+1) (by omega) (by omega),j0i]
  exact jsR hn hc hl hz hp hcl n (i+1) (by omega)
theorem juH (h:jcA (zs,(ps,(cs,ss)))) (hr:∀ z∈zs,j8j z=some 0):j9H (zs,(ps,(cs,ss)))=some 0:=by
 have hzl:zs.length≤16:=h.zl
 have hpl:ps.length≤32:=h.pl
 have hcl:cs.length≤8:=h.cl
 have hsl:ss.length≤12:=h.sl
 have lz:=jsN (zs:=zs) (ps:=ps) (cs:=cs) (ss:=ss) h.zn h.zc hr (by omega) zs.length 0 (by omega)
 have lp:=jsO (zs:=zs) (ps:=ps) (cs:=cs) (ss:=ss) h.pn h.pc (by omega) (by omega) ps.length 0 (by omega)
 have lc:=jsP (zs:=zs) (ps:=ps) (cs:=cs) (ss:=ss) h.cn h.cc (by omega) (by omega) cs.length 0 (by omega)
 have ls:=jsR (zs:=zs) (ps:=ps) (cs:=cs) (ss:=ss) h.sn h.sc (by omega) (by omega) (by omega) (by omega) ss.length 0 (by omega)
 simp only [j9H,show Int.ofNat zs.length=(zs.length:Int) from rfl,show Int.ofNat ps.length=(ps.length:Int) from rfl,show Int.ofNat cs.length=(cs.length:Int) from rfl,show Int.ofNat ss.length=(ss.length:Int) from rfl]
 rw [j00 (show ¬ (zs.length:Int)>16 by omega),j00 (show ¬ (ps.length:Int)>32 by omega),j00 (show ¬ (cs.length:Int)>8 by omega),j00 (show ¬ (ss.length:Int)>12 by omega)]
 simp only [j5,jij,show j8k 0 zs ps cs ss []=_ from lz,j2,j2s,ja,jgi,show j78 0 zs ps cs ss []=_ from lp,jbL,show j4N 0 zs ps cs ss []=_ from lc,jbM,show j4Q 0 zs ps cs ss []=_ from ls]
end
theorem r4ck {z:j2P} (h:ZOk z):j8j z=some 0:=by
 have h4:=h.zref.2.1
 simp only [j8j]
 rw [show j4h (z.1,(z.2.1,z.2.2))=_ from h4.1]
 rfl
section
variable {zs:List j2P} {ps:List j1b} {cs:List CalT} (hs:SOk2 zs ps cs)
include hs
theorem juI:∀ z∈zs,j8j z=some 0:=fun z hz=>r4ck (hs.so.ok z hz)
end
def OrS (p:Int):SgL→Prop
 | []=>True
 | x::r=>p≤x.1∧x.1<x.2.1∧OrS x.2.1 r
theorem OrS.weak {p q:Int} (hq:q≤p):∀ {l:SgL},OrS p l→OrS q l
 | [],_=>trivial
 | _::_,h=>⟨by have:=h.1;omega,h.2⟩
theorem OrS.app {e:Int} {r:SgL} (hr:OrS e r):∀ {l:SgL} {p:Int},OrS p l→p≤e→(∀ x∈l,x.2.1≤e)→OrS p (l++r)
 | [],_,_,hp,_=>hr.weak hp
 | x::l,p,h,_,hl=>⟨h.1,h.2.1,hr.app h.2.2 (hl x (by simp)) (fun y hy=>hl y (by simp [hy]))⟩
theorem OrS.apart {p:Int}:∀ {l:SgL},OrS p l→l.Pairwise (fun x y=>x.2.1≤y.1)∧∀ x∈l,p≤x.1
 | [],_=>⟨List.Pairwise.nil,by simp⟩
 | x::l,h=>by
  obtain ⟨h1,h2⟩:=OrS.apart h.2.2
  exact ⟨List.pairwise_cons.2 ⟨h2,h1⟩,fun y hy=>by
   rcases je.1 hy with rfl | hy
   ·exact h.1
   ·have:=h2 y hy;have:=h.1;have:=h.2.1;omega⟩
section
variable {nm:ByteArray} {ls:List j2l} {es:List jaT} {np:Nat} (hE:∀ x∈es,ECk np x) (hl:es.length≤48)
include hE hl
end
section
variable {o:Int} {l:TrL} (h:TOk o l)
include h
end
section
variable {zs:List j2P} {ps:List j1b} {cs:List CalT} (hs:SOk2 zs ps cs)
include hs
end
section
variable {zs:List j2P} {ps:List j1b} {cs:List CalT} (hs:SOk2 zs ps cs)
include hs
end
section
variable {zs:List j2P} {ps:List j1b} {cs:List CalT} (hs:SOk2 zs ps cs)
include hs
theorem jso {s:j2M} {r:List j2M} (hc:jcA (zs,(ps,(cs,s::r)))) {e:jaT} (hc2:jcA (zs,(ps,(cs,(s.1,(s.2.1,s.2.2++[e]))::r)))) :
  jda (zs,(ps,(cs,s::r))) 0 e=some ((zs,(ps,(cs,(s.1,(s.2.1,s.2.2++[e]))::r))),0):=by
 have hel:=(hc.sc s (by simp)).el
 have hsl:(s::r).length≤12:=hc.sl
 simp only [jda]
 rw [show j9H (zs,ps,cs,s::r)=_ from juH hc (juI hs)]
 simp only [j2,ja,j5,show Int.ofNat (s::r).length=((s::r).length:Int) from rfl]
 rw [j00 (show ¬ (0:Int)<0 by omega),j00 (show ¬ (0:Int)≥((s::r).length:Int) by simp),j1v (show (0:Int)≤0 by omega) (by simp)]
 simp only [j4,j5,show Int.toNat 0=0 from rfl,show List.getD (s::r) 0 (ByteArray.empty,(([]:List j2l),([]:List jaT)))=s from rfl]
 rw [j01 (show ([]:List jaT).length+s.2.2.length≤j0a by simp [j0a];omega)]
 simp only [j4,jt]
 rw [j01 (show s.2.2.length+[e].length≤j0a by simp [j0a];omega)]
 simp only [j4,jkz]
 rw [j01 (show ([]:List j2M).length+(s::r).length≤j0a by simp only [j0a,ko];omega)]
 simp only [j4,jt]
 rw [j1v (show (0:Int)≤0 by omega) (by simp)]
 simp only [j4,show Int.toNat 0=0 from rfl,show List.getD (s::r) 0 (ByteArray.empty,(([]:List j2l),([]:List jaT)))=s from rfl,List.set_cons_zero,j2]
 rw [show j9H (zs,ps,cs,(s.1,s.2.1,s.2.2++[e])::r)=_ from juH hc2 (juI hs)]
 rfl
theorem jmK {L:List Int}:∀ (n:Nat) (a:Int) (s:j2M) (r:List j2M),DOk L a→jcA (zs,(ps,(cs,s::r)))→s.2.1.length≤3→s.2.2.length+n≤6→
  ∃ es a',j3l 0 (n:Int) L a zs ps cs (s::r)=some (L,a',zs,ps,cs,(s.1,(s.2.1,es))::r)∧es.length≤6∧jcA (zs,(ps,(cs,(s.1,(s.2.1,es))::r)))∧DOk L a'
 | 0,a,s,r,hd,hc,hll,hel=>by
  refine ⟨s.2.2,a,?_,by omega,hc,hd⟩
  rw [j7A]
  simp only [j22]
  rw [j00 (by omega),j5,j0n]
 | n+1,a,s,r,hd,hc,hll,hel=>by
  obtain ⟨x,a1,e1,hx,d1⟩:=jrh hd (zs:=zs) (ps:=ps) (cs:=cs) (ss:=s::r) hs.so.p0 hs.so.p1
  have hk:=hc.sc s (by simp)
  have hck:SCk zs.length ps.length cs.length (s.1,(s.2.1,s.2.2++[x])):=
   ⟨hk.nm,hk.ly,hk.ll,fun y hy=>by
    rcases jp.1 hy with h | h
    ·exact hk.ed y h
    ·simp only [jv] at h;subst h;exact hx,by simp;omega⟩
  have hc2:jcA (zs,(ps,(cs,(s.1,(s.2.1,s.2.2++[x]))::r))):=jnX hs (by simpa using hc.sl) (by
   have:=hc.sn
   simpa using this) (fun y hy=>by
    rcases je.1 hy with rfl | h
    ·exact hck
    ·exact hc.sc y (by simp [h]))
  obtain ⟨es,a',e2,h1,h2,h3⟩:=jmK n a1 (s.1,(s.2.1,s.2.2++[x])) r d1 hc2 hll (by simp;omega)
  refine ⟨es,a',?_,h1,h2,h3⟩
  rw [j7A]
  simp only [j22]
  rw [j01 (show ((n+1:Nat):Int)>0 by omega),j4,show j4Z L a (zs,(ps,(cs,s::r)))=_ from e1]
  simp only [j2]
  rw [show jda (zs,ps,cs,s::r) 0 (x.1,x.2.1,x.2.2.1,x.2.2.2.1,x.2.2.2.2)=_ from jso hs hc (e:=x) hc2]
  simp only [j2,jz,j4]
  rw [j04 (x:=((n+1:Nat):Int)-1) (by omega) (by omega),show ((n+1:Nat):Int)-1=(n:Int) by omega,j0i]
  exact e2
end
end Go.Proofs.Pw
