/- The reference of chapter 8: configurations that are right. -/
import Derived.Test.YtpbnnhakjhalaaaGreatEOPG
import Derived.KernelRfl
open Go Go.Lft
namespace Go.Proofs.Pw
theorem jui {x y:ByteArray} (h:x≠y):(x.toList==y.toList)=false:=by
 rw [ByteArray.toList_eq,ByteArray.toList_eq]
 exact kp.2 fun hh=>h (ByteArray.ext (Array.toList_inj.mp (eq_of_beq hh)))
def okC (b:Int):Prop:=(97≤b∧b≤122)∨(48≤b∧b≤57)∨b=95∨b=45
theorem juN {s:ByteArray} (hs:s.size≤24):∀ (n i:Nat),i+n=s.size→((j4R s (s.size:Int) (i:Int)).bind fun q0=>sumC q0 (fun a=>some a) (fun _=>some true))=some true→∀ j:Nat,i≤j→j<s.size→okC (j2B s j)
 | 0,i,hi,_,j,h1,h2=>by omega
 | n+1,i,hi,h,j,h1,h2=>by
  rw [jhC] at h
  simp only [j5o,j9O,jf5,j3] at h
  rw [j01 (by omega),j0Y (by omega) (by omega),j02 (x:=(i:Int)+1) (by omega) (by omega)] at h
  simp only [j5] at h
  have key:okC (j2B s i)∧((j4R s (s.size:Int) ((i:Int)+1)).bind fun q0=>sumC q0 (fun a=>some a) (fun _=>some true))=some true:=by
   by_cases ha:97≤j2B s i∧j2B s i≤122
   ·rw [j01 (show j2B s i≥97 from ha.1),j01 ha.2] at h
    simp only [j5,jc,j6,j09] at h
    exact ⟨.inl ha,h⟩
   ·have e:cond (decide (j2B s i≥97)) (decide (j2B s i≤122)) false=false:=by
     by_cases hx:j2B s i≥97
     ·rw [j01 hx,j5];exact j00 (by omega)
     ·rw [j00 hx,j6]
    rw [e] at h
    simp only [js,j5] at h
    by_cases hb:48≤j2B s i∧j2B s i≤57
    ·rw [j01 (show j2B s i≥48 from hb.1),j01 hb.2] at h
     simp only [j5,jc,j6,j09] at h
     exact ⟨.inr (.inl hb),h⟩
    ·have e2:cond (decide (j2B s i≥48)) (decide (j2B s i≤57)) false=false:=by
      by_cases hx:j2B s i≥48
      ·rw [j01 hx,j5];exact j00 (by omega)
      ·rw [j00 hx,j6]
     rw [e2] at h
     simp only [js,j5] at h
     by_cases hc:j2B s i=95
     ·have e3:(j2B s i != 95)=false:=by rw [hc];rfl
      rw [e3] at h
      simp only [j6,j09] at h
      exact ⟨.inr (.inr (.inl hc)),h⟩
     ·have e3:(j2B s i != 95)=true:=by simpa using hc
      rw [e3] at h
      simp only [j5] at h
      by_cases hd:j2B s i=45
      ·have e4:(j2B s i != 45)=false:=by rw [hd];rfl
       rw [e4] at h
       simp only [j6,j09] at h
       exact ⟨.inr (.inr (.inr hd)),h⟩
      ·have e4:(j2B s i != 45)=true:=by simpa using hd
       rw [e4] at h
       simp [j0d,jpV] at h
  by_cases hj:j=i
  ·subst hj;exact key.1
  ·exact juN hs n (i+1) (by omega) key.2 j (by omega) h2
theorem juO {s:ByteArray} (hs:s.size≤24) (hok:∀ j:Nat,j<s.size→okC (j2B s j)):∀ (n i:Nat),i+n=s.size→j89 s (i:Int)=some (.inr ())
 | 0,i,hi=>by
  rw [jeJ]
  simp only [j53,show Int.ofNat s.size=(s.size:Int) from rfl]
  rw [j00 (by omega),j6,j0d]
 | n+1,i,hi=>by
  have ih:=juO hs hok n (i+1) (by omega)
  have ho:=hok i (by omega)
  rw [jeJ]
  simp only [j53,jj0,j3,show Int.ofNat s.size=(s.size:Int) from rfl]
  rw [j01 (by omega),j0Y (by omega) (by omega),j02 (x:=(i:Int)+1) (by omega) (by omega)]
  simp only [j5,qw]
  have fin:lpK (some (.inl (s,(i:Int)+1)):Option ((ByteArray×Int) ⊕ (Bool ⊕ Unit))) (fun h=>j89 h.1 h.2)=some (.inr ()):=by rw [j09];exact ih
  by_cases ha:97≤j2B s i∧j2B s i≤122
  ·rw [j00 (show ¬ j2B s i<97 by omega),j00 (show ¬ j2B s i>122 by omega)]
   exact fin
  ·have e:cond (decide (j2B s i<97)) true (decide (j2B s i>122))=true:=by
    by_cases hx:j2B s i<97
    ·rw [j01 hx,j5]
    ·rw [j00 hx,j6];exact j01 (by omega)
   rw [e]
   simp only [j5]
   by_cases hb:48≤j2B s i∧j2B s i≤57
   ·rw [j01 (show j2B s i≥48 from hb.1),j01 hb.2]
    exact fin
   ·have e2:cond (decide (j2B s i≥48)) (decide (j2B s i≤57)) false=false:=by
     by_cases hx:j2B s i≥48
     ·rw [j01 hx,j5];exact j00 (by omega)
     ·rw [j00 hx,j6]
    rw [e2]
    rcases ho with ho | ho | ho | ho
    ·exact absurd ho ha
    ·exact absurd ho hb
    ·rw [ho];exact fin
    ·rw [ho];exact fin
theorem jwM {s:ByteArray} (h:j4s s=some true):ji9 s=some true:=by
 simp only [j4s,show Int.ofNat s.size=(s.size:Int) from rfl] at h
 have hz:¬ (cond (s.toList==ByteArray.empty.toList) true (decide ((s.size:Int)>24)))=true:=by
  intro hx
  rw [hx] at h
  simp at h
 have hz':cond (s.toList==ByteArray.empty.toList) true (decide ((s.size:Int)>24))=false:=kp.2 hz
 rw [hz'] at h
 simp only [js,jc,Bool.or_false,j6] at h
 have h0:inR 0 s.size=true:=by
  cases hc:inR 0 s.size with
  | true=>rfl
  | false=>rw [hc] at h;simp at h
 have hlo:0<s.size:=by
  simp only [inR,ja,jj] at h0
  omega
 have hhi:s.size≤24:=by
  have:decide ((s.size:Int)>24)=false:=by
   revert hz'
   cases (s.toList==ByteArray.empty.toList)<;>simp
  have:=of_decide_eq_false this
  omega
 rw [h0] at h
 simp only [j5,j9O,j3] at h
 have ha:97≤j2B s 0∧j2B s 0≤122:=by
  apply q9
  intro hn
  have e:cond (decide (j2B s 0≥97)) (decide (j2B s 0≤122)) false=false:=by
   by_cases hx:j2B s 0≥97
   ·rw [j01 hx,j5];exact j00 (by omega)
   ·rw [j00 hx,j6]
  rw [e] at h
  simp at h
 rw [j01 (show j2B s 0≥97 from ha.1),j01 ha.2] at h
 simp only [j5,jc,j6] at h
 have hok:=juN hhi s.size 0 (by omega) h
 simp only [ji9,show Int.ofNat s.size=(s.size:Int) from rfl]
 rw [h0,j00 (show ¬ (s.size:Int)<1 by omega),j00 (show ¬ (s.size:Int)>24 by omega),j00 (show ¬ j2B s 0<97 by omega),j00 (show ¬ j2B s 0>122 by omega)]
 simp only [j6,qw,j5]
 rw [show j89 s 0=_ from juO hhi (fun j hj=>hok j (by omega) hj) s.size 0 (by omega)]
 rfl
theorem jaW {n lo hi:Int} (h1:lo≤n) (h2:n≤hi):j6F n lo hi=some true:=by
 simp only [j6F,j01 (show n≥lo from h1),j01 h2,j5]
theorem jwN {n lo hi:Int} (h:n<lo):j6F n lo hi=some false:=by
 simp only [j6F,j00 (show ¬ n≥lo by omega),j6]
theorem jt2:j9I=some 98980:=by kernel_rfl
theorem jt3 {d:Int} (h:j0P d=some true):d≤98980:=by
 apply q9
 intro hd
 simp only [j0P,j4K,jjG,jjF,j3] at h
 rw [j00 (show ¬ d<0 by omega),j01 (show d≥98981 by omega)] at h
 simp at h
theorem jwO {d:Int} (h:j0P d=some true):0≤d:=by
 apply q9
 intro hd
 simp only [j0P,j4K,jjG,jjF,j3] at h
 rw [j01 (show d<0 by omega)] at h
 simp at h
theorem jt4 {ks:List ByteArray} (hn:ks.Nodup) {i:Nat} (hi:i<ks.length) {l:List ByteArray} (hl:l=ks.take (i+1)) (hs:ks.length≤1000):∀ (n k:Nat),k+n=i→j9W l (i:Int) (k:Int)=some (.inr ())
 | 0,k,hk=>by
  rw [jeK]
  simp only [j54]
  rw [j00 (by omega),j6,j0d]
 | n+1,k,hk=>by
  have hll:l.length=i+1:=by rw [hl,ko];omega
  have hk':k<ks.length:=by omega
  have g1:l.getD k ByteArray.empty=ks[k]:=by
   rw [hl,List.getD_eq_getElem?_getD,List.getElem?_take_of_lt (by omega),jh hk'];rfl
  have g2:l.getD i ByteArray.empty=ks[i]:=by
   rw [hl,List.getD_eq_getElem?_getD,List.getElem?_take_of_lt (by omega),jh hi];rfl
  have hne:ks[k]≠ks[i]:=fun e=>by
   have:=(List.getElem_inj (h₀:=hk') (h₁:=hi) hn).1 e
   omega
  rw [jeK]
  simp only [j54]
  rw [j01 (by omega),j0Y (show (0:Int)≤(k:Int) by omega) (by omega),j0Y (show (0:Int)≤(i:Int) by omega) (by omega)]
  simp only [j5,j7,g1,g2,jui hne,j6]
  rw [j02 (x:=(k:Int)+1) (by omega) (by omega),j09]
  exact jt4 hn hi hl hs n (k+1) (by omega)
theorem jwP {ks:List ByteArray} (h:NmL ks) {i:Nat} (hi:i<ks.length) (hs:ks.length≤1000):j9u (ks.take (i+1)) (i:Int)=some 0:=by
 have hll:(ks.take (i+1)).length=i+1:=by rw [ko];omega
 have g2:(ks.take (i+1)).getD i ByteArray.empty=ks[i]:=by
  rw [List.getD_eq_getElem?_getD,List.getElem?_take_of_lt (by omega),jh hi];rfl
 simp only [j9u]
 rw [j0Y (by omega) (by omega)]
 simp only [j5,j7,g2,jwM (h.2 _ (je hi)),j3,jc,j6]
 rw [show j9W (ks.take (i+1)) (i:Int) 0=_ from jt4 h.1 hi rfl hs i 0 (by omega)]
 rfl
theorem jnW {α:Type} (f:α→ByteArray) {xs:List α} (h:NmL (xs.map f)) {i:Nat} (hi:i<xs.length) (hs:xs.length≤1000) :
  (xs.take i).map f++[f xs[i]]=(xs.take (i+1)).map f∧j9u ((xs.take (i+1)).map f) (i:Int)=some 0:=by
 refine ⟨?_,?_⟩
 ·rw [zi,jh hi,qq];rfl
 ·have:=jwP h (i:=i) (by simpa using hi) (by simpa using hs)
  rwa [←List.map_take] at this
theorem jqb {nm:ByteArray} {o:Int} {rs:List Rule} (h:∀ r∈rs,Int.tmod r.2.2.2.2.2.2 60=0) (hl:rs.length≤1000):∀ (n i:Nat),i+n=rs.length→j6E true (i:Int) nm o rs=some true
 | 0,i,hi=>by
  rw [jbJ]
  simp only [j3x,show Int.ofNat rs.length=(rs.length:Int) from rfl]
  rw [j00 (by omega),j6,j0d]
 | n+1,i,hi=>by
  have hi':i<rs.length:=by omega
  have hgd:rs.getD i ((0:Int),((0:Int),((0:Int),((0:Int),((0:Int),((0:Int),(0:Int)))))))=rs[i]:=by simp [List.getD,hi']
  rw [jbJ]
  simp only [j3x,show Int.ofNat rs.length=(rs.length:Int) from rfl]
  rw [j01 (by omega),j0Y (by omega) (by omega)]
  simp only [j5,qw,j7,hgd,h _ (je hi'),qd]
  rw [j02 (x:=(i:Int)+1) (by omega) (by omega),j09]
  exact jqb h hl n (i+1) (by omega)
theorem jxm {z:j1l} (h:ZCk z):j9X z=some true:=by
 simp only [j9X,h.o60,qd]
 rw [show j6E true 0 z.1 z.2.1 z.2.2=_ from jqb h.r60 h.len z.2.2.length 0 (by omega)]
 rfl
section
variable {zs:List j1l} {ps:List j0W} {cs:List CalT} {ss:List j1P}
theorem juP (hn:NmL (zs.map (·.1))) (hc:∀ z∈zs,ZCk z) (hr:∀ z∈zs,j5P z=some 0) (hl:zs.length≤100):∀ (n i:Nat),i+n=zs.length→j8E (i:Int) zs ps cs ss ((zs.take i).map (·.1))=some (.inr ())
 | 0,i,hi=>by
  rw [jdH]
  simp only [j4y,show Int.ofNat zs.length=(zs.length:Int) from rfl]
  rw [j00 (by omega),j6,j0d]
 | n+1,i,hi=>by
  have hi':i<zs.length:=by omega
  have hgd:zs.getD i (ByteArray.empty,((0:Int),([]:List Rule)))=zs[i]:=by simp [List.getD,hi']
  obtain ⟨n1,n2⟩:=jnW (·.1) hn hi' (by omega)
  have hck:=hc _ (je hi')
  rw [jdH]
  simp only [j4y,show Int.ofNat zs.length=(zs.length:Int) from rfl]
  rw [j01 (by omega),j0Y (by omega) (by omega)]
  simp only [j5,j7,hgd]
  rw [j01 (show ((zs.take i).map (·.1)).length+[zs[i].1].length≤j07 by simp [j07];omega),j5,n1,n2]
  simp only [j3,jb,j6,show j5P (zs[i].1,(zs[i].2.1,zs[i].2.2))=_ from hr _ (je hi'),qw,j5,show j9X (zs[i].1,(zs[i].2.1,zs[i].2.2))=_ from jxm hck,jc]
  rw [j02 (x:=(i:Int)+1) (by omega) (by omega),j09]
  exact juP hn hc hr hl n (i+1) (by omega)
theorem jt5 {w:WL} (h:WOk 0 w) (hl:w.length≤14):∀ (n i:Nat),i+n=w.length→j8F w (i:Int)=some (.inr ())
 | 0,i,hi=>by
  rw [jdI]
  simp only [j4z,show Int.ofNat w.length=(w.length:Int) from rfl]
  rw [j00 (by omega),j6,j0d]
 | n+1,i,hi=>by
  have hi':i<w.length:=by omega
  have hg:=jpd h i hi'
  have ih:=jt5 h hl n (i+1) (by omega)
  rw [jdI]
  simp only [j4z,show Int.ofNat w.length=(w.length:Int) from rfl]
  rw [j01 (by omega),j0Y (by omega) (by omega)]
  simp only [j5,j7]
  rw [j00 (show ¬ (w.getD i (0,0)).1<0 by omega),j00 (show ¬ (w.getD i (0,0)).1≥(w.getD i (0,0)).2 by omega),j00 (show ¬ (w.getD i (0,0)).2>604800 by omega),j02 (x:=(i:Int)+1) (by omega) (by omega)]
  simp only [j6]
  by_cases h0:(i:Int)>0
  ·obtain ⟨k,rfl⟩:∃ k,i=k+1:=⟨i-1,by omega⟩
   have hgap:=jpe h k (by omega)
   rw [j01 h0,j5,j02 (x:=((k+1:Nat):Int)-1) (by omega) (by omega),show ((k+1:Nat):Int)-1=(k:Int) by omega,j0Y (show (0:Int)≤(k:Int) by omega) (by omega)]
   simp only [j5,j7]
   rw [j00 (show ¬ (w.getD (k+1) (0,0)).1<(w.getD k (0,0)).2 by omega),j6,j09]
   exact ih
  ·rw [j00 h0,j6,j09]
   exact ih
theorem r5ck {w:WL} (h:WOk 0 w) (hl:w.length≤14):jbK w=some 0:=by
 simp only [jbK,show Int.ofNat w.length=(w.length:Int) from rfl]
 rw [j00 (by omega),j6,show j8F w 0=_ from jt5 h hl w.length 0 (by omega)]
 rfl
theorem jwQ {n:Int} (h:j3Q n=some true):jgd n=some true:=h
theorem juQ (hn:NmL (ps.map (·.1))) (hc:∀ p∈ps,PCk zs.length p) (hl:ps.length≤100) (hzl:zs.length≤100):∀ (n i:Nat),i+n=ps.length→j7m (i:Int) zs ps cs ss ((ps.take i).map (·.1))=some (.inr ())
 | 0,i,hi=>by
  rw [jcW]
  simp only [j3X,show Int.ofNat ps.length=(ps.length:Int) from rfl]
  rw [j00 (by omega),j6,j0d]
 | n+1,i,hi=>by
  have hi':i<ps.length:=by omega
  have hgd:ps.getD i (ByteArray.empty,((0:Int),(([]:WL),((0:Int),((0:Int),false)))))=ps[i]:=by simp [List.getD,hi']
  obtain ⟨n1,n2⟩:=jnW (·.1) hn hi' (by omega)
  have hck:=hc _ (je hi')
  have h0:=hck.z0;have h1:=hck.z1
  rw [jcW]
  simp only [j3X,show Int.ofNat ps.length=(ps.length:Int) from rfl,show Int.ofNat zs.length=(zs.length:Int) from rfl]
  rw [j01 (by omega),j0Y (by omega) (by omega)]
  simp only [j5,j7,hgd]
  rw [j01 (show ((ps.take i).map (·.1)).length+[ps[i].1].length≤j07 by simp [j07];omega),j5,n1,n2,hck.nb,j02 (x:=(zs.length:Int)-1) (by omega) (by omega),jaW h0 (by omega)]
  simp only [j3,jb,j6,jc,r5ck hck.w hck.wl,jwQ hck.m,jwQ hck.r]
  rw [j02 (x:=(i:Int)+1) (by omega) (by omega),j09]
  exact juQ hn hc hl hzl n (i+1) (by omega)
theorem jt6 {ds:List Int} (h:∀ d∈ds,j0P d=some true) (hl:ds.length≤64) {m z:Int} {nm:ByteArray} {l3:List ByteArray}:∀ (n i:Nat),i+n=ds.length→j55 m (i:Int) zs ps cs ss nm z ds l3=some (.inr (m,zs,ps,cs,ss,nm,z,ds,l3))
 | 0,i,hi=>by
  rw [j9Y]
  simp only [j2O,show Int.ofNat ds.length=(ds.length:Int) from rfl]
  rw [j00 (by omega),j6,j0d]
 | n+1,i,hi=>by
  have hi':i<ds.length:=by omega
  have hgd:ds.getD i (0:Int)=ds[i]:=by simp [hi']
  have hd:=h _ (je hi')
  rw [j9Y]
  simp only [j2O,show Int.ofNat ds.length=(ds.length:Int) from rfl]
  rw [j01 (by omega),j0Y (by omega) (by omega)]
  simp only [j5,j7,hgd,jt2,j3,jaW (jwO hd) (jt3 hd),jc,j6]
  rw [j02 (x:=(i:Int)+1) (by omega) (by omega),j09]
  exact jt6 h hl n (i+1) (by omega)
theorem jt7 {ds:List Int} (h:ds.Pairwise (· < ·)) (hl:ds.length≤64) {m z:Int} {nm:ByteArray} {l3:List ByteArray}:∀ (n i:Nat),ds.length≤i+n→1≤i→j56 m (i:Int) zs ps cs ss nm z ds l3=some (.inr (m,zs,ps,cs,ss,l3))
 | n,i,hi,h1=>by
  rw [jf9]
  simp only [j3Y,show Int.ofNat ds.length=(ds.length:Int) from rfl]
  by_cases hi':i<ds.length
  ·obtain ⟨n,rfl⟩:∃ m,n=m+1:=⟨n-1,by omega⟩
   obtain ⟨k,rfl⟩:∃ k,i=k+1:=⟨i-1,by omega⟩
   have hgd:ds.getD (k+1) (0:Int)=ds[k+1]:=by simp [hi']
   have hgk:ds.getD k (0:Int)=ds[k]:=by simp [show k<ds.length by omega]
   have hlt:=qm.1 h k (k+1) (by omega) hi' (by omega)
   rw [j01 (by omega),j0Y (by omega) (by omega),j02 (x:=((k+1:Nat):Int)-1) (by omega) (by omega),show ((k+1:Nat):Int)-1=(k:Int) by omega,j0Y (show (0:Int)≤(k:Int) by omega) (by omega)]
   simp only [j5,j7,hgd,hgk]
   rw [j00 (show ¬ ds[k+1]≤ds[k] by omega),j6,j02 (x:=((k+1:Nat):Int)+1) (by omega) (by omega),j09]
   exact jt7 h hl n (k+1+1) (by omega) (by omega)
  ·rw [j00 (by omega),j6,j0d]
 termination_by n=>n
theorem juR (hn:NmL (cs.map (·.1))) (hc:∀ x∈cs,CCk zs.length x) (hl:cs.length≤100) (hzl:zs.length≤100):∀ (n i:Nat),i+n=cs.length→j57 (i:Int) zs ps cs ss ((cs.take i).map (·.1))=some (.inr ())
 | 0,i,hi=>by
  rw [j9Z]
  simp only [j2P,show Int.ofNat cs.length=(cs.length:Int) from rfl]
  rw [j00 (by omega),j6,j0d]
 | n+1,i,hi=>by
  have hi':i<cs.length:=by omega
  have hgd:cs.getD i (ByteArray.empty,((0:Int),([]:List Int)))=cs[i]:=by simp [List.getD,hi']
  obtain ⟨n1,n2⟩:=jnW (·.1) hn hi' (by omega)
  have hck:=hc _ (je hi')
  have h0:=hck.z0;have h1:=hck.z1;have h2:=hck.len
  have l2:=jt6 (zs:=zs) (ps:=ps) (cs:=cs) (ss:=ss) hck.day h2 (m:=(i:Int)) (z:=cs[i].2.1) (nm:=cs[i].1) (l3:=(cs.take (i+1)).map (·.1)) cs[i].2.2.length 0 (by omega)
  have l4:=jt7 (zs:=zs) (ps:=ps) (cs:=cs) (ss:=ss) hck.asc h2 (m:=(i:Int)) (z:=cs[i].2.1) (nm:=cs[i].1) (l3:=(cs.take (i+1)).map (·.1)) cs[i].2.2.length 1 (by omega) (by omega)
  rw [j9Z]
  simp only [j2P,show Int.ofNat cs.length=(cs.length:Int) from rfl,show Int.ofNat zs.length=(zs.length:Int) from rfl]
  rw [j01 (by omega),j0Y (by omega) (by omega)]
  simp only [j5,j7,hgd]
  rw [j01 (show ((cs.take i).map (·.1)).length+[cs[i].1].length≤j07 by simp [j07];omega),j5,n1,n2,j02 (x:=(zs.length:Int)-1) (by omega) (by omega),jaW h0 (by omega)]
  simp only [j3,jb,j6,jc,show Int.ofNat cs[i].2.2.length=(cs[i].2.2.length:Int) from rfl]
  rw [j00 (by omega),j6,show j55 (i:Int) 0 zs ps cs ss cs[i].1 cs[i].2.1 cs[i].2.2 ((cs.take (i+1)).map (·.1))=_ from l2]
  simp only [j3,j4Q]
  rw [show j56 (i:Int) 1 zs ps cs ss cs[i].1 cs[i].2.1 cs[i].2.2 ((cs.take (i+1)).map (·.1))=_ from l4]
  simp only [j3,j4Q]
  rw [j02 (x:=(i:Int)+1) (by omega) (by omega),j09]
  exact juR hn hc hl hzl n (i+1) (by omega)
theorem juS {L:j0L} (h:∀ m∈L.2.2.2.2.2.1,0≤m∧m<(ps.length:Int)) (hl:L.2.2.2.2.2.1.length≤12) (hp:ps.length≤100):∀ (n i:Nat),i+n=L.2.2.2.2.2.1.length→
  j8G (i:Int) zs ps cs ss L.1 L.2.1 L.2.2.1.1 L.2.2.1.2 L.2.2.2.1 L.2.2.2.2.1 L.2.2.2.2.2.1 L.2.2.2.2.2.2.1 L.2.2.2.2.2.2.2.1 L.2.2.2.2.2.2.2.2=some (.inr (zs,ps,cs,ss,L.1,L.2.1,L.2.2.1.1,L.2.2.1.2,L.2.2.2.1,L.2.2.2.2.1,L.2.2.2.2.2.1,L.2.2.2.2.2.2.1,L.2.2.2.2.2.2.2.1,L.2.2.2.2.2.2.2.2))
 | 0,i,hi=>by
  rw [jdJ]
  simp only [j4A,show Int.ofNat L.2.2.2.2.2.1.length=(L.2.2.2.2.2.1.length:Int) from rfl]
  rw [j00 (by omega),j6,j0d]
 | n+1,i,hi=>by
  have hi':i<L.2.2.2.2.2.1.length:=by omega
  have hgd:L.2.2.2.2.2.1.getD i (0:Int)=L.2.2.2.2.2.1[i]:=by simp [hi']
  have hd:=h _ (je hi')
  rw [jdJ]
  simp only [j4A,show Int.ofNat L.2.2.2.2.2.1.length=(L.2.2.2.2.2.1.length:Int) from rfl,show Int.ofNat ps.length=(ps.length:Int) from rfl]
  rw [j01 (by omega),j0Y (by omega) (by omega),j02 (x:=(ps.length:Int)-1) (by omega) (by omega)]
  simp only [j5,j7,hgd,jaW hd.1 (show L.2.2.2.2.2.1[i]≤(ps.length:Int)-1 by omega),j3,jc,j6]
  rw [j02 (x:=(i:Int)+1) (by omega) (by omega),j09]
  exact juS h hl hp n (i+1) (by omega)
theorem jvK {L:j0L} (h:LCk zs.length ps.length cs.length L) (hz:zs.length≤100) (hp:ps.length≤100) (hc:cs.length≤100):jdK (zs,(ps,(cs,ss))) L=some 0:=by
 have h0:=h.z0;have h1:=h.z1;have hm0:=h.m0;have hm1:=h.m1;have hc1:=h.c1;have hwl:=h.wl
 have lp:=juS (zs:=zs) (ps:=ps) (cs:=cs) (ss:=ss) h.mem hm1 hp L.2.2.2.2.2.1.length 0 (by omega)
 simp only [jdK,show Int.ofNat zs.length=(zs.length:Int) from rfl,show Int.ofNat L.2.2.2.2.2.1.length=(L.2.2.2.2.2.1.length:Int) from rfl]
 rw [j02 (x:=(zs.length:Int)-1) (by omega) (by omega),jaW h0 (by omega),jt2]
 simp only [j3,jc,j6,jaW h.d0 (jt3 h.day),jaW h.c0 hc1,jaW h.u0 h.u1,jaW h.e0 h.e1]
 rw [j3B (show ¬ (L.2.2.2.2.2.1.length:Int)=0 by omega),j00 (show ¬ (L.2.2.2.2.2.1.length:Int)>12 by omega)]
 simp only [j6]
 rw [show j8G 0 zs ps cs ss L.1 L.2.1 L.2.2.1.1 L.2.2.1.2 L.2.2.2.1 L.2.2.2.2.1 L.2.2.2.2.2.1 L.2.2.2.2.2.2.1 L.2.2.2.2.2.2.2.1 L.2.2.2.2.2.2.2.2=_ from lp]
 simp only [j3,j4Q,r5ck h.w hwl,jb,j6,jaW h.mode0 h.mode1,jc,show Int.ofNat cs.length=(cs.length:Int) from rfl]
 rw [j02 (x:=(cs.length:Int)-1) (by omega) (by omega)]
 by_cases hm:L.2.2.2.2.2.2.2.2=0
 ·have e:(L.2.2.2.2.2.2.2.2 != 0)=false:=by rw [hm];rfl
  have e2:(L.2.2.2.2.2.2.2.1 != 0)=false:=by rw [h.cal0 hm];rfl
  rw [e,e2,j6W hm]
  rfl
 ·have e:(L.2.2.2.2.2.2.2.2 != 0)=true:=by simpa using hm
  have hcal:=h.cal hm
  rw [e,j3B hm,jaW hcal.1 (by omega)]
  rfl
theorem jwR {x:j3l} (h:ECk ps.length x) (hp:ps.length≤100):jge (zs,(ps,(cs,ss))) x=some 0:=by
 have hf0:=h.f0;have hft:=h.ft;have ht1:=h.t1;have hd:=jt3 h.day
 have htd:Int.tdiv x.2.2.2.2 86400=x.2.2.2.2/86400:=jcM (by omega)
 have hin:∃ b,j6F x.2.1 0 ((ps.length:Int)-1)=some b∧cond (!b) (cond (x.1 != 1) true (x.2.1 != -1)) false=false:=by
  rcases h.a with ⟨a1,a2⟩ | ⟨a1,a2⟩
  ·exact ⟨true,jaW a1 (by omega),rfl⟩
  ·exact ⟨false,jwN (by omega),by rw [a1,a2];rfl⟩
 obtain ⟨b,eb,hb⟩:=hin
 simp only [jge,show Int.ofNat ps.length=(ps.length:Int) from rfl]
 rw [j02 (x:=(ps.length:Int)-1) (by omega) (by omega),jaW h.k0 h.k1,eb]
 simp only [j3,jc,j6,hb]
 rw [j00 (show ¬ x.2.2.2.1<0 by omega),j00 (show ¬ x.2.2.2.2<0 by omega),j02 (x:=Int.tdiv x.2.2.2.2 86400) (by rw [htd];omega) (by rw [htd];omega),jt2]
 simp only [j6,j3]
 rw [j00 (show ¬ Int.tdiv x.2.2.2.2 86400>98980 by omega),j00 (show ¬ x.2.2.2.1≥x.2.2.2.2 by omega)]
 simp only [j6]
 by_cases hk:x.1=2
 ·obtain ⟨b1,b2,b3⟩:=h.b hk
  have e2:(x.1 != 2)=false:=by rw [hk];rfl
  rw [j6W hk,j5,jaW b1 (by omega),e2,j3B b3]
  rfl
 ·have e2:(x.1 != 2)=true:=by simpa using hk
  rw [j3B hk,e2,h.b0 hk]
  rfl
theorem jt8 {ls:List j0L} (hn:NmL (ls.map (·.1))) (hc:∀ x∈ls,LCk zs.length ps.length cs.length x) (hl:ls.length≤100) (hz:zs.length≤100) (hp:ps.length≤100) (hcl:cs.length≤100) {m:Int} {nm:ByteArray} {es:List j3l} {l3:List ByteArray}:∀ (n i:Nat),i+n=ls.length→
  j58 m (i:Int) zs ps cs ss nm ls es l3 ((ls.take i).map (·.1))=some (.inr (m,zs,ps,cs,ss,nm,ls,es,l3))
 | 0,i,hi=>by
  rw [ja0]
  simp only [j2Q,show Int.ofNat ls.length=(ls.length:Int) from rfl]
  rw [j00 (by omega),j6,j0d]
 | n+1,i,hi=>by
  have hi':i<ls.length:=by omega
  have hgd:ls.getD i (ByteArray.empty,((0:Int),(((0:Int),(0:Int)),((0:Int),((0:Int),(([]:List Int),(([]:WL),((0:Int),(0:Int)))))))))=ls[i]:=by simp [List.getD,hi']
  obtain ⟨n1,n2⟩:=jnW (·.1) hn hi' (by omega)
  have hck:=hc _ (je hi')
  rw [ja0]
  simp only [j2Q,show Int.ofNat ls.length=(ls.length:Int) from rfl]
  rw [j01 (by omega),j0Y (by omega) (by omega)]
  simp only [j5,j7,hgd]
  rw [j01 (show ((ls.take i).map (·.1)).length+[ls[i].1].length≤j07 by simp [j07];omega),j5,n1,n2]
  simp only [j3,jb,j6]
  rw [show jdK (zs,ps,cs,ss) (ls[i].1,ls[i].2.1,(ls[i].2.2.1.1,ls[i].2.2.1.2),ls[i].2.2.2.1,ls[i].2.2.2.2.1,ls[i].2.2.2.2.2.1,ls[i].2.2.2.2.2.2.1,ls[i].2.2.2.2.2.2.2.1,ls[i].2.2.2.2.2.2.2.2)=_ from jvK hck hz hp hcl]
  simp only [j3,jb,j6]
  rw [j02 (x:=(i:Int)+1) (by omega) (by omega),j09]
  exact jt8 hn hc hl hz hp hcl n (i+1) (by omega)
theorem jt9 {es:List j3l} (hc:∀ x∈es,ECk ps.length x) (hl:es.length≤48) (hp:ps.length≤100) {m:Int} {nm:ByteArray} {ls:List j0L} {l3:List ByteArray}:∀ (n i:Nat),i+n=es.length→
  j59 m (i:Int) zs ps cs ss nm ls es l3=some (.inr (m,zs,ps,cs,ss,l3))
 | 0,i,hi=>by
  rw [ja1]
  simp only [j2R,show Int.ofNat es.length=(es.length:Int) from rfl]
  rw [j00 (by omega),j6,j0d]
 | n+1,i,hi=>by
  have hi':i<es.length:=by omega
  have hgd:es.getD i ((0:Int),((0:Int),((0:Int),((0:Int),(0:Int)))))=es[i]:=by simp [List.getD,hi']
  have hck:=hc _ (je hi')
  rw [ja1]
  simp only [j2R,show Int.ofNat es.length=(es.length:Int) from rfl]
  rw [j01 (by omega),j0Y (by omega) (by omega)]
  simp only [j5,j7,hgd]
  rw [show jge (zs,ps,cs,ss) (es[i].1,es[i].2.1,es[i].2.2.1,es[i].2.2.2.1,es[i].2.2.2.2)=_ from jwR hck hp]
  simp only [j3,jb,j6]
  rw [j02 (x:=(i:Int)+1) (by omega) (by omega),j09]
  exact jt9 hc hl hp n (i+1) (by omega)
theorem juT (hn:NmL (ss.map (·.1))) (hc:∀ x∈ss,SCk zs.length ps.length cs.length x) (hl:ss.length≤100) (hz:zs.length≤100) (hp:ps.length≤100) (hcl:cs.length≤100):∀ (n i:Nat),i+n=ss.length→
  j5a (i:Int) zs ps cs ss ((ss.take i).map (·.1))=some (.inr ())
 | 0,i,hi=>by
  rw [ja2]
  simp only [j2S,show Int.ofNat ss.length=(ss.length:Int) from rfl]
  rw [j00 (by omega),j6,j0d]
 | n+1,i,hi=>by
  have hi':i<ss.length:=by omega
  have hgd:ss.getD i (ByteArray.empty,(([]:List j0L),([]:List j3l)))=ss[i]:=by simp [List.getD,hi']
  obtain ⟨n1,n2⟩:=jnW (·.1) hn hi' (by omega)
  have hck:=hc _ (je hi')
  have h1:=hck.ll;have h2:=hck.el
  have l2:=jt8 (ss:=ss) hck.nm hck.ly (by omega) hz hp hcl (m:=(i:Int)) (nm:=ss[i].1) (es:=ss[i].2.2) (l3:=(ss.take (i+1)).map (·.1)) ss[i].2.1.length 0 (by omega)
  have l4:=jt9 (zs:=zs) (cs:=cs) (ss:=ss) hck.ed h2 hp (m:=(i:Int)) (nm:=ss[i].1) (ls:=ss[i].2.1) (l3:=(ss.take (i+1)).map (·.1)) ss[i].2.2.length 0 (by omega)
  rw [ja2]
  simp only [j2S,show Int.ofNat ss.length=(ss.length:Int) from rfl]
  rw [j01 (by omega),j0Y (by omega) (by omega)]
  simp only [j5,j7,hgd]
  rw [j01 (show ((ss.take i).map (·.1)).length+[ss[i].1].length≤j07 by simp [j07];omega),j5,n1,n2]
  simp only [j3,jb,j6,show Int.ofNat ss[i].2.1.length=(ss[i].2.1.length:Int) from rfl,show Int.ofNat ss[i].2.2.length=(ss[i].2.2.length:Int) from rfl]
  rw [j00 (show ¬ (ss[i].2.1.length:Int)>6 by omega),j00 (show ¬ (ss[i].2.2.length:Int)>48 by omega)]
  simp only [j6]
  rw [show j58 (i:Int) 0 zs ps cs ss ss[i].1 ss[i].2.1 ss[i].2.2 ((ss.take (i+1)).map (·.1)) []=_ from l2]
  simp only [j3,j4Q]
  rw [show j59 (i:Int) 0 zs ps cs ss ss[i].1 ss[i].2.1 ss[i].2.2 ((ss.take (i+1)).map (·.1))=_ from l4]
  simp only [j3,j4Q]
  rw [j02 (x:=(i:Int)+1) (by omega) (by omega),j09]
  exact juT hn hc hl hz hp hcl n (i+1) (by omega)
theorem jvL (h:jbk (zs,(ps,(cs,ss)))) (hr:∀ z∈zs,j5P z=some 0):j8H (zs,(ps,(cs,ss)))=some 0:=by
 have hzl:zs.length≤16:=h.zl
 have hpl:ps.length≤32:=h.pl
 have hcl:cs.length≤8:=h.cl
 have hsl:ss.length≤12:=h.sl
 have lz:=juP (zs:=zs) (ps:=ps) (cs:=cs) (ss:=ss) h.zn h.zc hr (by omega) zs.length 0 (by omega)
 have lp:=juQ (zs:=zs) (ps:=ps) (cs:=cs) (ss:=ss) h.pn h.pc (by omega) (by omega) ps.length 0 (by omega)
 have lc:=juR (zs:=zs) (ps:=ps) (cs:=cs) (ss:=ss) h.cn h.cc (by omega) (by omega) cs.length 0 (by omega)
 have ls:=juT (zs:=zs) (ps:=ps) (cs:=cs) (ss:=ss) h.sn h.sc (by omega) (by omega) (by omega) (by omega) ss.length 0 (by omega)
 simp only [j8H,show Int.ofNat zs.length=(zs.length:Int) from rfl,show Int.ofNat ps.length=(ps.length:Int) from rfl,show Int.ofNat cs.length=(cs.length:Int) from rfl,show Int.ofNat ss.length=(ss.length:Int) from rfl]
 rw [j00 (show ¬ (zs.length:Int)>16 by omega),j00 (show ¬ (ps.length:Int)>32 by omega),j00 (show ¬ (cs.length:Int)>8 by omega),j00 (show ¬ (ss.length:Int)>12 by omega)]
 simp only [j6,jj1,show j8E 0 zs ps cs ss []=_ from lz,j3,j4Q,jb,jh0,show j7m 0 zs ps cs ss []=_ from lp,jck,show j57 0 zs ps cs ss []=_ from lc,jcl,show j5a 0 zs ps cs ss []=_ from ls]
end
theorem r4ck {z:j1l} (h:ZOk z):j5P z=some 0:=by
 have h4:=h.zref.2.1
 simp only [j5P]
 rw [show j1f (z.1,(z.2.1,z.2.2))=_ from h4.1]
 rfl
end Go.Proofs.Pw
