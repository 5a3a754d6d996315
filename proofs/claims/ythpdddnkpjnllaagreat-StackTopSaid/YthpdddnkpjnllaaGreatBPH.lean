/- The reference of chapter 8: configurations that are right. -/
import Derived.Test.YthpdddnkpjnllaaGreatBPG
import Derived.KernelRfl
import Derived.Test.YthpdddnkpjnllaaGreatBPF
open Go Go.Lft
namespace Go.Proofs.Pw
theorem j0p7 {x y:ByteArray} (h:x≠y):(x.toList==y.toList)=false:=by
 rw [ByteArray.toList_eq,ByteArray.toList_eq]
 exact Bool.eq_false_iff.2 fun hh=>h (ByteArray.ext (Array.toList_inj.mp (eq_of_beq hh)))
def okC (b:Int):Prop:=(97≤b∧b≤122)∨(48≤b∧b≤57)∨b=95∨b=45
theorem nmA_lp {s:ByteArray} (hs:s.size≤24):∀ (n i:Nat),i+n=s.size→((j04z s (s.size:Int) (i:Int)).bind fun q0=>sumC q0 (fun a=>some a) (fun _=>some true))=some true→∀ j:Nat,i≤j→j<s.size→okC (strAt s j)
 | 0,i,hi,_,j,h1,h2=>by omega
 | n+1,i,hi,h,j,h1,h2=>by
  rw [j0g3] at h
  simp only [j04W,j0a4,j0ey,Option.bind_some] at h
  rw [j001 (by omega),inR_t (by omega) (by omega),w64_in (x:=(i:Int)+1) (by omega) (by omega)] at h
  simp only [cond_true] at h
  have key:okC (strAt s i)∧((j04z s (s.size:Int) ((i:Int)+1)).bind fun q0=>sumC q0 (fun a=>some a) (fun _=>some true))=some true:=by
   by_cases ha:97≤strAt s i∧strAt s i≤122
   ·rw [j001 (show strAt s i≥97 from ha.1),j001 ha.2] at h
    simp only [cond_true,Bool.not_true,cond_false,lpK_inl] at h
    exact ⟨.inl ha,h⟩
   ·have e:cond (decide (strAt s i≥97)) (decide (strAt s i≤122)) false=false:=by
     by_cases hx:strAt s i≥97
     ·rw [j001 hx,cond_true];exact j000 (by omega)
     ·rw [j000 hx,cond_false]
    rw [e] at h
    simp only [Bool.not_false,cond_true] at h
    by_cases hb:48≤strAt s i∧strAt s i≤57
    ·rw [j001 (show strAt s i≥48 from hb.1),j001 hb.2] at h
     simp only [cond_true,Bool.not_true,cond_false,lpK_inl] at h
     exact ⟨.inr (.inl hb),h⟩
    ·have e2:cond (decide (strAt s i≥48)) (decide (strAt s i≤57)) false=false:=by
      by_cases hx:strAt s i≥48
      ·rw [j001 hx,cond_true];exact j000 (by omega)
      ·rw [j000 hx,cond_false]
     rw [e2] at h
     simp only [Bool.not_false,cond_true] at h
     by_cases hc:strAt s i=95
     ·have e3:(strAt s i != 95)=false:=by rw [hc];rfl
      rw [e3] at h
      simp only [cond_false,lpK_inl] at h
      exact ⟨.inr (.inr (.inl hc)),h⟩
     ·have e3:(strAt s i != 95)=true:=by simpa using hc
      rw [e3] at h
      simp only [cond_true] at h
      by_cases hd:strAt s i=45
      ·have e4:(strAt s i != 45)=false:=by rw [hd];rfl
       rw [e4] at h
       simp only [cond_false,lpK_inl] at h
       exact ⟨.inr (.inr (.inr hd)),h⟩
      ·have e4:(strAt s i != 45)=true:=by simpa using hd
       rw [e4] at h
       simp [lpK_inr,j0mZ] at h
  by_cases hj:j=i
  ·subst hj;exact key.1
  ·exact nmA_lp hs n (i+1) (by omega) key.2 j (by omega) h2
theorem nmB_lp {s:ByteArray} (hs:s.size≤24) (hok:∀ j:Nat,j<s.size→okC (strAt s j)):∀ (n i:Nat),i+n=s.size→j08a s (i:Int)=some (.inr ())
 | 0,i,hi=>by
  rw [j0dt]
  simp only [j04F,show Int.ofNat s.size=(s.size:Int) from rfl]
  rw [j000 (by omega),cond_false,lpK_inr]
 | n+1,i,hi=>by
  have ih:=nmB_lp hs hok n (i+1) (by omega)
  have ho:=hok i (by omega)
  rw [j0dt]
  simp only [j04F,j0hO,Option.bind_some,show Int.ofNat s.size=(s.size:Int) from rfl]
  rw [j001 (by omega),inR_t (by omega) (by omega),w64_in (x:=(i:Int)+1) (by omega) (by omega)]
  simp only [cond_true,Bool.true_or]
  have fin:lpK (some (.inl (s,(i:Int)+1)):Option ((ByteArray×Int) ⊕ (Bool ⊕ Unit))) (fun h=>j08a h.1 h.2)=some (.inr ()):=by rw [lpK_inl];exact ih
  by_cases ha:97≤strAt s i∧strAt s i≤122
  ·rw [j000 (show ¬ strAt s i<97 by omega),j000 (show ¬ strAt s i>122 by omega)]
   exact fin
  ·have e:cond (decide (strAt s i<97)) true (decide (strAt s i>122))=true:=by
    by_cases hx:strAt s i<97
    ·rw [j001 hx,cond_true]
    ·rw [j000 hx,cond_false];exact j001 (by omega)
   rw [e]
   simp only [cond_true]
   by_cases hb:48≤strAt s i∧strAt s i≤57
   ·rw [j001 (show strAt s i≥48 from hb.1),j001 hb.2]
    exact fin
   ·have e2:cond (decide (strAt s i≥48)) (decide (strAt s i≤57)) false=false:=by
     by_cases hx:strAt s i≥48
     ·rw [j001 hx,cond_true];exact j000 (by omega)
     ·rw [j000 hx,cond_false]
    rw [e2]
    rcases ho with ho | ho | ho | ho
    ·exact absurd ho ha
    ·exact absurd ho hb
    ·rw [ho];exact fin
    ·rw [ho];exact fin
theorem r6Name {s:ByteArray} (h:j047 s=some true):j0hP s=some true:=by
 simp only [j047,show Int.ofNat s.size=(s.size:Int) from rfl] at h
 have hz:¬ (cond (s.toList==ByteArray.empty.toList) true (decide ((s.size:Int)>24)))=true:=by
  intro hx
  rw [hx] at h
  simp at h
 have hz':cond (s.toList==ByteArray.empty.toList) true (decide ((s.size:Int)>24))=false:=Bool.eq_false_iff.2 hz
 rw [hz'] at h
 simp only [Bool.not_false,Bool.not_true,Bool.or_false,cond_false] at h
 have h0:inR 0 s.size=true:=by
  cases hc:inR 0 s.size with
  | true=>rfl
  | false=>rw [hc] at h;simp at h
 have hlo:0<s.size:=by
  simp only [inR,Bool.and_eq_true,decide_eq_true_eq] at h0
  omega
 have hhi:s.size≤24:=by
  have:decide ((s.size:Int)>24)=false:=by
   revert hz'
   cases (s.toList==ByteArray.empty.toList)<;>simp
  have:=of_decide_eq_false this
  omega
 rw [h0] at h
 simp only [cond_true,j0a4,Option.bind_some] at h
 have ha:97≤strAt s 0∧strAt s 0≤122:=by
  apply Classical.byContradiction
  intro hn
  have e:cond (decide (strAt s 0≥97)) (decide (strAt s 0≤122)) false=false:=by
   by_cases hx:strAt s 0≥97
   ·rw [j001 hx,cond_true];exact j000 (by omega)
   ·rw [j000 hx,cond_false]
  rw [e] at h
  simp at h
 rw [j001 (show strAt s 0≥97 from ha.1),j001 ha.2] at h
 simp only [cond_true,Bool.not_true,cond_false] at h
 have hok:=nmA_lp hhi s.size 0 (by omega) h
 simp only [j0hP,show Int.ofNat s.size=(s.size:Int) from rfl]
 rw [h0,j000 (show ¬ (s.size:Int)<1 by omega),j000 (show ¬ (s.size:Int)>24 by omega),j000 (show ¬ strAt s 0<97 by omega),j000 (show ¬ strAt s 0>122 by omega)]
 simp only [cond_false,Bool.true_or,cond_true]
 rw [show j08a s 0=_ from nmB_lp hhi (fun j hj=>hok j (by omega) hj) s.size 0 (by omega)]
 rfl
theorem r8in_t {n lo hi:Int} (h1:lo≤n) (h2:n≤hi):r08_in n lo hi=some true:=by
 simp only [r08_in,j001 (show n≥lo from h1),j001 h2,cond_true]
theorem r8in_f {n lo hi:Int} (h:n<lo):r08_in n lo hi=some false:=by
 simp only [r08_in,j000 (show ¬ n≥lo by omega),cond_false]
theorem maxday:j0af=some 98980:=by kernel_rfl
theorem day_mx {d:Int} (h:j00V d=some true):d≤98980:=by
 apply Classical.byContradiction
 intro hd
 simp only [j00V,j04C,j0is,j0ir,Option.bind_some] at h
 rw [j000 (show ¬ d<0 by omega),j001 (show d≥98981 by omega)] at h
 simp at h
theorem day_mn {d:Int} (h:j00V d=some true):0≤d:=by
 apply Classical.byContradiction
 intro hd
 simp only [j00V,j04C,j0is,j0ir,Option.bind_some] at h
 rw [j001 (show d<0 by omega)] at h
 simp at h
theorem r8nm_lp {ks:List ByteArray} (hn:ks.Nodup) {i:Nat} (hi:i<ks.length) {l:List ByteArray} (hl:l=ks.take (i+1)) (hs:ks.length≤1000):∀ (n k:Nat),k+n=i→j0ad l (i:Int) (k:Int)=some (.inr ())
 | 0,k,hk=>by
  rw [j0du]
  simp only [j04G]
  rw [j000 (by omega),cond_false,lpK_inr]
 | n+1,k,hk=>by
  have hll:l.length=i+1:=by rw [hl,List.length_take];omega
  have hk':k<ks.length:=by omega
  have g1:l.getD k ByteArray.empty=ks[k]:=by
   rw [hl,List.getD_eq_getElem?_getD,List.getElem?_take_of_lt (by omega),List.getElem?_eq_getElem hk'];rfl
  have g2:l.getD i ByteArray.empty=ks[i]:=by
   rw [hl,List.getD_eq_getElem?_getD,List.getElem?_take_of_lt (by omega),List.getElem?_eq_getElem hi];rfl
  have hne:ks[k]≠ks[i]:=fun e=>by
   have:=(List.getElem_inj (h₀:=hk') (h₁:=hi) hn).1 e
   omega
  rw [j0du]
  simp only [j04G]
  rw [j001 (by omega),inR_t (show (0:Int)≤(k:Int) by omega) (by omega),inR_t (show (0:Int)≤(i:Int) by omega) (by omega)]
  simp only [cond_true,Int.toNat_natCast,g1,g2,j0p7 hne,cond_false]
  rw [w64_in (x:=(k:Int)+1) (by omega) (by omega),lpK_inl]
  exact r8nm_lp hn hi hl hs n (k+1) (by omega)
theorem r8name {ks:List ByteArray} (h:NmL ks) {i:Nat} (hi:i<ks.length) (hs:ks.length≤1000):j0aw (ks.take (i+1)) (i:Int)=some 0:=by
 have hll:(ks.take (i+1)).length=i+1:=by rw [List.length_take];omega
 have g2:(ks.take (i+1)).getD i ByteArray.empty=ks[i]:=by
  rw [List.getD_eq_getElem?_getD,List.getElem?_take_of_lt (by omega),List.getElem?_eq_getElem hi];rfl
 simp only [j0aw]
 rw [inR_t (by omega) (by omega)]
 simp only [cond_true,Int.toNat_natCast,g2,r6Name (h.2 _ (List.getElem_mem hi)),Option.bind_some,Bool.not_true,cond_false]
 rw [show j0ad (ks.take (i+1)) (i:Int) 0=_ from r8nm_lp h.1 hi rfl hs i 0 (by omega)]
 rfl
theorem r8next {α:Type} (f:α→ByteArray) {xs:List α} (h:NmL (xs.map f)) {i:Nat} (hi:i<xs.length) (hs:xs.length≤1000) :
  (xs.take i).map f++[f xs[i]]=(xs.take (i+1)).map f∧j0aw ((xs.take (i+1)).map f) (i:Int)=some 0:=by
 refine ⟨?_,?_⟩
 ·rw [List.take_add_one,List.getElem?_eq_getElem hi,List.map_append];rfl
 ·have:=r8name h (i:=i) (by simpa using hi) (by simpa using hs)
  rwa [←List.map_take] at this
theorem j0nz {nm:ByteArray} {o:Int} {rs:List Rule} (h:∀ r∈rs,Int.tmod r.2.2.2.2.2.2 60=0) (hl:rs.length≤1000):∀ (n i:Nat),i+n=rs.length→j06k true (i:Int) nm o rs=some true
 | 0,i,hi=>by
  rw [j0b7]
  simp only [j03b,show Int.ofNat rs.length=(rs.length:Int) from rfl]
  rw [j000 (by omega),cond_false,lpK_inr]
 | n+1,i,hi=>by
  have hi':i<rs.length:=by omega
  have hgd:rs.getD i ((0:Int),((0:Int),((0:Int),((0:Int),((0:Int),((0:Int),(0:Int)))))))=rs[i]:=by simp [List.getD,hi']
  rw [j0b7]
  simp only [j03b,show Int.ofNat rs.length=(rs.length:Int) from rfl]
  rw [j001 (by omega),inR_t (by omega) (by omega)]
  simp only [cond_true,Bool.true_or,Int.toNat_natCast,hgd,h _ (List.getElem_mem hi'),beq_self_eq_true]
  rw [w64_in (x:=(i:Int)+1) (by omega) (by omega),lpK_inl]
  exact j0nz h hl n (i+1) (by omega)
theorem r8min {z:ZoneT} (h:ZCk z):j0ae z=some true:=by
 simp only [j0ae,h.o60,beq_self_eq_true]
 rw [show j06k true 0 z.1 z.2.1 z.2.2=_ from j0nz h.r60 h.len z.2.2.length 0 (by omega)]
 rfl
section
variable {zs:List ZoneT} {ps:List PersonT} {cs:List CalT} {ss:List SchedT}
theorem r8z_lp (hn:NmL (zs.map (·.1))) (hc:∀ z∈zs,ZCk z) (hr:∀ z∈zs,j06j z=some 0) (hl:zs.length≤100):∀ (n i:Nat),i+n=zs.length→j08s (i:Int) zs ps cs ss ((zs.take i).map (·.1))=some (.inr ())
 | 0,i,hi=>by
  rw [j0cJ]
  simp only [j04b,show Int.ofNat zs.length=(zs.length:Int) from rfl]
  rw [j000 (by omega),cond_false,lpK_inr]
 | n+1,i,hi=>by
  have hi':i<zs.length:=by omega
  have hgd:zs.getD i (ByteArray.empty,((0:Int),([]:List Rule)))=zs[i]:=by simp [List.getD,hi']
  obtain ⟨n1,n2⟩:=r8next (·.1) hn hi' (by omega)
  have hck:=hc _ (List.getElem_mem hi')
  rw [j0cJ]
  simp only [j04b,show Int.ofNat zs.length=(zs.length:Int) from rfl]
  rw [j001 (by omega),inR_t (by omega) (by omega)]
  simp only [cond_true,Int.toNat_natCast,hgd]
  rw [j001 (show ((zs.take i).map (·.1)).length+[zs[i].1].length≤sizeMax by simp [sizeMax];omega),cond_true,n1,n2]
  simp only [Option.bind_some,bne_self_eq_false,cond_false,show j06j (zs[i].1,(zs[i].2.1,zs[i].2.2))=_ from hr _ (List.getElem_mem hi'),Bool.true_or,cond_true,show j0ae (zs[i].1,(zs[i].2.1,zs[i].2.2))=_ from r8min hck,Bool.not_true]
  rw [w64_in (x:=(i:Int)+1) (by omega) (by omega),lpK_inl]
  exact r8z_lp hn hc hr hl n (i+1) (by omega)
theorem r5ck_lp {w:WL} (h:WOk 0 w) (hl:w.length≤14):∀ (n i:Nat),i+n=w.length→j08t w (i:Int)=some (.inr ())
 | 0,i,hi=>by
  rw [j0cK]
  simp only [j04c,show Int.ofNat w.length=(w.length:Int) from rfl]
  rw [j000 (by omega),cond_false,lpK_inr]
 | n+1,i,hi=>by
  have hi':i<w.length:=by omega
  have hg:=wok_get h i hi'
  have ih:=r5ck_lp h hl n (i+1) (by omega)
  rw [j0cK]
  simp only [j04c,show Int.ofNat w.length=(w.length:Int) from rfl]
  rw [j001 (by omega),inR_t (by omega) (by omega)]
  simp only [cond_true,Int.toNat_natCast]
  rw [j000 (show ¬ (w.getD i (0,0)).1<0 by omega),j000 (show ¬ (w.getD i (0,0)).1≥(w.getD i (0,0)).2 by omega),j000 (show ¬ (w.getD i (0,0)).2>604800 by omega),w64_in (x:=(i:Int)+1) (by omega) (by omega)]
  simp only [cond_false]
  by_cases h0:(i:Int)>0
  ·obtain ⟨k,rfl⟩:∃ k,i=k+1:=⟨i-1,by omega⟩
   have hgap:=wok_gap h k (by omega)
   rw [j001 h0,cond_true,w64_in (x:=((k+1:Nat):Int)-1) (by omega) (by omega),show ((k+1:Nat):Int)-1=(k:Int) by omega,inR_t (show (0:Int)≤(k:Int) by omega) (by omega)]
   simp only [cond_true,Int.toNat_natCast]
   rw [j000 (show ¬ (w.getD (k+1) (0,0)).1<(w.getD k (0,0)).2 by omega),cond_false,lpK_inl]
   exact ih
  ·rw [j000 h0,cond_false,lpK_inl]
   exact ih
theorem r5ck {w:WL} (h:WOk 0 w) (hl:w.length≤14):j0ct w=some 0:=by
 simp only [j0ct,show Int.ofNat w.length=(w.length:Int) from rfl]
 rw [j000 (by omega),cond_false,show j08t w 0=_ from r5ck_lp h hl w.length 0 (by omega)]
 rfl
theorem r8hrs {n:Int} (h:j03T n=some true):j0fJ n=some true:=h
theorem r8p_lp (hn:NmL (ps.map (·.1))) (hc:∀ p∈ps,PCk zs.length p) (hl:ps.length≤100) (hzl:zs.length≤100):∀ (n i:Nat),i+n=ps.length→j07e (i:Int) zs ps cs ss ((ps.take i).map (·.1))=some (.inr ())
 | 0,i,hi=>by
  rw [j0bz]
  simp only [j03I,show Int.ofNat ps.length=(ps.length:Int) from rfl]
  rw [j000 (by omega),cond_false,lpK_inr]
 | n+1,i,hi=>by
  have hi':i<ps.length:=by omega
  have hgd:ps.getD i (ByteArray.empty,((0:Int),(([]:WL),((0:Int),((0:Int),false)))))=ps[i]:=by simp [List.getD,hi']
  obtain ⟨n1,n2⟩:=r8next (·.1) hn hi' (by omega)
  have hck:=hc _ (List.getElem_mem hi')
  have h0:=hck.z0;have h1:=hck.z1
  rw [j0bz]
  simp only [j03I,show Int.ofNat ps.length=(ps.length:Int) from rfl,show Int.ofNat zs.length=(zs.length:Int) from rfl]
  rw [j001 (by omega),inR_t (by omega) (by omega)]
  simp only [cond_true,Int.toNat_natCast,hgd]
  rw [j001 (show ((ps.take i).map (·.1)).length+[ps[i].1].length≤sizeMax by simp [sizeMax];omega),cond_true,n1,n2,hck.nb,w64_in (x:=(zs.length:Int)-1) (by omega) (by omega),r8in_t h0 (by omega)]
  simp only [Option.bind_some,bne_self_eq_false,cond_false,Bool.not_true,r5ck hck.w hck.wl,r8hrs hck.m,r8hrs hck.r]
  rw [w64_in (x:=(i:Int)+1) (by omega) (by omega),lpK_inl]
  exact r8p_lp hn hc hl hzl n (i+1) (by omega)
theorem r8c2_lp {ds:List Int} (h:∀ d∈ds,j00V d=some true) (hl:ds.length≤64) {m z:Int} {nm:ByteArray} {l3:List ByteArray}:∀ (n i:Nat),i+n=ds.length→j04H m (i:Int) zs ps cs ss nm z ds l3=some (.inr (m,zs,ps,cs,ss,nm,z,ds,l3))
 | 0,i,hi=>by
  rw [j09g]
  simp only [j02z,show Int.ofNat ds.length=(ds.length:Int) from rfl]
  rw [j000 (by omega),cond_false,lpK_inr]
 | n+1,i,hi=>by
  have hi':i<ds.length:=by omega
  have hgd:ds.getD i (0:Int)=ds[i]:=by simp [hi']
  have hd:=h _ (List.getElem_mem hi')
  rw [j09g]
  simp only [j02z,show Int.ofNat ds.length=(ds.length:Int) from rfl]
  rw [j001 (by omega),inR_t (by omega) (by omega)]
  simp only [cond_true,Int.toNat_natCast,hgd,maxday,Option.bind_some,r8in_t (day_mn hd) (day_mx hd),Bool.not_true,cond_false]
  rw [w64_in (x:=(i:Int)+1) (by omega) (by omega),lpK_inl]
  exact r8c2_lp h hl n (i+1) (by omega)
theorem r8c4_lp {ds:List Int} (h:ds.Pairwise (· < ·)) (hl:ds.length≤64) {m z:Int} {nm:ByteArray} {l3:List ByteArray}:∀ (n i:Nat),ds.length≤i+n→1≤i→j04I m (i:Int) zs ps cs ss nm z ds l3=some (.inr (m,zs,ps,cs,ss,l3))
 | n,i,hi,h1=>by
  rw [j0dz]
  simp only [j03r,show Int.ofNat ds.length=(ds.length:Int) from rfl]
  by_cases hi':i<ds.length
  ·obtain ⟨n,rfl⟩:∃ m,n=m+1:=⟨n-1,by omega⟩
   obtain ⟨k,rfl⟩:∃ k,i=k+1:=⟨i-1,by omega⟩
   have hgd:ds.getD (k+1) (0:Int)=ds[k+1]:=by simp [hi']
   have hgk:ds.getD k (0:Int)=ds[k]:=by simp [show k<ds.length by omega]
   have hlt:=List.pairwise_iff_getElem.1 h k (k+1) (by omega) hi' (by omega)
   rw [j001 (by omega),inR_t (by omega) (by omega),w64_in (x:=((k+1:Nat):Int)-1) (by omega) (by omega),show ((k+1:Nat):Int)-1=(k:Int) by omega,inR_t (show (0:Int)≤(k:Int) by omega) (by omega)]
   simp only [cond_true,Int.toNat_natCast,hgd,hgk]
   rw [j000 (show ¬ ds[k+1]≤ds[k] by omega),cond_false,w64_in (x:=((k+1:Nat):Int)+1) (by omega) (by omega),lpK_inl]
   exact r8c4_lp h hl n (k+1+1) (by omega) (by omega)
  ·rw [j000 (by omega),cond_false,lpK_inr]
 termination_by n=>n
theorem r8c_lp (hn:NmL (cs.map (·.1))) (hc:∀ x∈cs,CCk zs.length x) (hl:cs.length≤100) (hzl:zs.length≤100):∀ (n i:Nat),i+n=cs.length→j04J (i:Int) zs ps cs ss ((cs.take i).map (·.1))=some (.inr ())
 | 0,i,hi=>by
  rw [j09h]
  simp only [j02A,show Int.ofNat cs.length=(cs.length:Int) from rfl]
  rw [j000 (by omega),cond_false,lpK_inr]
 | n+1,i,hi=>by
  have hi':i<cs.length:=by omega
  have hgd:cs.getD i (ByteArray.empty,((0:Int),([]:List Int)))=cs[i]:=by simp [List.getD,hi']
  obtain ⟨n1,n2⟩:=r8next (·.1) hn hi' (by omega)
  have hck:=hc _ (List.getElem_mem hi')
  have h0:=hck.z0;have h1:=hck.z1;have h2:=hck.len
  have l2:=r8c2_lp (zs:=zs) (ps:=ps) (cs:=cs) (ss:=ss) hck.day h2 (m:=(i:Int)) (z:=cs[i].2.1) (nm:=cs[i].1) (l3:=(cs.take (i+1)).map (·.1)) cs[i].2.2.length 0 (by omega)
  have l4:=r8c4_lp (zs:=zs) (ps:=ps) (cs:=cs) (ss:=ss) hck.asc h2 (m:=(i:Int)) (z:=cs[i].2.1) (nm:=cs[i].1) (l3:=(cs.take (i+1)).map (·.1)) cs[i].2.2.length 1 (by omega) (by omega)
  rw [j09h]
  simp only [j02A,show Int.ofNat cs.length=(cs.length:Int) from rfl,show Int.ofNat zs.length=(zs.length:Int) from rfl]
  rw [j001 (by omega),inR_t (by omega) (by omega)]
  simp only [cond_true,Int.toNat_natCast,hgd]
  rw [j001 (show ((cs.take i).map (·.1)).length+[cs[i].1].length≤sizeMax by simp [sizeMax];omega),cond_true,n1,n2,w64_in (x:=(zs.length:Int)-1) (by omega) (by omega),r8in_t h0 (by omega)]
  simp only [Option.bind_some,bne_self_eq_false,cond_false,Bool.not_true,show Int.ofNat cs[i].2.2.length=(cs[i].2.2.length:Int) from rfl]
  rw [j000 (by omega),cond_false,show j04H (i:Int) 0 zs ps cs ss cs[i].1 cs[i].2.1 cs[i].2.2 ((cs.take (i+1)).map (·.1))=_ from l2]
  simp only [Option.bind_some,j05K]
  rw [show j04I (i:Int) 1 zs ps cs ss cs[i].1 cs[i].2.1 cs[i].2.2 ((cs.take (i+1)).map (·.1))=_ from l4]
  simp only [Option.bind_some,j05K]
  rw [w64_in (x:=(i:Int)+1) (by omega) (by omega),lpK_inl]
  exact r8c_lp hn hc hl hzl n (i+1) (by omega)
theorem r8l_lp {L:LayerT} (h:∀ m∈L.2.2.2.2.2.1,0≤m∧m<(ps.length:Int)) (hl:L.2.2.2.2.2.1.length≤12) (hp:ps.length≤100):∀ (n i:Nat),i+n=L.2.2.2.2.2.1.length→
  j08u (i:Int) zs ps cs ss L.1 L.2.1 L.2.2.1.1 L.2.2.1.2 L.2.2.2.1 L.2.2.2.2.1 L.2.2.2.2.2.1 L.2.2.2.2.2.2.1 L.2.2.2.2.2.2.2.1 L.2.2.2.2.2.2.2.2=some (.inr (zs,ps,cs,ss,L.1,L.2.1,L.2.2.1.1,L.2.2.1.2,L.2.2.2.1,L.2.2.2.2.1,L.2.2.2.2.2.1,L.2.2.2.2.2.2.1,L.2.2.2.2.2.2.2.1,L.2.2.2.2.2.2.2.2))
 | 0,i,hi=>by
  rw [j0cL]
  simp only [j04d,show Int.ofNat L.2.2.2.2.2.1.length=(L.2.2.2.2.2.1.length:Int) from rfl]
  rw [j000 (by omega),cond_false,lpK_inr]
 | n+1,i,hi=>by
  have hi':i<L.2.2.2.2.2.1.length:=by omega
  have hgd:L.2.2.2.2.2.1.getD i (0:Int)=L.2.2.2.2.2.1[i]:=by simp [hi']
  have hd:=h _ (List.getElem_mem hi')
  rw [j0cL]
  simp only [j04d,show Int.ofNat L.2.2.2.2.2.1.length=(L.2.2.2.2.2.1.length:Int) from rfl,show Int.ofNat ps.length=(ps.length:Int) from rfl]
  rw [j001 (by omega),inR_t (by omega) (by omega),w64_in (x:=(ps.length:Int)-1) (by omega) (by omega)]
  simp only [cond_true,Int.toNat_natCast,hgd,r8in_t hd.1 (show L.2.2.2.2.2.1[i]≤(ps.length:Int)-1 by omega),Option.bind_some,Bool.not_true,cond_false]
  rw [w64_in (x:=(i:Int)+1) (by omega) (by omega),lpK_inl]
  exact r8l_lp h hl hp n (i+1) (by omega)
theorem r8layer {L:LayerT} (h:LCk zs.length ps.length cs.length L) (hz:zs.length≤100) (hp:ps.length≤100) (hc:cs.length≤100):j0dA (zs,(ps,(cs,ss))) L=some 0:=by
 have h0:=h.z0;have h1:=h.z1;have hm0:=h.m0;have hm1:=h.m1;have hc1:=h.c1;have hwl:=h.wl
 have lp:=r8l_lp (zs:=zs) (ps:=ps) (cs:=cs) (ss:=ss) h.mem hm1 hp L.2.2.2.2.2.1.length 0 (by omega)
 simp only [j0dA,show Int.ofNat zs.length=(zs.length:Int) from rfl,show Int.ofNat L.2.2.2.2.2.1.length=(L.2.2.2.2.2.1.length:Int) from rfl]
 rw [w64_in (x:=(zs.length:Int)-1) (by omega) (by omega),r8in_t h0 (by omega),maxday]
 simp only [Option.bind_some,Bool.not_true,cond_false,r8in_t h.d0 (day_mx h.day),r8in_t h.c0 hc1,r8in_t h.u0 h.u1,r8in_t h.e0 h.e1]
 rw [beq_f (show ¬ (L.2.2.2.2.2.1.length:Int)=0 by omega),j000 (show ¬ (L.2.2.2.2.2.1.length:Int)>12 by omega)]
 simp only [cond_false]
 rw [show j08u 0 zs ps cs ss L.1 L.2.1 L.2.2.1.1 L.2.2.1.2 L.2.2.2.1 L.2.2.2.2.1 L.2.2.2.2.2.1 L.2.2.2.2.2.2.1 L.2.2.2.2.2.2.2.1 L.2.2.2.2.2.2.2.2=_ from lp]
 simp only [Option.bind_some,j05K,r5ck h.w hwl,bne_self_eq_false,cond_false,r8in_t h.mode0 h.mode1,Bool.not_true,show Int.ofNat cs.length=(cs.length:Int) from rfl]
 rw [w64_in (x:=(cs.length:Int)-1) (by omega) (by omega)]
 by_cases hm:L.2.2.2.2.2.2.2.2=0
 ·have e:(L.2.2.2.2.2.2.2.2 != 0)=false:=by rw [hm];rfl
  have e2:(L.2.2.2.2.2.2.2.1 != 0)=false:=by rw [h.cal0 hm];rfl
  rw [e,e2,beq_t hm]
  rfl
 ·have e:(L.2.2.2.2.2.2.2.2 != 0)=true:=by simpa using hm
  have hcal:=h.cal hm
  rw [e,beq_f hm,r8in_t hcal.1 (by omega)]
  rfl
theorem r8edit {x:EditT} (h:ECk ps.length x) (hp:ps.length≤100):j0g7 (zs,(ps,(cs,ss))) x=some 0:=by
 have hf0:=h.f0;have hft:=h.ft;have ht1:=h.t1;have hd:=day_mx h.day
 have htd:Int.tdiv x.2.2.2.2 86400=x.2.2.2.2/86400:=tdiv_nn (by omega)
 have hin:∃ b,r08_in x.2.1 0 ((ps.length:Int)-1)=some b∧cond (!b) (cond (x.1 != 1) true (x.2.1 != -1)) false=false:=by
  rcases h.a with ⟨a1,a2⟩ | ⟨a1,a2⟩
  ·exact ⟨true,r8in_t a1 (by omega),rfl⟩
  ·exact ⟨false,r8in_f (by omega),by rw [a1,a2];rfl⟩
 obtain ⟨b,eb,hb⟩:=hin
 simp only [j0g7,show Int.ofNat ps.length=(ps.length:Int) from rfl]
 rw [w64_in (x:=(ps.length:Int)-1) (by omega) (by omega),r8in_t h.k0 h.k1,eb]
 simp only [Option.bind_some,Bool.not_true,cond_false,hb]
 rw [j000 (show ¬ x.2.2.2.1<0 by omega),j000 (show ¬ x.2.2.2.2<0 by omega),w64_in (x:=Int.tdiv x.2.2.2.2 86400) (by rw [htd];omega) (by rw [htd];omega),maxday]
 simp only [cond_false,Option.bind_some]
 rw [j000 (show ¬ Int.tdiv x.2.2.2.2 86400>98980 by omega),j000 (show ¬ x.2.2.2.1≥x.2.2.2.2 by omega)]
 simp only [cond_false]
 by_cases hk:x.1=2
 ·obtain ⟨b1,b2,b3⟩:=h.b hk
  have e2:(x.1 != 2)=false:=by rw [hk];rfl
  rw [beq_t hk,cond_true,r8in_t b1 (by omega),e2,beq_f b3]
  rfl
 ·have e2:(x.1 != 2)=true:=by simpa using hk
  rw [beq_f hk,e2,h.b0 hk]
  rfl
theorem r8s2_lp {ls:List LayerT} (hn:NmL (ls.map (·.1))) (hc:∀ x∈ls,LCk zs.length ps.length cs.length x) (hl:ls.length≤100) (hz:zs.length≤100) (hp:ps.length≤100) (hcl:cs.length≤100) {m:Int} {nm:ByteArray} {es:List EditT} {l3:List ByteArray}:∀ (n i:Nat),i+n=ls.length→
  j04K m (i:Int) zs ps cs ss nm ls es l3 ((ls.take i).map (·.1))=some (.inr (m,zs,ps,cs,ss,nm,ls,es,l3))
 | 0,i,hi=>by
  rw [j09i]
  simp only [j02B,show Int.ofNat ls.length=(ls.length:Int) from rfl]
  rw [j000 (by omega),cond_false,lpK_inr]
 | n+1,i,hi=>by
  have hi':i<ls.length:=by omega
  have hgd:ls.getD i (ByteArray.empty,((0:Int),(((0:Int),(0:Int)),((0:Int),((0:Int),(([]:List Int),(([]:WL),((0:Int),(0:Int)))))))))=ls[i]:=by simp [List.getD,hi']
  obtain ⟨n1,n2⟩:=r8next (·.1) hn hi' (by omega)
  have hck:=hc _ (List.getElem_mem hi')
  rw [j09i]
  simp only [j02B,show Int.ofNat ls.length=(ls.length:Int) from rfl]
  rw [j001 (by omega),inR_t (by omega) (by omega)]
  simp only [cond_true,Int.toNat_natCast,hgd]
  rw [j001 (show ((ls.take i).map (·.1)).length+[ls[i].1].length≤sizeMax by simp [sizeMax];omega),cond_true,n1,n2]
  simp only [Option.bind_some,bne_self_eq_false,cond_false]
  rw [show j0dA (zs,ps,cs,ss) (ls[i].1,ls[i].2.1,(ls[i].2.2.1.1,ls[i].2.2.1.2),ls[i].2.2.2.1,ls[i].2.2.2.2.1,ls[i].2.2.2.2.2.1,ls[i].2.2.2.2.2.2.1,ls[i].2.2.2.2.2.2.2.1,ls[i].2.2.2.2.2.2.2.2)=_ from r8layer hck hz hp hcl]
  simp only [Option.bind_some,bne_self_eq_false,cond_false]
  rw [w64_in (x:=(i:Int)+1) (by omega) (by omega),lpK_inl]
  exact r8s2_lp hn hc hl hz hp hcl n (i+1) (by omega)
theorem r8s4_lp {es:List EditT} (hc:∀ x∈es,ECk ps.length x) (hl:es.length≤48) (hp:ps.length≤100) {m:Int} {nm:ByteArray} {ls:List LayerT} {l3:List ByteArray}:∀ (n i:Nat),i+n=es.length→
  j04L m (i:Int) zs ps cs ss nm ls es l3=some (.inr (m,zs,ps,cs,ss,l3))
 | 0,i,hi=>by
  rw [j09j]
  simp only [j02C,show Int.ofNat es.length=(es.length:Int) from rfl]
  rw [j000 (by omega),cond_false,lpK_inr]
 | n+1,i,hi=>by
  have hi':i<es.length:=by omega
  have hgd:es.getD i ((0:Int),((0:Int),((0:Int),((0:Int),(0:Int)))))=es[i]:=by simp [List.getD,hi']
  have hck:=hc _ (List.getElem_mem hi')
  rw [j09j]
  simp only [j02C,show Int.ofNat es.length=(es.length:Int) from rfl]
  rw [j001 (by omega),inR_t (by omega) (by omega)]
  simp only [cond_true,Int.toNat_natCast,hgd]
  rw [show j0g7 (zs,ps,cs,ss) (es[i].1,es[i].2.1,es[i].2.2.1,es[i].2.2.2.1,es[i].2.2.2.2)=_ from r8edit hck hp]
  simp only [Option.bind_some,bne_self_eq_false,cond_false]
  rw [w64_in (x:=(i:Int)+1) (by omega) (by omega),lpK_inl]
  exact r8s4_lp hc hl hp n (i+1) (by omega)
theorem r8s_lp (hn:NmL (ss.map (·.1))) (hc:∀ x∈ss,SCk zs.length ps.length cs.length x) (hl:ss.length≤100) (hz:zs.length≤100) (hp:ps.length≤100) (hcl:cs.length≤100):∀ (n i:Nat),i+n=ss.length→
  j04M (i:Int) zs ps cs ss ((ss.take i).map (·.1))=some (.inr ())
 | 0,i,hi=>by
  rw [j09k]
  simp only [j02D,show Int.ofNat ss.length=(ss.length:Int) from rfl]
  rw [j000 (by omega),cond_false,lpK_inr]
 | n+1,i,hi=>by
  have hi':i<ss.length:=by omega
  have hgd:ss.getD i (ByteArray.empty,(([]:List LayerT),([]:List EditT)))=ss[i]:=by simp [List.getD,hi']
  obtain ⟨n1,n2⟩:=r8next (·.1) hn hi' (by omega)
  have hck:=hc _ (List.getElem_mem hi')
  have h1:=hck.ll;have h2:=hck.el
  have l2:=r8s2_lp (ss:=ss) hck.nm hck.ly (by omega) hz hp hcl (m:=(i:Int)) (nm:=ss[i].1) (es:=ss[i].2.2) (l3:=(ss.take (i+1)).map (·.1)) ss[i].2.1.length 0 (by omega)
  have l4:=r8s4_lp (zs:=zs) (cs:=cs) (ss:=ss) hck.ed h2 hp (m:=(i:Int)) (nm:=ss[i].1) (ls:=ss[i].2.1) (l3:=(ss.take (i+1)).map (·.1)) ss[i].2.2.length 0 (by omega)
  rw [j09k]
  simp only [j02D,show Int.ofNat ss.length=(ss.length:Int) from rfl]
  rw [j001 (by omega),inR_t (by omega) (by omega)]
  simp only [cond_true,Int.toNat_natCast,hgd]
  rw [j001 (show ((ss.take i).map (·.1)).length+[ss[i].1].length≤sizeMax by simp [sizeMax];omega),cond_true,n1,n2]
  simp only [Option.bind_some,bne_self_eq_false,cond_false,show Int.ofNat ss[i].2.1.length=(ss[i].2.1.length:Int) from rfl,show Int.ofNat ss[i].2.2.length=(ss[i].2.2.length:Int) from rfl]
  rw [j000 (show ¬ (ss[i].2.1.length:Int)>6 by omega),j000 (show ¬ (ss[i].2.2.length:Int)>48 by omega)]
  simp only [cond_false]
  rw [show j04K (i:Int) 0 zs ps cs ss ss[i].1 ss[i].2.1 ss[i].2.2 ((ss.take (i+1)).map (·.1)) []=_ from l2]
  simp only [Option.bind_some,j05K]
  rw [show j04L (i:Int) 0 zs ps cs ss ss[i].1 ss[i].2.1 ss[i].2.2 ((ss.take (i+1)).map (·.1))=_ from l4]
  simp only [Option.bind_some,j05K]
  rw [w64_in (x:=(i:Int)+1) (by omega) (by omega),lpK_inl]
  exact r8s_lp hn hc hl hz hp hcl n (i+1) (by omega)
theorem R8_ok (h:CfgOk (zs,(ps,(cs,ss)))) (hr:∀ z∈zs,j06j z=some 0):j0cu (zs,(ps,(cs,ss)))=some 0:=by
 have hzl:zs.length≤16:=h.zl
 have hpl:ps.length≤32:=h.pl
 have hcl:cs.length≤8:=h.cl
 have hsl:ss.length≤12:=h.sl
 have lz:=r8z_lp (zs:=zs) (ps:=ps) (cs:=cs) (ss:=ss) h.zn h.zc hr (by omega) zs.length 0 (by omega)
 have lp:=r8p_lp (zs:=zs) (ps:=ps) (cs:=cs) (ss:=ss) h.pn h.pc (by omega) (by omega) ps.length 0 (by omega)
 have lc:=r8c_lp (zs:=zs) (ps:=ps) (cs:=cs) (ss:=ss) h.cn h.cc (by omega) (by omega) cs.length 0 (by omega)
 have ls:=r8s_lp (zs:=zs) (ps:=ps) (cs:=cs) (ss:=ss) h.sn h.sc (by omega) (by omega) (by omega) (by omega) ss.length 0 (by omega)
 simp only [j0cu,show Int.ofNat zs.length=(zs.length:Int) from rfl,show Int.ofNat ps.length=(ps.length:Int) from rfl,show Int.ofNat cs.length=(cs.length:Int) from rfl,show Int.ofNat ss.length=(ss.length:Int) from rfl]
 rw [j000 (show ¬ (zs.length:Int)>16 by omega),j000 (show ¬ (ps.length:Int)>32 by omega),j000 (show ¬ (cs.length:Int)>8 by omega),j000 (show ¬ (ss.length:Int)>12 by omega)]
 simp only [cond_false,j0hQ,show j08s 0 zs ps cs ss []=_ from lz,Option.bind_some,j05K,bne_self_eq_false,j0g6,show j07e 0 zs ps cs ss []=_ from lp,j0bA,show j04J 0 zs ps cs ss []=_ from lc,j0bB,show j04M 0 zs ps cs ss []=_ from ls]
end
theorem r4ck {z:ZoneT} (h:ZOk z):j06j z=some 0:=by
 have h4:=h.zref.2.1
 simp only [j06j]
 rw [show j017 (z.1,(z.2.1,z.2.2))=_ from h4.1]
 rfl
end Go.Proofs.Pw
open Go Go.Lft
namespace Go.Proofs.Pw
theorem r10_l0 {z:ZoneT} {l:TrL} (hz:Z4 z l) {L:LayerT} (h:Rt L) {t N:Int} (hN:N≤8589934592):∀ n:Nat,(n:Int)≤N→
  ∃ K:Int,j05N t ((n:Int)-1) z.1 z.2.1 z.2.2 L.1 L.2.1 L.2.2.1.1 L.2.2.1.2 L.2.2.2.1 L.2.2.2.2.1 L.2.2.2.2.2.1 L.2.2.2.2.2.2.1 L.2.2.2.2.2.2.2.1 L.2.2.2.2.2.2.2.2=some K∧
   (K = -1∨0≤K∧QO z.2.1 l L t K)∧K<n∧∀ j:Int,K<j→0≤j→j<n→¬ QO z.2.1 l L t j
 | 0,_=>by
  rw [j0cM]
  simp only [j04e]
  rw [j000 (by omega),cond_false,lpK_inr]
  exact ⟨_,rfl,.inl (by omega),by omega,fun j h1 h2 h3=>by omega⟩
 | n+1,hn=>by
  obtain ⟨K,e,k0,k1,k2⟩:=r10_l0 hz h (t:=t) hN n (by omega)
  obtain ⟨v,hH,hv⟩:=r10H hz h (k:=(n:Int)) (by omega) (by omega)
  rw [j0cM,show ((n+1:Nat):Int)-1=(n:Int) by omega]
  simp only [j04e]
  rw [j001 (by omega),cond_true,show j08w (z.1,(z.2.1,z.2.2)) (L.1,L.2.1,(L.2.2.1.1,L.2.2.1.2),L.2.2.2.1,L.2.2.2.2.1,L.2.2.2.2.2.1,L.2.2.2.2.2.2.1,L.2.2.2.2.2.2.2.1,L.2.2.2.2.2.2.2.2) (n:Int)=_ from hH]
  simp only [Option.bind_some]
  rw [w64_in (x:=(n:Int)-1) (by omega) (by omega)]
  have down:¬ QO z.2.1 l L t (n:Int)→(lpK (some (Sum.inl (t,(n:Int)-1,z.1,z.2.1,z.2.2,L.1,L.2.1,L.2.2.1.1,L.2.2.1.2,L.2.2.2.1,L.2.2.2.2.1,L.2.2.2.2.2.1,L.2.2.2.2.2.2.1,L.2.2.2.2.2.2.2.1,L.2.2.2.2.2.2.2.2)):Option ((Int×Int×ByteArray×Int×List Rule×ByteArray×Int×Int×Int×Int×Int×List Int×WL×Int×Int) ⊕ Int)) (fun h=>j05N h.1 h.2.1 h.2.2.1 h.2.2.2.1 h.2.2.2.2.1 h.2.2.2.2.2.1 h.2.2.2.2.2.2.1 h.2.2.2.2.2.2.2.1 h.2.2.2.2.2.2.2.2.1 h.2.2.2.2.2.2.2.2.2.1 h.2.2.2.2.2.2.2.2.2.2.1 h.2.2.2.2.2.2.2.2.2.2.2.1 h.2.2.2.2.2.2.2.2.2.2.2.2.1 h.2.2.2.2.2.2.2.2.2.2.2.2.2.1 h.2.2.2.2.2.2.2.2.2.2.2.2.2.2))=some K∧∀ j:Int,K<j→0≤j→j<((n+1:Nat):Int)→¬ QO z.2.1 l L t j:=by
   intro hq
   refine ⟨by rw [lpK_inl];exact e,fun j h1 h2 h3=> ?_⟩
   by_cases hjn:j<n
   ·exact k2 j h1 h2 hjn
   ·rw [show j=(n:Int) by omega];exact hq
  cases hx:hO z.2.1 l L (n:Int) with
  | none=>
   simp only [Option.isSome_none,cond_false]
   obtain ⟨d1,d2⟩:=down fun ⟨y,hy,_⟩=>by rw [hx] at hy;simp at hy
   exact ⟨K,d1,k0,by omega,d2⟩
  | some x=>
   have:=hv x hx
   subst this
   simp only [Option.isSome_some,cond_true]
   by_cases hc:v≤t
   ·rw [j001 hc,cond_true,lpK_inr]
    exact ⟨_,rfl,.inr ⟨by omega,v,hx,hc⟩,by omega,fun j h1 h2 h3=>by omega⟩
   ·rw [j000 hc,cond_false]
    obtain ⟨d1,d2⟩:=down fun ⟨y,hy,hyt⟩=>by rw [hx] at hy;simp at hy;omega
    exact ⟨K,d1,k0,by omega,d2⟩
theorem r10Sh {z:ZoneT} {l:TrL} (hz:Z4 z l) {L:LayerT} (h:Rt L) {t:Int} (h0t:0≤t) (htt:t≤8589934592):∃ K:Int,j0dE z L t=some K∧ShO z.2.1 l L t K:=by
 have hs:=h.step
 have hd0:=h.d0;have hd1:=h.d1;have he0:=h.e0;have he1:=h.e1;have hc0:=h.c0;have hc1:=h.c1
 simp only [j0dE]
 by_cases h0:L.2.2.2.1=0
 ·have hF:=j0fa hz (d:=L.2.2.1.1) (c:=L.2.2.1.2) (by omega) hc0 hc1
  have hs0:L.2.2.1.1*86400+L.2.2.1.2=sLoc L 0:=by unfold sLoc;omega
  rw [beq_t h0,cond_true,show j04w (z.1,(z.2.1,z.2.2)) (L.2.2.1.1,L.2.2.1.2)=_ from hF,hs0]
  simp only [Option.bind_some]
  have nq:(∀ v,fO z.2.1 l (sLoc L 0)=some v→t<v)→¬ QO z.2.1 l L t 0:=by
   rintro hn ⟨y,hy,hyt⟩
   have:=hn y (hO_zero h0 hy)
   omega
  cases hf:fO z.2.1 l (sLoc L 0) with
  | none=>exact ⟨-1,rfl,.inl ⟨rfl,nq fun v hv=>by rw [hf] at hv;simp at hv⟩⟩
  | some v=>
   have hva:=fO_at hz.2 hf
   simp only [beq_self_eq_true,cond_true]
   by_cases hc:v≤t
   ·obtain ⟨s1,s2,s3⟩:=j0nw (o:=z.2.1) (l:=l) h h0 htt hf hc hva.2.1
    rw [j001 hc,cond_true,w64_in (x:=t-v) (by omega) (by omega),w64_in (x:=3600*L.2.2.2.2.1) (by omega) (by omega),beq_f (show ¬ 3600*L.2.2.2.2.1=0 by omega),Int.tdiv_eq_ediv_of_nonneg (by omega),w64_in (x:=(t-v)/(3600*L.2.2.2.2.1)) (by omega) (by omega)]
    exact ⟨_,rfl,s1⟩
   ·rw [j000 hc]
    exact ⟨-1,rfl,.inl ⟨rfl,nq fun v' hv=>by rw [hf] at hv;simp at hv;omega⟩⟩
 ·obtain ⟨j,hj,j1,j2⟩:=j0if hz.2 h0t htt
  have o0:=hz.2.of0 j hj;have o1:=hz.2.of1 j hj
  have eT:=j0nt hz (t:=t) h0t htt hj j1 j2
  rw [beq_f h0,cond_false,show j034 (z.1,(z.2.1,z.2.2)) t=_ from eT]
  simp only [Option.bind_some]
  have hday:∀ k:Int,QO z.2.1 l L t k→L.2.2.1.1+k*stepD L≤(t+tof z.2.1 l j)/86400+2:=fun k hq=>QO.day hz.2 h h0 hq hj
  generalize hld:(t+tof z.2.1 l j)/86400=ld at hday
  rw [w64_in (x:=ld+2) (by omega) (by omega),w64_in (x:=ld+2-L.2.2.1.1) (by omega) (by omega)]
  have fin:∀ st:Int,st=stepD L→∃ K:Int,((j05N t (w64 (Int.tdiv (if (0:Int)>ld+2-L.2.2.1.1 then (0:Int) else ld+2-L.2.2.1.1) st)) z.1 z.2.1 z.2.2 L.1 L.2.1 L.2.2.1.1 L.2.2.1.2 L.2.2.2.1 L.2.2.2.2.1 L.2.2.2.2.2.1 L.2.2.2.2.2.2.1 L.2.2.2.2.2.2.2.1 L.2.2.2.2.2.2.2.2).bind fun q0=>some q0)=some K∧ShO z.2.1 l L t K:=by
   rintro st rfl
   obtain ⟨m,hm,hm0,hm1⟩:∃ m:Int,(if (0:Int)>ld+2-L.2.2.1.1 then (0:Int) else ld+2-L.2.2.1.1)=m∧0≤m∧m≤1000000:=⟨_,rfl,by split<;>omega,by split<;>omega⟩
   have hml:ld+2-L.2.2.1.1≤m:=by rw [←hm];split<;>omega
   rw [hm,Int.tdiv_eq_ediv_of_nonneg hm0]
   have q0:0≤m/stepD L:=Int.ediv_nonneg hm0 (by omega)
   have q1:m/stepD L≤m:=Int.ediv_le_self _ hm0
   have q2:m<stepD L*(m/stepD L)+stepD L:=Int.lt_mul_ediv_self_add (by omega)
   rw [w64_in (by omega) (by omega)]
   generalize m/stepD L=km at *
   obtain ⟨K,e,k0,k1,k2⟩:=r10_l0 hz h (t:=t) (Int.le_refl _) (km+1).toNat (by omega)
   rw [show (((km+1).toNat:Nat):Int)-1=km by omega] at e
   rw [e]
   refine ⟨K,rfl,?_⟩
   have top:¬ QO z.2.1 l L t (K+1):=by
    by_cases hK:K+1≤km
    ·exact k2 (K+1) (by omega) (by rcases k0 with k0 | k0<;>omega) (by omega)
    ·intro hq
     have hd:=hday _ hq
     have hkk:K=km:=by omega
     rw [hkk,Int.add_mul,Int.one_mul] at hd
     have:stepD L*km=km*stepD L:=Int.mul_comm _ _
     omega
   rcases k0 with k0 | k0
   ·subst k0;exact .inl ⟨rfl,top⟩
   ·exact .inr ⟨k0.1,k0.2,top⟩
  by_cases h2:L.2.2.2.1=2
  ·have hsd:stepD L=7*L.2.2.2.2.1:=by unfold stepD;rw [if_pos h2]
   rw [beq_t h2,cond_true,w64_in (x:=L.2.2.2.2.1*7) (by omega) (by omega),beq_f (show ¬ L.2.2.2.2.1*7=0 by omega)]
   simp only [Bool.not_false,cond_true]
   exact fin _ (by rw [hsd,Int.mul_comm])
  ·have hsd:stepD L=L.2.2.2.2.1:=by unfold stepD;rw [if_neg h2]
   rw [beq_f h2,cond_false,beq_f (show ¬ L.2.2.2.2.1=0 by omega)]
   simp only [Bool.not_false,cond_true]
   exact fin _ hsd.symm
end Go.Proofs.Pw
open Go Go.Lft
namespace Go.Proofs.Pw
instance (L:LayerT):Decidable (Rt L):=
 decidable_of_iff (1≤L.2.2.1.1∧L.2.2.1.1≤100000∧0≤L.2.2.1.2∧L.2.2.1.2≤86399∧0≤L.2.2.2.1∧L.2.2.2.1≤2∧1≤L.2.2.2.2.1∧L.2.2.2.2.1≤400∧L.2.2.2.2.2.1≠[])
  ⟨fun ⟨a,b,c,d,e,f,g,h,i⟩=>⟨a,b,c,d,e,f,g,h,i⟩,fun ⟨a,b,c,d,e,f,g,h,i⟩=>⟨a,b,c,d,e,f,g,h,i⟩⟩
section
variable {z:ZoneT} {l:TrL} (h4:Z4 z l)
include h4
theorem j0m9 (L:LayerT):j0dB z L=some (if Rt L then 0 else 8):=by
 have hc:j06j (z.1,(z.2.1,z.2.2))=some 0:=by
  simp only [j06j,show j017 (z.1,(z.2.1,z.2.2))=_ from h4.1,Option.bind_some]
 simp only [j0dB,hc,Option.bind_some,bne_self_eq_false,cond_false]
 have key:(cond (cond (cond (cond (cond (cond (cond (cond (decide (L.2.2.1.1<1)) true (decide (L.2.2.1.1>100000))) true (decide (L.2.2.1.2<0))) true (decide (L.2.2.1.2≥86400))) true (decide (L.2.2.2.1<0))) true (decide (L.2.2.2.1>2))) true (decide (L.2.2.2.2.1<1))) true (decide (L.2.2.2.2.1>400))) true (Int.ofNat L.2.2.2.2.2.1.length==0)) = !decide (Rt L):=by
  have hlen:(Int.ofNat L.2.2.2.2.2.1.length==0)=decide (L.2.2.2.2.2.1=[]):=by
   cases L.2.2.2.2.2.1 with
   | nil=>rfl
   | cons x r=>simp;omega
  rw [hlen]
  rw [Bool.eq_iff_iff]
  simp only [Bool.not_eq_true',decide_eq_false_iff_not]
  constructor
  ·intro hh h
   have a1:=h.d0;have a2:=h.d1;have a3:=h.c0;have a4:=h.c1;have a5:=h.u0;have a6:=h.u1;have a7:=h.e0;have a8:=h.e1
   rw [j000 (show ¬ L.2.2.1.1<1 by omega),j000 (show ¬ L.2.2.1.1>100000 by omega),j000 (show ¬ L.2.2.1.2<0 by omega),j000 (show ¬ L.2.2.1.2≥86400 by omega),j000 (show ¬ L.2.2.2.1<0 by omega),j000 (show ¬ L.2.2.2.1>2 by omega),j000 (show ¬ L.2.2.2.2.1<1 by omega),j000 (show ¬ L.2.2.2.2.1>400 by omega),j000 h.m0] at hh
   simp at hh
  ·intro hn
   by_cases a1:L.2.2.1.1<1
   ·rw [j001 a1];rfl
   rw [j000 a1]
   by_cases a2:L.2.2.1.1>100000
   ·rw [j001 a2];rfl
   rw [j000 a2]
   by_cases a3:L.2.2.1.2<0
   ·rw [j001 a3];rfl
   rw [j000 a3]
   by_cases a4:L.2.2.1.2≥86400
   ·rw [j001 a4];rfl
   rw [j000 a4]
   by_cases a5:L.2.2.2.1<0
   ·rw [j001 a5];rfl
   rw [j000 a5]
   by_cases a6:L.2.2.2.1>2
   ·rw [j001 a6];rfl
   rw [j000 a6]
   by_cases a7:L.2.2.2.2.1<1
   ·rw [j001 a7];rfl
   rw [j000 a7]
   by_cases a8:L.2.2.2.2.1>400
   ·rw [j001 a8];rfl
   rw [j000 a8]
   by_cases a9:L.2.2.2.2.2.1=[]
   ·rw [j001 a9];rfl
   exact absurd ⟨by omega,by omega,by omega,by omega,by omega,by omega,by omega,by omega,a9⟩ hn
 rw [key]
 by_cases h:Rt L
 ·rw [j001 h,if_pos h];rfl
 ·rw [j000 h,if_neg h];rfl
end
end Go.Proofs.Pw
