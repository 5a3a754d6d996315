/- Chapter 4: the reference's answers for right zones. -/
import Derived.Test.YtcegmhnnglcgeaaGreatHPE
import Derived.Test.YtcegmhnnglcgeaaGreatHPB
import Derived.KernelRfl
import Derived.Test.YtcegmhnnglcgeaaGreatHLD
import Derived.Test.YtcegmhnnglcgeaaGreatHPA
import Derived.Test.YtcegmhnnglcgeaaGreatHFns
import Derived.Test.YtcegmhnnglcgeaaGreatHPC
noncomputable section
open Go Go.Lft
namespace Go.Proofs.Pw
section
variable {o:Int} {l:TrL} (h:TOk o l)
include h
theorem jp6 {t:Int} {k:Nat} (hk:k≤l.length) (h1:frm l k≤t) (h2:t<frm l (k+1)):∀ (n i:Nat),i+n=k→j8o l t (tof o l i) (i:Int)=some (tof o l k)
 | 0,i,hi=>by
  have hi:i=k:=by omega
  subst hi
  have hlen:=h.len
  rw [jez]
  simp only [j4A,show Int.ofNat (List.length l)=(l.length:Int) from rfl]
  by_cases hlt:i<l.length
  ·have e:frm l (i+1)=tat l i:=jpX hlt
   rw [j4c (by omega) (by omega),j03 (show (i:Int)<(l.length:Int) by omega)]
   simp only [Bool.true_or,j5,j7]
   rw [j01 (show ¬ (l.getD i ((0:Int),(0:Int))).1≤t by show ¬ tat l i≤t;omega),j6,j0M]
  ·rw [j01 (show ¬ (i:Int)<(l.length:Int) by omega)]
   simp only [Bool.not_false,Bool.or_true,j5,j6,j0M]
 | n+1,i,hi=>by
  have hlen:=h.len
  have hlt:i<l.length:=by omega
  have e:frm l (i+1)=tat l i:=jpX hlt
  have hle:=h.frm_le (i:=i+1) (j:=k) (by omega) (by omega)
  rw [jez]
  simp only [j4A,show Int.ofNat (List.length l)=(l.length:Int) from rfl]
  rw [j4c (by omega) (by omega),j03 (show (i:Int)<(l.length:Int) by omega)]
  simp only [Bool.true_or,j5,j7]
  rw [j03 (show (l.getD i ((0:Int),(0:Int))).1≤t by show tat l i≤t;omega),j5,j06 (by omega) (by omega),j0O]
  exact jp6 hk h1 h2 n (i+1) (by omega)
theorem jth {nm:ByteArray} {rs:List Rule} {t:Int} {k:Nat} (hk:k≤l.length) (h1:frm l k≤t) (h2:t<frm l (k+1)):jg5 (nm,(o,rs)) l t=some (tof o l k):=by
 have:=jp6 h hk h1 h2 k 0 (by omega)
 simp only [jg5]
 rw [show j8o l t o 0=_ from this]
 rfl
end
theorem jrB {t o:Int} (h1 : -864000≤t+o) (h2:t+o≤1000000000000):jhP t o=some ((t+o)/86400,(t+o)%86400):=by
 simp only [jhP]
 rw [j06 (x:=t+o) (by omega) (by omega),j06 (x:=t+o+864000) (by omega) (by omega),jfC (by omega),jld (by omega),j06 (x:=(t+o+864000)/86400) (by omega) (by omega),j06 (by omega) (by omega)]
 congr 2<;>omega
section
variable {z:ByteArray×(Int×List Rule)} {l:TrL} (h:Z4 z l)
include h
theorem ju9 {t:Int} {k:Nat} (h0:0≤t) (h1:t≤8589934592) (hk:k≤l.length) (hk1:frm l k≤t) (hk2:t<frm l (k+1)):j9W z t=some (tof z.2.1 l k,0):=by
 simp only [j9W,show j57 (z.1,(z.2.1,z.2.2))=_ from h.1,j3,bne_self_eq_false,j6,jfM h0 h1,Bool.not_true,jth h.2 hk hk1 hk2]
theorem jua {t:Int} {k:Nat} (h0:0≤t) (h1:t≤8589934592) (hk:k≤l.length) (hk1:frm l k≤t) (hk2:t<frm l (k+1)):j9f z t=some (((t+tof z.2.1 l k)/86400,(t+tof z.2.1 l k)%86400),0):=by
 have o1:=h.2.of0 k hk;have o2:=h.2.of1 k hk
 simp only [j9f,show j9W (z.1,(z.2.1,z.2.2)) t=_ from ju9 h h0 h1 hk hk1 hk2,j3,bne_self_eq_false,j6,jrB (show -864000≤t+tof z.2.1 l k by omega) (by omega)]
end
def fO (o:Int) (l:TrL) (s:Int):Option Int:=open Classical in if h:∃ t k,Fst o l s t k then some (Classical.choose h) else none
structure Rt (L:jaT):Prop where
 d0:1≤L.2.2.1.1
 d1:L.2.2.1.1≤100000
 c0:0≤L.2.2.1.2
 c1:L.2.2.1.2≤86399
 u0:0≤L.2.2.2.1
 u1:L.2.2.2.1≤2
 e0:1≤L.2.2.2.2.1
 e1:L.2.2.2.2.1≤400
 m0:L.2.2.2.2.2.1≠[]
def hO (o:Int) (l:TrL) (L:jaT) (k:Int):Option Int:=
 if L.2.2.2.1=0 then (fO o l (sLoc L 0)).bind fun t=>if t+3600*L.2.2.2.2.1*k≤8589934592 then some (t+3600*L.2.2.2.2.1*k) else none
 else fO o l (sLoc L k)
def tb (z:j40):Int×TrL:=(z.2.1,outT z.2.1 (j6M (occs z.2.2)))
theorem ZOk.ztab {z:j40} (h:ZOk z):ZTab z (tb z).2:=MZ.tab (o:=z.2.1) (rs:=z.2.2) h z.1
theorem ZOk.zdif {z:j40} (h:ZOk z):Dif z.2.1 (tb z).2:=jq3 _ _ _ (MZ.good h)
theorem ZOk.zref {z:j40} (h:ZOk z):ZTab z (tb z).2∧Z4 z (tb z).2∧Dif z.2.1 (tb z).2:=⟨h.ztab,MZ.r4 (o:=z.2.1) (rs:=z.2.2) h z.1,h.zdif⟩
theorem jti {zs:List j40} (h:∀ z∈zs,ZOk z) (hl:zs.length≤100):∀ (n i:Nat),i+n=zs.length→j4K zs (zs.length:Int) (i:Int) ((zs.take i).map tb)=some (zs.map tb)
 | 0,i,hi=>by
  rw [jdl]
  simp only [j1N]
  rw [j01 (by omega),j6,j0M,List.take_of_length_le (by omega)]
 | n+1,i,hi=>by
  have hlt:i<zs.length:=by omega
  have hgd:zs.getD i (ByteArray.empty,((0:Int),([]:List Rule)))=zs[i]:=by simp [hlt]
  have ht:=jwk (h zs[i] (List.getElem_mem hlt)).ztab
  have ih:=jti h hl n (i+1) (by omega)
  rw [List.take_add_one,List.getElem?_eq_getElem hlt,List.map_append] at ih
  rw [jdl]
  simp only [j1N]
  rw [j03 (by omega),j4c (by omega) (by omega),j06 (x:=(i:Int)+1) (by omega) (by omega)]
  simp only [j5,j7,hgd]
  rw [show jff (zs[i].1,(zs[i].2.1,zs[i].2.2))=_ from ht]
  simp only [j3]
  rw [j03 (by simp [j0d];omega),j5,j0O]
  exact ih
theorem jvi {zs:List j40} (h:∀ z∈zs,ZOk z) (hl:zs.length≤100) {ps:List j2D} {cs:List CalT} {ss:List j5e}:jbm (zs,(ps,(cs,ss)))=some ((zs,(ps,(cs,ss))),zs.map tb):=by
 have lp:=jti h hl zs.length 0 (by omega)
 simp only [jbm,j97,show Int.ofNat zs.length=(zs.length:Int) from rfl]
 rw [show j4K zs (zs.length:Int) 0 []=_ from lp]
 rfl
theorem jw4 {zs:List j40} {i:Int} (h0:0≤i) (h1:i<(zs.length:Int)):List.getD (zs.map tb) i.toNat ((0:Int),([]:TrL))=tb (zs.getD i.toNat (ByteArray.empty,((0:Int),([]:List Rule)))):=by
 have hlt:i.toNat<zs.length:=by omega
 simp [List.getD_eq_getElem?_getD,hlt]
theorem zget {zs:List j40} (h:∀ z∈zs,ZOk z) {i:Int} (h0:0≤i) (h1:i<(zs.length:Int)):ZOk (zs.getD i.toNat (ByteArray.empty,((0:Int),([]:List Rule)))):=by
 have hlt:i.toNat<zs.length:=by omega
 rw [List.getD_eq_getElem?_getD,List.getElem?_eq_getElem hlt]
 exact h _ (List.getElem_mem hlt)
theorem jw5 {z:j40} (hz:ZOk z) {t:Int} (h0:0≤t) (h1:t≤8589934592):∃ d s,j0P (tb z) t=some d∧j3M d=some s:=by
 have ht:=hz.ztab
 obtain ⟨j,hj,j1,j2⟩:=jqJ ht.2 h0 h1
 have o0:=ht.2.of0 j hj;have o1:=ht.2.of1 j hj
 obtain ⟨s,hs⟩:∃ s,j3M ((t+tof z.2.1 (tb z).2 j)/86400,(t+tof z.2.1 (tb z).2 j)%86400)=some s:=by
  simp only [j3M,jmv,j3]
  exact ⟨_,rfl⟩
 exact ⟨_,s,jqK ht.2 hj j1 j2,hs⟩
section
variable {zs:List j40} {ps:List j2D} {cs:List CalT} {ss:List j5e}
theorem jw6 (hz:∀ z∈zs,ZOk z) (hc:jq5 (zs,(ps,(cs,ss)))):jfg (zs,(ps,(cs,ss)))=some (((zs,(ps,(cs,ss))),zs.map tb),true):=by
 have hzl:zs.length≤16:=hc.zl
 simp only [jfg,show j4p (zs,(ps,(cs,ss)))=_ from jq6 hc,j3,bne_self_eq_false,j6,jvi (ps:=ps) (cs:=cs) (ss:=ss) hz (show zs.length≤100 by omega)]
end
def nms3:List ByteArray:=[(ByteArray.mk #[102,105,114,115,116]),(ByteArray.mk #[115,101,99,111,110,100]),(ByteArray.mk #[116,104,105,114,100])]
theorem jvj:NmL nms3:=by
 refine ⟨by decide,fun k hk=> ?_⟩
 simp only [nms3,List.mem_cons,List.not_mem_nil,or_false] at hk
 rcases hk with rfl | rfl | rfl<;>exact j8B 60 _ true (by kernel_rfl)
structure SG (nz np nc:Nat) (s:j5e):Prop where
 ck:SCk nz np nc s
 nm:s.2.1.map (·.1)=nmsL.take s.2.1.length
 ll:s.2.1.length≤3
 el:s.2.2.length≤3
theorem juw {L:List Int} {zs:List j40} {ps:List j2D} {cs:List CalT} (hs:SOk zs ps cs):∀ (n:Nat) (a:Int) (ss:List j5e),DOk L a→ss.length+n≤3→ss.map (·.1)=nms3.take ss.length→(∀ s∈ss,SG zs.length ps.length cs.length s)→
  ∃ ss' a',j5t (n:Int) L a zs ps cs ss=some (L,a',zs,ps,cs,ss')∧ss'.length=ss.length+n∧ss'.map (·.1)=nms3.take ss'.length∧(∀ s∈ss',SG zs.length ps.length cs.length s)∧DOk L a'
 | 0,a,ss,hd,hl,hn,hg=>by
  rw [j8Z]
  simp only [j2x]
  rw [j01 (by omega),j6,j0M]
  exact ⟨ss,a,rfl,rfl,hn,hg,hd⟩
 | n+1,a,ss,hd,hl,hn,hg=>by
  have hlt:ss.length<nms3.length:=by show ss.length<3;omega
  have hmod:Int.tmod (Int.ofNat ss.length) 3=(ss.length:Int):=by
   have:Int.tmod (ss.length:Int) 3=(ss.length:Int):=Int.tmod_eq_of_lt (by omega) (by omega)
   exact this
  obtain ⟨k,a3,e3,k0,k1,d3⟩:=j0E (n:=4) hd (by omega) (by omega)
  obtain ⟨ls,a4,e4,l4,lk,ln,d4⟩:=jvY (s6:=((n+1:Nat):Int)) (nm:=List.getD nms3 ss.length ByteArray.empty) (ss:=ss) hs k.toNat a3 [] d3 (by simp;omega) (by simp) rfl
  obtain ⟨m,a5,e5,m0,m1,d5⟩:=j0E (n:=4) d4 (by omega) (by omega)
  obtain ⟨es,a6,e6,l6,ek,d6⟩:=jvZ (s6:=((n+1:Nat):Int)) (nm:=List.getD nms3 ss.length ByteArray.empty) (zs:=zs) (cs:=cs) (ss:=ss) (ls:=ls) hs m.toNat a5 [] d5 (by simp;omega) (by simp)
  rw [show ((k.toNat:Nat):Int)=k by omega] at e4
  rw [show ((m.toNat:Nat):Int)=m by omega] at e6
  have hnew:SG zs.length ps.length cs.length (List.getD nms3 ss.length ByteArray.empty,(ls,es)):=
   ⟨⟨by dsimp only;rw [ln];exact jtc.take _,lk,by dsimp only;omega,ek,by dsimp only;omega⟩,ln,l4,l6⟩
  obtain ⟨ss',a',e',h1,h2,h3,h4⟩:=juw hs n a6 (ss++[(List.getD nms3 ss.length ByteArray.empty,(ls,es))]) d6 (by simp;omega) (by
   rw [List.map_append,hn,List.length_append]
   exact jnL hlt) (fun s h=>by
   rcases List.mem_append.1 h with h | h
   ·exact hg s h
   ·simp at h;subst h;exact hnew)
  rw [j8Z]
  simp only [j2x]
  rw [j03 (show ((n+1:Nat):Int)>0 by omega),hmod,j4c (by omega) (by show (ss.length:Int)<(3:Nat);omega)]
  simp only [j5,j7,e3,j3]
  rw [show j48 ((n+1:Nat):Int) k L a3 zs ps cs (List.getD [(ByteArray.mk #[102,105,114,115,116]),(ByteArray.mk #[115,101,99,111,110,100]),(ByteArray.mk #[116,104,105,114,100])] ss.length ByteArray.empty) ss []=_ from e4]
  simp only [j3,e5,e6]
  rw [j03 (by simp [j0d];omega),j06 (by omega) (by omega),show ((n+1:Nat):Int)-1=(n:Int) by omega]
  simp only [j5,j0O]
  exact ⟨ss',a',e',by rw [h1];simp;omega,h2,h3,h4⟩
theorem jrC {L:List Int} {a n:Int} (h:DOk L a) (n0:1≤n) (n1:n≤3):∃ zs ps cs ss a',j7w L a n=some ((zs,(ps,(cs,ss))),L,a')∧SOk2 zs ps cs∧1≤ss.length∧(ss.length:Int)≤n∧ss.map (·.1)=nms3.take ss.length∧(∀ s∈ss,SG zs.length ps.length cs.length s)∧DOk L a':=by
 obtain ⟨zs,ps,cs,a1,e1,hs,d1⟩:=jtf h
 obtain ⟨x,a2,e2,x0,x1,d2⟩:=j0E (n:=n) d1 (by omega) (by omega)
 obtain ⟨ss,a3,e3,h1,h2,h3,d3⟩:=juw hs.so (1+x).toNat a2 [] d2 (by simp;omega) (by simp) (by simp)
 rw [show (((1+x).toNat:Nat):Int)=1+x by omega] at e3
 simp at h1
 simp only [j7w,e1,e2,j3]
 rw [j06 (x:=1+x) (by omega) (by omega)]
 simp only [e3,j3]
 exact ⟨zs,ps,cs,ss,a3,rfl,hs,by omega,by omega,h2,h3,d3⟩
theorem jvk {zs:List j40} {ps:List j2D} {cs:List CalT} {ss:List j5e} (hs:SOk2 zs ps cs) (h0:ss.length≤12) (h1:NmL (ss.map (·.1))) (h2:∀ s∈ss,SCk zs.length ps.length cs.length s):jq5 (zs,(ps,(cs,ss))):=jw0 hs h0 h1 h2
theorem jux:j9e=some true:=jnI 60 true (by kernel_rfl)
abbrev SL:=List (Int×Int)
def Sml (l:SL):Prop:=∀ s∈l, -1000000000000≤s.1∧s.1≤1000000000000 ∧ -1000000000000≤s.2∧s.2≤1000000000000
section
variable {zs:List j40} {ps:List j2D} {cs:List CalT} (hs:SOk2 zs ps cs)
include hs
omit hs in
def zAt (zs:List j40) (i:Int):j40:=zs.getD i.toNat (ByteArray.empty,((0:Int),([]:List Rule)))
omit hs in
def locD (z:j40) (t:Int):Int×Int:=(j0P (tb z) t).getD (0,0)
omit hs in
def secD (d:Int×Int):Int:=(j3M d).getD 0
omit hs in
theorem jtj {z:j40} (hz:ZOk z) {t:Int} (h0:0≤t) (h1:t≤8589934592):j0P (tb z) t=some (locD z t)∧j3M (locD z t)=some (secD (locD z t)):=by
 obtain ⟨d,s,hd,hsc⟩:=jw5 hz h0 h1
 have:locD z t=d:=by simp [locD,hd]
 rw [this]
 exact ⟨hd,by simp [secD,hsc]⟩
end
abbrev SgT:=Int×(Int×Int)
abbrev SgL:=List SgT
def lstP:Option Int→SgL→Option Int
 | q,[]=>q
 | _,s::r=>lstP (some s.2.2) r
instance (L:jaT):Decidable (Rt L):=
 decidable_of_iff (1≤L.2.2.1.1∧L.2.2.1.1≤100000∧0≤L.2.2.1.2∧L.2.2.1.2≤86399∧0≤L.2.2.2.1∧L.2.2.2.1≤2∧1≤L.2.2.2.2.1∧L.2.2.2.2.1≤400∧L.2.2.2.2.2.1≠[])
  ⟨fun ⟨a,b,c,d,e,f,g,h,i⟩=>⟨a,b,c,d,e,f,g,h,i⟩,fun ⟨a,b,c,d,e,f,g,h,i⟩=>⟨a,b,c,d,e,f,g,h,i⟩⟩
theorem jwx {z:j40} (hz:ZOk z) {t:Int} (h0:0≤t) (h1:t≤8589934592):j9f z t=some (locD z t,0):=by
 have h4:=hz.zref.2.1
 obtain ⟨k,hk,k1,k2⟩:=jqJ h4.2 h0 h1
 have e:=jqK h4.2 hk k1 k2
 have:locD z t=((t+tof z.2.1 (tb z).2 k)/86400,(t+tof z.2.1 (tb z).2 k)%86400):=by
  simp only [locD,show j0P (tb z) t=_ from e,Option.getD_some]
 rw [this]
 exact jua h4 h0 h1 hk k1 k2
section
variable {zs:List j40} {ps:List j2D} {cs:List CalT} (hs:SOk2 zs ps cs)
include hs
omit hs in
theorem tabx {i:Int} (h0:0≤i) (h1:i<(zs.length:Int)) {c:CfgT}:j2a (c,zs.map tb) i=some (tb (zAt zs i)):=by
 simp only [j2a,List.length_map]
 rw [j4c h0 h1,j5,jw4 h0 h1]
 rfl
end
theorem jvl {z:j40} (hz:ZOk z) {t:Int} (h0:0≤t) (h1:t≤8589934592):jdp z t=some (secD (locD z t),0):=by
 have e1:=jwx hz h0 h1
 obtain ⟨_,hsc⟩:=jtj hz h0 h1
 have e2:jg6 (locD z t)=some (secD (locD z t)):=hsc
 simp only [jdp,show j9f (z.1,(z.2.1,z.2.2)) t=_ from e1,j3,bne_self_eq_false,j6,show jg6 ((locD z t).1,(locD z t).2)=_ from e2]
theorem juy {a b c d:Int} {w:WL} (hl:w.length≤100) {zs:List j40} {ps:List j2D} {cs:List CalT} {ss:List j5e}:∀ (n i:Nat) (q:Bool),i+n=w.length→
  j3G a b c d q w (w.length:Int) (i:Int) zs ps cs ss=some (a,b,d,cond q true (hasB c (w.drop i)),zs,ps,cs,ss)
 | 0,i,q,hi=>by
  rw [j8p]
  simp only [j2d]
  rw [j01 (by omega),j6,j0M,List.drop_of_length_le (by omega)]
  cases q<;>rfl
 | n+1,i,q,hi=>by
  have hi':i<w.length:=by omega
  have hgd:w.getD i ((0:Int),(0:Int))=w[i]:=by simp [List.getD,hi']
  rw [j8p]
  simp only [j2d]
  rw [j03 (show (i:Int)<(w.length:Int) by omega),j4c (by omega) (by omega),j06 (x:=(i:Int)+1) (by omega) (by omega)]
  simp only [j5,j7,hgd,j0O]
  have ih:=juy (a:=a) (b:=b) (c:=c) (d:=d) hl (zs:=zs) (ps:=ps) (cs:=cs) (ss:=ss) n (i+1) (cond q true (cond (decide (w[i].1≤c)) (decide (c<w[i].2)) false)) (by omega)
  rw [show ((i+1:Nat):Int)=(i:Int)+1 by omega] at ih
  rw [ih,List.drop_eq_getElem_cons hi']
  simp only [hasB]
  cases q<;>cases cond (decide (w[i].1≤c)) (decide (c<w[i].2)) false<;>rfl
section
variable {zs:List j40} {ps:List j2D} {cs:List CalT} (hs:SOk2 zs ps cs)
include hs
theorem jqS {ss:List j5e} (hc:jq5 (zs,(ps,(cs,ss)))) {p t:Int} (h0:0≤t) (h1:t≤8589934592) :
  j43 (zs,(ps,(cs,ss))) p t t=some (((zs,(ps,(cs,ss))),zs.map tb),cond (decide (0≤p∧p<ps.length)) 0 3):=by
 simp only [j43,jw6 hs.so.ok hc,j3,Bool.not_true,j6,show Int.ofNat ps.length=(ps.length:Int) from rfl,jfZ]
 by_cases hp:0≤p∧p<(ps.length:Int)
 ·rw [j03 hp,j01 (show ¬ p<0 by omega),j01 (show ¬ p≥(ps.length:Int) by omega),j06 (x:=t-t) (by omega) (by omega),j03 (show t≥0 by omega),j03 (show t≤8589934592 by omega),j03 (show t≥t by omega),j03 (show t-t≤34560000 by omega)]
  rfl
 ·rw [j01 hp]
  by_cases hp0:p<0
  ·rw [j03 hp0];rfl
  ·rw [j01 hp0,j03 (show p≥(ps.length:Int) by omega)];rfl
theorem jqT {ss:List j5e} (hc:jq5 (zs,(ps,(cs,ss)))) {i:Nat} (hi:i<ps.length) {t:Int} (h0:0≤t) (h1:t≤8589934592) (u:Bool) :
  j0F (zs,(ps,(cs,ss))) (i:Int) t u=some (cond (cond u ps[i].2.2.2.2.2 false) true (!hasB (secD (locD (zAt zs ps[i].2.1) t)) ps[i].2.2.1)):=by
 have hpc:=hc.pc ps[i] (List.getElem_mem hi)
 have hz:ZOk (zAt zs ps[i].2.1):=zget hs.so.ok hpc.z0 hpc.z1
 obtain ⟨l1,l2⟩:=jtj hz h0 h1
 have hgd:ps.getD i (ByteArray.empty,((0:Int),(([]:List (Int×Int)),((0:Int),((0:Int),false)))))=ps[i]:=by simp [List.getD,hi]
 simp only [j0F]
 rw [show j43 (zs,ps,cs,ss) (i:Int) t t=_ from jqS hs hc h0 h1,j03 (show (0:Int)≤(i:Int)∧(i:Int)<(ps.length:Int) by omega)]
 simp only [j3,j5,bne_self_eq_false,j6]
 rw [j4c (by omega) (by omega)]
 simp only [j5,j7,hgd]
 rw [show j2a ((zs,ps,cs,ss),zs.map tb) ps[i].2.1=_ from tabx hpc.z0 hpc.z1]
 simp only [j3]
 rw [show j0P ((tb (zAt zs ps[i].2.1)).1,(tb (zAt zs ps[i].2.1)).2) t=_ from l1]
 simp only [j3]
 rw [show j3M ((locD (zAt zs ps[i].2.1) t).1,(locD (zAt zs ps[i].2.1) t).2)=_ from l2]
 simp only [j3,jvM hpc.wl]
 cases u<;>cases ps[i].2.2.2.2.2<;>rfl
theorem jub {ss:List j5e} (hc:jq5 (zs,(ps,(cs,ss)))) {t:Int} (h0:0≤t) (h1:t≤8589934592) (u:Bool):j0F (zs,(ps,(cs,ss))) (ps.length:Int) t u=some false:=by
 simp only [j0F]
 rw [show j43 (zs,ps,cs,ss) (ps.length:Int) t t=_ from jqS hs hc h0 h1,j01 (show ¬ ((0:Int)≤(ps.length:Int)∧(ps.length:Int)<(ps.length:Int)) by omega)]
 rfl
end
theorem jjW (t:List Int) (_h:Wf (.list (.int .i64)) t) (n:Int) (_h1:Wf (.int .i64) n):j9g t n=some true:=by
 simp only [j9g,jiN,j3,show Int.ofNat (List.length t)=(t.length:Int) from rfl]
 by_cases hl:(t.length:Int)≤500
 ·rw [j03 hl]
  simp only [Bool.not_true,j6,jkO,j3]
  obtain ⟨zs,ps,cs,ss,a1,e1,hs,g0,g1,g2,g3,d1⟩:=jrC (L:=t) (a:=0) (n:=1) ⟨by omega,by omega,by omega⟩ (by omega) (by omega)
  have hc:=jvk hs (ss:=ss) (by omega) (by rw [g2];exact jvj.take _) (fun s h=>(g3 s h).ck)
  have hp0:=hs.so.p0;have hp1:=hs.so.p1
  obtain ⟨p,a2,e2,p0,p1,d2⟩:=j0E (n:=(ps.length:Int)) d1 (by omega) (by omega)
  obtain ⟨x,a3,e3,x0,x1,d3⟩:=jmy d2
  obtain ⟨i,rfl⟩:∃ i:Nat,p=i:=⟨p.toNat,by omega⟩
  have hi:i<ps.length:=by omega
  have hpc:=hc.pc ps[i] (List.getElem_mem hi)
  have hz:ZOk (zAt zs ps[i].2.1):=zget hs.so.ok hpc.z0 hpc.z1
  have n0:=Int.emod_nonneg n (show (7200:Int)≠0 by omega)
  have n1:=Int.emod_lt_of_pos n (show (0:Int)<7200 by omega)
  have hgd:ps.getD i (ByteArray.empty,((0:Int),(([]:List (Int×Int)),((0:Int),((0:Int),false)))))=ps[i]:=by simp [List.getD,hi]
  have hi5:=jvl hz (t:=x+n%7200) (by omega) (by omega)
  have hwl:=hpc.wl
  have lp:=juy (a:=(i:Int)) (b:=x+n%7200) (c:=secD (locD (zAt zs ps[i].2.1) (x+n%7200))) (d:=0) (w:=ps[i].2.2.1) (by omega) (zs:=zs) (ps:=ps) (cs:=cs) (ss:=ss) ps[i].2.2.1.length 0 false (by omega)
  simp only [e1,j3,show Int.ofNat ps.length=(ps.length:Int) from rfl,e2,e3]
  rw [jvL n 7200 (by omega) (by omega)]
  simp only [j3]
  rw [j06 (x:=x+n%7200) (by omega) (by omega),j4c (by omega) (by omega)]
  simp only [j5,j7,hgd]
  rw [j4c hpc.z0 hpc.z1]
  simp only [j5]
  rw [show jdp ((zs.getD ps[i].2.1.toNat (ByteArray.empty,((0:Int),([]:List Rule)))).1,((zs.getD ps[i].2.1.toNat (ByteArray.empty,((0:Int),([]:List Rule)))).2.1,(zs.getD ps[i].2.1.toNat (ByteArray.empty,((0:Int),([]:List Rule)))).2.2)) (x+n%7200)=_ from hi5]
  simp only [j3,show Int.ofNat ps[i].2.2.1.length=(ps[i].2.2.1.length:Int) from rfl]
  rw [show j3G (i:Int) (x+n%7200) (secD (locD (zAt zs ps[i].2.1) (x+n%7200))) 0 false ps[i].2.2.1 (ps[i].2.2.1.length:Int) 0 zs ps cs ss=_ from lp]
  simp only [j3,j6,List.drop_zero,beq_self_eq_true,j5]
  rw [show j0F (zs,ps,cs,ss) (i:Int) (x+n%7200) false=_ from jqT hs hc hi (by omega) (by omega) false,show j0F (zs,ps,cs,ss) (i:Int) (x+n%7200) true=_ from jqT hs hc hi (by omega) (by omega) true,show j0F (zs,ps,cs,ss) (Int.ofNat ps.length) (x+n%7200) true=_ from jub hs hc (by omega) (by omega) true]
  simp only [j3,j6,j5,beq_self_eq_true]
  rw [j4c (by omega) (by omega)]
  simp only [Bool.true_or,j5,j7,hgd,jux]
  cases hasB (secD (locD (zAt zs ps[i].2.1) (x+n%7200))) ps[i].2.2.1<;>cases ps[i].2.2.2.2.2<;>rfl
 ·rw [j01 hl]
  simp only [Bool.not_false,j5,jux,j3]
end Go.Proofs.Pw
