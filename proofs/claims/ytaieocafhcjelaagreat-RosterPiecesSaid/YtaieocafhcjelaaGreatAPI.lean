/- Layers above each other. -/
import Derived.Test.YtaieocafhcjelaaGreatAPG
import Derived.Test.YtaieocafhcjelaaGreatAPF
import Derived.Test.YtaieocafhcjelaaGreatAPC
import Derived.KernelRfl
import Derived.Test.YtaieocafhcjelaaGreatAPE
import Derived.Test.YtaieocafhcjelaaGreatAPB
import Derived.Test.YtaieocafhcjelaaGreatALD
open Go Go.Lft
namespace Go.Proofs.Pw
theorem jkg:j5y 2241=some 98981:=by kernel_rfl
theorem jkh:j5y 1970=some 0:=by kernel_rfl
theorem jA6 {d:Int} (h:j0W d=some true):d≤100000:=by
 apply jm
 intro hd
 simp only [j0W,j59,jkh,jkg,j3] at h
 rw [j00 (show ¬ d<0 by omega),j01 (show d≥98981 by omega)] at h
 simp at h
theorem LCk.rt2 {nz np nc:Nat} {L:j0w} (h:LCk nz np nc L):Rt L:=h.rt (jA6 h.day)
section
variable {zs:List j1R} {ps:List j1q} {cs:List CalT} (hs:SOk2 zs ps cs)
include hs
theorem cget {i:Int} (h0:0≤i) (h1:i<(cs.length:Int)):CCk zs.length (cs.getD i.toNat (ByteArray.empty,((0:Int),([]:List Int)))):=by
 have hi:i.toNat<cs.length:=by omega
 rw [show cs.getD i.toNat (ByteArray.empty,((0:Int),([]:List Int)))=cs[i.toNat] by simp [List.getD,hi]]
 exact hs.c.ck _ (jg hi)
end
def j9O (es:List j43) (p t:Int):Bool:=es.any fun x=>x.1==0&&(x.2.1==p&&(decide (x.2.2.2.1≤t)&&decide (t<x.2.2.2.2)))
theorem jCz {es:List j43} {p t:Int} (hl:es.length≤1000):∀ (n i:Nat),i+n=es.length→∃ r,j0y es p t (es.length:Int) (i:Int)=some r∧
  match r with
  | .inl k=>0≤k∧j9O (es.drop i) p t=true
  | .inr _=>j9O (es.drop i) p t=false
 | 0,i,hi=>by
  rw [j3F]
  simp only [j0O]
  rw [j00 (by omega),j6,j08,jc (by omega)]
  exact ⟨_,rfl,rfl⟩
 | n+1,i,hi=>by
  have hlt:i<es.length:=by omega
  have hgd:es.getD i ((0:Int),((0:Int),((0:Int),((0:Int),(0:Int)))))=es[i]:=by simp [List.getD,hlt]
  rw [j3F]
  simp only [j0O,jf5]
  rw [j01 (by omega),j0s (by omega) (by omega),j02 (x:=(i:Int)+1) (by omega) (by omega)]
  simp only [j5,j7,hgd,j3]
  rw [jb hlt]
  have e:(cond (cond (cond (es[i].1==(0:Int)) (es[i].2.1==p) false) (decide (es[i].2.2.2.1≤t)) false) (decide (t<es[i].2.2.2.2)) false)=(es[i].1==0&&(es[i].2.1==p&&(decide (es[i].2.2.2.1≤t)&&decide (t<es[i].2.2.2.2)))):=by
   cases es[i].1==(0:Int)<;>cases es[i].2.1==p<;>cases decide (es[i].2.2.2.1≤t)<;>rfl
  rw [e]
  have ha:j9O (es[i]::es.drop (i+1)) p t=((es[i].1==0&&(es[i].2.1==p&&(decide (es[i].2.2.2.1≤t)&&decide (t<es[i].2.2.2.2))))||j9O (es.drop (i+1)) p t):=rfl
  rw [ha]
  cases hx:(es[i].1==0&&(es[i].2.1==p&&(decide (es[i].2.2.2.1≤t)&&decide (t<es[i].2.2.2.2)))) with
  | true=>
   rw [j5,j08]
   exact ⟨_,rfl,by omega,rfl⟩
  | false=>
   rw [j6,j05]
   obtain ⟨r,e1,e2⟩:=jCz (es:=es) (p:=p) (t:=t) hl n (i+1) (by omega)
   exact ⟨r,e1,by simpa using e2⟩
theorem jBh {nm:ByteArray} {ls:List j0w} {es:List j43} {p t:Int} (hl:es.length≤1000):jae (nm,(ls,es)) p t=some (j9O es p t):=by
 obtain ⟨r,e1,e2⟩:=jCz (p:=p) (t:=t) hl es.length 0 (by omega)
 simp only [jae,j0J,j0T,show Int.ofNat es.length=(es.length:Int) from rfl]
 rw [show j0y es p t (es.length:Int) 0=_ from e1]
 cases r with
 | inl k=>
  simp only [jy] at e2
  simp only [j3,jma,e2.2]
  rw [j01 (show k≥0 from e2.1)]
 | inr u=>
  simp only [jy] at e2
  simp only [j3,j4S,e2]
  rfl
def topI (good:Nat→Bool):Nat→Option Nat
 | 0=>none
 | n+1=>cond (good n) (some n) (topI good n)
def j6X (es:List j43) (t:Int) (Pf:Nat→Int) (i:Nat):Bool:=decide (0≤Pf i) && !j9O es (Pf i) t
theorem jA7 {ls:List j0w} {zs:List j1R} {ps:List j1q} {cs:List CalT} {ss:List j1y} {tbs:List (Int×TrL)} {nm:ByteArray} {es:List j43} {t b6 b7:Int} {Pf:Nat→Int} (hl:es.length≤1000)
  (hP:∀ i (h:i<ls.length),j20 ((zs,(ps,(cs,ss))),tbs) ls[i] t=some (Pf i)):∀ n:Nat,n≤ls.length→
  j4c (n:Int) ls zs ps cs ss tbs nm ls es t b6 b7=some (match topI (j6X es t Pf) n with | some i=> .inr ((i:Int),Pf i) | none=> .inl (b6,b7))
 | 0,hn=>by
  rw [jcr]
  simp only [j1Q]
  rw [j01 (by omega),j5,j08]
  rfl
 | n+1,hn=>by
  have hlt:n<ls.length:=by omega
  have hgd:ls.getD n (ByteArray.empty,((0:Int),(((0:Int),(0:Int)),((0:Int),((0:Int),(([]:List Int),(([]:List (Int×Int)),((0:Int),(0:Int)))))))))=ls[n]:=by simp [List.getD,hlt]
  have ih:=jA7 (nm:=nm) (b6:=b6) (b7:=b7) hl hP n (by omega)
  have hp:=hP n hlt
  rw [jcr]
  simp only [j1Q]
  rw [j00 (by omega),j01 (show ((n+1:Nat):Int)≤Int.ofNat ls.length by simp;omega),show ((n+1:Nat):Int)-1=(n:Int) by omega]
  simp only [j5,j6,j7,hgd]
  rw [show j20 ((zs,(ps,(cs,ss))),tbs) (ls[n].1,(ls[n].2.1,((ls[n].2.2.1.1,ls[n].2.2.1.2),(ls[n].2.2.2.1,(ls[n].2.2.2.2.1,(ls[n].2.2.2.2.2.1,(ls[n].2.2.2.2.2.2.1,(ls[n].2.2.2.2.2.2.2.1,ls[n].2.2.2.2.2.2.2.2)))))))) t=_ from hp]
  simp only [j3,topI,j6X]
  by_cases h0:0≤Pf n
  ·rw [j00 (show ¬ Pf n<0 by omega),j01 h0]
   simp only [j6,jBh hl,j3,vg]
   cases j9O es (Pf n) t with
   | true=>
    simp only [jj,j6,j05]
    exact ih
   | false=>rfl
  ·rw [j01 (show Pf n<0 by omega),j00 h0]
   simp only [j5,Bool.false_and,j6,j05]
   exact ih
theorem jvS {ls:List j0w} {zs:List j1R} {ps:List j1q} {cs:List CalT} {ss:List j1y} {tbs:List (Int×TrL)} {nm:ByteArray} {es:List j43} {t:Int} {Pf:Nat→Int} (hl:es.length≤1000)
  (hP:∀ i (h:i<ls.length),j20 ((zs,(ps,(cs,ss))),tbs) ls[i] t=some (Pf i)) :
  j4r ((zs,(ps,(cs,ss))),tbs) (nm,(ls,es)) t=some (match topI (j6X es t Pf) ls.length with | some i=>((i:Int),Pf i) | none=>((-1:Int),(-1:Int))):=by
 have lp:=jA7 (nm:=nm) (b6:=0) (b7:=0) hl hP ls.length (jo _)
 simp only [j4r,j14,j3]
 rw [show j4c (Int.ofNat ls.length) ls zs ps cs ss tbs nm ls es t 0 0=_ from lp]
 cases topI (j6X es t Pf) ls.length with
 | none=>rfl
 | some i=>rfl
section
variable {zs:List j1R} {ps:List j1q} {cs:List CalT} {ss:List j1y}
theorem jA8 (hz:∀ z∈zs,ZOk z) (hc:jhe (zs,(ps,(cs,ss)))):jf3 (zs,(ps,(cs,ss)))=some (((zs,(ps,(cs,ss))),zs.map tb),true):=by
 have hzl:zs.length≤16:=hc.zl
 simp only [jf3,show j5b (zs,(ps,(cs,ss)))=_ from jtP hc,j3,jd,j6,jBb (ps:=ps) (cs:=cs) (ss:=ss) hz (show zs.length≤100 by omega)]
def topP (es:List j43) (t:Int) (Pf:Nat→Int) (n:Nat):Int:=match topI (j6X es t Pf) n with
 | some i=>Pf i
 | none=> -1
end
def nms3:List ByteArray:=[(ByteArray.mk #[102,105,114,115,116]),(ByteArray.mk #[115,101,99,111,110,100]),(ByteArray.mk #[116,104,105,114,100])]
theorem jBi:NmL nms3:=by
 refine ⟨by decide,fun k hk=> ?_⟩
 simp only [nms3,jf,qt,or_false] at hk
 rcases hk with rfl | rfl | rfl<;>exact j7S 60 _ true (by kernel_rfl)
structure SG (nz np nc:Nat) (s:j1y):Prop where
 ck:SCk nz np nc s
 nm:s.2.1.map (·.1)=nmsL.take s.2.1.length
 ll:s.2.1.length≤3
 el:s.2.2.length≤3
theorem jA9 {L:List Int} {zs:List j1R} {ps:List j1q} {cs:List CalT} (hs:SOk zs ps cs):∀ (n:Nat) (a:Int) (ss:List j1y),DOk L a→ss.length+n≤3→ss.map (·.1)=nms3.take ss.length→(∀ s∈ss,SG zs.length ps.length cs.length s)→
  ∃ ss' a',j6n (n:Int) L a zs ps cs ss=some (L,a',zs,ps,cs,ss')∧ss'.length=ss.length+n∧ss'.map (·.1)=nms3.take ss'.length∧(∀ s∈ss',SG zs.length ps.length cs.length s)∧DOk L a'
 | 0,a,ss,hd,hl,hn,hg=>by
  rw [j9Z]
  simp only [j31]
  rw [j00 (by omega),j6,j08]
  exact ⟨ss,a,rfl,rfl,hn,hg,hd⟩
 | n+1,a,ss,hd,hl,hn,hg=>by
  have hlt:ss.length<nms3.length:=by show ss.length<3;omega
  have hmod:Int.tmod (Int.ofNat ss.length) 3=(ss.length:Int):=by
   have:Int.tmod (ss.length:Int) 3=(ss.length:Int):=Int.tmod_eq_of_lt (by omega) (by omega)
   exact this
  obtain ⟨k,a3,e3,k0,k1,d3⟩:=j0Q (n:=4) hd (by omega) (by omega)
  obtain ⟨ls,a4,e4,l4,lk,ln,d4⟩:=jCj (s6:=((n+1:Nat):Int)) (nm:=List.getD nms3 ss.length ByteArray.empty) (ss:=ss) hs k.toNat a3 [] d3 (by simp;omega) (by simp) rfl
  obtain ⟨m,a5,e5,m0,m1,d5⟩:=j0Q (n:=4) d4 (by omega) (by omega)
  obtain ⟨es,a6,e6,l6,ek,d6⟩:=jCk (s6:=((n+1:Nat):Int)) (nm:=List.getD nms3 ss.length ByteArray.empty) (zs:=zs) (cs:=cs) (ss:=ss) (ls:=ls) hs m.toNat a5 [] d5 (by simp;omega) (by simp)
  rw [show ((k.toNat:Nat):Int)=k by omega] at e4
  rw [show ((m.toNat:Nat):Int)=m by omega] at e6
  have hnew:SG zs.length ps.length cs.length (List.getD nms3 ss.length ByteArray.empty,(ls,es)):=
   ⟨⟨by dsimp only;rw [ln];exact jxz.take _,lk,by dsimp only;omega,ek,by dsimp only;omega⟩,ln,l4,l6⟩
  obtain ⟨ss',a',e',h1,h2,h3,h4⟩:=jA9 hs n a6 (ss++[(List.getD nms3 ss.length ByteArray.empty,(ls,es))]) d6 (by simp;omega) (by
   rw [zg,hn,jh]
   exact jqx hlt) (fun s h=>by
   rcases jq.1 h with h | h
   ·exact hg s h
   ·simp at h;subst h;exact hnew)
  rw [j9Z]
  simp only [j31]
  rw [j01 (show ((n+1:Nat):Int)>0 by omega),hmod,j0s (by omega) (by show (ss.length:Int)<(3:Nat);omega)]
  simp only [j5,j7,e3,j3]
  rw [show j4L ((n+1:Nat):Int) k L a3 zs ps cs (List.getD [(ByteArray.mk #[102,105,114,115,116]),(ByteArray.mk #[115,101,99,111,110,100]),(ByteArray.mk #[116,104,105,114,100])] ss.length ByteArray.empty) ss []=_ from e4]
  simp only [j3,e5,e6]
  rw [j01 (by simp [j07];omega),j02 (by omega) (by omega),show ((n+1:Nat):Int)-1=(n:Int) by omega]
  simp only [j5,j05]
  exact ⟨ss',a',e',by rw [h1];simp;omega,h2,h3,h4⟩
theorem jvT {L:List Int} {a n:Int} (h:DOk L a) (n0:1≤n) (n1:n≤3):∃ zs ps cs ss a',j8D L a n=some ((zs,(ps,(cs,ss))),L,a')∧SOk2 zs ps cs∧1≤ss.length∧(ss.length:Int)≤n∧ss.map (·.1)=nms3.take ss.length∧(∀ s∈ss,SG zs.length ps.length cs.length s)∧DOk L a':=by
 obtain ⟨zs,ps,cs,a1,e1,hs,d1⟩:=jxC h
 obtain ⟨x,a2,e2,x0,x1,d2⟩:=j0Q (n:=n) d1 (by omega) (by omega)
 obtain ⟨ss,a3,e3,h1,h2,h3,d3⟩:=jA9 hs.so (1+x).toNat a2 [] d2 (by simp;omega) (by simp) (by simp)
 rw [show (((1+x).toNat:Nat):Int)=1+x by omega] at e3
 simp at h1
 simp only [j8D,e1,e2,j3]
 rw [j02 (x:=1+x) (by omega) (by omega)]
 simp only [e3,j3]
 exact ⟨zs,ps,cs,ss,a3,rfl,hs,by omega,by omega,h2,h3,d3⟩
theorem jxV {zs:List j1R} {ps:List j1q} {cs:List CalT} {ss:List j1y} (hs:SOk2 zs ps cs) (h0:ss.length≤12) (h1:NmL (ss.map (·.1))) (h2:∀ s∈ss,SCk zs.length ps.length cs.length s):jhe (zs,(ps,(cs,ss))):=jA0 hs h0 h1 h2
instance (L:j0w):Decidable (Rt L):=
 decidable_of_iff (1≤L.2.2.1.1∧L.2.2.1.1≤100000∧0≤L.2.2.1.2∧L.2.2.1.2≤86399∧0≤L.2.2.2.1∧L.2.2.2.1≤2∧1≤L.2.2.2.2.1∧L.2.2.2.2.1≤400∧L.2.2.2.2.2.1≠[])
  ⟨fun ⟨a,b,c,d,e,f,g,h,i⟩=>⟨a,b,c,d,e,f,g,h,i⟩,fun ⟨a,b,c,d,e,f,g,h,i⟩=>⟨a,b,c,d,e,f,g,h,i⟩⟩
section
variable {z:j1R} {l:TrL} (h4:Z4 z l)
include h4
theorem jtU (L:j0w):jgI z L=some (if Rt L then 0 else 8):=by
 have hc:j7t (z.1,(z.2.1,z.2.2))=some 0:=by
  simp only [j7t,show j1H (z.1,(z.2.1,z.2.2))=_ from h4.1,j3]
 simp only [jgI,hc,j3,jd,j6]
 have key:(cond (cond (cond (cond (cond (cond (cond (cond (decide (L.2.2.1.1<1)) true (decide (L.2.2.1.1>100000))) true (decide (L.2.2.1.2<0))) true (decide (L.2.2.1.2≥86400))) true (decide (L.2.2.2.1<0))) true (decide (L.2.2.2.1>2))) true (decide (L.2.2.2.2.1<1))) true (decide (L.2.2.2.2.1>400))) true (Int.ofNat L.2.2.2.2.2.1.length==0)) = !decide (Rt L):=by
  have hlen:(Int.ofNat L.2.2.2.2.2.1.length==0)=decide (L.2.2.2.2.2.1=[]):=by
   cases L.2.2.2.2.2.1 with
   | nil=>rfl
   | cons x r=>simp;omega
  rw [hlen]
  rw [Bool.eq_iff_iff]
  simp only [ku,kf]
  constructor
  ·intro hh h
   have a1:=h.d0;have a2:=h.d1;have a3:=h.c0;have a4:=h.c1;have a5:=h.u0;have a6:=h.u1;have a7:=h.e0;have a8:=h.e1
   rw [j00 (show ¬ L.2.2.1.1<1 by omega),j00 (show ¬ L.2.2.1.1>100000 by omega),j00 (show ¬ L.2.2.1.2<0 by omega),j00 (show ¬ L.2.2.1.2≥86400 by omega),j00 (show ¬ L.2.2.2.1<0 by omega),j00 (show ¬ L.2.2.2.1>2 by omega),j00 (show ¬ L.2.2.2.2.1<1 by omega),j00 (show ¬ L.2.2.2.2.1>400 by omega),j00 h.m0] at hh
   simp at hh
  ·intro hn
   by_cases a1:L.2.2.1.1<1
   ·rw [j01 a1];rfl
   rw [j00 a1]
   by_cases a2:L.2.2.1.1>100000
   ·rw [j01 a2];rfl
   rw [j00 a2]
   by_cases a3:L.2.2.1.2<0
   ·rw [j01 a3];rfl
   rw [j00 a3]
   by_cases a4:L.2.2.1.2≥86400
   ·rw [j01 a4];rfl
   rw [j00 a4]
   by_cases a5:L.2.2.2.1<0
   ·rw [j01 a5];rfl
   rw [j00 a5]
   by_cases a6:L.2.2.2.1>2
   ·rw [j01 a6];rfl
   rw [j00 a6]
   by_cases a7:L.2.2.2.2.1<1
   ·rw [j01 a7];rfl
   rw [j00 a7]
   by_cases a8:L.2.2.2.2.1>400
   ·rw [j01 a8];rfl
   rw [j00 a8]
   by_cases a9:L.2.2.2.2.2.1=[]
   ·rw [j01 a9];rfl
   exact absurd ⟨by omega,by omega,by omega,by omega,by omega,by omega,by omega,by omega,a9⟩ hn
 rw [key]
 by_cases h:Rt L
 ·rw [j01 h,if_pos h];rfl
 ·rw [j00 h,if_neg h];rfl
end
theorem jAa {z:j1R} {l:TrL} (hz:Z4 z l) {L:j0w} (h:Rt L) {t N:Int} (hN:N≤8589934592):∀ n:Nat,(n:Int)≤N→
  ∃ K:Int,j7u t ((n:Int)-1) z.1 z.2.1 z.2.2 L.1 L.2.1 L.2.2.1.1 L.2.2.1.2 L.2.2.2.1 L.2.2.2.2.1 L.2.2.2.2.2.1 L.2.2.2.2.2.2.1 L.2.2.2.2.2.2.2.1 L.2.2.2.2.2.2.2.2=some K∧
   (K = -1∨0≤K∧QO z.2.1 l L t K)∧K<n∧∀ j:Int,K<j→0≤j→j<n→¬ QO z.2.1 l L t j
 | 0,_=>by
  rw [jgK]
  simp only [j64]
  rw [j00 (by omega),j6,j08]
  exact ⟨_,rfl,.inl (by omega),by omega,fun j h1 h2 h3=>by omega⟩
 | n+1,hn=>by
  obtain ⟨K,e,k0,k1,k2⟩:=jAa hz h (t:=t) hN n (by omega)
  obtain ⟨v,hH,hv⟩:=r10H hz h (k:=(n:Int)) (by omega) (by omega)
  rw [jgK,show ((n+1:Nat):Int)-1=(n:Int) by omega]
  simp only [j64]
  rw [j01 (by omega),j5,show jb5 (z.1,(z.2.1,z.2.2)) (L.1,L.2.1,(L.2.2.1.1,L.2.2.1.2),L.2.2.2.1,L.2.2.2.2.1,L.2.2.2.2.2.1,L.2.2.2.2.2.2.1,L.2.2.2.2.2.2.2.1,L.2.2.2.2.2.2.2.2) (n:Int)=_ from hH]
  simp only [j3]
  rw [j02 (x:=(n:Int)-1) (by omega) (by omega)]
  have down:¬ QO z.2.1 l L t (n:Int)→(lpK (some (Sum.inl (t,(n:Int)-1,z.1,z.2.1,z.2.2,L.1,L.2.1,L.2.2.1.1,L.2.2.1.2,L.2.2.2.1,L.2.2.2.2.1,L.2.2.2.2.2.1,L.2.2.2.2.2.2.1,L.2.2.2.2.2.2.2.1,L.2.2.2.2.2.2.2.2)):Option ((Int×Int×ByteArray×Int×List Rule×ByteArray×Int×Int×Int×Int×Int×List Int×WL×Int×Int) ⊕ Int)) (fun h=>j7u h.1 h.2.1 h.2.2.1 h.2.2.2.1 h.2.2.2.2.1 h.2.2.2.2.2.1 h.2.2.2.2.2.2.1 h.2.2.2.2.2.2.2.1 h.2.2.2.2.2.2.2.2.1 h.2.2.2.2.2.2.2.2.2.1 h.2.2.2.2.2.2.2.2.2.2.1 h.2.2.2.2.2.2.2.2.2.2.2.1 h.2.2.2.2.2.2.2.2.2.2.2.2.1 h.2.2.2.2.2.2.2.2.2.2.2.2.2.1 h.2.2.2.2.2.2.2.2.2.2.2.2.2.2))=some K∧∀ j:Int,K<j→0≤j→j<((n+1:Nat):Int)→¬ QO z.2.1 l L t j:=by
   intro hq
   refine ⟨by rw [j05];exact e,fun j h1 h2 h3=> ?_⟩
   by_cases hjn:j<n
   ·exact k2 j h1 h2 hjn
   ·rw [show j=(n:Int) by omega];exact hq
  cases hx:hO z.2.1 l L (n:Int) with
  | none=>
   simp only [zt,j6]
   obtain ⟨d1,d2⟩:=down fun ⟨y,hy,_⟩=>by rw [hx] at hy;simp at hy
   exact ⟨K,d1,k0,by omega,d2⟩
  | some x=>
   have:=hv x hx
   subst this
   simp only [zb,j5]
   by_cases hc:v≤t
   ·rw [j01 hc,j5,j08]
    exact ⟨_,rfl,.inr ⟨by omega,v,hx,hc⟩,by omega,fun j h1 h2 h3=>by omega⟩
   ·rw [j00 hc,j6]
    obtain ⟨d1,d2⟩:=down fun ⟨y,hy,hyt⟩=>by rw [hx] at hy;simp at hy;omega
    exact ⟨K,d1,k0,by omega,d2⟩
theorem jDt {z:j1R} {l:TrL} (hz:Z4 z l) {L:j0w} (h:Rt L) {t:Int} (h0t:0≤t) (htt:t≤8589934592):∃ K:Int,jgL z L t=some K∧ShO z.2.1 l L t K:=by
 have hs:=h.step
 have hd0:=h.d0;have hd1:=h.d1;have he0:=h.e0;have he1:=h.e1;have hc0:=h.c0;have hc1:=h.c1
 simp only [jgL]
 by_cases h0:L.2.2.2.1=0
 ·have hF:=jj6 hz (d:=L.2.2.1.1) (c:=L.2.2.1.2) (by omega) hc0 hc1
  have hs0:L.2.2.1.1*86400+L.2.2.1.2=sLoc L 0:=by unfold sLoc;omega
  rw [j4Q h0,j5,show j5p (z.1,(z.2.1,z.2.2)) (L.2.2.1.1,L.2.2.1.2)=_ from hF,hs0]
  simp only [j3]
  have nq:(∀ v,fO z.2.1 l (sLoc L 0)=some v→t<v)→¬ QO z.2.1 l L t 0:=by
   rintro hn ⟨y,hy,hyt⟩
   have:=hn y (jxI h0 hy)
   omega
  cases hf:fO z.2.1 l (sLoc L 0) with
  | none=>exact ⟨-1,rfl,.inl ⟨rfl,nq fun v hv=>by rw [hf] at hv;simp at hv⟩⟩
  | some v=>
   have hva:=jvQ hz.2 hf
   simp only [qe,j5]
   by_cases hc:v≤t
   ·obtain ⟨s1,s2,s3⟩:=juT (o:=z.2.1) (l:=l) h h0 htt hf hc hva.2.1
    rw [j01 hc,j5,j02 (x:=t-v) (by omega) (by omega),j02 (x:=3600*L.2.2.2.2.1) (by omega) (by omega),j2c (show ¬ 3600*L.2.2.2.2.1=0 by omega),qj (by omega),j02 (x:=(t-v)/(3600*L.2.2.2.2.1)) (by omega) (by omega)]
    exact ⟨_,rfl,s1⟩
   ·rw [j00 hc]
    exact ⟨-1,rfl,.inl ⟨rfl,nq fun v' hv=>by rw [hf] at hv;simp at hv;omega⟩⟩
 ·obtain ⟨j,hj,j1,j2⟩:=jfF hz.2 h0t htt
  have o0:=hz.2.of0 j hj;have o1:=hz.2.of1 j hj
  have eT:=juQ hz (t:=t) h0t htt hj j1 j2
  rw [j2c h0,j6,show j4d (z.1,(z.2.1,z.2.2)) t=_ from eT]
  simp only [j3]
  have hday:∀ k:Int,QO z.2.1 l L t k→L.2.2.1.1+k*j4h L≤(t+tof z.2.1 l j)/86400+2:=fun k hq=>QO.day hz.2 h h0 hq hj
  generalize hld:(t+tof z.2.1 l j)/86400=ld at hday
  rw [j02 (x:=ld+2) (by omega) (by omega),j02 (x:=ld+2-L.2.2.1.1) (by omega) (by omega)]
  have fin:∀ st:Int,st=j4h L→∃ K:Int,((j7u t (w64 (Int.tdiv (if (0:Int)>ld+2-L.2.2.1.1 then (0:Int) else ld+2-L.2.2.1.1) st)) z.1 z.2.1 z.2.2 L.1 L.2.1 L.2.2.1.1 L.2.2.1.2 L.2.2.2.1 L.2.2.2.2.1 L.2.2.2.2.2.1 L.2.2.2.2.2.2.1 L.2.2.2.2.2.2.2.1 L.2.2.2.2.2.2.2.2).bind fun q0=>some q0)=some K∧ShO z.2.1 l L t K:=by
   rintro st rfl
   obtain ⟨m,hm,hm0,hm1⟩:∃ m:Int,(if (0:Int)>ld+2-L.2.2.1.1 then (0:Int) else ld+2-L.2.2.1.1)=m∧0≤m∧m≤1000000:=⟨_,rfl,by split<;>omega,by split<;>omega⟩
   have hml:ld+2-L.2.2.1.1≤m:=by rw [←hm];split<;>omega
   rw [hm,qj hm0]
   have q0:0≤m/j4h L:=vj hm0 (by omega)
   have q1:m/j4h L≤m:=vc _ hm0
   have q2:m<j4h L*(m/j4h L)+j4h L:=Int.lt_mul_ediv_self_add (by omega)
   rw [j02 (by omega) (by omega)]
   generalize m/j4h L=km at *
   obtain ⟨K,e,k0,k1,k2⟩:=jAa hz h (t:=t) (kn _) (km+1).toNat (by omega)
   rw [show (((km+1).toNat:Nat):Int)-1=km by omega] at e
   rw [e]
   refine ⟨K,rfl,?_⟩
   have top:¬ QO z.2.1 l L t (K+1):=by
    by_cases hK:K+1≤km
    ·exact k2 (K+1) (by omega) (by rcases k0 with k0 | k0<;>omega) (by omega)
    ·intro hq
     have hd:=hday _ hq
     have hkk:K=km:=by omega
     rw [hkk,Int.add_mul,Int.one_mul] at hd
     have:j4h L*km=km*j4h L:=Int.mul_comm _ _
     omega
   rcases k0 with k0 | k0
   ·subst k0;exact .inl ⟨rfl,top⟩
   ·exact .inr ⟨k0.1,k0.2,top⟩
  by_cases h2:L.2.2.2.1=2
  ·have hsd:j4h L=7*L.2.2.2.2.1:=by unfold j4h;rw [if_pos h2]
   rw [j4Q h2,j5,j02 (x:=L.2.2.2.2.1*7) (by omega) (by omega),j2c (show ¬ L.2.2.2.2.1*7=0 by omega)]
   simp only [ju,j5]
   exact fin _ (by rw [hsd,Int.mul_comm])
  ·have hsd:j4h L=L.2.2.2.2.1:=by unfold j4h;rw [if_neg h2]
   rw [j2c h2,j6,j2c (show ¬ L.2.2.2.2.1=0 by omega)]
   simp only [ju,j5]
   exact fin _ hsd.symm
abbrev SgT:=Int×(Int×Int)
abbrev SgL:=List SgT
def Ch (f:Int→Int) (b:Int):Int→SgL→Prop
 | a,[]=>a=b
 | a,s::r=>s.1=a∧a≤s.2.1∧(∀ t,a≤t→t<s.2.1→f t=s.2.2)∧Ch f b s.2.1 r
def Cov (f:Int→Int) (b:Int):Option Int→Int→SgL→Prop
 | _,a,[]=>a=b
 | q,a,s::r=>s.1=a∧a<s.2.1∧q≠some s.2.2∧(∀ t,a≤t→t<s.2.1→f t=s.2.2)∧Cov f b (some s.2.2) s.2.1 r
theorem Ch.le {f:Int→Int} {b:Int}:∀ {l:SgL} {a:Int},Ch f b a l→a≤b
 | [],_,h=>Int.le_of_eq h
 | _::_,_,h=>qu h.2.1 h.2.2.2.le
theorem Ch.app {f:Int→Int} {b c:Int}:∀ {l r:SgL} {a:Int},Ch f b a l→Ch f c b r→Ch f c a (l++r)
 | [],_,_,h,h'=>by have h:_=_:=h;subst h;exact h'
 | _::_,_,_,h,h'=>⟨h.1,h.2.1,h.2.2.1,h.2.2.2.app h'⟩
theorem Ch.snoc {f:Int→Int} {b c p:Int} {l:SgL} {a:Int} (h:Ch f b a l) (hbc:b≤c) (hp:∀ t,b≤t→t<c→f t=p):Ch f c a (l++[(b,(c,p))]):=
 h.app ⟨rfl,hbc,hp,rfl⟩
theorem Cov.ch {f:Int→Int} {b:Int}:∀ {l:SgL} {q:Option Int} {a:Int},Cov f b q a l→Ch f b a l
 | [],_,_,h=>h
 | _::_,_,_,h=>⟨h.1,Int.le_of_lt h.2.1,h.2.2.2.1,h.2.2.2.2.ch⟩
def lstP:Option Int→SgL→Option Int
 | q,[]=>q
 | _,s::r=>lstP (some s.2.2) r
theorem jsp:∀ (l:SgL) (q:Option Int) (s:SgT),lstP q (l++[s])=some s.2.2
 | [],_,_=>rfl
 | _::r,_,s=>jsp r _ s
theorem Cov.snoc {f:Int→Int} {b c p:Int}:∀ {l:SgL} {q:Option Int} {a:Int},Cov f b q a l→b<c→lstP q l≠some p→(∀ t,b≤t→t<c→f t=p)→Cov f c q a (l++[(b,(c,p))])
 | [],_,_,h,hbc,hl,hp=>by have h:_=_:=h;subst h;exact ⟨rfl,hbc,hl,hp,rfl⟩
 | _::_,_,_,h,hbc,hl,hp=>⟨h.1,h.2.1,h.2.2.1,h.2.2.2.1,h.2.2.2.2.snoc hbc hl hp⟩
theorem Cov.ext {f:Int→Int} {b c x p:Int}:∀ {l:SgL} {q:Option Int} {a:Int},Cov f b q a (l++[(x,(b,p))])→b≤c→(∀ t,b≤t→t<c→f t=p)→Cov f c q a (l++[(x,(c,p))])
 | [],_,_,h,hbc,hp=>⟨h.1,by have:=h.2.1;dsimp only at this ⊢;omega,h.2.2.1,fun t h1 h2=>by
  by_cases ht:t<b
  ·exact h.2.2.2.1 t h1 ht
  ·exact hp t (by omega) h2,rfl⟩
 | _::_,_,_,h,hbc,hp=>⟨h.1,h.2.1,h.2.2.1,h.2.2.2.1,h.2.2.2.2.ext hbc hp⟩
def mgA (out:SgL) (s:SgT):SgL:=
 if s.2.1≤s.1 then out else match out.getLast? with
  | some x=>if x.2.1=s.1∧x.2.2=s.2.2 then out.dropLast++[(x.1,(s.2.1,x.2.2))] else out++[s]
  | none=>out++[s]
theorem jCA {f:Int→Int} {a b:Int} {out:SgL} (h:Cov f b none a out) {s:SgT} (h1:s.1=b) (h2:b≤s.2.1) (h3:∀ t,b≤t→t<s.2.1→f t=s.2.2):Cov f s.2.1 none a (mgA out s):=by
 obtain ⟨x,y,p⟩:=s
 dsimp only at h1 h2 h3 ⊢
 subst h1
 unfold mgA
 dsimp only
 by_cases hxy:y≤x
 ·rw [if_pos hxy]
  have:y=x:=by omega
  subst this;exact h
 ·rw [if_neg hxy]
  rcases List.eq_nil_or_concat out with rfl | ⟨l,u,rfl⟩
  ·exact h.snoc (by omega) (by simp [lstP]) h3
  ·rw [List.concat_eq_append] at h ⊢
   rw [List.getLast?_append]
   simp only [List.getLast?_singleton,Option.some_or]
   by_cases hu:u.2.1=x∧u.2.2=p
   ·rw [if_pos hu,List.dropLast_concat]
    obtain ⟨u1,u2,u3⟩:=u
    dsimp only at hu ⊢
    obtain ⟨rfl,rfl⟩:=hu
    exact h.ext h2 h3
   ·rw [if_neg hu]
    refine h.snoc (by omega) ?_ h3
    rw [jsp]
    intro e
    have hp:u.2.2=p:=by simpa using e
    refine hu ⟨?_,hp⟩
    have:∀ (l:SgL) (q:Option Int) (a:Int),Cov f x q a (l++[u])→u.2.1=x:=by
     intro l
     induction l with
     | nil=>intro q a h;exact h.2.2.2.2
     | cons v r ih=>intro q a h;exact ih _ _ h.2.2.2.2
    exact this l _ _ h
theorem jAb {f:Int→Int} {b:Int}:∀ (l:SgL) {a c:Int} {out:SgL},Cov f c none a out→Ch f b c l→Cov f b none a (l.foldl mgA out)
 | [],_,_,_,h,h'=>by have h':_=_:=h';subst h';exact h
 | s::r,_,_,_,h,h'=>jAb r (jCA h h'.1 h'.2.1 h'.2.2.1) h'.2.2.2
theorem Ch.cov {f:Int→Int} {a b:Int} {l:SgL} (h:Ch f b a l):Cov f b none a (l.foldl mgA []):=jAb l (show Cov f a none a [] from rfl) h
theorem jCB {f:Int→Int}:∀ {l:SgL} {a b:Int},a≤b→l.Pairwise (fun s u=>s.2.1≤u.1)→(∀ s∈l,s.1<s.2.1∧∀ t,s.1≤t→t<s.2.1→f t=s.2.2)→
  (∀ x,(a≤x∧x<b)↔∃ s∈l,s.1≤x∧x<s.2.1)→Ch f b a l
 | [],a,b,hab,_,_,hc=>by
  apply jm
  intro hne
  have hne:a≠b:=hne
  obtain ⟨s,hs,_⟩:=(hc a).1 ⟨kn _,by omega⟩
  simp at hs
 | s::r,a,b,hab,hp,hf,hc=>by
  obtain ⟨s1,s2⟩:=hf s (by simp)
  obtain ⟨p1,p2⟩:=qb.1 hp
  have h1:=(hc s.1).2 ⟨s,by simp,kn _,s1⟩
  have h2:=(hc (s.2.1-1)).2 ⟨s,by simp,by omega,by omega⟩
  have he:s.1=a:=by
   obtain ⟨u,hu,u1,u2⟩:=(hc a).1 ⟨kn _,by omega⟩
   rcases jf.1 hu with rfl | hu
   ·omega
   ·have:=p1 u hu;omega
  refine ⟨he,by omega,fun t t1 t2=>s2 t (by omega) t2,jCB (by omega) p2 (fun u hu=>hf u (by simp [hu])) (fun x=>⟨fun hx=> ?_,fun ⟨u,hu,u1,u2⟩=> ?_⟩)⟩
  ·obtain ⟨u,hu,u1,u2⟩:=(hc x).1 ⟨by omega,hx.2⟩
   rcases jf.1 hu with rfl | hu
   ·omega
   ·exact ⟨u,hu,u1,u2⟩
  ·have:=p1 u hu
   have:=(hc x).2 ⟨u,by simp [hu],u1,u2⟩
   omega
theorem Ch.mem {f:Int→Int} {b:Int}:∀ {l:SgL} {a:Int},Ch f b a l→∀ s∈l,a≤s.1∧s.1≤s.2.1∧s.2.1≤b∧∀ t,s.1≤t→t<s.2.1→f t=s.2.2
 | [],_,_,s,hs=>by simp at hs
 | u::r,a,h,s,hs=>by
  obtain ⟨h1,h2,h3,h4⟩:=h
  rcases jf.1 hs with rfl | hs
  ·exact ⟨by omega,by omega,h4.le,fun t t1 t2=>h3 t (by omega) t2⟩
  ·have:=h4.mem s hs
   exact ⟨by omega,this.2.1,this.2.2.1,this.2.2.2⟩
theorem Cov.pos {f:Int→Int} {b:Int}:∀ {l:SgL} {q:Option Int} {a:Int},Cov f b q a l→∀ s∈l,s.1<s.2.1
 | [],_,_,_,s,hs=>by simp at hs
 | u::r,_,a,h,s,hs=>by
  rcases jf.1 hs with rfl | hs
  ·have:=h.1;have:=h.2.1;omega
  ·exact h.2.2.2.2.pos s hs
theorem Cov.ne {f:Int→Int} {b:Int} {l:SgL} {q:Option Int} {a:Int} (h:Cov f b q a l) (hab:a<b):l≠[]:=by
 rintro rfl
 have h:_=_:=h
 omega
end Go.Proofs.Pw
