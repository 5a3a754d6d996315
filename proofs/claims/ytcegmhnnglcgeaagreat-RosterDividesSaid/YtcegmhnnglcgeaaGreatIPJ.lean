/- stack.SegmentsOf: who is on call by layers in a range. -/
import Derived.Test.YtcegmhnnglcgeaaGreatIPI
import Derived.Test.YtcegmhnnglcgeaaGreatIPF
import Derived.KernelRfl
import Derived.Test.YtcegmhnnglcgeaaGreatIPE
import Derived.Test.YtcegmhnnglcgeaaGreatIPH
noncomputable section
open Go Go.Lft
namespace Go.Proofs.Pw
def pfX (zs:List j2E) (cs:List CalT) (ls:List j0R) (t:Int) (i:Nat):Int:=perX zs cs (ls.getD i (ByteArray.empty,((0:Int),(((0:Int),(0:Int)),((0:Int),((0:Int),(([]:List Int),(([]:List (Int×Int)),((0:Int),(0:Int)))))))))) t
def lvs (es:List j59) (p:Int):SL:=(es.filter fun x=>x.1==0&&x.2.1==p).map fun x=>(x.2.2.2.1,x.2.2.2.2)
theorem jxZ {es:List j59} {p t:Int}:inS t (lvs es p)↔jcI es p t=true:=by
 unfold inS lvs jcI
 rw [List.any_eq_true]
 constructor
 ·rintro ⟨s,hs,h1,h2⟩
  obtain ⟨x,hx,rfl⟩:=List.mem_map.1 hs
  obtain ⟨h3,h4⟩:=List.mem_filter.1 hx
  dsimp only at h1 h2
  refine ⟨x,h3,?_⟩
  simp only [Bool.and_eq_true,decide_eq_true_eq] at h4 ⊢
  exact ⟨h4.1,h4.2,h1,h2⟩
 ·rintro ⟨x,hx,h⟩
  simp only [Bool.and_eq_true,decide_eq_true_eq] at h
  exact ⟨_,List.mem_map.2 ⟨x,List.mem_filter.2 ⟨hx,by simp only [Bool.and_eq_true];exact ⟨h.1,h.2.1⟩⟩,rfl⟩,h.2.2.1,h.2.2.2⟩
theorem jwM {es:List j59} (hl:es.length≤1000) {p:Int}:∀ (n i:Nat) (acc:SL),i+n=es.length→acc.length≤i→j4x p es (es.length:Int) (i:Int) acc=some (acc++lvs (es.drop i) p)
 | 0,i,acc,hi,_=>by
  rw [jcd]
  simp only [j4e]
  rw [j00 (by omega),j6,j0a,List.drop_of_length_le (by omega)]
  simp [lvs]
 | n+1,i,acc,hi,ha=>by
  have hi':i<es.length:=by omega
  have hgd:es.getD i ((0:Int),((0:Int),((0:Int),((0:Int),(0:Int)))))=es[i]:=by simp [List.getD,hi']
  rw [jcd]
  simp only [j4e]
  rw [j01 (by omega),j14 (by omega) (by omega),j02 (x:=(i:Int)+1) (by omega) (by omega)]
  simp only [j5,j7,hgd]
  have hc:cond (es[i].1==(0:Int)) (es[i].2.1==p) false=(es[i].1==0&&es[i].2.1==p):=by cases es[i].1==(0:Int)<;>rfl
  rw [hc,List.drop_eq_getElem_cons hi']
  cases hx:(es[i].1==0&&es[i].2.1==p) with
  | true=>
   rw [j5,j01 (by simp [j07];omega),j5,j06]
   have:=jwM hl (p:=p) n (i+1) (acc++[(es[i].2.2.2.1,es[i].2.2.2.2)]) (by omega) (by simp;omega)
   have e:lvs (es[i]::es.drop (i+1)) p=(es[i].2.2.2.1,es[i].2.2.2.2)::lvs (es.drop (i+1)) p:=by simp only [lvs,List.filter_cons,hx,if_true,List.map_cons]
   rw [e]
   rw [List.append_assoc] at this
   exact this
  | false=>
   rw [j6,j06]
   have:=jwM hl (p:=p) n (i+1) acc (by omega) (by omega)
   have e:lvs (es[i]::es.drop (i+1)) p=lvs (es.drop (i+1)) p:=by
    unfold lvs
    rw [List.filter_cons_of_neg (by simp only [hx];simp)]
   rw [e]
   exact this
theorem jtM {es:List j59} {np:Nat} (hE:∀ x∈es,ECk np x) (hl:es.length≤48) (nm:ByteArray) (ls:List j0R) (p:Int) :
  ∃ out,j4o (nm,(ls,es)) p=some out∧StS (-1) out∧(∀ t,inS t out↔jcI es p t=true)∧out.length≤es.length:=by
 have lp:=jwM (es:=es) (by omega) (p:=p) es.length 0 [] (by omega) (by simp)
 rw [List.nil_append,List.drop_zero] at lp
 have hfl:(lvs es p).length≤es.length:=by unfold lvs;rw [List.length_map];exact List.length_filter_le _ _
 have hb:∀ s∈lvs es p,0≤s.1∧s.1<s.2∧s.2≤1000000000000:=fun s h=>by
  obtain ⟨x,hx,rfl⟩:=List.mem_map.1 h
  have:=hE x (List.mem_filter.1 hx).1
  exact ⟨this.f0,this.ft,this.t1⟩
 obtain ⟨out,e,h1,h2,h3,h4⟩:=jhB (l:=lvs es p) (by omega) (fun s h=>by have:=hb s h;omega) (lo:=0) (hi:=1000000000000) (fun s h _=>by have:=hb s h;omega)
 refine ⟨out,?_,h1,fun t=>(h2 t).trans jxZ,by omega⟩
 simp only [j4o,show Int.ofNat es.length=(es.length:Int) from rfl]
 rw [show j4x p es (es.length:Int) 0 []=_ from lp]
 simp only [j3,e]
theorem jrL {β:Type} (l:List (Int×β)) (k:Int) (v:β) (j:Int):j7F (j7d l k v) j=(j==k||j7F l j):=by
 induction l with
 | nil=>simp [j7d,j7F]
 | cons x r ih=>
  simp only [j7d]
  by_cases h:k=x.1
  ·rw [j7a h,j5]
   simp only [j7F,List.any_cons]
   rw [←h]
   cases j==k<;>simp
  ·rw [j48 h,j6]
   have:j7F (x::j7d r k v) j=(j==x.1||j7F (j7d r k v) j):=rfl
   rw [this,ih]
   have:j7F (x::r) j=(j==x.1||j7F r j):=rfl
   rw [this]
   cases j==x.1<;>cases j==k<;>simp
theorem jm2 {β:Type} (d:β) (l:List (Int×β)) (k:Int) (v:β) (j:Int):j63 d (j7d l k v) j=cond (j==k) v (j63 d l j):=by
 induction l with
 | nil=>rfl
 | cons x r ih=>
  simp only [j7d]
  by_cases h:k=x.1
  ·rw [j7a h,j5]
   show cond (j==k) v (j63 d r j)=cond (j==k) v (cond (j==x.1) x.2 (j63 d r j))
   rw [←h]
   cases j==k<;>rfl
  ·rw [j48 h,j6]
   show cond (j==x.1) x.2 (j63 d (j7d r k v) j)=cond (j==k) v (cond (j==x.1) x.2 (j63 d r j))
   rw [ih]
   by_cases hj:j=x.1
   ·rw [j7a hj,j5,j48 (show ¬ j=k by omega)]
    rfl
   ·rw [j48 hj]
    rfl
def OrS (p:Int):SgL→Prop
 | []=>True
 | x::r=>p≤x.1∧x.1<x.2.1∧OrS x.2.1 r
def inG (t:Int) (l:SgL):Prop:=∃ x∈l,x.1≤t∧t<x.2.1
theorem jhC {t:Int} {s:SgT} {l:SgL}:inG t (s::l)↔(s.1≤t∧t<s.2.1)∨inG t l:=by
 constructor
 ·rintro ⟨u,hu,h⟩
  rcases List.mem_cons.1 hu with rfl | hu
  ·exact .inl h
  ·exact .inr ⟨u,hu,h⟩
 ·rintro (h | ⟨u,hu,h⟩)
  ·exact ⟨s,by simp,h⟩
  ·exact ⟨u,by simp [hu],h⟩
theorem jpU {t:Int}:¬ inG t []:=by rintro ⟨s,hs,_⟩;simp at hs
theorem OrS.weak {p q:Int} (hq:q≤p):∀ {l:SgL},OrS p l→OrS q l
 | [],_=>trivial
 | _::_,h=>⟨by have:=h.1;omega,h.2⟩
theorem OrS.low {p t:Int}:∀ {l:SgL},OrS p l→inG t l→p≤t
 | [],_,h=>absurd h jpU
 | s::r,h,hx=>by
  rcases jhC.1 hx with hx | hx
  ·have:=h.1;omega
  ·have:=OrS.low h.2.2 hx;have:=h.1;have:=h.2.1;omega
theorem OrS.app {e:Int} {r:SgL} (hr:OrS e r):∀ {l:SgL} {p:Int},OrS p l→p≤e→(∀ x∈l,x.2.1≤e)→OrS p (l++r)
 | [],_,_,hp,_=>hr.weak hp
 | x::l,p,h,_,hl=>⟨h.1,h.2.1,hr.app h.2.2 (hl x (by simp)) (fun y hy=>hl y (by simp [hy]))⟩
theorem OrS.apart {p:Int}:∀ {l:SgL},OrS p l→l.Pairwise (fun x y=>x.2.1≤y.1)∧∀ x∈l,p≤x.1
 | [],_=>⟨List.Pairwise.nil,by simp⟩
 | x::l,h=>by
  obtain ⟨h1,h2⟩:=OrS.apart h.2.2
  exact ⟨List.pairwise_cons.2 ⟨h2,h1⟩,fun y hy=>by
   rcases List.mem_cons.1 hy with rfl | hy
   ·exact h.1
   ·have:=h2 y hy;have:=h.1;have:=h.2.1;omega⟩
def lvO (s:j1N) (p:Int):SL:=(j4o s p).getD []
def woO (s:j1N) (x:SgT):SL:=(j2p [(x.1,x.2.1)] (lvO s x.2.2)).getD []
def prs (s:j1N) (x:SgT):SgL:=if x.2.2<0 then [] else (woO s x).map fun u=>(u.1,(u.2,x.2.2))
section
variable {nm:ByteArray} {ls:List j0R} {es:List j59} {np:Nat} (hE:∀ x∈es,ECk np x) (hl:es.length≤48)
include hE hl
theorem jvI (p:Int):j4o (nm,(ls,es)) p=some (lvO (nm,(ls,es)) p)∧StS (-1) (lvO (nm,(ls,es)) p)∧(∀ t,inS t (lvO (nm,(ls,es)) p)↔jcI es p t=true)∧(lvO (nm,(ls,es)) p).length≤es.length:=by
 obtain ⟨out,e,h⟩:=jtM hE hl nm ls p
 have:lvO (nm,(ls,es)) p=out:=by simp [lvO,e]
 rw [this]
 exact ⟨e,h⟩
theorem jtN {x:SgT} (hx:x.1<x.2.1):j2p [(x.1,x.2.1)] (lvO (nm,(ls,es)) x.2.2)=some (woO (nm,(ls,es)) x)∧StS (x.1-1) (woO (nm,(ls,es)) x)∧
  (∀ t,inS t (woO (nm,(ls,es)) x)↔(x.1≤t∧t<x.2.1)∧jcI es x.2.2 t=false)∧(woO (nm,(ls,es)) x).length≤1+es.length:=by
 obtain ⟨_,l1,l2,l3⟩:=jvI (nm:=nm) (ls:=ls) hE hl x.2.2
 obtain ⟨out,e,h1,h2,h3⟩:=jip (B:=lvO (nm,(ls,es)) x.2.2) (by omega) (A:=[(x.1,x.2.1)]) (p:=x.1-1) ⟨by dsimp only;omega,hx,trivial⟩ l1 (by simp)
 have:woO (nm,(ls,es)) x=out:=by simp [woO,e]
 rw [this]
 refine ⟨e,h1,fun t=> ?_,by rw [List.length_singleton] at h3;omega⟩
 rw [h2 t,l2 t,j1v]
 constructor
 ·rintro ⟨h | h,h'⟩
  ·exact ⟨h,by simpa using h'⟩
  ·exact absurd h j4m
 ·rintro ⟨h,h'⟩
  exact ⟨.inl h,by simp [h']⟩
omit hE hl in
theorem jvJ {S:SgL} {m j f e p:Int} {mp:List (Int×SL)} {W:SL} (hW:W.length≤1000):∀ (n i:Nat) (acc:SgL),i+n=W.length→acc.length+n≤1000000000→
  j2N S m j (W.length:Int) (i:Int) nm ls es f e p mp acc W=some (S,m,j,nm,ls,es,mp,acc++(W.drop i).map fun u=>(u.1,(u.2,p)))
 | 0,i,acc,hi,_=>by
  rw [jbc]
  simp only [j3Q]
  rw [j00 (by omega),j6,j0a,List.drop_of_length_le (by omega)]
  simp
 | n+1,i,acc,hi,ha=>by
  have hi':i<W.length:=by omega
  have hgd:W.getD i ((0:Int),(0:Int))=W[i]:=by simp [List.getD,hi']
  rw [jbc]
  simp only [j3Q]
  rw [j01 (by omega),j14 (by omega) (by omega),j02 (x:=(i:Int)+1) (by omega) (by omega)]
  simp only [j5,j7,hgd]
  rw [j01 (by simp [j07];omega),j5,j06,List.drop_eq_getElem_cons hi',List.map_cons]
  have:=jvJ (S:=S) (m:=m) (j:=j) (f:=f) (e:=e) (p:=p) (mp:=mp) hW n (i+1) (acc++[(W[i].1,(W[i].2,p))]) (by omega) (by simp;omega)
  rw [List.append_assoc] at this
  exact this
theorem jtO {S:SgL} (hS:S.length≤100000) (hpos:∀ x∈S,x.1<x.2.1):∀ (n i:Nat) (mp:List (Int×SL)) (acc:SgL),i+n=S.length→(∀ p,j7F mp p=true→j63 [] mp p=lvO (nm,(ls,es)) p)→acc.length≤49*i→
  j3n S (S.length:Int) (i:Int) nm ls es mp acc=some (acc++(S.drop i).flatMap (prs (nm,(ls,es))))
 | 0,i,mp,acc,hi,_,_=>by
  rw [jbd]
  simp only [j1V]
  rw [j00 (by omega),j6,j0a,List.drop_of_length_le (by omega)]
  simp
 | n+1,i,mp,acc,hi,hm,ha=>by
  have hi':i<S.length:=by omega
  have hgd:S.getD i ((0:Int),((0:Int),(0:Int)))=S[i]:=by simp [List.getD,hi']
  have hp:=hpos _ (List.getElem_mem hi')
  rw [jbd]
  simp only [j1V]
  rw [j01 (show (i:Int)<(S.length:Int) by omega),j14 (by omega) (by omega)]
  simp only [j5,j7,hgd]
  rw [List.drop_eq_getElem_cons hi',List.flatMap_cons]
  by_cases hneg:S[i].2.2<0
  ·rw [j01 hneg,j5,j02 (x:=(i:Int)+1) (by omega) (by omega),j06]
   have e:prs (nm,(ls,es)) S[i]=[]:=if_pos hneg
   rw [e,List.nil_append]
   exact jtO hS hpos n (i+1) mp acc (by omega) hm (by omega)
  ·have e:prs (nm,(ls,es)) S[i]=(woO (nm,(ls,es)) S[i]).map fun u=>(u.1,(u.2,S[i].2.2)):=if_neg hneg
   obtain ⟨w1,_,_,w4⟩:=jtN (nm:=nm) (ls:=ls) hE hl hp
   rw [j00 hneg,j6]
   have fin:∀ mp':List (Int×SL),(∀ p,j7F mp' p=true→j63 [] mp' p=lvO (nm,(ls,es)) p)→j63 [] mp' S[i].2.2=lvO (nm,(ls,es)) S[i].2.2→
     lpK ((j2p [(S[i].1,S[i].2.1)] (j63 [] mp' S[i].2.2)).bind fun r49=>
      (j2N S (S.length:Int) (i:Int) (Int.ofNat r49.length) 0 nm ls es S[i].1 S[i].2.1 S[i].2.2 mp' acc r49).bind fun q2=>
       (some (Sum.inl (q2.1,q2.2.1,w64 (q2.2.2.1+1),q2.2.2.2.1,q2.2.2.2.2.1,q2.2.2.2.2.2.1,q2.2.2.2.2.2.2.1,q2.2.2.2.2.2.2.2)):Option ((SgL×Int×Int×ByteArray×List j0R×List j59×List (Int×SL)×SgL) ⊕ SgL)))
      (fun h=>j3n h.1 h.2.1 h.2.2.1 h.2.2.2.1 h.2.2.2.2.1 h.2.2.2.2.2.1 h.2.2.2.2.2.2.1 h.2.2.2.2.2.2.2)=some (acc++(prs (nm,(ls,es)) S[i]++(S.drop (i+1)).flatMap (prs (nm,(ls,es))))):=fun mp' hm' hg=>by
    have l2:=jvJ (nm:=nm) (ls:=ls) (es:=es) (S:=S) (m:=(S.length:Int)) (j:=(i:Int)) (f:=S[i].1) (e:=S[i].2.1) (p:=S[i].2.2) (mp:=mp') (W:=woO (nm,(ls,es)) S[i]) (by omega) (woO (nm,(ls,es)) S[i]).length 0 acc (by omega) (by omega)
    rw [hg,w1]
    simp only [j3]
    rw [show j2N S (S.length:Int) (i:Int) (Int.ofNat (woO (nm,(ls,es)) S[i]).length) 0 nm ls es S[i].1 S[i].2.1 S[i].2.2 mp' acc (woO (nm,(ls,es)) S[i])=_ from l2]
    simp only [j3,List.drop_zero]
    rw [j02 (x:=(i:Int)+1) (by omega) (by omega),j06,←e,←List.append_assoc]
    exact jtO hS hpos n (i+1) mp' _ (by omega) hm' (by rw [List.length_append,e,List.length_map];omega)
   cases hh:j7F mp S[i].2.2 with
   | true=>
    simp only [Bool.not_true,j6]
    exact fin mp hm (hm _ hh)
   | false=>
    simp only [Bool.not_false,j5]
    rw [show j4o (nm,(ls,es)) S[i].2.2=_ from (jvI (nm:=nm) (ls:=ls) hE hl S[i].2.2).1]
    simp only [j3]
    refine fin _ (fun p hp'=> ?_) ?_
    ·rw [jm2]
     by_cases hpe:p=S[i].2.2
     ·rw [j7a hpe,j5,hpe]
     ·rw [jrL,j48 hpe,Bool.false_or] at hp'
      rw [j48 hpe,j6]
      exact hm p hp'
    ·rw [jm2]
     simp
theorem jrM {S:SgL} (hS:S.length≤100000) (hpos:∀ x∈S,x.1<x.2.1):j4Y (nm,(ls,es)) S=some (S.flatMap (prs (nm,(ls,es)))):=by
 simp only [j4Y,show Int.ofNat S.length=(S.length:Int) from rfl]
 rw [show j3n S (S.length:Int) 0 nm ls es [] []=_ from jtO hE hl hS hpos S.length 0 [] [] (by omega) (fun p h=>by simp [j7F] at h) (by simp)]
 rfl
theorem jwN {x:SgT} (hx:x.1<x.2.1):(prs (nm,(ls,es)) x).length≤1+es.length:=by
 unfold prs
 split
 ·simp
 ·rw [List.length_map]
  exact (jtN (nm:=nm) (ls:=ls) hE hl hx).2.2.2
theorem jqX:∀ {S:SgL},(∀ x∈S,x.1<x.2.1)→(S.flatMap (prs (nm,(ls,es)))).length≤S.length*(1+es.length)
 | [],_=>by simp
 | x::S,h=>by
  have h1:=jwN (nm:=nm) (ls:=ls) hE hl (h x (by simp))
  have h2:=jqX (S:=S) (fun y hy=>h y (by simp [hy]))
  rw [List.flatMap_cons,List.length_append,List.length_cons,Nat.add_mul];omega
theorem jvK {p:Int} {c e:Int}:∀ {W:SL} {q:Int},StS q W→(∀ u∈W,u.2≤e)→OrS (q+1) (W.map fun u=>(u.1,(u.2,c)))∧(p≤q+1→OrS p (W.map fun u=>(u.1,(u.2,c))))
 | [],_,_,_=>⟨trivial,fun _=>trivial⟩
 | u::W,q,h,hb=>by
  have _:=hE;have _:=hl
  have h3:=(jvK (p:=u.2) (c:=c) (e:=e) (W:=W) h.2.2 (fun v hv=>hb v (by simp [hv]))).2 (by omega)
  exact ⟨⟨by have:=h.1;dsimp only;omega,h.2.1,h3⟩,fun hp=>⟨by have:=h.1;dsimp only;omega,h.2.1,h3⟩⟩
theorem jtP {f:Int→Int} {b:Int}:∀ {S:SgL} {a:Int},Ch f b a S→(∀ x∈S,x.1<x.2.1)→
  OrS a (S.flatMap (prs (nm,(ls,es))))∧(∀ x∈S.flatMap (prs (nm,(ls,es))),x.2.1≤b∧∀ t,x.1≤t→t<x.2.1→f t=x.2.2∧0≤x.2.2∧jcI es x.2.2 t=false)∧
   ∀ t,a≤t→t<b→0≤f t→jcI es (f t) t=false→inG t (S.flatMap (prs (nm,(ls,es))))
 | [],a,h,_=>⟨trivial,by simp,fun t h1 h2=>by have h:a=b:=h;omega⟩
 | x::S,a,h,hpos=>by
  obtain ⟨h1,h2,h3,h4⟩:=h
  have hx:=hpos x (by simp)
  obtain ⟨i1,i2,i3⟩:=jtP (f:=f) (b:=b) h4 (fun y hy=>hpos y (by simp [hy]))
  have hle:=h4.le
  obtain ⟨_,w2,w3,_⟩:=jtN (nm:=nm) (ls:=ls) hE hl hx
  have hmem:∀ y∈prs (nm,(ls,es)) x,0≤x.2.2∧y.2.2=x.2.2∧y.1<y.2.1∧x.1≤y.1∧y.2.1≤x.2.1∧∀ t,y.1≤t→t<y.2.1→jcI es x.2.2 t=false:=fun y hy=>by
   unfold prs at hy
   split at hy
   ·simp at hy
   ·obtain ⟨u,hu,rfl⟩:=List.mem_map.1 hy
    have hm:=StS.mem w2 u hu
    have e1:=(w3 (u.2-1)).1 ⟨u,hu,by omega,by omega⟩
    exact ⟨by omega,rfl,hm.2,by dsimp only;omega,by dsimp only;omega,fun t t1 t2=>((w3 t).1 ⟨u,hu,t1,t2⟩).2⟩
  rw [List.flatMap_cons]
  refine ⟨?_,fun y hy=> ?_,fun t t1 t2 t3 t4=> ?_⟩
  ·refine OrS.app i1 ?_ h2 (fun y hy=>(hmem y hy).2.2.2.2.1)
   unfold prs
   split
   ·trivial
   ·exact (jvK hE hl (p:=a) (c:=x.2.2) (e:=x.2.1) w2 (fun u hu=>by
     have hm:=StS.mem w2 u hu
     have e1:=(w3 (u.2-1)).1 ⟨u,hu,by omega,by omega⟩
     omega)).2 (by omega)
  ·rcases List.mem_append.1 hy with hy | hy
   ·obtain ⟨g1,g2,g3,g4,g5,g6⟩:=hmem y hy
    exact ⟨by omega,fun t t1 t2=>⟨by rw [g2];exact h3 t (by omega) (by omega),by omega,by rw [g2];exact g6 t t1 t2⟩⟩
   ·exact i2 y hy
  ·by_cases hlt:t<x.2.1
   ·have hf:=h3 t t1 hlt
    rw [hf] at t3 t4
    obtain ⟨u,hu,u1,u2⟩:=(w3 t).2 ⟨⟨by omega,hlt⟩,t4⟩
    refine ⟨(u.1,(u.2,x.2.2)),List.mem_append_left _ ?_,u1,u2⟩
    unfold prs
    rw [if_neg (by omega)]
    exact List.mem_map.2 ⟨u,hu,rfl⟩
   ·obtain ⟨y,hy,y1,y2⟩:=i3 t (by omega) t2 t3 t4
    exact ⟨y,List.mem_append_right _ hy,y1,y2⟩
end
def wiF:Nat→SgL→SL→SgL
 | n+1,s::a,u::b=>(if (if u.1>s.1 then u.1 else s.1)<(if u.2<s.2.1 then u.2 else s.2.1) then [((if u.1>s.1 then u.1 else s.1),((if u.2<s.2.1 then u.2 else s.2.1),s.2.2))] else [])++
  (if s.2.1<u.2 then wiF n a (u::b) else wiF n (s::a) b)
 | _,_,_=>[]
theorem jtQ:∀ (n:Nat) (a:SgL) (b:SL) (p q:Int),a.length+b.length≤n→OrS p a→StS q b→
  OrS p (wiF n a b)∧OrS q (wiF n a b)∧(∀ x∈wiF n a b,∃ s∈a,s.1≤x.1∧x.2.1≤s.2.1∧x.2.2=s.2.2∧∀ t,x.1≤t→t<x.2.1→inS t b)∧(∀ t,inG t a→inS t b→inG t (wiF n a b))∧(wiF n a b).length≤a.length+b.length
 | 0,a,b,p,q,hn,_,_=>by
  obtain rfl:a=[]:=List.length_eq_zero_iff.1 (by omega)
  exact ⟨trivial,trivial,by simp [wiF],fun t h=>absurd h jpU,by simp [wiF]⟩
 | n+1,[],b,p,q,_,_,_=>⟨trivial,trivial,by simp [wiF],fun t h=>absurd h jpU,by simp [wiF]⟩
 | n+1,_::_,[],p,q,_,_,_=>⟨trivial,trivial,by simp [wiF],fun t _ h=>absurd h j4m,by simp [wiF]⟩
 | n+1,s::a,u::b,p,q,hn,ha,hb=>by
  obtain ⟨a1,a2,a3⟩:=ha
  obtain ⟨b1,b2,b3⟩:=hb
  simp only [List.length_cons] at hn ⊢
  have hx:∃ f t:Int,f=(if u.1>s.1 then u.1 else s.1)∧t=(if u.2<s.2.1 then u.2 else s.2.1)∧(∀ x,(f≤x∧x<t)↔(s.1≤x∧x<s.2.1)∧(u.1≤x∧x<u.2))∧p≤f∧q≤f∧t≤s.2.1∧t≤u.2∧s.1≤f:=by
   refine ⟨_,_,rfl,rfl,fun x=> ?_,?_,?_,?_,?_,?_⟩
   ·constructor
    ·intro h;split at h<;>split at h<;>omega
    ·intro h;split<;>split<;>omega
   all_goals split<;>omega
  obtain ⟨f,t,ef,et,hi,f1,f2,t1,t2,f3⟩:=hx
  simp only [wiF,←ef,←et]
  have key:∀ (a':SgL) (b':SL) (r:SgL),OrS t r→OrS p r→OrS q r→(∀ x∈r,∃ s'∈(s::a),s'.1≤x.1∧x.2.1≤s'.2.1∧x.2.2=s'.2.2∧∀ y,x.1≤y→y<x.2.1→inS y (u::b))→(∀ y,inG y a'→inS y b'→inG y r)→
    r.length≤a'.length+b'.length→a'.length+b'.length+1=a.length+1+(b.length+1)→(∀ y,inG y (s::a)→inS y (u::b)→(f≤y∧y<t)∨(inG y a'∧inS y b'))→
    OrS p ((if f<t then [(f,(t,s.2.2))] else [])++r)∧OrS q ((if f<t then [(f,(t,s.2.2))] else [])++r)∧(∀ x∈((if f<t then [(f,(t,s.2.2))] else [])++r),∃ s'∈(s::a),s'.1≤x.1∧x.2.1≤s'.2.1∧x.2.2=s'.2.2∧∀ y,x.1≤y→y<x.2.1→inS y (u::b))∧
     (∀ y,inG y (s::a)→inS y (u::b)→inG y ((if f<t then [(f,(t,s.2.2))] else [])++r))∧((if f<t then [(f,(t,s.2.2))] else [])++r).length≤a.length+1+(b.length+1):=by
   intro a' b' r hr1 hr2 hr3 hr4 hr5 hl hl2 hiff
   by_cases hft:f<t
   ·rw [if_pos hft]
    refine ⟨⟨f1,hft,hr1⟩,⟨f2,hft,hr1⟩,fun x hx=> ?_,fun y y1 y2=> ?_,by simp;omega⟩
    ·rcases List.mem_cons.1 hx with rfl | hx
     ·exact ⟨s,by simp,f3,t1,rfl,fun y y1 y2=>j1v.2 (.inl ((hi y).1 ⟨y1,y2⟩).2)⟩
     ·exact hr4 x hx
    ·rcases hiff y y1 y2 with h | h
     ·exact jhC.2 (.inl h)
     ·exact jhC.2 (.inr (hr5 y h.1 h.2))
   ·rw [if_neg hft,List.nil_append]
    refine ⟨hr2,hr3,hr4,fun y y1 y2=> ?_,by omega⟩
    rcases hiff y y1 y2 with h | h
    ·omega
    ·exact hr5 y h.1 h.2
  by_cases hc:s.2.1<u.2
  ·rw [if_pos hc]
   obtain ⟨i1,i2,i3,i4,i5⟩:=jtQ n a (u::b) s.2.1 q (by simp;omega) a3 ⟨b1,b2,b3⟩
   refine key a (u::b) _ (i1.weak t1) (i1.weak (by omega)) i2 (fun x hx=> ?_) i4 i5 (by simp;omega) (fun y y1 y2=> ?_)
   ·obtain ⟨s',hs',r⟩:=i3 x hx
    exact ⟨s',by simp [hs'],r⟩
   ·rcases jhC.1 y1 with h | h
    ·rcases j1v.1 y2 with h' | h'
     ·exact .inl ((hi y).2 ⟨h,h'⟩)
     ·have:=StS.low b3 h';omega
    ·exact .inr ⟨h,y2⟩
  ·rw [if_neg hc]
   obtain ⟨i1,i2,i3,i4,i5⟩:=jtQ n (s::a) b p u.2 (by simp;omega) ⟨a1,a2,a3⟩ b3
   refine key (s::a) b _ (i2.weak t2) i1 (i2.weak (by omega)) (fun x hx=> ?_) i4 i5 (by simp;omega) (fun y y1 y2=> ?_)
   ·obtain ⟨s',hs',r1,r2,r3,r4⟩:=i3 x hx
    exact ⟨s',hs',r1,r2,r3,fun y y1 y2=>j1v.2 (.inr (r4 y y1 y2))⟩
   ·rcases j1v.1 y2 with h | h
    ·rcases jhC.1 y1 with h' | h'
     ·exact .inl ((hi y).2 ⟨h',h⟩)
     ·have:=OrS.low a3 h';omega
    ·exact .inr ⟨y1,h⟩
theorem jtR {A:SgL} {B:SL} (hA:A.length≤1000000) (hB:B.length≤1000000):∀ (n i k:Nat) (acc:SgL),i≤A.length→k≤B.length→(A.length-i)+(B.length-k)=n→acc.length+n≤3000000→
  j3c A B (i:Int) (k:Int) acc=some (acc++wiF n (A.drop i) (B.drop k))
 | n,i,k,acc,hi,hk,hn,hacc=>by
  rw [jgY]
  simp only [j5n,show Int.ofNat (List.length A)=(A.length:Int) from rfl,show Int.ofNat (List.length B)=(B.length:Int) from rfl]
  by_cases hend:i<A.length∧k<B.length
  ·obtain ⟨hi',hk'⟩:=hend
   obtain ⟨n,rfl⟩:∃ m,n=m+1:=⟨n-1,by omega⟩
   have gA:A.getD i ((0:Int),((0:Int),(0:Int)))=A[i]:=by simp [List.getD,hi']
   have gB:B.getD k ((0:Int),(0:Int))=B[k]:=by simp [List.getD,hk']
   rw [j01 (show (i:Int)<(A.length:Int) by omega),j01 (show (k:Int)<(B.length:Int) by omega),j14 (show (0:Int)≤(i:Int) by omega) (by omega),j14 (show (0:Int)≤(k:Int) by omega) (by omega)]
   simp only [j5,j7,gA,gB]
   rw [j02 (x:=(i:Int)+1) (by omega) (by omega),j02 (x:=(k:Int)+1) (by omega) (by omega)]
   rw [List.drop_eq_getElem_cons hi',List.drop_eq_getElem_cons hk']
   simp only [wiF]
   generalize (if B[k].1>A[i].1 then B[k].1 else A[i].1:Int)=f
   generalize (if B[k].2<A[i].2.1 then B[k].2 else A[i].2.1:Int)=t
   have ih1:∀ acc':SgL,acc'.length≤acc.length+1→j3c A B ((i:Int)+1) (k:Int) acc'=some (acc'++wiF n (A.drop (i+1)) (B[k]::B.drop (k+1))):=fun acc' ha'=>by
    have:=jtR hA hB n (i+1) k acc' (by omega) (by omega) (by omega) (by omega)
    rw [←List.drop_eq_getElem_cons hk']
    exact this
   have ih2:∀ acc':SgL,acc'.length≤acc.length+1→j3c A B (i:Int) ((k:Int)+1) acc'=some (acc'++wiF n (A[i]::A.drop (i+1)) (B.drop (k+1))):=fun acc' ha'=>by
    have:=jtR hA hB n i (k+1) acc' (by omega) (by omega) (by omega) (by omega)
    rw [←List.drop_eq_getElem_cons hi']
    exact this
   by_cases hft:f<t
   ·rw [j01 hft,if_pos hft,j01 (by simp [j07];omega)]
    simp only [j5]
    by_cases hc:A[i].2.1<B[k].2
    ·rw [j01 hc,if_pos hc]
     simp only [j5,j06]
     rw [ih1 _ (by simp),List.append_assoc]
    ·rw [j00 hc,if_neg hc]
     simp only [j6,j06]
     rw [ih2 _ (by simp),List.append_assoc]
   ·rw [j00 hft,if_neg hft]
    simp only [j6]
    by_cases hc:A[i].2.1<B[k].2
    ·rw [j01 hc,if_pos hc]
     simp only [j5,j06]
     rw [ih1 _ (by omega),List.nil_append]
    ·rw [j00 hc,if_neg hc]
     simp only [j6,j06]
     rw [ih2 _ (by omega),List.nil_append]
  ·have hc:cond (decide ((i:Int)<(A.length:Int))) (decide ((k:Int)<(B.length:Int))) false=false:=by
    by_cases h1:i<A.length
    ·rw [j01 (by omega),j5];exact j00 (by omega)
    ·rw [j00 (by omega),j6]
   rw [hc,j6,j0a]
   have:wiF n (A.drop i) (B.drop k)=[]:=by
    by_cases h1:i<A.length
    ·rw [List.drop_eq_nil_of_le (show B.length≤k by omega)]
     cases n<;>cases A.drop i<;>rfl
    ·rw [List.drop_eq_nil_of_le (show A.length≤i by omega)]
     cases n<;>rfl
   rw [this,List.append_nil]
theorem jy0 {l:SgL} (hl:l.length≤1000000):∀ (n i:Nat) (acc:SL),i+n=l.length→acc.length≤i→j5c l (l.length:Int) (i:Int) acc=some (acc++(l.drop i).map fun x=>(x.1,x.2.1))
 | 0,i,acc,hi,_=>by
  rw [jd0]
  simp only [j4y]
  rw [j00 (by omega),j6,j0a,List.drop_of_length_le (by omega)]
  simp
 | n+1,i,acc,hi,ha=>by
  have hi':i<l.length:=by omega
  have hgd:l.getD i ((0:Int),((0:Int),(0:Int)))=l[i]:=by simp [List.getD,hi']
  rw [jd0]
  simp only [j4y]
  rw [j01 (by omega),j14 (by omega) (by omega),j02 (x:=(i:Int)+1) (by omega) (by omega)]
  simp only [j5,j7,hgd]
  rw [j01 (by simp [j07];omega),j5,j06,List.drop_eq_getElem_cons hi',List.map_cons]
  have:=jy0 hl n (i+1) (acc++[(l[i].1,l[i].2.1)]) (by omega) (by simp;omega)
  rw [List.append_assoc] at this
  exact this
theorem jv1 {l:SgL} (hl:l.length≤1000000) {lo hi:Int} (h0:0≤lo) (h1:hi≤8589934592) (hb:∀ x∈l,lo≤x.1∧x.1<x.2.1∧x.2.1≤hi) :
  ∃ out,j6L l=some out∧StS (lo-1) out∧(∀ t,inS t out↔inG t l)∧out.length≤l.length:=by
 have lp:=jy0 hl l.length 0 [] (by omega) (by simp)
 rw [List.nil_append,List.drop_zero] at lp
 have hb':∀ s∈l.map (fun x=>(x.1,x.2.1)),lo≤s.1∧s.1<s.2∧s.2≤hi:=fun s h=>by
  obtain ⟨x,hx,rfl⟩:=List.mem_map.1 h
  exact hb x hx
 obtain ⟨out,e,g1,g2,g3,g4⟩:=jhB (l:=l.map fun x=>(x.1,x.2.1)) (by simpa using hl) (fun s h=>by have:=hb' s h;omega) (lo:=lo) (hi:=hi) (fun s h _=>by have:=hb' s h;omega)
 refine ⟨out,?_,g1,fun t=>(g2 t).trans ⟨?_,?_⟩,by simpa using g3⟩
 ·simp only [j6L,show Int.ofNat l.length=(l.length:Int) from rfl]
  rw [show j5c l (l.length:Int) 0 []=_ from lp]
  simp only [j3,e]
 ·rintro ⟨s,hs,h⟩
  obtain ⟨x,hx,rfl⟩:=List.mem_map.1 hs
  exact ⟨x,hx,h⟩
 ·rintro ⟨x,hx,h⟩
  exact ⟨_,List.mem_map.2 ⟨x,hx,rfl⟩,h⟩
instance (L:j0R):Decidable (Rt L):=
 decidable_of_iff (1≤L.2.2.1.1∧L.2.2.1.1≤100000∧0≤L.2.2.1.2∧L.2.2.1.2≤86399∧0≤L.2.2.2.1∧L.2.2.2.1≤2∧1≤L.2.2.2.2.1∧L.2.2.2.2.1≤400∧L.2.2.2.2.2.1≠[])
  ⟨fun ⟨a,b,c,d,e,f,g,h,i⟩=>⟨a,b,c,d,e,f,g,h,i⟩,fun ⟨a,b,c,d,e,f,g,h,i⟩=>⟨a,b,c,d,e,f,g,h,i⟩⟩
theorem jpV {f:Nat→Bool}:∀ {n k:Nat},topI f n=some k→k<n
 | 0,k,h=>by simp [topI] at h
 | n+1,k,h=>by
  simp only [topI] at h
  cases hf:f n with
  | true=>rw [hf] at h;simp at h;omega
  | false=>rw [hf] at h;simp at h;have:=jpV h;omega
def jnl (t p:Int) (x:j59):Int:=
 if t<x.2.2.2.1∨x.2.2.2.2≤t then p else if x.1=1 then x.2.1 else if x.1=2∧p=x.2.1 then x.2.2.1 else if x.1=2∧p=x.2.2.1 then x.2.1 else p
def jdi (t:Int):Int→List j59→Int
 | p,[]=>p
 | p,x::r=>jdi t (jnl t p x) r
theorem jnm {es:List j59} (hl:es.length≤100) {t:Int}:∀ (n i:Nat) (p:Int),i+n=es.length→j4Z p t es (es.length:Int) (i:Int)=some (jdi t p (es.drop i))
 | 0,i,p,hi=>by
  rw [jeG]
  simp only [j5A]
  rw [j00 (by omega),j6,j0a,List.drop_of_length_le (by omega)]
  rfl
 | n+1,i,p,hi=>by
  have hi':i<es.length:=by omega
  have hgd:es.getD i ((0:Int),((0:Int),((0:Int),((0:Int),(0:Int)))))=es[i]:=by simp [List.getD,hi']
  have ih:=fun p=>jnm hl (t:=t) n (i+1) p (by omega)
  rw [jeG]
  simp only [j5A,jg3,j3]
  rw [j01 (by omega),j14 (by omega) (by omega),j02 (x:=(i:Int)+1) (by omega) (by omega),List.drop_eq_getElem_cons hi']
  simp only [j5,j7,hgd,jdi]
  generalize es[i]=x
  unfold jnl
  by_cases ha:t<x.2.2.2.1∨x.2.2.2.2≤t
  ·rw [if_pos ha]
   have:cond (decide (x.2.2.2.1≤t)) (decide (t<x.2.2.2.2)) false=false:=by
    rcases ha with ha | ha
    ·rw [j00 (show ¬ x.2.2.2.1≤t by omega)];rfl
    ·rw [j00 (show ¬ t<x.2.2.2.2 by omega)];cases decide (x.2.2.2.1≤t)<;>rfl
   rw [this]
   simp only [Bool.not_false,j5,j06]
   exact ih p
  ·rw [if_neg ha,j01 (show x.2.2.2.1≤t by omega),j01 (show t<x.2.2.2.2 by omega)]
   simp only [j5,Bool.not_true,j6]
   by_cases h0:x.1=0
   ·rw [j7a h0,if_neg (by omega),if_neg (by omega),if_neg (by omega),j5,j06]
    exact ih p
   rw [j48 h0,j6]
   by_cases h1:x.1=1
   ·rw [if_pos h1,j7a h1,j5,j06]
    exact ih _
   ·rw [if_neg h1,j48 h1,j6]
    by_cases h2:x.1=2
    ·rw [show (x.1 != 2)=false by simp [h2],j6]
     by_cases h3:p=x.2.1
     ·rw [if_pos ⟨h2,h3⟩,j7a h3,j5,j06]
      exact ih _
     ·rw [if_neg (fun h=>h3 h.2),j48 h3,j6]
      by_cases h4:p=x.2.2.1
      ·rw [if_pos ⟨h2,h4⟩,j7a h4,j5,j06]
       exact ih _
      ·rw [if_neg (fun h=>h4 h.2),j48 h4,j6,j06]
       exact ih _
    ·rw [if_neg (fun h=>h2 h.1),if_neg (fun h=>h2 h.1),show (x.1 != 2)=true by simp [h2],j5,j06]
     exact ih _
section
variable {zs:List j2E} {ps:List j1E} {cs:List CalT} (hs:SOk2 zs ps cs)
include hs
def whoS (zs:List j2E) (cs:List CalT) (s:j1N) (t:Int):Int:=jdi t (topP s.2.2 t (pfX zs cs s.2.1 t) s.2.1.length) s.2.2
theorem jy1 {ss:List j1N} (hc:jlo (zs,(ps,(cs,ss)))) {i:Nat} (hi:i<ss.length) {t:Int} (h0:0≤t) (h1:t≤8589934592):j5C (zs,(ps,(cs,ss))) (i:Int) t=some (whoS zs cs ss[i] t):=by
 have hsc:=hc.sc _ (List.getElem_mem hi)
 have hll:=hsc.ll;have hel:=hsc.el
 have hgs:ss.getD i (ByteArray.empty,(([]:List j0R),([]:List j59)))=ss[i]:=by simp [List.getD,hi]
 have hL:=jm1 (zs:=zs) (ps:=ps) (cs:=cs) (ss:=ss) (tbs:=zs.map tb) (ls:=ss[i].2.1) (nm:=ss[i].1) (es:=ss[i].2.2) (t:=t) (Pf:=pfX zs cs ss[i].2.1 t) (by omega) (fun k hk=>by
  have e:pfX zs cs ss[i].2.1 t k=perX zs cs ss[i].2.1[k] t:=by simp [pfX,List.getD,hk]
  rw [e]
  exact (jtH hs (hsc.ly _ (List.getElem_mem hk)) (ss:=ss) h0 h1).2.1)
 have hL2:∃ k,j3h ((zs,(ps,(cs,ss))),zs.map tb) (ss[i].1,(ss[i].2.1,ss[i].2.2)) t=some (k,topP ss[i].2.2 t (pfX zs cs ss[i].2.1 t) ss[i].2.1.length):=by
  rw [show j3h ((zs,(ps,(cs,ss))),zs.map tb) (ss[i].1,(ss[i].2.1,ss[i].2.2)) t=_ from hL]
  simp only [topP]
  cases topI (j6B ss[i].2.2 t (pfX zs cs ss[i].2.1 t)) ss[i].2.1.length with
  | none=>exact ⟨_,rfl⟩
  | some k=>exact ⟨_,rfl⟩
 obtain ⟨k,hL2⟩:=hL2
 have ef:=jnm (es:=ss[i].2.2) (by omega) (t:=t) ss[i].2.2.length 0 (topP ss[i].2.2 t (pfX zs cs ss[i].2.1 t) ss[i].2.1.length) (by omega)
 rw [List.drop_zero] at ef
 simp only [j5C,jfi,jtv hs.so.ok hc,j3,Bool.not_true,j6,jb9,show Int.ofNat ss.length=(ss.length:Int) from rfl]
 rw [j01 (show (i:Int)≥0 by omega),j01 (show (i:Int)<(ss.length:Int) by omega),j14 (by omega) (by omega)]
 simp only [j5,Bool.not_true,j6,j7,hgs,j5B]
 rw [j00 (show ¬ t<0 by omega),j00 (show ¬ t>8589934592 by omega)]
 simp only [j6]
 simp only [hL2,j3,j7I,show Int.ofNat ss[i].2.2.length=(ss[i].2.2.length:Int) from rfl,show j4Z (topP ss[i].2.2 t (pfX zs cs ss[i].2.1 t) ss[i].2.1.length) t ss[i].2.2 (ss[i].2.2.length:Int) 0=_ from ef]
 rfl
end
end Go.Proofs.Pw
