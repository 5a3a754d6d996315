/- stack.SegmentsOf: who is on call by layers in a range. -/
import Derived.Test.YtaieocafhcjelaaGreatBPJ
import Derived.Test.YtaieocafhcjelaaGreatBPH
noncomputable section
open Go Go.Lft
namespace Go.Proofs.Pw
def pfX (zs:List j2z) (cs:List CalT) (ls:List j0Q) (t:Int) (i:Nat):Int:=perX zs cs (ls.getD i (ByteArray.empty,((0:Int),(((0:Int),(0:Int)),((0:Int),((0:Int),(([]:List Int),(([]:List (Int×Int)),((0:Int),(0:Int)))))))))) t
def lvs (es:List j5x) (p:Int):SL:=(es.filter fun x=>x.1==0&&x.2.1==p).map fun x=>(x.2.2.2.1,x.2.2.2.2)
theorem jwR {es:List j5x} {p t:Int}:inS t (lvs es p)↔jcc es p t=true:=by
 unfold inS lvs jcc
 rw [zd]
 constructor
 ·rintro ⟨s,hs,h1,h2⟩
  obtain ⟨x,hx,rfl⟩:=jy.1 hs
  obtain ⟨h3,h4⟩:=va.1 hx
  dsimp only at h1 h2
  refine ⟨x,h3,?_⟩
  simp only [ja,jj] at h4 ⊢
  exact ⟨h4.1,h4.2,h1,h2⟩
 ·rintro ⟨x,hx,h⟩
  simp only [ja,jj] at h
  exact ⟨_,jy.2 ⟨x,va.2 ⟨hx,by simp only [ja];exact ⟨h.1,h.2.1⟩⟩,rfl⟩,h.2.2.1,h.2.2.2⟩
theorem jvC {es:List j5x} (hl:es.length≤1000) {p:Int}:∀ (n i:Nat) (acc:SL),i+n=es.length→acc.length≤i→j4l p es (es.length:Int) (i:Int) acc=some (acc++lvs (es.drop i) p)
 | 0,i,acc,hi,_=>by
  rw [jbI]
  simp only [j40]
  rw [j01 (by omega),j6,j0b,je (by omega)]
  simp [lvs]
 | n+1,i,acc,hi,ha=>by
  have hi':i<es.length:=by omega
  have hgd:es.getD i ((0:Int),((0:Int),((0:Int),((0:Int),(0:Int)))))=es[i]:=by simp [List.getD,hi']
  rw [jbI]
  simp only [j40]
  rw [j00 (by omega),j1c (by omega) (by omega),j02 (x:=(i:Int)+1) (by omega) (by omega)]
  simp only [j5,j7,hgd]
  have hc:cond (es[i].1==(0:Int)) (es[i].2.1==p) false=(es[i].1==0&&es[i].2.1==p):=by cases es[i].1==(0:Int)<;>rfl
  rw [hc,jb hi']
  cases hx:(es[i].1==0&&es[i].2.1==p) with
  | true=>
   rw [j5,j00 (by simp [j06];omega),j5,j07]
   have:=jvC hl (p:=p) n (i+1) (acc++[(es[i].2.2.2.1,es[i].2.2.2.2)]) (by omega) (by simp;omega)
   have e:lvs (es[i]::es.drop (i+1)) p=(es[i].2.2.2.1,es[i].2.2.2.2)::lvs (es.drop (i+1)) p:=by simp only [lvs,List.filter_cons,hx,if_true,ki]
   rw [e]
   rw [jg] at this
   exact this
  | false=>
   rw [j6,j07]
   have:=jvC hl (p:=p) n (i+1) acc (by omega) (by omega)
   have e:lvs (es[i]::es.drop (i+1)) p=lvs (es.drop (i+1)) p:=by
    unfold lvs
    rw [List.filter_cons_of_neg (by simp only [hx];simp)]
   rw [e]
   exact this
theorem jsG {es:List j5x} {np:Nat} (hE:∀ x∈es,ECk np x) (hl:es.length≤48) (nm:ByteArray) (ls:List j0Q) (p:Int) :
  ∃ out,j4c (nm,(ls,es)) p=some out∧StS (-1) out∧(∀ t,inS t out↔jcc es p t=true)∧out.length≤es.length:=by
 have lp:=jvC (es:=es) (by omega) (p:=p) es.length 0 [] (by omega) (by simp)
 rw [js,k9] at lp
 have hfl:(lvs es p).length≤es.length:=by unfold lvs;rw [kp];exact List.length_filter_le _ _
 have hb:∀ s∈lvs es p,0≤s.1∧s.1<s.2∧s.2≤1000000000000:=fun s h=>by
  obtain ⟨x,hx,rfl⟩:=jy.1 h
  have:=hE x (va.1 hx).1
  exact ⟨this.f0,this.ft,this.t1⟩
 obtain ⟨out,e,h1,h2,h3,h4⟩:=jiB (l:=lvs es p) (by omega) (fun s h=>by have:=hb s h;omega) (lo:=0) (hi:=1000000000000) (fun s h _=>by have:=hb s h;omega)
 refine ⟨out,?_,h1,fun t=>(h2 t).trans jwR,by omega⟩
 simp only [j4c,show Int.ofNat es.length=(es.length:Int) from rfl]
 rw [show j4l p es (es.length:Int) 0 []=_ from lp]
 simp only [j3,e]
theorem jqH {β:Type} (l:List (Int×β)) (k:Int) (v:β) (j:Int):j7m (j6V l k v) j=(j==k||j7m l j):=by
 induction l with
 | nil=>simp [j6V,j7m]
 | cons x r ih=>
  simp only [j6V]
  by_cases h:k=x.1
  ·rw [j7g h,j5]
   simp only [j7m,List.any_cons]
   rw [←h]
   cases j==k<;>simp
  ·rw [j3V h,j6]
   have:j7m (x::j6V r k v) j=(j==x.1||j7m (j6V r k v) j):=rfl
   rw [this,ih]
   have:j7m (x::r) j=(j==x.1||j7m r j):=rfl
   rw [this]
   cases j==x.1<;>cases j==k<;>simp
theorem jlb {β:Type} (d:β) (l:List (Int×β)) (k:Int) (v:β) (j:Int):j5P d (j6V l k v) j=cond (j==k) v (j5P d l j):=by
 induction l with
 | nil=>rfl
 | cons x r ih=>
  simp only [j6V]
  by_cases h:k=x.1
  ·rw [j7g h,j5]
   show cond (j==k) v (j5P d r j)=cond (j==k) v (cond (j==x.1) x.2 (j5P d r j))
   rw [←h]
   cases j==k<;>rfl
  ·rw [j3V h,j6]
   show cond (j==x.1) x.2 (j5P d (j6V r k v) j)=cond (j==k) v (cond (j==x.1) x.2 (j5P d r j))
   rw [ih]
   by_cases hj:j=x.1
   ·rw [j7g hj,j5,j3V (show ¬ j=k by omega)]
    rfl
   ·rw [j3V hj]
    rfl
def OrS (p:Int):SgL→Prop
 | []=>True
 | x::r=>p≤x.1∧x.1<x.2.1∧OrS x.2.1 r
def inG (t:Int) (l:SgL):Prop:=∃ x∈l,x.1≤t∧t<x.2.1
theorem jgS {t:Int} {s:SgT} {l:SgL}:inG t (s::l)↔(s.1≤t∧t<s.2.1)∨inG t l:=by
 constructor
 ·rintro ⟨u,hu,h⟩
  rcases jd.1 hu with rfl | hu
  ·exact .inl h
  ·exact .inr ⟨u,hu,h⟩
 ·rintro (h | ⟨u,hu,h⟩)
  ·exact ⟨s,by simp,h⟩
  ·exact ⟨u,by simp [hu],h⟩
theorem jp3 {t:Int}:¬ inG t []:=by rintro ⟨s,hs,_⟩;simp at hs
theorem OrS.weak {p q:Int} (hq:q≤p):∀ {l:SgL},OrS p l→OrS q l
 | [],_=>trivial
 | _::_,h=>⟨by have:=h.1;omega,h.2⟩
theorem OrS.low {p t:Int}:∀ {l:SgL},OrS p l→inG t l→p≤t
 | [],_,h=>absurd h jp3
 | s::r,h,hx=>by
  rcases jgS.1 hx with hx | hx
  ·have:=h.1;omega
  ·have:=OrS.low h.2.2 hx;have:=h.1;have:=h.2.1;omega
theorem OrS.app {e:Int} {r:SgL} (hr:OrS e r):∀ {l:SgL} {p:Int},OrS p l→p≤e→(∀ x∈l,x.2.1≤e)→OrS p (l++r)
 | [],_,_,hp,_=>hr.weak hp
 | x::l,p,h,_,hl=>⟨h.1,h.2.1,hr.app h.2.2 (hl x (by simp)) (fun y hy=>hl y (by simp [hy]))⟩
theorem OrS.apart {p:Int}:∀ {l:SgL},OrS p l→l.Pairwise (fun x y=>x.2.1≤y.1)∧∀ x∈l,p≤x.1
 | [],_=>⟨List.Pairwise.nil,by simp⟩
 | x::l,h=>by
  obtain ⟨h1,h2⟩:=OrS.apart h.2.2
  exact ⟨qa.2 ⟨h2,h1⟩,fun y hy=>by
   rcases jd.1 hy with rfl | hy
   ·exact h.1
   ·have:=h2 y hy;have:=h.1;have:=h.2.1;omega⟩
def lvO (s:j2d) (p:Int):SL:=(j4c s p).getD []
def woO (s:j2d) (x:SgT):SL:=(j2g [(x.1,x.2.1)] (lvO s x.2.2)).getD []
def prs (s:j2d) (x:SgT):SgL:=if x.2.2<0 then [] else (woO s x).map fun u=>(u.1,(u.2,x.2.2))
section
variable {nm:ByteArray} {ls:List j0Q} {es:List j5x} {np:Nat} (hE:∀ x∈es,ECk np x) (hl:es.length≤48)
include hE hl
theorem juz (p:Int):j4c (nm,(ls,es)) p=some (lvO (nm,(ls,es)) p)∧StS (-1) (lvO (nm,(ls,es)) p)∧(∀ t,inS t (lvO (nm,(ls,es)) p)↔jcc es p t=true)∧(lvO (nm,(ls,es)) p).length≤es.length:=by
 obtain ⟨out,e,h⟩:=jsG hE hl nm ls p
 have:lvO (nm,(ls,es)) p=out:=by simp [lvO,e]
 rw [this]
 exact ⟨e,h⟩
theorem jsH {x:SgT} (hx:x.1<x.2.1):j2g [(x.1,x.2.1)] (lvO (nm,(ls,es)) x.2.2)=some (woO (nm,(ls,es)) x)∧StS (x.1-1) (woO (nm,(ls,es)) x)∧
  (∀ t,inS t (woO (nm,(ls,es)) x)↔(x.1≤t∧t<x.2.1)∧jcc es x.2.2 t=false)∧(woO (nm,(ls,es)) x).length≤1+es.length:=by
 obtain ⟨_,l1,l2,l3⟩:=juz (nm:=nm) (ls:=ls) hE hl x.2.2
 obtain ⟨out,e,h1,h2,h3⟩:=jhE (B:=lvO (nm,(ls,es)) x.2.2) (by omega) (A:=[(x.1,x.2.1)]) (p:=x.1-1) ⟨by dsimp only;omega,hx,trivial⟩ l1 (by simp)
 have:woO (nm,(ls,es)) x=out:=by simp [woO,e]
 rw [this]
 refine ⟨e,h1,fun t=> ?_,by rw [qd] at h3;omega⟩
 rw [h2 t,l2 t,j1p]
 constructor
 ·rintro ⟨h | h,h'⟩
  ·exact ⟨h,by simpa using h'⟩
  ·exact absurd h j4a
 ·rintro ⟨h,h'⟩
  exact ⟨.inl h,by simp [h']⟩
omit hE hl in
theorem juA {S:SgL} {m j f e p:Int} {mp:List (Int×SL)} {W:SL} (hW:W.length≤1000):∀ (n i:Nat) (acc:SgL),i+n=W.length→acc.length+n≤1000000000→
  j2E S m j (W.length:Int) (i:Int) nm ls es f e p mp acc W=some (S,m,j,nm,ls,es,mp,acc++(W.drop i).map fun u=>(u.1,(u.2,p)))
 | 0,i,acc,hi,_=>by
  rw [jaK]
  simp only [j3E]
  rw [j01 (by omega),j6,j0b,je (by omega)]
  simp
 | n+1,i,acc,hi,ha=>by
  have hi':i<W.length:=by omega
  have hgd:W.getD i ((0:Int),(0:Int))=W[i]:=by simp [List.getD,hi']
  rw [jaK]
  simp only [j3E]
  rw [j00 (by omega),j1c (by omega) (by omega),j02 (x:=(i:Int)+1) (by omega) (by omega)]
  simp only [j5,j7,hgd]
  rw [j00 (by simp [j06];omega),j5,j07,jb hi',ki]
  have:=juA (S:=S) (m:=m) (j:=j) (f:=f) (e:=e) (p:=p) (mp:=mp) hW n (i+1) (acc++[(W[i].1,(W[i].2,p))]) (by omega) (by simp;omega)
  rw [jg] at this
  exact this
theorem jsI {S:SgL} (hS:S.length≤100000) (hpos:∀ x∈S,x.1<x.2.1):∀ (n i:Nat) (mp:List (Int×SL)) (acc:SgL),i+n=S.length→(∀ p,j7m mp p=true→j5P [] mp p=lvO (nm,(ls,es)) p)→acc.length≤49*i→
  j3c S (S.length:Int) (i:Int) nm ls es mp acc=some (acc++(S.drop i).flatMap (prs (nm,(ls,es))))
 | 0,i,mp,acc,hi,_,_=>by
  rw [jaL]
  simp only [j1N]
  rw [j01 (by omega),j6,j0b,je (by omega)]
  simp
 | n+1,i,mp,acc,hi,hm,ha=>by
  have hi':i<S.length:=by omega
  have hgd:S.getD i ((0:Int),((0:Int),(0:Int)))=S[i]:=by simp [List.getD,hi']
  have hp:=hpos _ (jh hi')
  rw [jaL]
  simp only [j1N]
  rw [j00 (show (i:Int)<(S.length:Int) by omega),j1c (by omega) (by omega)]
  simp only [j5,j7,hgd]
  rw [jb hi',qo]
  by_cases hneg:S[i].2.2<0
  ·rw [j00 hneg,j5,j02 (x:=(i:Int)+1) (by omega) (by omega),j07]
   have e:prs (nm,(ls,es)) S[i]=[]:=if_pos hneg
   rw [e,js]
   exact jsI hS hpos n (i+1) mp acc (by omega) hm (by omega)
  ·have e:prs (nm,(ls,es)) S[i]=(woO (nm,(ls,es)) S[i]).map fun u=>(u.1,(u.2,S[i].2.2)):=if_neg hneg
   obtain ⟨w1,_,_,w4⟩:=jsH (nm:=nm) (ls:=ls) hE hl hp
   rw [j01 hneg,j6]
   have fin:∀ mp':List (Int×SL),(∀ p,j7m mp' p=true→j5P [] mp' p=lvO (nm,(ls,es)) p)→j5P [] mp' S[i].2.2=lvO (nm,(ls,es)) S[i].2.2→
     lpK ((j2g [(S[i].1,S[i].2.1)] (j5P [] mp' S[i].2.2)).bind fun r49=>
      (j2E S (S.length:Int) (i:Int) (Int.ofNat r49.length) 0 nm ls es S[i].1 S[i].2.1 S[i].2.2 mp' acc r49).bind fun q2=>
       (some (Sum.inl (q2.1,q2.2.1,w64 (q2.2.2.1+1),q2.2.2.2.1,q2.2.2.2.2.1,q2.2.2.2.2.2.1,q2.2.2.2.2.2.2.1,q2.2.2.2.2.2.2.2)):Option ((SgL×Int×Int×ByteArray×List j0Q×List j5x×List (Int×SL)×SgL) ⊕ SgL)))
      (fun h=>j3c h.1 h.2.1 h.2.2.1 h.2.2.2.1 h.2.2.2.2.1 h.2.2.2.2.2.1 h.2.2.2.2.2.2.1 h.2.2.2.2.2.2.2)=some (acc++(prs (nm,(ls,es)) S[i]++(S.drop (i+1)).flatMap (prs (nm,(ls,es))))):=fun mp' hm' hg=>by
    have l2:=juA (nm:=nm) (ls:=ls) (es:=es) (S:=S) (m:=(S.length:Int)) (j:=(i:Int)) (f:=S[i].1) (e:=S[i].2.1) (p:=S[i].2.2) (mp:=mp') (W:=woO (nm,(ls,es)) S[i]) (by omega) (woO (nm,(ls,es)) S[i]).length 0 acc (by omega) (by omega)
    rw [hg,w1]
    simp only [j3]
    rw [show j2E S (S.length:Int) (i:Int) (Int.ofNat (woO (nm,(ls,es)) S[i]).length) 0 nm ls es S[i].1 S[i].2.1 S[i].2.2 mp' acc (woO (nm,(ls,es)) S[i])=_ from l2]
    simp only [j3,k9]
    rw [j02 (x:=(i:Int)+1) (by omega) (by omega),j07,←e,←jg]
    exact jsI hS hpos n (i+1) mp' _ (by omega) hm' (by rw [jf,e,kp];omega)
   cases hh:j7m mp S[i].2.2 with
   | true=>
    simp only [jt,j6]
    exact fin mp hm (hm _ hh)
   | false=>
    simp only [kb,j5]
    rw [show j4c (nm,(ls,es)) S[i].2.2=_ from (juz (nm:=nm) (ls:=ls) hE hl S[i].2.2).1]
    simp only [j3]
    refine fin _ (fun p hp'=> ?_) ?_
    ·rw [jlb]
     by_cases hpe:p=S[i].2.2
     ·rw [j7g hpe,j5,hpe]
     ·rw [jqH,j3V hpe,Bool.false_or] at hp'
      rw [j3V hpe,j6]
      exact hm p hp'
    ·rw [jlb]
     simp
theorem jqI {S:SgL} (hS:S.length≤100000) (hpos:∀ x∈S,x.1<x.2.1):j4L (nm,(ls,es)) S=some (S.flatMap (prs (nm,(ls,es)))):=by
 simp only [j4L,show Int.ofNat S.length=(S.length:Int) from rfl]
 rw [show j3c S (S.length:Int) 0 nm ls es [] []=_ from jsI hE hl hS hpos S.length 0 [] [] (by omega) (fun p h=>by simp [j7m] at h) (by simp)]
 rfl
theorem jvD {x:SgT} (hx:x.1<x.2.1):(prs (nm,(ls,es)) x).length≤1+es.length:=by
 unfold prs
 split
 ·simp
 ·rw [kp]
  exact (jsH (nm:=nm) (ls:=ls) hE hl hx).2.2.2
theorem jq0:∀ {S:SgL},(∀ x∈S,x.1<x.2.1)→(S.flatMap (prs (nm,(ls,es)))).length≤S.length*(1+es.length)
 | [],_=>by simp
 | x::S,h=>by
  have h1:=jvD (nm:=nm) (ls:=ls) hE hl (h x (by simp))
  have h2:=jq0 (S:=S) (fun y hy=>h y (by simp [hy]))
  rw [qo,jf,jo,Nat.add_mul];omega
theorem juB {p:Int} {c e:Int}:∀ {W:SL} {q:Int},StS q W→(∀ u∈W,u.2≤e)→OrS (q+1) (W.map fun u=>(u.1,(u.2,c)))∧(p≤q+1→OrS p (W.map fun u=>(u.1,(u.2,c))))
 | [],_,_,_=>⟨trivial,fun _=>trivial⟩
 | u::W,q,h,hb=>by
  have _:=hE;have _:=hl
  have h3:=(juB (p:=u.2) (c:=c) (e:=e) (W:=W) h.2.2 (fun v hv=>hb v (by simp [hv]))).2 (by omega)
  exact ⟨⟨by have:=h.1;dsimp only;omega,h.2.1,h3⟩,fun hp=>⟨by have:=h.1;dsimp only;omega,h.2.1,h3⟩⟩
theorem jsJ {f:Int→Int} {b:Int}:∀ {S:SgL} {a:Int},Ch f b a S→(∀ x∈S,x.1<x.2.1)→
  OrS a (S.flatMap (prs (nm,(ls,es))))∧(∀ x∈S.flatMap (prs (nm,(ls,es))),x.2.1≤b∧∀ t,x.1≤t→t<x.2.1→f t=x.2.2∧0≤x.2.2∧jcc es x.2.2 t=false)∧
   ∀ t,a≤t→t<b→0≤f t→jcc es (f t) t=false→inG t (S.flatMap (prs (nm,(ls,es))))
 | [],a,h,_=>⟨trivial,by simp,fun t h1 h2=>by have h:a=b:=h;omega⟩
 | x::S,a,h,hpos=>by
  obtain ⟨h1,h2,h3,h4⟩:=h
  have hx:=hpos x (by simp)
  obtain ⟨i1,i2,i3⟩:=jsJ (f:=f) (b:=b) h4 (fun y hy=>hpos y (by simp [hy]))
  have hle:=h4.le
  obtain ⟨_,w2,w3,_⟩:=jsH (nm:=nm) (ls:=ls) hE hl hx
  have hmem:∀ y∈prs (nm,(ls,es)) x,0≤x.2.2∧y.2.2=x.2.2∧y.1<y.2.1∧x.1≤y.1∧y.2.1≤x.2.1∧∀ t,y.1≤t→t<y.2.1→jcc es x.2.2 t=false:=fun y hy=>by
   unfold prs at hy
   split at hy
   ·simp at hy
   ·obtain ⟨u,hu,rfl⟩:=jy.1 hy
    have hm:=StS.mem w2 u hu
    have e1:=(w3 (u.2-1)).1 ⟨u,hu,by omega,by omega⟩
    exact ⟨by omega,rfl,hm.2,by dsimp only;omega,by dsimp only;omega,fun t t1 t2=>((w3 t).1 ⟨u,hu,t1,t2⟩).2⟩
  rw [qo]
  refine ⟨?_,fun y hy=> ?_,fun t t1 t2 t3 t4=> ?_⟩
  ·refine OrS.app i1 ?_ h2 (fun y hy=>(hmem y hy).2.2.2.2.1)
   unfold prs
   split
   ·trivial
   ·exact (juB hE hl (p:=a) (c:=x.2.2) (e:=x.2.1) w2 (fun u hu=>by
     have hm:=StS.mem w2 u hu
     have e1:=(w3 (u.2-1)).1 ⟨u,hu,by omega,by omega⟩
     omega)).2 (by omega)
  ·rcases jq.1 hy with hy | hy
   ·obtain ⟨g1,g2,g3,g4,g5,g6⟩:=hmem y hy
    exact ⟨by omega,fun t t1 t2=>⟨by rw [g2];exact h3 t (by omega) (by omega),by omega,by rw [g2];exact g6 t t1 t2⟩⟩
   ·exact i2 y hy
  ·by_cases hlt:t<x.2.1
   ·have hf:=h3 t t1 hlt
    rw [hf] at t3 t4
    obtain ⟨u,hu,u1,u2⟩:=(w3 t).2 ⟨⟨by omega,hlt⟩,t4⟩
    refine ⟨(u.1,(u.2,x.2.2)),ke _ ?_,u1,u2⟩
    unfold prs
    rw [if_neg (by omega)]
    exact jy.2 ⟨u,hu,rfl⟩
   ·obtain ⟨y,hy,y1,y2⟩:=i3 t (by omega) t2 t3 t4
    exact ⟨y,kq _ hy,y1,y2⟩
end
def wiF:Nat→SgL→SL→SgL
 | n+1,s::a,u::b=>(if (if u.1>s.1 then u.1 else s.1)<(if u.2<s.2.1 then u.2 else s.2.1) then [((if u.1>s.1 then u.1 else s.1),((if u.2<s.2.1 then u.2 else s.2.1),s.2.2))] else [])++
  (if s.2.1<u.2 then wiF n a (u::b) else wiF n (s::a) b)
 | _,_,_=>[]
theorem jsK:∀ (n:Nat) (a:SgL) (b:SL) (p q:Int),a.length+b.length≤n→OrS p a→StS q b→
  OrS p (wiF n a b)∧OrS q (wiF n a b)∧(∀ x∈wiF n a b,∃ s∈a,s.1≤x.1∧x.2.1≤s.2.1∧x.2.2=s.2.2∧∀ t,x.1≤t→t<x.2.1→inS t b)∧(∀ t,inG t a→inS t b→inG t (wiF n a b))∧(wiF n a b).length≤a.length+b.length
 | 0,a,b,p,q,hn,_,_=>by
  obtain rfl:a=[]:=z7.1 (by omega)
  exact ⟨trivial,trivial,by simp [wiF],fun t h=>absurd h jp3,by simp [wiF]⟩
 | n+1,[],b,p,q,_,_,_=>⟨trivial,trivial,by simp [wiF],fun t h=>absurd h jp3,by simp [wiF]⟩
 | n+1,_::_,[],p,q,_,_,_=>⟨trivial,trivial,by simp [wiF],fun t _ h=>absurd h j4a,by simp [wiF]⟩
 | n+1,s::a,u::b,p,q,hn,ha,hb=>by
  obtain ⟨a1,a2,a3⟩:=ha
  obtain ⟨b1,b2,b3⟩:=hb
  simp only [jo] at hn ⊢
  have hx:∃ f t:Int,f=(if u.1>s.1 then u.1 else s.1)∧t=(if u.2<s.2.1 then u.2 else s.2.1)∧(∀ x,(f≤x∧x<t)↔(s.1≤x∧x<s.2.1)∧(u.1≤x∧x<u.2))∧p≤f∧q≤f∧t≤s.2.1∧t≤u.2∧s.1≤f:=by
   refine ⟨_,_,rfl,rfl,fun x=> ?_,?_,?_,?_,?_,?_⟩
   ·constructor
    ·intro h;split at h<;>split at h<;>omega
    ·intro h;split<;>split<;>omega
   all_goals split<;>omega
  obtain ⟨f,t,ef,et,hi,f1,f2,t1,t2,f3⟩:=hx
  simp only [wiF,←ef,←et]
  have key:∀ (a':SgL) (b':SL) (r:SgL),OrS t r→OrS p r→OrS q r→(∀ x∈r,∃ s'∈(s::a),s'.1≤x.1∧x.2.1≤s'.2.1∧x.2.2=s'.2.2∧∀ y,x.1≤y→y<x.2.1→inS y (u::b))→(∀ y,inG y a'→inS y b'→inG y r)→
    r.length≤a'.length+b'.length→a'.length+b'.length+1=a.length+1+(b.length+1)→(∀ y,inG y (s::a)→inS y (u::b)→(f≤y∧y<t)∨(inG y a'∧inS y b'))→
    OrS p ((if f<t then [(f,(t,s.2.2))] else [])++r)∧OrS q ((if f<t then [(f,(t,s.2.2))] else [])++r)∧(∀ x∈((if f<t then [(f,(t,s.2.2))] else [])++r),∃ s'∈(s::a),s'.1≤x.1∧x.2.1≤s'.2.1∧x.2.2=s'.2.2∧∀ y,x.1≤y→y<x.2.1→inS y (u::b))∧
     (∀ y,inG y (s::a)→inS y (u::b)→inG y ((if f<t then [(f,(t,s.2.2))] else [])++r))∧((if f<t then [(f,(t,s.2.2))] else [])++r).length≤a.length+1+(b.length+1):=by
   intro a' b' r hr1 hr2 hr3 hr4 hr5 hl hl2 hiff
   by_cases hft:f<t
   ·rw [if_pos hft]
    refine ⟨⟨f1,hft,hr1⟩,⟨f2,hft,hr1⟩,fun x hx=> ?_,fun y y1 y2=> ?_,by simp;omega⟩
    ·rcases jd.1 hx with rfl | hx
     ·exact ⟨s,by simp,f3,t1,rfl,fun y y1 y2=>j1p.2 (.inl ((hi y).1 ⟨y1,y2⟩).2)⟩
     ·exact hr4 x hx
    ·rcases hiff y y1 y2 with h | h
     ·exact jgS.2 (.inl h)
     ·exact jgS.2 (.inr (hr5 y h.1 h.2))
   ·rw [if_neg hft,js]
    refine ⟨hr2,hr3,hr4,fun y y1 y2=> ?_,by omega⟩
    rcases hiff y y1 y2 with h | h
    ·omega
    ·exact hr5 y h.1 h.2
  by_cases hc:s.2.1<u.2
  ·rw [if_pos hc]
   obtain ⟨i1,i2,i3,i4,i5⟩:=jsK n a (u::b) s.2.1 q (by simp;omega) a3 ⟨b1,b2,b3⟩
   refine key a (u::b) _ (i1.weak t1) (i1.weak (by omega)) i2 (fun x hx=> ?_) i4 i5 (by simp;omega) (fun y y1 y2=> ?_)
   ·obtain ⟨s',hs',r⟩:=i3 x hx
    exact ⟨s',by simp [hs'],r⟩
   ·rcases jgS.1 y1 with h | h
    ·rcases j1p.1 y2 with h' | h'
     ·exact .inl ((hi y).2 ⟨h,h'⟩)
     ·have:=StS.low b3 h';omega
    ·exact .inr ⟨h,y2⟩
  ·rw [if_neg hc]
   obtain ⟨i1,i2,i3,i4,i5⟩:=jsK n (s::a) b p u.2 (by simp;omega) ⟨a1,a2,a3⟩ b3
   refine key (s::a) b _ (i2.weak t2) i1 (i2.weak (by omega)) (fun x hx=> ?_) i4 i5 (by simp;omega) (fun y y1 y2=> ?_)
   ·obtain ⟨s',hs',r1,r2,r3,r4⟩:=i3 x hx
    exact ⟨s',hs',r1,r2,r3,fun y y1 y2=>j1p.2 (.inr (r4 y y1 y2))⟩
   ·rcases j1p.1 y2 with h | h
    ·rcases jgS.1 y1 with h' | h'
     ·exact .inl ((hi y).2 ⟨h',h⟩)
     ·have:=OrS.low a3 h';omega
    ·exact .inr ⟨y1,h⟩
theorem jsL {A:SgL} {B:SL} (hA:A.length≤10000000) (hB:B.length≤10000000):∀ (n i k:Nat) (acc:SgL),i≤A.length→k≤B.length→(A.length-i)+(B.length-k)=n→acc.length+n≤3000000→
  j32 A B (i:Int) (k:Int) acc=some (acc++wiF n (A.drop i) (B.drop k))
 | n,i,k,acc,hi,hk,hn,hacc=>by
  rw [jgi]
  simp only [j5b,show Int.ofNat (List.length A)=(A.length:Int) from rfl,show Int.ofNat (List.length B)=(B.length:Int) from rfl]
  by_cases hend:i<A.length∧k<B.length
  ·obtain ⟨hi',hk'⟩:=hend
   obtain ⟨n,rfl⟩:∃ m,n=m+1:=⟨n-1,by omega⟩
   have gA:A.getD i ((0:Int),((0:Int),(0:Int)))=A[i]:=by simp [List.getD,hi']
   have gB:B.getD k ((0:Int),(0:Int))=B[k]:=by simp [List.getD,hk']
   rw [j00 (show (i:Int)<(A.length:Int) by omega),j00 (show (k:Int)<(B.length:Int) by omega),j1c (show (0:Int)≤(i:Int) by omega) (by omega),j1c (show (0:Int)≤(k:Int) by omega) (by omega)]
   simp only [j5,j7,gA,gB]
   rw [j02 (x:=(i:Int)+1) (by omega) (by omega),j02 (x:=(k:Int)+1) (by omega) (by omega)]
   rw [jb hi',jb hk']
   simp only [wiF]
   generalize (if B[k].1>A[i].1 then B[k].1 else A[i].1:Int)=f
   generalize (if B[k].2<A[i].2.1 then B[k].2 else A[i].2.1:Int)=t
   have ih1:∀ acc':SgL,acc'.length≤acc.length+1→j32 A B ((i:Int)+1) (k:Int) acc'=some (acc'++wiF n (A.drop (i+1)) (B[k]::B.drop (k+1))):=fun acc' ha'=>by
    have:=jsL hA hB n (i+1) k acc' (by omega) (by omega) (by omega) (by omega)
    rw [←jb hk']
    exact this
   have ih2:∀ acc':SgL,acc'.length≤acc.length+1→j32 A B (i:Int) ((k:Int)+1) acc'=some (acc'++wiF n (A[i]::A.drop (i+1)) (B.drop (k+1))):=fun acc' ha'=>by
    have:=jsL hA hB n i (k+1) acc' (by omega) (by omega) (by omega) (by omega)
    rw [←jb hi']
    exact this
   by_cases hft:f<t
   ·rw [j00 hft,if_pos hft,j00 (by simp [j06];omega)]
    simp only [j5]
    by_cases hc:A[i].2.1<B[k].2
    ·rw [j00 hc,if_pos hc]
     simp only [j5,j07]
     rw [ih1 _ (by simp),jg]
    ·rw [j01 hc,if_neg hc]
     simp only [j6,j07]
     rw [ih2 _ (by simp),jg]
   ·rw [j01 hft,if_neg hft]
    simp only [j6]
    by_cases hc:A[i].2.1<B[k].2
    ·rw [j00 hc,if_pos hc]
     simp only [j5,j07]
     rw [ih1 _ (by omega),js]
    ·rw [j01 hc,if_neg hc]
     simp only [j6,j07]
     rw [ih2 _ (by omega),js]
  ·have hc:cond (decide ((i:Int)<(A.length:Int))) (decide ((k:Int)<(B.length:Int))) false=false:=by
    by_cases h1:i<A.length
    ·rw [j00 (by omega),j5];exact j01 (by omega)
    ·rw [j01 (by omega),j6]
   rw [hc,j6,j0b]
   have:wiF n (A.drop i) (B.drop k)=[]:=by
    by_cases h1:i<A.length
    ·rw [vb (show B.length≤k by omega)]
     cases n<;>cases A.drop i<;>rfl
    ·rw [vb (show A.length≤i by omega)]
     cases n<;>rfl
   rw [this,qq]
theorem jwS {l:SgL} (hl:l.length≤10000000):∀ (n i:Nat) (acc:SL),i+n=l.length→acc.length≤i→j4Y l (l.length:Int) (i:Int) acc=some (acc++(l.drop i).map fun x=>(x.1,x.2.1))
 | 0,i,acc,hi,_=>by
  rw [jcs]
  simp only [j4m]
  rw [j01 (by omega),j6,j0b,je (by omega)]
  simp
 | n+1,i,acc,hi,ha=>by
  have hi':i<l.length:=by omega
  have hgd:l.getD i ((0:Int),((0:Int),(0:Int)))=l[i]:=by simp [List.getD,hi']
  rw [jcs]
  simp only [j4m]
  rw [j00 (by omega),j1c (by omega) (by omega),j02 (x:=(i:Int)+1) (by omega) (by omega)]
  simp only [j5,j7,hgd]
  rw [j00 (by simp [j06];omega),j5,j07,jb hi',ki]
  have:=jwS hl n (i+1) (acc++[(l[i].1,l[i].2.1)]) (by omega) (by simp;omega)
  rw [jg] at this
  exact this
theorem jtX {l:SgL} (hl:l.length≤10000000) {lo hi:Int} (h0:0≤lo) (h1:hi≤8589934592) (hb:∀ x∈l,lo≤x.1∧x.1<x.2.1∧x.2.1≤hi) :
  ∃ out,j6v l=some out∧StS (lo-1) out∧(∀ t,inS t out↔inG t l)∧out.length≤l.length:=by
 have lp:=jwS hl l.length 0 [] (by omega) (by simp)
 rw [js,k9] at lp
 have hb':∀ s∈l.map (fun x=>(x.1,x.2.1)),lo≤s.1∧s.1<s.2∧s.2≤hi:=fun s h=>by
  obtain ⟨x,hx,rfl⟩:=jy.1 h
  exact hb x hx
 obtain ⟨out,e,g1,g2,g3,g4⟩:=jiB (l:=l.map fun x=>(x.1,x.2.1)) (by simpa using hl) (fun s h=>by have:=hb' s h;omega) (lo:=lo) (hi:=hi) (fun s h _=>by have:=hb' s h;omega)
 refine ⟨out,?_,g1,fun t=>(g2 t).trans ⟨?_,?_⟩,by simpa using g3⟩
 ·simp only [j6v,show Int.ofNat l.length=(l.length:Int) from rfl]
  rw [show j4Y l (l.length:Int) 0 []=_ from lp]
  simp only [j3,e]
 ·rintro ⟨s,hs,h⟩
  obtain ⟨x,hx,rfl⟩:=jy.1 hs
  exact ⟨x,hx,h⟩
 ·rintro ⟨x,hx,h⟩
  exact ⟨_,jy.2 ⟨x,hx,rfl⟩,h⟩
end Go.Proofs.Pw
