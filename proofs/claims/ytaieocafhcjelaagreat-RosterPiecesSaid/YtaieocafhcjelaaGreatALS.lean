/- slices.SortFunc: the kit's contract of it as a contract on plain data. -/
import Derived.Test.YtaieocafhcjelaaGreatALD
import Derived.Shelf.SlSortCmp.NoneTotal
import Derived.Shelf.SortM.Plain
import Derived.Shelf.SortM.SortNone
set_option linter.unusedVariables false
namespace Go.Lft
open Go.Sort
def Ty.scal:Ty→Bool
 | .int _ | .bool | .str | .unit=>true
 | .wrap a=>a.scal
 | .pair a b=>a.scal&&b.scal
 | .list _=>false
 | .arr _ _=>false
def encT:(t:Ty)→t.den→List Value
 | .int k,n=>[.int k n]
 | .bool,b=>[.bool b]
 | .str,s=>[.string s]
 | .unit,_=>[]
 | .wrap a,v=>encT a v
 | .pair a b,v=>encT a v.1++encT b v.2
 | .list _,_=>[]
 | .arr _ _,_=>[]
def j6v:(t:Ty)→t.den→Bool
 | .int _,n=>decide (-1152921504606846976≤(n:Int))&&decide ((n:Int)≤1152921504606846976)
 | .bool,_=>true
 | .str,_=>true
 | .unit,_=>true
 | .wrap a,v=>j6v a v
 | .pair a b,v=>j6v a v.1&&j6v b v.2
 | .list _,_=>true
 | .arr _ _,_=>true
theorem jhs:∀ t:Ty,j6v t t.dflt=true
 | .int _=>by simp [j6v,Ty.dflt]
 | .bool=>rfl
 | .str=>rfl
 | .unit=>rfl
 | .wrap a=>jhs a
 | .pair a b=>by simp [j6v,Ty.dflt,jhs a,jhs b]
 | .list _=>rfl
 | .arr _ _=>rfl
theorem jgy {S:j0f} {w:World}:∀ (t:Ty) (v:t.den) (cs:List Value),t.scal=true→(Rep S w t v cs↔cs=encT t v)
 | .int _,_,_,_=>Iff.rfl
 | .bool,_,_,_=>Iff.rfl
 | .str,_,_,_=>Iff.rfl
 | .unit,_,_,_=>Iff.rfl
 | .wrap a,v,cs,h=>jgy a v cs h
 | .pair a b,v,cs,h=>by
  simp only [Ty.scal,ja] at h
  constructor
  ·rintro ⟨c1,c2,rfl,h1,h2⟩
   rw [(jgy a _ _ h.1).1 h1,(jgy b _ _ h.2).1 h2];rfl
  ·rintro rfl
   exact ⟨_,_,rfl,(jgy a _ _ h.1).2 rfl,(jgy b _ _ h.2).2 rfl⟩
 | .list _,_,_,h=>by simp [Ty.scal] at h
 | .arr _ _,_,_,h=>by simp [Ty.scal] at h
theorem jt5 (t:Ty) (v:t.den) (h:t.scal=true):(encT t v).length=t.size:=
 Rep.length (S:=fun _ _=>False) (w:=default) t v _ ((jgy t v _ h).2 rfl)
theorem jAW (t:Ty) (v:t.den) (h:t.scal=true):∀ u∈encT t v,u.oneCell'=true:=
 Rep.one (S:=fun _ _=>False) (w:=default) t v _ ((jgy t v _ h).2 rfl)
abbrev Sml (a:Ty):Type:={ x:a.den // j6v a x=true }
instance (a:Ty):Inhabited (Sml a):=⟨⟨a.dflt,jhs a⟩⟩
def smlA {a:Ty}:(xs:List a.den)→xs.all (j6v a)=true→List (Sml a)
 | [],_=>[]
 | x::xs,h=>⟨x,by simp at h;exact h.1⟩::smlA xs (by simp at h ⊢;exact h.2)
theorem jmc {a:Ty}:∀ (xs:List a.den) (h:xs.all (j6v a)=true),(smlA xs h).map (·.1)=xs
 | [],_=>rfl
 | x::xs,h=>by simp [smlA,jmc xs]
theorem jz1 {a:Ty} (xs:List a.den) (h:xs.all (j6v a)=true):(smlA xs h).length=xs.length:=by
 rw [←kv (f:=(·.1)),jmc]
noncomputable def jro (a:Ty) (cf:a.den→a.den→Int) (xs:List a.den):Option (List a.den):=
 if h:xs.all (j6v a)=true∧xs.length<4611686018427387904 then
  some ((pdq (Go.Proofs.ltOf fun (x y:Sml a)=>cf x.1 y.1) (smlA xs h.1).toArray 0 (smlA xs h.1).toArray.size (Lib.bitLen (smlA xs h.1).toArray.size) true true).toList.map (·.1))
 else none
theorem juC {a:Ty} {cf:a.den→a.den→Int} (hO:SWO (Go.Proofs.ltOf fun (x y:Sml a)=>cf x.1 y.1)) {xs:List a.den} (h:∀ x∈xs,j6v a x=true) (hl:xs.length<4611686018427387904) :
  ∃ ys,jro a cf xs=some ys∧ys.Perm xs∧ys.Pairwise (fun x y=>¬ cf y x<0):=by
 have h1:xs.all (j6v a)=true:=js.2 h
 unfold jro
 rw [dif_pos ⟨h1,hl⟩]
 refine ⟨_,rfl,?_,?_⟩
 ·have hp:=(pdq_sorts (Go.Proofs.ltOf fun (x y:Sml a)=>cf x.1 y.1) hO (smlA xs h1).toArray 0 (smlA xs h1).toArray.size (Lib.bitLen (smlA xs h1).toArray.size) true true (ka _) (jo _) (Or.inl rfl)).1
  obtain ⟨hs,_,hp⟩:=hp
  generalize pdq (Go.Proofs.ltOf fun (x y:Sml a)=>cf x.1 y.1) (smlA xs h1).toArray 0 (smlA xs h1).toArray.size (Lib.bitLen (smlA xs h1).toArray.size) true true=d' at *
  rw [←hs] at hp
  rw [Array.extract_size,hs,Array.extract_size] at hp
  have:=hp.map (·.1)
  rwa [show (smlA xs h1).toArray.toList=smlA xs h1 from rfl,jmc] at this
 ·have hp:=(pdq_sorts (Go.Proofs.ltOf fun (x y:Sml a)=>cf x.1 y.1) hO (smlA xs h1).toArray 0 (smlA xs h1).toArray.size (Lib.bitLen (smlA xs h1).toArray.size) true true (ka _) (jo _) (Or.inl rfl))
  obtain ⟨⟨hs,_,_⟩,hp⟩:=hp
  generalize pdq (Go.Proofs.ltOf fun (x y:Sml a)=>cf x.1 y.1) (smlA xs h1).toArray 0 (smlA xs h1).toArray.size (Lib.bitLen (smlA xs h1).toArray.size) true true=d' at *
  rw [List.pairwise_map,kq]
  intro i j hi hj hij
  have hi':i<d'.size:=by simpa using hi
  have hj':j<d'.size:=by simpa using hj
  have:=hp i j (ka _) hij (by omega)
  rw [getElem!_pos d' j hj',getElem!_pos d' i hi'] at this
  simpa [Go.Proofs.ltOf] using this
theorem juD {m:Nat}:∀ {css:List (List Value)},(∀ c∈css,c.length=m)→∀ t,t<css.length*m→css.flatten[t]? = ((css[t/m]?).getD [])[t%m]?
 | [],_,t,ht=>by simp at ht
 | c::css,h,t,ht=>by
  have hc:c.length=m:=h c (by simp)
  have m0:0<m:=by
   rcases Nat.eq_zero_or_pos m with h0 | h0
   ·subst h0;simp at ht
   ·exact h0
  by_cases hlt:t<m
  ·rw [kr,List.getElem?_append_left (by omega),Nat.div_eq_of_lt hlt,Nat.mod_eq_of_lt hlt];simp
  ·have h':∀ c∈css,c.length=m:=fun c hc=>h c (by simp [hc])
   have ht':t-m<css.length*m:=by simp only [jp,vb] at ht;omega
   rw [kr,k9 (by omega),hc,juD h' (t-m) ht']
   have e1:t=t-m+m:=by omega
   have e2:t/m=(t-m)/m+1:=(jn (· / m) e1).trans (Nat.add_div_right _ m0)
   have e3:t%m=(t-m)%m:=(jn (· % m) e1).trans (Nat.add_mod_right _ _)
   rw [e2,e3,zh]
theorem jxd {α:Type} (enc:α→List Value):∀ xs:List α,All2 (fun x c=>c=enc x) xs (xs.map enc)
 | []=>trivial
 | x::xs=>⟨rfl,jxd enc xs⟩
theorem joX {α:Type} [Inhabited α] (enc:α→List Value) (k:Nat) (hk:∀ x,(enc x).length=k) (d:Array α):(flatK enc k d).toList=(d.toList.map enc).flatten:=by
 have hl:(d.toList.map enc).flatten.length=d.size*k:=by
  have:=All2.flatten_length (R:=fun x c=>c=enc x) (n:=k) (fun x c h=>by rw [h,hk]) (xs:=d.toList) (css:=d.toList.map enc) (jxd enc _)
  simpa using this
 refine vm fun t=> ?_
 by_cases ht:t<d.size*k
 ·rw [juD (m:=k) (by simpa using fun x _=>hk x) t (by simpa using ht)]
  have k0:0<k:=by
   rcases Nat.eq_zero_or_pos k with h0 | h0
   ·subst h0;simp at ht
   ·exact h0
  have hd:t/k<d.size:=Nat.div_lt_of_lt_mul (by rw [Nat.mul_comm];exact ht)
  have hm:t%k<k:=Nat.mod_lt _ k0
  have:=get_flatK enc k d t ht
  rw [getElem!_pos _ t (by rw [size_flatK];exact ht)] at this
  rw [q7,jr (by rw [size_flatK];exact ht),this,getElem!_pos d _ hd]
  simp only [qk,q7,jr hd,kp,z6]
  rw [getElem!_pos _ _ (by rw [hk];exact hm),ji (by rw [hk];exact hm)]
 ·rw [qq (by rw [kz,size_flatK];omega),qq (by omega)]
theorem jrp {w:World} {g:Nat} {cur F:Array Value} {e:Nat} (hg:w.heap[g]? = some (.cells cur e (0,0))) (ht:cur.toList.take F.size=F.toList):Holds id w g 0 F:=by
 intro j hj
 have h1:cur[j]? = some F[j]:=by
  have:(cur.toList.take F.size)[j]? = F.toList[j]? := by rw [ht]
  rw [zf hj,q7,q7,jr hj] at this
  exact this
 refine ⟨?_,?_⟩
 ·simp only [World.cell?,hg,kc]
  rw [getElem!_pos F j hj];simpa using h1
 ·simp [World.frozen?,hg]
theorem jxe {w:World} {g:Nat} {cur F:Array Value} {e:Nat} (hg:w.heap[g]? = some (.cells cur e (0,0))) (hF:F.size≤cur.size) :
  ∃ cur',(putRow id w g 0 F).heap[g]? = some (.cells cur' e (0,0))∧cur'.size=cur.size∧cur'.toList.take F.size=F.toList:=by
 refine ⟨putCells id 0 F cur,?_,?_,?_⟩
 ·unfold putRow mapBlock
  simp only [Array.getElem?_modify,if_true,hg,kp,onCells]
 ·simp [putCells]
 ·refine vm fun t=> ?_
  by_cases ht:t<F.size
  ·rw [zf ht,q7,q7]
   simp only [putCells,Array.getElem?_mapIdx]
   rw [jr (show t<cur.size by omega),jr ht]
   simp only [kp,ka,qc,kc,ht,if_true,Nat.sub_zero,id]
   rw [getElem!_pos F t ht]
  ·rw [List.getElem?_take_eq_none (by omega),qq (by simpa using ht)]
theorem joY {w:World} {g k:Nat} {F:Array Value} (h:k≠g):(putRow id w g 0 F).heap[k]? = w.heap[k]? := by
 unfold putRow mapBlock
 simp only [Array.getElem?_modify,Ne.symm h,qz]
theorem jjs {w:World} {os:Array Obj} {k:Nat} (h:k<w.heap.size):(grow w os).heap[k]? = w.heap[k]? := by
 simp only [grow]
 exact Array.getElem?_append_left h
theorem jmT {a:Ty} {S:j0f} {w:World} (ha:a.scal=true):∀ {xs:List a.den} {css:List (List Value)},All2 (fun x c=>Rep S w a x c) xs css↔css=xs.map (encT a)
 | [],[]=>by simp [All2]
 | x::xs,c::css=>by
  simp only [All2,kj,List.cons.injEq]
  exact and_congr (jgy a x c ha) (jmT ha)
 | [],_::_=>by simp [All2]
 | _::_,[]=>by simp [All2]
variable {P:Program} {ρ:Go.Shelf.Ren}
theorem juE (L:Go.Proofs.SlLaysF0.n6 P ρ) (a:Ty) (ha:a.scal=true) (e:Nat) (he:isM e=false) (aE:∀ w,(isAgg (ρ.t 24)).run P w = .ok true w) (zE:∀ w,(Go.sizeOf (ρ.t 24)).run P w = .ok a.size w) (cf:a.den→a.den→Int) (g:Nat)
  (eg:∀ args w,(callFunc g args).run P w = .ok (.enter g args) w)
  (hcmp:∀ (x y:a.den) (w:World),j6v a x=true→j6v a y=true→Calls P g #[.agg (encT a x).toArray,.agg (encT a y).toArray] w fun e w'=>e = .returned (.int .i64 (cf x y))∧∃ q os',w'=grow (w.drewN q) os')
  (hO:SWO (Go.Proofs.ltOf fun (x y:Sml a)=>cf x.1 y.1)) (f:Nat) (hf:f=ρ.f 6) :
  Con.OK P ⟨f,[.rl e (.list a),.clo g []],[.list a],⟨[],[.rl (.list a)]⟩,[.list a],jro a cf⟩:=by
 subst hf
 intro args R k r hk
 unfold Con.C at hk
 split at hk
 rotate_left
 ·simp at hk
 rename_i h hu
 rw [jho hu]
 clear hu
 obtain ⟨ys,hys,hkr⟩:∃ ys,jro a cf h=some ys∧k (jmO ⟨[],[.rl (.list a)]⟩ [.list a] ys)=some r:=by
  cases hs:jro a cf h with
  | none=>simp only [hs,Option.bind_none] at hk;exact absurd hk (by simp)
  | some ys=>simp only [hs,j3] at hk;exact ⟨ys,rfl,hk⟩
 clear hk
 refine ⟨?_,?_⟩
 ·obtain ⟨nm,hn,hfn⟩:=L.f6
  exact ⟨_,hfn,rfl,hn⟩
 intro w S vals hA hnd hS
 have hA:All2 (jdn S w) [.rl e ⟨.list a,h⟩,.clo g []] vals:=hA
 obtain ⟨u0,u1,rfl⟩:∃ u0 u1,vals=[u0,u1]:=by
  match vals,hA with
  | [u0,u1],_=>exact ⟨u0,u1,rfl⟩
 obtain ⟨⟨a',xs,hx,hrow0,hfree⟩,⟨cv,rfl,hcv⟩,_⟩:=hA
 obtain ⟨css,hrow,hall⟩:∃ css,w.ownsRow 0 e a'.size u0 xs.length css.flatten∧All2 (fun x c=>Rep S w a' x c) xs css:=by
  rcases hrow0 with ⟨_,css,h1,h2⟩ | ⟨h1,_⟩
  ·exact ⟨css,h1,h2⟩
  ·rw [he] at h1;simp at h1
 obtain ⟨rfl,hx⟩:a=a'∧HEq h xs:=by
  have h1:=jn TV.t hx
  simp only [Ty.list.injEq] at h1
  subst h1
  refine ⟨rfl,?_⟩
  simp only [TV.mk.injEq,heq_eq_eq,qc] at hx
  rw [hx]
 obtain rfl:xs=h:=(eq_of_heq hx).symm
 have hcv0:cv = #[]:=by
  match hh:cv.toList,hcv with
  | [],_=>exact Array.toList_eq_nil_iff.1 hh
 subst hcv0
 obtain rfl:=(jmT ha).1 hall
 unfold jro at hys
 split at hys
 rotate_left
 ·simp at hys
 rename_i hsm
 have hval:=jmc xs hsm.1
 have hlen:=jz1 xs hsm.1
 generalize smlA xs hsm.1=sm at hys hval hlen
 have hpp:=(pdq_sorts (Go.Proofs.ltOf fun (x y:Sml a)=>cf x.1 y.1) hO sm.toArray 0 sm.toArray.size (Lib.bitLen sm.toArray.size) true true (ka _) (jo _) (Or.inl rfl)).1.1
 have hcall:Calls P (ρ.f 6) #[u0,.func (.func g) #[] #[]] w fun e' w'=>e' = .returned (.tuple #[])∧(w'=w∧xs=[]∨∃ gb cap cur n os,u0 = .slice (some ⟨gb,0,none⟩) xs.length cap∧w.heap[gb]? = some (.cells cur e (0,0))∧xs.length≤cap∧cap≤maxLen∧cur.size=cap*a.size∧
   w'=Go.Proofs.sortWorldK (fun (x:Sml a)=>encT a x.1) a.size w gb 0 n (pdq (Go.Proofs.ltOf fun (x y:Sml a)=>cf x.1 y.1) sm.toArray 0 sm.toArray.size (Lib.bitLen sm.toArray.size) true true) os):=by
  rcases hrow.2 with ⟨rfl,hn⟩ | ⟨gb,cap,cur,rfl,_,hg,hcap,hmx,hcs,htk⟩
  ·refine (Go.Proofs.AnyF.slices_SortFunc_none L none 0 (.func (.func g) #[] #[]) w).mono ?_
   rintro e' w' ⟨rfl,rfl⟩
   exact ⟨rfl,Or.inl ⟨rfl,zi.1 hn⟩⟩
  ·have hsz:sm.toArray.size=xs.length:=by simpa using hlen
   have hfl:=joX (fun (x:Sml a)=>encT a x.1) a.size (fun x=>jt5 a x.1 ha) sm.toArray
   have hfl2:(flatK (fun (x:Sml a)=>encT a x.1) a.size sm.toArray).toList=(xs.map (encT a)).flatten:=by
    rw [hfl,←hval,List.map_map];rfl
   have hH:HoldsK (fun (x:Sml a)=>encT a x.1) a.size w gb 0 sm.toArray:=jrp hg (by rw [size_flatK,hsz,hfl2];exact htk)
   have hb:gb<w.heap.size:=(je.1 hg).1
   have:=Go.Proofs.AnyQ.slices_SortFunc_eq L a.size aE zE (fun (x:Sml a)=>encT a x.1) (fun x=>jt5 a x.1 ha) (fun x=>jAW a x.1 ha) (fun x y=>cf x.1 y.1) hO g #[] gb 0 cap sm.toArray w eg
    (fun m os dk _ x y=>hcmp x.1 y.1 _ x.2 y.2) hH hb (by omega)
   rw [hsz] at this ⊢
   refine this.mono ?_
   rintro e' w' ⟨rfl,n,os,rfl⟩
   exact ⟨rfl,Or.inr ⟨gb,cap,cur,n,os,rfl,hg,hcap,hmx,hcs,rfl⟩⟩
 refine hcall.mono ?_
 rintro e' w' ⟨rfl,hw⟩
 refine ⟨_,hkr,_,S,[],rfl,?_⟩
 simp only [j4] at hys
 rcases hw with ⟨rfl,rfl⟩ | ⟨gb,cap,cur,n,os,rfl,hg,hcap,hmx,hcs,rfl⟩
 ·-- nothing to sort
  obtain rfl:sm=[]:=by simpa using hlen
  have hys:ys=[]:=by
   rw [←hys]
   have:(pdq (Go.Proofs.ltOf fun (x y:Sml a)=>cf x.1 y.1) (#[]:Array (Sml a)) 0 0 (Lib.bitLen 0) true true).size=0:=hpp
   rw [List.map_eq_nil_iff]
   exact Array.toList_eq_nil_iff.2 (Array.size_eq_zero_iff.1 this)
  subst hys
  refine ⟨rfl,trivial,by simp [j8G],by simp [j8G],?_,j4p.refl _ _,fun g o h=>Or.inl h,hS,fun g _ _=>rfl,jo _,rfl,rfl,rfl,by intro m hm;simp [jmO,rvsF] at hm⟩
  exact ⟨⟨a,[],rfl,.inl ⟨he,[],hrow,trivial⟩,hfree⟩,rfl,trivial⟩
 ·generalize pdq (Go.Proofs.ltOf fun (x y:Sml a)=>cf x.1 y.1) sm.toArray 0 sm.toArray.size (Lib.bitLen sm.toArray.size) true true=d' at hys hpp
  have hsz:sm.toArray.size=xs.length:=by simpa using hlen
  have hds:d'.size=xs.length:=by rw [hpp,hsz]
  have hfl:=joX (fun (x:Sml a)=>encT a x.1) a.size (fun x=>jt5 a x.1 ha) d'
  have hfl2:(flatK (fun (x:Sml a)=>encT a x.1) a.size d').toList=(List.map (encT a) ys).flatten:=by
   rw [hfl,←hys,List.map_map];rfl
  have hyl:ys.length=xs.length:=by rw [←hys];simpa using hds
  have hb:gb<w.heap.size:=(je.1 hg).1
  have hFs:(flatK (fun (x:Sml a)=>encT a x.1) a.size d').size=xs.length*a.size:=by rw [size_flatK,hds]
  obtain ⟨cur',hg',hcs',htk'⟩:=jxe (w:=Sort.ahead w n) (F:=flatK (fun (x:Sml a)=>encT a x.1) a.size d') hg (by rw [hFs,hcs];exact jw _ hcap)
  have hsp:(putRow id (Sort.ahead w n) gb 0 (flatK (fun (x:Sml a)=>encT a x.1) a.size d')).heap.size=w.heap.size:=by simp
  have hother:∀ k,k<w.heap.size→k≠gb→(Go.Proofs.sortWorldK (fun (x:Sml a)=>encT a x.1) a.size w gb 0 n d' os).heap[k]? = w.heap[k]? := fun k hk hne=>
   (jjs (by show k<(putRow id (Sort.ahead w n) gb 0 (flatK (fun (x:Sml a)=>encT a x.1) a.size d')).heap.size;rw [hsp];exact hk)).trans (joY hne)
  have hgrow:w.heap.size≤(Go.Proofs.sortWorldK (fun (x:Sml a)=>encT a x.1) a.size w gb 0 n d' os).heap.size:=by
   show w.heap.size≤((putRow id (Sort.ahead w n) gb 0 (flatK (fun (x:Sml a)=>encT a x.1) a.size d')).heap++os).size
   rw [Array.size_append,hsp];omega
  have hfr:∀ o,¬ S gb o:=hfree gb rfl
  refine ⟨rfl,trivial,by simp [j8G],by simp [j8G],?_,?_,fun g o h=>Or.inl h,fun g o h=>qa (hS g o h) hgrow,?_,hgrow,rfl,rfl,rfl,by intro m hm;simp [jmO,rvsF] at hm⟩
  ·refine ⟨⟨a,ys,rfl,.inl ⟨he,ys.map (encT a),⟨?_,Or.inr ⟨gb,cap,cur',?_,ka _,?_,?_,hmx,?_,?_⟩⟩,(jmT ha).2 rfl⟩,hfree⟩,rfl,trivial⟩
   ·rw [←hfl2,kz,hFs,hyl]
   ·rw [hyl]
   ·exact (jjs (by show gb<(putRow id (Sort.ahead w n) gb 0 (flatK (fun (x:Sml a)=>encT a x.1) a.size d')).heap.size;rw [hsp];exact hb)).trans hg'
   ·rw [hyl];exact hcap
   ·rw [hcs',hcs]
   ·rw [hyl,←hFs,htk',hfl2]
  ·intro g' o hS'
   refine ⟨hS',?_⟩
   have hne:g'≠gb:=fun he=>hfr o (he▸hS')
   exact World.cell?_of_block (hother g' (hS g' o hS') hne)
  ·intro g' hg1 hg2
   refine hother g' hg1 fun he=>hg2 ?_
   subst he
   simp [jlu,jvt,argF,j3q,jbI,blk,ofHL,APat.n]
theorem jpE {α:Type} (key:α→Int) (hk:∀ x, -1152921504606846976≤key x∧key x≤1152921504606846976) (cf:α→α→Int) (h:∀ x y,cf x y=w64 (key x-key y)):SWO (Go.Proofs.ltOf cf):=by
 have e:∀ x y,Go.Proofs.ltOf cf x y=decide (key x<key y):=by
  intro x y
  have h1:=hk x
  have h2:=hk y
  have:w64 (key x-key y)=key x-key y:=j02 (by omega) (by omega)
  simp only [Go.Proofs.ltOf,h,this]
  congr 1
  exact propext ⟨fun h=>by omega,fun h=>by omega⟩
 refine ⟨fun x=> ?_,fun x y z=> ?_,fun x y z=> ?_⟩
 ·rw [e];simp
 ·rw [e,e,e];simp only [jl];omega
 ·rw [e,e,e];simp only [kf];omega
open Go.Sort
def insI (x:Int):List Int→List Int
 | []=>[x]
 | y::ys=>cond (decide (x≤y)) (x::y::ys) (y::insI x ys)
def jrq:List Int→List Int
 | []=>[]
 | x::xs=>insI x (jrq xs)
def jt6 (xs:List Int):Option (List Int):=cond (Nat.blt xs.length 4611686018427387904) (some (jrq xs)) none
theorem jmU (x:Int):∀ l:List Int,(insI x l).Perm (x::l)
 | []=>List.Perm.refl _
 | y::ys=>by
  unfold insI
  cases decide (x≤y) with
  | true=>exact List.Perm.refl _
  | false=>exact ((jmU x ys).cons y).trans (List.Perm.swap x y ys)
theorem jf1:∀ l:List Int,(jrq l).Perm l
 | []=>List.Perm.refl _
 | x::xs=>(jmU x _).trans ((jf1 xs).cons x)
theorem jxf (x:Int):∀ l:List Int,l.Pairwise (· ≤ ·)→(insI x l).Pairwise (· ≤ ·)
 | [],_=>List.pairwise_singleton _ _
 | y::ys,h=>by
  have hc:=qb.1 h
  unfold insI
  cases hd:decide (x≤y) with
  | true=>
   have hd:=kx hd
   refine qb.2 ⟨fun z hz=> ?_,h⟩
   rcases jf.1 hz with rfl | hz
   ·exact hd
   ·have:=hc.1 z hz;omega
  | false=>
   have hd:=of_decide_eq_false hd
   refine qb.2 ⟨fun z hz=> ?_,jxf x ys hc.2⟩
   rcases jf.1 ((jmU x ys).mem_iff.1 hz) with rfl | hz
   ·omega
   ·exact hc.1 z hz
theorem jmV:∀ l:List Int,(jrq l).Pairwise (· ≤ ·)
 | []=>List.Pairwise.nil
 | x::xs=>jxf x _ (jmV xs)
theorem jxg (xs:List Int):(xs.mergeSort fun x y=>decide (x≤y))=jrq xs:=by
 refine List.Perm.eq_of_pairwise (le:=(· ≤ ·)) (fun a b _ _ h1 h2=>Int.le_antisymm h1 h2) ?_ (jmV xs) ((List.mergeSort_perm _ _).trans (jf1 xs).symm)
 have:=List.pairwise_mergeSort (le:=fun x y:Int=>decide (x≤y)) (fun a b c h1 h2=>by simp at h1 h2 ⊢;omega) (fun a b=>by simp;omega) xs
 exact this.imp (fun h=>by simpa using h)
theorem jz2 {xs:List Int} (h:xs.length<4611686018427387904):∃ ys,jt6 xs=some ys∧ys.Perm xs∧ys.Pairwise (· ≤ ·):=by
 unfold jt6
 rw [show Nat.blt xs.length 4611686018427387904=true from Nat.ble_eq_true_of_le h]
 exact ⟨_,rfl,jf1 xs,jmV xs⟩
theorem jC0 (w:World) (g:Nat) (zs:List Int):putRow (Value.int .i64) w g 0 zs.toArray=putRow id w g 0 (zs.map (Value.int .i64)).toArray:=by
 have:putCells (Value.int .i64) 0 zs.toArray=putCells id 0 (zs.map (Value.int .i64)).toArray:=by
  funext c
  unfold putCells
  refine Array.ext_getElem? fun k=> ?_
  simp only [Array.getElem?_mapIdx,ka,qc,kc,Nat.sub_zero,v7,kv,id]
  cases c[k]? with
  | none=>rfl
  | some x=>
   simp only [kp]
   by_cases hk:k<zs.length
   ·rw [if_pos hk,if_pos hk,getElem!_pos _ k (by simpa using hk),getElem!_pos _ k (by simpa using hk)]
    simp
   ·rw [if_neg hk,if_neg hk]
 unfold putRow
 rw [this]
theorem jz3 {w:World} {g:Nat} {zs:List Int} (h:Holds id w g 0 (zs.map (Value.int .i64)).toArray):Holds (Value.int .i64) w g 0 zs.toArray:=by
 intro j hj
 have hj':j<zs.length:=by simpa using hj
 have:=h j (by simpa using hj')
 refine ⟨this.1.trans ?_,this.2⟩
 rw [getElem!_pos _ j (by simpa using hj'),getElem!_pos _ j hj]
 simp
theorem jpF (zs:List Int):(zs.map (encT (.int .i64))).flatten=zs.map (Value.int .i64):=by
 induction zs with
 | nil=>rfl
 | cons z zs ih=>simp only [kj,kr,ih];rfl
variable {P:Program} {ρ:Go.Shelf.Ren}
theorem jxh (L:Go.Proofs.SlLaysM.n5 P ρ) (e:Nat) (he:isM e=false) (f:Nat) (hf:f=ρ.f 5) :
  Con.OK P ⟨f,[.rl e (.list (.int .i64))],[.list (.int .i64)],⟨[],[.rl (.list (.int .i64))]⟩,[.list (.int .i64)],jt6⟩:=by
 subst hf
 intro args R k r hk
 unfold Con.C at hk
 split at hk
 rotate_left
 ·simp at hk
 rename_i h hu
 rw [jho hu]
 clear hu
 obtain ⟨ys,hys,hkr⟩:∃ ys,jt6 h=some ys∧k (jmO ⟨[],[.rl (.list (.int .i64))]⟩ [.list (.int .i64)] ys)=some r:=by
  cases hs:jt6 h with
  | none=>simp only [hs,Option.bind_none] at hk;exact absurd hk (by simp)
  | some ys=>simp only [hs,j3] at hk;exact ⟨ys,rfl,hk⟩
 clear hk
 refine ⟨?_,?_⟩
 ·obtain ⟨nm,hn,hfn⟩:=L.f5
  exact ⟨_,hfn,rfl,hn⟩
 intro w S vals hA hnd hS
 have hA:All2 (jdn S w) [.rl e ⟨.list (.int .i64),h⟩] vals:=hA
 obtain ⟨u0,rfl⟩:∃ u0,vals=[u0]:=by
  match vals,hA with
  | [u0],_=>exact ⟨u0,rfl⟩
 obtain ⟨⟨a',xs,hx,hrow0,hfree⟩,_⟩:=hA
 obtain ⟨css,hrow,hall⟩:∃ css,w.ownsRow 0 e a'.size u0 xs.length css.flatten∧All2 (fun x c=>Rep S w a' x c) xs css:=by
  rcases hrow0 with ⟨_,css,h1,h2⟩ | ⟨h1,_⟩
  ·exact ⟨css,h1,h2⟩
  ·rw [he] at h1;simp at h1
 obtain ⟨rfl,hx⟩:Ty.int .i64=a'∧HEq h xs:=by
  have h1:=jn TV.t hx
  simp only [Ty.list.injEq] at h1
  subst h1
  refine ⟨rfl,?_⟩
  simp only [TV.mk.injEq,heq_eq_eq,qc] at hx
  rw [hx]
 obtain rfl:xs=h:=(eq_of_heq hx).symm
 obtain rfl:=(jmT (a:= .int .i64) rfl).1 hall
 have hfl:(List.map (encT (.int .i64)) xs).flatten=List.map (Value.int .i64) xs:=jpF xs
 rw [hfl] at hrow
 unfold jt6 at hys
 cases hsm:Nat.blt (List.length xs) 4611686018427387904 with
 | false=>rw [hsm] at hys;simp at hys
 | true=>
 rw [hsm] at hys
 simp only [j5,j4] at hys
 have hsm:List.length xs<4611686018427387904:=Nat.le_of_ble_eq_true hsm
 have hyl:ys.length=List.length xs:=by rw [←hys];exact (jf1 xs).length_eq
 have hcall:Calls P (ρ.f 5) #[u0] w fun e' w'=>e' = .returned (.tuple #[])∧(w'=w∧xs=[]∨∃ gb cap cur n os,u0 = .slice (some ⟨gb,0,none⟩) (List.length xs) cap∧w.heap[gb]? = some (.cells cur e (0,0))∧List.length xs≤cap∧cap≤maxLen∧cur.size=cap*1∧
   w'=grow (putRow id (Sort.ahead w n) gb 0 (ys.map (Value.int .i64)).toArray) os):=by
  rcases hrow.2 with ⟨rfl,hn⟩ | ⟨gb,cap,cur,rfl,_,hg,hcap,hmx,hcs,htk⟩
  ·refine (Go.Proofs.AnyM.slices_Sort_int_none L none 0 w).mono ?_
   rintro e' w' ⟨rfl,rfl⟩
   exact ⟨rfl,Or.inl ⟨rfl,zi.1 hn⟩⟩
  ·have hH:Holds (Value.int .i64) w gb 0 (List.toArray xs):=jz3 (jrp hg (by simpa [Ty.size] using htk))
   have hb:gb<w.heap.size:=(je.1 hg).1
   refine (Go.Proofs.AnyM.slices_Sort_int L gb 0 cap xs w hH hb hsm).mono ?_
   rintro e' w' ⟨rfl,n,os,rfl⟩
   rw [jxg,hys,jC0]
   exact ⟨rfl,Or.inr ⟨gb,cap,cur,n,os,rfl,hg,hcap,hmx,hcs,rfl⟩⟩
 refine hcall.mono ?_
 rintro e' w' ⟨rfl,hw⟩
 refine ⟨_,hkr,_,S,[],rfl,?_⟩
 rcases hw with ⟨rfl,rfl⟩ | ⟨gb,cap,cur,n,os,rfl,hg,hcap,hmx,hcs,rfl⟩
 ·have hys:ys=[]:=zi.1 (by simpa using hyl)
  subst hys
  refine ⟨rfl,trivial,by simp [j8G],by simp [j8G],?_,j4p.refl _ _,fun g o h=>Or.inl h,hS,fun g _ _=>rfl,jo _,rfl,rfl,rfl,by intro m hm;simp [jmO,rvsF] at hm⟩
  exact ⟨⟨.int .i64,[],rfl,.inl ⟨he,[],hrow,trivial⟩,hfree⟩,rfl,trivial⟩
 ·have hb:gb<w.heap.size:=(je.1 hg).1
  have hFs:(ys.map (Value.int .i64)).toArray.size=List.length xs:=by simp [hyl]
  obtain ⟨cur',hg',hcs',htk'⟩:=jxe (w:=Sort.ahead w n) (F:=(ys.map (Value.int .i64)).toArray) hg (by rw [hFs,hcs];omega)
  have hsp:(putRow id (Sort.ahead w n) gb 0 (ys.map (Value.int .i64)).toArray).heap.size=w.heap.size:=by simp
  have hother:∀ k,k<w.heap.size→k≠gb→(grow (putRow id (Sort.ahead w n) gb 0 (ys.map (Value.int .i64)).toArray) os).heap[k]? = w.heap[k]? := fun k hk hne=>
   (jjs (by rw [hsp];exact hk)).trans (joY hne)
  have hgrow:w.heap.size≤(grow (putRow id (Sort.ahead w n) gb 0 (ys.map (Value.int .i64)).toArray) os).heap.size:=by
   show w.heap.size≤((putRow id (Sort.ahead w n) gb 0 (ys.map (Value.int .i64)).toArray).heap++os).size
   rw [Array.size_append,hsp];omega
  have hfr:∀ o,¬ S gb o:=hfree gb rfl
  refine ⟨rfl,trivial,by simp [j8G],by simp [j8G],?_,?_,fun g o h=>Or.inl h,fun g o h=>qa (hS g o h) hgrow,?_,hgrow,rfl,rfl,rfl,by intro m hm;simp [jmO,rvsF] at hm⟩
  ·refine ⟨⟨.int .i64,ys,rfl,.inl ⟨he,ys.map (encT (.int .i64)),⟨?_,Or.inr ⟨gb,cap,cur',?_,ka _,?_,?_,hmx,?_,?_⟩⟩,(jmT (a:= .int .i64) rfl).2 rfl⟩,hfree⟩,rfl,trivial⟩
   ·rw [jpF];simp [Ty.size]
   ·rw [hyl]
   ·exact (jjs (by rw [hsp];exact hb)).trans hg'
   ·rw [hyl];exact hcap
   ·rw [hcs',hcs];rfl
   ·rw [jpF,hyl,show List.length xs*(Ty.int .i64).size=(ys.map (Value.int .i64)).toArray.size by rw [hFs];simp [Ty.size],htk']
  ·intro g' o hS'
   refine ⟨hS',?_⟩
   have hne:g'≠gb:=fun he=>hfr o (he▸hS')
   exact World.cell?_of_block (hother g' (hS g' o hS') hne)
  ·intro g' hg1 hg2
   refine hother g' hg1 fun he=>hg2 ?_
   subst he
   simp [jlu,jvt,argF,j3q,jbI,blk,ofHL]
end Go.Lft
