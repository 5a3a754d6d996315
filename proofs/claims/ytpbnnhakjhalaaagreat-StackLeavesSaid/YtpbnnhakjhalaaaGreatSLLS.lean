/- slices.SortFunc: the kit's contract of it as a contract on plain data. -/
import Derived.Test.YtpbnnhakjhalaaaGreatSLLD
import Derived.Shelf.SlSortCmp.NoneTotal
import Derived.Shelf.SortM.Plain
import Derived.Shelf.SortM.SortNone
set_option linter.unusedVariables false
namespace Go.Lft
open Go.Sort
def Ty.scal:Ty→Bool
 | .int _ | .bool | .str | .unit=>true
 | .wrap a=>a.scal
 | .pair a b=>a.scal&&b.scal
 | .list _=>false
 | .arr _ _=>false
def encT:(t:Ty)→t.den→List Value
 | .int k,n=>[.int k n]
 | .bool,b=>[.bool b]
 | .str,s=>[.string s]
 | .unit,_=>[]
 | .wrap a,v=>encT a v
 | .pair a b,v=>encT a v.1++encT b v.2
 | .list _,_=>[]
 | .arr _ _,_=>[]
def j6N:(t:Ty)→t.den→Bool
 | .int _,n=>decide (-1152921504606846976≤(n:Int))&&decide ((n:Int)≤1152921504606846976)
 | .bool,_=>true
 | .str,_=>true
 | .unit,_=>true
 | .wrap a,v=>j6N a v
 | .pair a b,v=>j6N a v.1&&j6N b v.2
 | .list _,_=>true
 | .arr _ _,_=>true
theorem jdi:∀ t:Ty,j6N t t.dflt=true
 | .int _=>by simp [j6N,Ty.dflt]
 | .bool=>rfl
 | .str=>rfl
 | .unit=>rfl
 | .wrap a=>jdi a
 | .pair a b=>by simp [j6N,Ty.dflt,jdi a,jdi b]
 | .list _=>rfl
 | .arr _ _=>rfl
theorem jcO {S:j0c} {w:World}:∀ (t:Ty) (v:t.den) (cs:List Value),t.scal=true→(Rep S w t v cs↔cs=encT t v)
 | .int _,_,_,_=>Iff.rfl
 | .bool,_,_,_=>Iff.rfl
 | .str,_,_,_=>Iff.rfl
 | .unit,_,_,_=>Iff.rfl
 | .wrap a,v,cs,h=>jcO a v cs h
 | .pair a b,v,cs,h=>by
  simp only [Ty.scal,ja] at h
  constructor
  ·rintro ⟨c1,c2,rfl,h1,h2⟩
   rw [(jcO a _ _ h.1).1 h1,(jcO b _ _ h.2).1 h2];rfl
  ·rintro rfl
   exact ⟨_,_,rfl,(jcO a _ _ h.1).2 rfl,(jcO b _ _ h.2).2 rfl⟩
 | .list _,_,_,h=>by simp [Ty.scal] at h
 | .arr _ _,_,_,h=>by simp [Ty.scal] at h
theorem jn6 (t:Ty) (v:t.den) (h:t.scal=true):(encT t v).length=t.size:=
 Rep.length (S:=fun _ _=>False) (w:=default) t v _ ((jcO t v _ h).2 rfl)
theorem jsY (t:Ty) (v:t.den) (h:t.scal=true):∀ u∈encT t v,u.oneCell'=true:=
 Rep.one (S:=fun _ _=>False) (w:=default) t v _ ((jcO t v _ h).2 rfl)
abbrev Sml (a:Ty):Type:={ x:a.den // j6N a x=true }
instance (a:Ty):Inhabited (Sml a):=⟨⟨a.dflt,jdi a⟩⟩
def smlA {a:Ty}:(xs:List a.den)→xs.all (j6N a)=true→List (Sml a)
 | [],_=>[]
 | x::xs,h=>⟨x,by simp at h;exact h.1⟩::smlA xs (by simp at h ⊢;exact h.2)
theorem jkp {a:Ty}:∀ (xs:List a.den) (h:xs.all (j6N a)=true),(smlA xs h).map (·.1)=xs
 | [],_=>rfl
 | x::xs,h=>by simp [smlA,jkp xs]
theorem jrL {a:Ty} (xs:List a.den) (h:xs.all (j6N a)=true):(smlA xs h).length=xs.length:=by
 rw [←qc (f:=(·.1)),jkp]
noncomputable def joW (a:Ty) (cf:a.den→a.den→Int) (xs:List a.den):Option (List a.den):=
 if h:xs.all (j6N a)=true∧xs.length<4611686018427387904 then
  some ((pdq (Go.Proofs.ltOf fun (x y:Sml a)=>cf x.1 y.1) (smlA xs h.1).toArray 0 (smlA xs h.1).toArray.size (Lib.bitLen (smlA xs h.1).toArray.size) true true).toList.map (·.1))
 else none
theorem jo5 {m:Nat}:∀ {css:List (List Value)},(∀ c∈css,c.length=m)→∀ t,t<css.length*m→css.flatten[t]? = ((css[t/m]?).getD [])[t%m]?
 | [],_,t,ht=>by simp at ht
 | c::css,h,t,ht=>by
  have hc:c.length=m:=h c (by simp)
  have m0:0<m:=by
   rcases Nat.eq_zero_or_pos m with h0 | h0
   ·subst h0;simp at ht
   ·exact h0
  by_cases hlt:t<m
  ·rw [k7,List.getElem?_append_left (by omega),Nat.div_eq_of_lt hlt,Nat.mod_eq_of_lt hlt];simp
  ·have h':∀ c∈css,c.length=m:=fun c hc=>h c (by simp [hc])
   have ht':t-m<css.length*m:=by simp only [jx,z8] at ht;omega
   rw [k7,js (by omega),hc,jo5 h' (t-m) ht']
   have e1:t=t-m+m:=by omega
   have e2:t/m=(t-m)/m+1:=(jo (· / m) e1).trans (Nat.add_div_right _ m0)
   have e3:t%m=(t-m)%m:=(jo (· % m) e1).trans (Nat.add_mod_right _ _)
   rw [e2,e3,zd]
theorem jqz {α:Type} (enc:α→List Value):∀ xs:List α,All2 (fun x c=>c=enc x) xs (xs.map enc)
 | []=>trivial
 | x::xs=>⟨rfl,jqz enc xs⟩
theorem jjG {α:Type} [Inhabited α] (enc:α→List Value) (k:Nat) (hk:∀ x,(enc x).length=k) (d:Array α):(flatK enc k d).toList=(d.toList.map enc).flatten:=by
 have hl:(d.toList.map enc).flatten.length=d.size*k:=by
  have:=All2.flatten_length (R:=fun x c=>c=enc x) (n:=k) (fun x c h=>by rw [h,hk]) (xs:=d.toList) (css:=d.toList.map enc) (jqz enc _)
  simpa using this
 refine zg fun t=> ?_
 by_cases ht:t<d.size*k
 ·rw [jo5 (m:=k) (by simpa using fun x _=>hk x) t (by simpa using ht)]
  have k0:0<k:=by
   rcases Nat.eq_zero_or_pos k with h0 | h0
   ·subst h0;simp at ht
   ·exact h0
  have hd:t/k<d.size:=Nat.div_lt_of_lt_mul (by rw [Nat.mul_comm];exact ht)
  have hm:t%k<k:=Nat.mod_lt _ k0
  have:=get_flatK enc k d t ht
  rw [getElem!_pos _ t (by rw [size_flatK];exact ht)] at this
  rw [kz,jj (by rw [size_flatK];exact ht),this,getElem!_pos d _ hd]
  simp only [kr,kz,jj hd,ka,qm]
  rw [getElem!_pos _ _ (by rw [hk];exact hm),jn (by rw [hk];exact hm)]
 ·rw [kx (by rw [ki,size_flatK];omega),kx (by omega)]
theorem jqA {w:World} {g:Nat} {cur F:Array Value} {e:Nat} (hg:w.heap[g]? = some (.cells cur e (0,0))) (ht:cur.toList.take F.size=F.toList):Holds id w g 0 F:=by
 intro j hj
 have h1:cur[j]? = some F[j]:=by
  have:(cur.toList.take F.size)[j]? = F.toList[j]? := by rw [ht]
  rw [List.getElem?_take_of_lt hj,kz,kz,jj hj] at this
  exact this
 refine ⟨?_,?_⟩
 ·simp only [World.cell?,hg,jt]
  rw [getElem!_pos F j hj];simpa using h1
 ·simp [World.frozen?,hg]
theorem jsZ {w:World} {g:Nat} {cur F:Array Value} {e:Nat} (hg:w.heap[g]? = some (.cells cur e (0,0))) (hF:F.size≤cur.size) :
  ∃ cur',(putRow id w g 0 F).heap[g]? = some (.cells cur' e (0,0))∧cur'.size=cur.size∧cur'.toList.take F.size=F.toList:=by
 refine ⟨putCells id 0 F cur,?_,?_,?_⟩
 ·unfold putRow mapBlock
  simp only [Array.getElem?_modify,if_true,hg,ka,onCells]
 ·simp [putCells]
 ·refine zg fun t=> ?_
  by_cases ht:t<F.size
  ·rw [List.getElem?_take_of_lt ht,kz,kz]
   simp only [putCells,Array.getElem?_mapIdx]
   rw [jj (show t<cur.size by omega),jj ht]
   simp only [ka,jy,kb,jt,ht,if_true,Nat.sub_zero,id]
   rw [getElem!_pos F t ht]
  ·rw [List.getElem?_take_eq_none (by omega),kx (by simpa using ht)]
theorem joX {w:World} {g k:Nat} {F:Array Value} (h:k≠g):(putRow id w g 0 F).heap[k]? = w.heap[k]? := by
 unfold putRow mapBlock
 simp only [Array.getElem?_modify,Ne.symm h,q8]
theorem jlR {w:World} {os:Array Obj} {k:Nat} (h:k<w.heap.size):(grow w os).heap[k]? = w.heap[k]? := by
 simp only [grow]
 exact Array.getElem?_append_left h
theorem jn7 {a:Ty} {S:j0c} {w:World} (ha:a.scal=true):∀ {xs:List a.den} {css:List (List Value)},All2 (fun x c=>Rep S w a x c) xs css↔css=xs.map (encT a)
 | [],[]=>by simp [All2]
 | x::xs,c::css=>by
  simp only [All2,ko,List.cons.injEq]
  exact and_congr (jcO a x c ha) (jn7 ha)
 | [],_::_=>by simp [All2]
 | _::_,[]=>by simp [All2]
variable {P:Program} {ρ:Go.Shelf.Ren}
theorem jo6 (L:Go.Proofs.SlLaysF0.n6 P ρ) (a:Ty) (ha:a.scal=true) (e:Nat) (he:isM e=false) (aE:∀ w,(isAgg (ρ.t 24)).run P w = .ok true w) (zE:∀ w,(Go.sizeOf (ρ.t 24)).run P w = .ok a.size w) (cf:a.den→a.den→Int) (g:Nat)
  (eg:∀ args w,(callFunc g args).run P w = .ok (.enter g args) w)
  (hcmp:∀ (x y:a.den) (w:World),j6N a x=true→j6N a y=true→Calls P g #[.agg (encT a x).toArray,.agg (encT a y).toArray] w fun e w'=>e = .returned (.int .i64 (cf x y))∧∃ q os',w'=grow (w.drewN q) os')
  (hO:SWO (Go.Proofs.ltOf fun (x y:Sml a)=>cf x.1 y.1)) (f:Nat) (hf:f=ρ.f 6) :
  Con.OK P ⟨f,[.rl e (.list a),.clo g []],[.list a],⟨[],[.rl (.list a)]⟩,[.list a],joW a cf⟩:=by
 subst hf
 intro args R k r hk
 unfold Con.C at hk
 split at hk
 rotate_left
 ·simp at hk
 rename_i h hu
 rw [jfY hu]
 clear hu
 obtain ⟨ys,hys,hkr⟩:∃ ys,joW a cf h=some ys∧k (jiF ⟨[],[.rl (.list a)]⟩ [.list a] ys)=some r:=by
  cases hs:joW a cf h with
  | none=>simp only [hs,Option.bind_none] at hk;exact absurd hk (by simp)
  | some ys=>simp only [hs,j3] at hk;exact ⟨ys,rfl,hk⟩
 clear hk
 refine ⟨?_,?_⟩
 ·obtain ⟨nm,hn,hfn⟩:=L.f6
  exact ⟨_,hfn,rfl,hn⟩
 intro w S vals hA hnd hS
 have hA:All2 (jaj S w) [.rl e ⟨.list a,h⟩,.clo g []] vals:=hA
 obtain ⟨u0,u1,rfl⟩:∃ u0 u1,vals=[u0,u1]:=by
  match vals,hA with
  | [u0,u1],_=>exact ⟨u0,u1,rfl⟩
 obtain ⟨⟨a',xs,hx,hrow0,hfree⟩,⟨cv,rfl,hcv⟩,_⟩:=hA
 obtain ⟨css,hrow,hall⟩:∃ css,w.ownsRow 0 e a'.size u0 xs.length css.flatten∧All2 (fun x c=>Rep S w a' x c) xs css:=by
  rcases hrow0 with ⟨_,css,h1,h2⟩ | ⟨h1,_⟩
  ·exact ⟨css,h1,h2⟩
  ·rw [he] at h1;simp at h1
 obtain ⟨rfl,hx⟩:a=a'∧HEq h xs:=by
  have h1:=jo TV.t hx
  simp only [Ty.list.injEq] at h1
  subst h1
  refine ⟨rfl,?_⟩
  simp only [TV.mk.injEq,heq_eq_eq,kb] at hx
  rw [hx]
 obtain rfl:xs=h:=(eq_of_heq hx).symm
 have hcv0:cv = #[]:=by
  match hh:cv.toList,hcv with
  | [],_=>exact Array.toList_eq_nil_iff.1 hh
 subst hcv0
 obtain rfl:=(jn7 ha).1 hall
 unfold joW at hys
 split at hys
 rotate_left
 ·simp at hys
 rename_i hsm
 have hval:=jkp xs hsm.1
 have hlen:=jrL xs hsm.1
 generalize smlA xs hsm.1=sm at hys hval hlen
 have hpp:=(pdq_sorts (Go.Proofs.ltOf fun (x y:Sml a)=>cf x.1 y.1) hO sm.toArray 0 sm.toArray.size (Lib.bitLen sm.toArray.size) true true (jy _) (jv _) (Or.inl rfl)).1.1
 have hcall:Calls P (ρ.f 6) #[u0,.func (.func g) #[] #[]] w fun e' w'=>e' = .returned (.tuple #[])∧(w'=w∧xs=[]∨∃ gb cap cur n os,u0 = .slice (some ⟨gb,0,none⟩) xs.length cap∧w.heap[gb]? = some (.cells cur e (0,0))∧xs.length≤cap∧cap≤maxLen∧cur.size=cap*a.size∧
   w'=Go.Proofs.sortWorldK (fun (x:Sml a)=>encT a x.1) a.size w gb 0 n (pdq (Go.Proofs.ltOf fun (x y:Sml a)=>cf x.1 y.1) sm.toArray 0 sm.toArray.size (Lib.bitLen sm.toArray.size) true true) os):=by
  rcases hrow.2 with ⟨rfl,hn⟩ | ⟨gb,cap,cur,rfl,_,hg,hcap,hmx,hcs,htk⟩
  ·refine (Go.Proofs.AnyF.slices_SortFunc_none L none 0 (.func (.func g) #[] #[]) w).mono ?_
   rintro e' w' ⟨rfl,rfl⟩
   exact ⟨rfl,Or.inl ⟨rfl,List.length_eq_zero_iff.1 hn⟩⟩
  ·have hsz:sm.toArray.size=xs.length:=by simpa using hlen
   have hfl:=jjG (fun (x:Sml a)=>encT a x.1) a.size (fun x=>jn6 a x.1 ha) sm.toArray
   have hfl2:(flatK (fun (x:Sml a)=>encT a x.1) a.size sm.toArray).toList=(xs.map (encT a)).flatten:=by
    rw [hfl,←hval,zk];rfl
   have hH:HoldsK (fun (x:Sml a)=>encT a x.1) a.size w gb 0 sm.toArray:=jqA hg (by rw [size_flatK,hsz,hfl2];exact htk)
   have hb:gb<w.heap.size:=(jb.1 hg).1
   have:=Go.Proofs.AnyQ.slices_SortFunc_eq L a.size aE zE (fun (x:Sml a)=>encT a x.1) (fun x=>jn6 a x.1 ha) (fun x=>jsY a x.1 ha) (fun x y=>cf x.1 y.1) hO g #[] gb 0 cap sm.toArray w eg
    (fun m os dk _ x y=>hcmp x.1 y.1 _ x.2 y.2) hH hb (by omega)
   rw [hsz] at this ⊢
   refine this.mono ?_
   rintro e' w' ⟨rfl,n,os,rfl⟩
   exact ⟨rfl,Or.inr ⟨gb,cap,cur,n,os,rfl,hg,hcap,hmx,hcs,rfl⟩⟩
 refine hcall.mono ?_
 rintro e' w' ⟨rfl,hw⟩
 refine ⟨_,hkr,_,S,[],rfl,?_⟩
 simp only [j4] at hys
 rcases hw with ⟨rfl,rfl⟩ | ⟨gb,cap,cur,n,os,rfl,hg,hcap,hmx,hcs,rfl⟩
 ·-- nothing to sort
  obtain rfl:sm=[]:=by simpa using hlen
  have hys:ys=[]:=by
   rw [←hys]
   have:(pdq (Go.Proofs.ltOf fun (x y:Sml a)=>cf x.1 y.1) (#[]:Array (Sml a)) 0 0 (Lib.bitLen 0) true true).size=0:=hpp
   rw [List.map_eq_nil_iff]
   exact Array.toList_eq_nil_iff.2 (Array.size_eq_zero_iff.1 this)
  subst hys
  refine ⟨rfl,trivial,by simp [j6M],by simp [j6M],?_,j3g.refl _ _,fun g o h=>Or.inl h,hS,fun g _ _=>rfl,jv _,rfl,rfl,rfl,by intro n s hm;simp [jiF,rvsF] at hm,by intro m hm;simp [jiF,rvsF] at hm⟩
  exact ⟨⟨a,[],rfl,.inl ⟨he,[],hrow,trivial⟩,hfree⟩,rfl,trivial⟩
 ·generalize pdq (Go.Proofs.ltOf fun (x y:Sml a)=>cf x.1 y.1) sm.toArray 0 sm.toArray.size (Lib.bitLen sm.toArray.size) true true=d' at hys hpp
  have hsz:sm.toArray.size=xs.length:=by simpa using hlen
  have hds:d'.size=xs.length:=by rw [hpp,hsz]
  have hfl:=jjG (fun (x:Sml a)=>encT a x.1) a.size (fun x=>jn6 a x.1 ha) d'
  have hfl2:(flatK (fun (x:Sml a)=>encT a x.1) a.size d').toList=(List.map (encT a) ys).flatten:=by
   rw [hfl,←hys,zk];rfl
  have hyl:ys.length=xs.length:=by rw [←hys];simpa using hds
  have hb:gb<w.heap.size:=(jb.1 hg).1
  have hFs:(flatK (fun (x:Sml a)=>encT a x.1) a.size d').size=xs.length*a.size:=by rw [size_flatK,hds]
  obtain ⟨cur',hg',hcs',htk'⟩:=jsZ (w:=Sort.ahead w n) (F:=flatK (fun (x:Sml a)=>encT a x.1) a.size d') hg (by rw [hFs,hcs];exact jw _ hcap)
  have hsp:(putRow id (Sort.ahead w n) gb 0 (flatK (fun (x:Sml a)=>encT a x.1) a.size d')).heap.size=w.heap.size:=by simp
  have hother:∀ k,k<w.heap.size→k≠gb→(Go.Proofs.sortWorldK (fun (x:Sml a)=>encT a x.1) a.size w gb 0 n d' os).heap[k]? = w.heap[k]? := fun k hk hne=>
   (jlR (by show k<(putRow id (Sort.ahead w n) gb 0 (flatK (fun (x:Sml a)=>encT a x.1) a.size d')).heap.size;rw [hsp];exact hk)).trans (joX hne)
  have hgrow:w.heap.size≤(Go.Proofs.sortWorldK (fun (x:Sml a)=>encT a x.1) a.size w gb 0 n d' os).heap.size:=by
   show w.heap.size≤((putRow id (Sort.ahead w n) gb 0 (flatK (fun (x:Sml a)=>encT a x.1) a.size d')).heap++os).size
   rw [Array.size_append,hsp];omega
  have hfr:∀ o,¬ S gb o:=hfree gb rfl
  refine ⟨rfl,trivial,by simp [j6M],by simp [j6M],?_,?_,fun g o h=>Or.inl h,fun g o h=>kn (hS g o h) hgrow,?_,hgrow,rfl,rfl,rfl,by intro n s hm;simp [jiF,rvsF] at hm,by intro m hm;simp [jiF,rvsF] at hm⟩
  ·refine ⟨⟨a,ys,rfl,.inl ⟨he,ys.map (encT a),⟨?_,Or.inr ⟨gb,cap,cur',?_,jy _,?_,?_,hmx,?_,?_⟩⟩,(jn7 ha).2 rfl⟩,hfree⟩,rfl,trivial⟩
   ·rw [←hfl2,ki,hFs,hyl]
   ·rw [hyl]
   ·exact (jlR (by show gb<(putRow id (Sort.ahead w n) gb 0 (flatK (fun (x:Sml a)=>encT a x.1) a.size d')).heap.size;rw [hsp];exact hb)).trans hg'
   ·rw [hyl];exact hcap
   ·rw [hcs',hcs]
   ·rw [hyl,←hFs,htk',hfl2]
  ·intro g' o hS'
   refine ⟨hS',?_⟩
   have hne:g'≠gb:=fun he=>hfr o (he▸hS')
   exact World.cell?_of_block (hother g' (hS g' o hS') hne)
  ·intro g' hg1 hg2
   refine hother g' hg1 fun he=>hg2 ?_
   subst he
   simp [jhP,jqg,argF,j2u,j8O,blk,ofHL,APat.n]
theorem jqB {α:Type} (key:α→Int) (hk:∀ x, -1152921504606846976≤key x∧key x≤1152921504606846976) (cf:α→α→Int) (h:∀ x y,cf x y=w64 (key x-key y)):SWO (Go.Proofs.ltOf cf):=by
 have e:∀ x y,Go.Proofs.ltOf cf x y=decide (key x<key y):=by
  intro x y
  have h1:=hk x
  have h2:=hk y
  have:w64 (key x-key y)=key x-key y:=j03 (by omega) (by omega)
  simp only [Go.Proofs.ltOf,h,this]
  congr 1
  exact propext ⟨fun h=>by omega,fun h=>by omega⟩
 refine ⟨fun x=> ?_,fun x y z=> ?_,fun x y z=> ?_⟩
 ·rw [e];simp
 ·rw [e,e,e];simp only [jd];omega
 ·rw [e,e,e];simp only [k5];omega
open Go.Sort
variable {P:Program} {ρ:Go.Shelf.Ren}
end Go.Lft
