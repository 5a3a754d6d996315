/- slices.SortFunc: the kit's contract of it as a contract on plain data. -/
import Derived.Test.YtllkgjaoejhneaaGreatDELD
import Derived.Shelf.SlSortCmp.NoneTotal
import Derived.Shelf.SortM.Plain
import Derived.Shelf.SortM.SortNone
open Go.Proofs renaming ltOf->l,sortWorldK->B
open Bool renaming true->p
open Go.Lib renaming bitLen->A
open _root_ renaming List->D,Array->X,Nat->Y
open Array renaming getElem?_modify->G,extract_size->I,getElem?_append_left->U
open Go renaming Value->H,World->O
open Or renaming inl->N
set_option linter.unusedVariables false
namespace Go.Lft
open Go.Sort
def Ty.scal:Ty→Bool
 | .int _ | .bool | .str | .unit=>p
 | .wrap a=>a.scal
 | .pair a b=>a.scal&&b.scal
 | .list _=>false
 | .arr _ _=>false
def encT:(t:Ty)→t.den→D H
 | .int k,n=>[.int k n]
 | .bool,b=>[.bool b]
 | .str,s=>[.string s]
 | .unit,_=>[]
 | .wrap a,v=>encT a v
 | .pair a b,v=>encT a v.1++encT b v.2
 | .list _,_=>[]
 | .arr _ _,_=>[]
def j7p:(t:Ty)→t.den→Bool
 | .int _,n=>decide (-1152921504606846976≤(n:Int))&&decide ((n:Int)≤1152921504606846976)
 | .bool,_=>p
 | .str,_=>p
 | .unit,_=>p
 | .wrap a,v=>j7p a v
 | .pair a b,v=>j7p a v.1&&j7p b v.2
 | .list _,_=>p
 | .arr _ _,_=>p
theorem jf2:∀ t:Ty,j7p t t.dflt=p
 | .int _=>by simp [j7p,Ty.dflt]
 | .bool=>rfl
 | .str=>rfl
 | .unit=>rfl
 | .wrap a=>jf2 a
 | .pair a b=>by simp [j7p,Ty.dflt,jf2 a,jf2 b]
 | .list _=>rfl
 | .arr _ _=>rfl
theorem jet {S:j0e} {w:O}:∀ (t:Ty) (v:t.den) (cs:D H),t.scal=p→(Rep S w t v cs↔cs=encT t v)
 | .int _,_,_,_=>Iff.rfl
 | .bool,_,_,_=>Iff.rfl
 | .str,_,_,_=>Iff.rfl
 | .unit,_,_,_=>Iff.rfl
 | .wrap a,v,cs,h=>jet a v cs h
 | .pair a b,v,cs,h=>by
  simp only [Ty.scal,ji] at h
  constructor
  ·rintro ⟨c1,c2,rfl,h1,h2⟩
   rw [(jet a _ _ h.1).1 h1,(jet b _ _ h.2).1 h2];rfl
  ·rintro rfl
   exact ⟨_,_,rfl,(jet a _ _ h.1).2 rfl,(jet b _ _ h.2).2 rfl⟩
 | .list _,_,_,h=>by simp [Ty.scal] at h
 | .arr _ _,_,_,h=>by simp [Ty.scal] at h
theorem jpZ (t:Ty) (v:t.den) (h:t.scal=p):(encT t v).length=t.size:=
 Rep.length (S:=fun _ _=>False) (w:=default) t v _ ((jet t v _ h).2 rfl)
theorem jyb (t:Ty) (v:t.den) (h:t.scal=p):∀ u∈encT t v,u.oneCell'=true:=
 Rep.one (S:=fun _ _=>False) (w:=default) t v _ ((jet t v _ h).2 rfl)
abbrev Sml (a:Ty):Type:={ x:a.den // j7p a x=p }
instance (a:Ty):Inhabited (Sml a):=⟨⟨a.dflt,jf2 a⟩⟩
def smlA {a:Ty}:(xs:D a.den)→xs.all (j7p a)=p→D (Sml a)
 | [],_=>[]
 | x::xs,h=>⟨x,by simp at h;exact h.1⟩::smlA xs (by simp at h ⊢;exact h.2)
theorem jj5 {a:Ty}:∀ (xs:D a.den) (h:xs.all (j7p a)=p),(smlA xs h).map (·.1)=xs
 | [],_=>rfl
 | x::xs,h=>by simp [smlA,jj5 xs]
theorem jw8 {a:Ty} (xs:D a.den) (h:xs.all (j7p a)=p):(smlA xs h).length=xs.length:=by
 rw [←qa (f:=(·.1)),jj5]
noncomputable def jq0 (a:Ty) (cf:a.den→a.den→Int) (xs:D a.den):Option (D a.den):=
 if h:xs.all (j7p a)=p∧xs.length<4611686018427387904 then
  some ((pdq (l fun (x y:Sml a)=>cf x.1 y.1) (smlA xs h.1).toArray 0 (smlA xs h.1).toArray.size (A (smlA xs h.1).toArray.size) p p).toList.map (·.1))
 else none
theorem jw9 {a:Ty} {cf:a.den→a.den→Int} (hO:SWO (l fun (x y:Sml a)=>cf x.1 y.1)) {xs:D a.den} (h:∀ x∈xs,j7p a x=p) (hl:xs.length<4611686018427387904) :
  ∃ ys,jq0 a cf xs=some ys∧ys.Perm xs∧ys.Pairwise (fun x y=>¬ cf y x<0):=by
 have h1:xs.all (j7p a)=true:=jw.2 h
 unfold jq0
 rw [dif_pos ⟨h1,hl⟩]
 refine ⟨_,rfl,?_,?_⟩
 ·have hp:=(pdq_sorts (l fun (x y:Sml a)=>cf x.1 y.1) hO (smlA xs h1).toArray 0 (smlA xs h1).toArray.size (A (smlA xs h1).toArray.size) p p (kq _) (jz _) (N rfl)).1
  obtain ⟨hs,_,hp⟩:=hp
  generalize pdq (l fun (x y:Sml a)=>cf x.1 y.1) (smlA xs h1).toArray 0 (smlA xs h1).toArray.size (A (smlA xs h1).toArray.size) p p=d' at *
  rw [←hs] at hp
  rw [I,hs,I] at hp
  have:=hp.map (·.1)
  rwa [show (smlA xs h1).toArray.toList=smlA xs h1 from rfl,jj5] at this
 ·have hp:=(pdq_sorts (l fun (x y:Sml a)=>cf x.1 y.1) hO (smlA xs h1).toArray 0 (smlA xs h1).toArray.size (A (smlA xs h1).toArray.size) p p (kq _) (jz _) (N rfl))
  obtain ⟨⟨hs,_,_⟩,hp⟩:=hp
  generalize pdq (l fun (x y:Sml a)=>cf x.1 y.1) (smlA xs h1).toArray 0 (smlA xs h1).toArray.size (A (smlA xs h1).toArray.size) p p=d' at *
  rw [List.pairwise_map,vd]
  intro i j hi hj hij
  have hi':i<d'.size:=by simpa using hi
  have hj':j<d'.size:=by simpa using hj
  have:=hp i j (kq _) hij omg_
  rw [getElem!_pos d' j hj',getElem!_pos d' i hi'] at this
  simpa [l] using this
theorem jro {m:Y}:∀ {css:D (D H)},(∀ c∈css,c.length=m)→∀ t,t<css.length*m→css.flatten[t]? = ((css[t/m]?).getD [])[t%m]?
 | [],_,t,ht=>by simp at ht
 | c::css,h,t,ht=>by
  have hc:c.length=m:=h c smp_
  have m0:0<m:=by
   rcases yn m with h0 | h0
   ·subst h0;simp at ht
   ·exact h0
  by_cases hlt:t<m
  ·rw [kx,List.getElem?_append_left omg_,Nat.div_eq_of_lt hlt,Nat.mod_eq_of_lt hlt];simp
  ·have h':∀ c∈css,c.length=m:=fun c hc=>h c (by simp [hc])
   have ht':t-m<css.length*m:=by simp only [jp,ve] at ht;omega
   rw [kx,ku omg_,hc,jro h' (t-m) ht']
   have e1:t=t-m+m:=omg_
   have e2:t/m=(t-m)/m+1:=(qb (· / m) e1).trans (Nat.add_div_right _ m0)
   have e3:t%m=(t-m)%m:=(qb (· % m) e1).trans (Nat.add_mod_right _ _)
   rw [e2,e3,List.getElem?_cons_succ]
theorem jut {α:Type} (enc:α→D H):∀ xs:D α,All2 (fun x c=>c=enc x) xs (xs.map enc)
 | []=>trivial
 | x::xs=>⟨rfl,jut enc xs⟩
theorem jlN {α:Type} [Inhabited α] (enc:α→D H) (k:Y) (hk:∀ x,(enc x).length=k) (d:X α):(flatK enc k d).toList=(d.toList.map enc).flatten:=by
 have hl:(d.toList.map enc).flatten.length=d.size*k:=by
  have:=All2.flatten_length (R:=fun x c=>c=enc x) (n:=k) (fun x c h=>by rw [h,hk]) (xs:=d.toList) (css:=d.toList.map enc) (jut enc _)
  simpa using this
 refine zp fun t=> ?_
 by_cases ht:t<d.size*k
 ·rw [jro (m:=k) (by simpa using fun x _=>hk x) t (by simpa using ht)]
  have k0:0<k:=by
   rcases yn k with h0 | h0
   ·subst h0;simp at ht
   ·exact h0
  have hd:t/k<d.size:=Nat.div_lt_of_lt_mul (by rw [Nat.mul_comm];exact ht)
  have hm:t%k<k:=Nat.mod_lt _ k0
  have:=get_flatK enc k d t ht
  rw [getElem!_pos _ t (by rw [size_flatK];exact ht)] at this
  rw [qg,ju (by rw [size_flatK];exact ht),this,getElem!_pos d _ hd]
  simp only [qn,qg,ju hd,kz,ze]
  rw [getElem!_pos _ _ (by rw [hk];exact hm),jv (by rw [hk];exact hm)]
 ·rw [qk (by rw [q8,size_flatK];omega),qk omg_]
theorem juu {w:O} {g:Y} {cur F:X H} {e:Y} (hg:w.heap[g]? = some (.cells cur e (0,0))) (ht:cur.toList.take F.size=F.toList):Holds id w g 0 F:=by
 intro j hj
 have h1:cur[j]? = some F[j]:=by
  have:(cur.toList.take F.size)[j]? = F.toList[j]? := by rw [ht]
  rw [List.getElem?_take_of_lt hj,qg,qg,ju hj] at this
  exact this
 refine ⟨?_,?_⟩
 ·simp only [World.cell?,hg,kj]
  rw [getElem!_pos F j hj];simpa using h1
 ·simp [World.frozen?,hg]
theorem jyc {w:O} {g:Y} {cur F:X H} {e:Y} (hg:w.heap[g]? = some (.cells cur e (0,0))) (hF:F.size≤cur.size) :
  ∃ cur',(putRow id w g 0 F).heap[g]? = some (.cells cur' e (0,0))∧cur'.size=cur.size∧cur'.toList.take F.size=F.toList:=by
 refine ⟨putCells id 0 F cur,?_,?_,?_⟩
 ·unfold putRow mapBlock
  simp only [G,if_true,hg,kz,onCells]
 ·simp [putCells]
 ·refine zp fun t=> ?_
  by_cases ht:t<F.size
  ·rw [List.getElem?_take_of_lt ht,qg,qg]
   simp only [putCells,Array.getElem?_mapIdx]
   rw [ju (show t<cur.size by omega),ju ht]
   simp only [kz,kq,qm,kj,ht,if_true,Nat.sub_zero,id]
   rw [getElem!_pos F t ht]
  ·rw [List.getElem?_take_eq_none omg_,qk (by simpa using ht)]
theorem jsw {w:O} {g k:Y} {F:X H} (h:k≠g):(putRow id w g 0 F).heap[k]? = w.heap[k]? := by
 unfold putRow mapBlock
 simp only [G,Ne.symm h,zd]
theorem joh {w:O} {os:X Obj} {k:Y} (h:k<w.heap.size):(grow w os).heap[k]? = w.heap[k]? := by
 simp only [grow]
 exact U h
theorem jq1 {a:Ty} {S:j0e} {w:O} (ha:a.scal=p):∀ {xs:D a.den} {css:D (D H)},All2 (fun x c=>Rep S w a x c) xs css↔css=xs.map (encT a)
 | [],[]=>by simp [All2]
 | x::xs,c::css=>by
  simp only [All2,qu,yl]
  exact and_congr (jet a x c ha) (jq1 ha)
 | [],_::_=>by simp [All2]
 | _::_,[]=>by simp [All2]
variable {P:Program} {ρ:Go.Shelf.Ren}
theorem jwa (L:Go.Proofs.SlLaysF0.n6 P ρ) (a:Ty) (ha:a.scal=p) (e:Y) (he:isM e=false) (aE:∀ w,(isAgg (ρ.t 24)).run P w = .ok p w) (zE:∀ w,(Go.sizeOf (ρ.t 24)).run P w = .ok a.size w) (cf:a.den→a.den→Int) (g:Y)
  (eg:∀ args w,(callFunc g args).run P w = .ok (.enter g args) w)
  (hcmp:∀ (x y:a.den) (w:O),j7p a x=p→j7p a y=p→Calls P g #[.agg (encT a x).toArray,.agg (encT a y).toArray] w fun e w'=>e = .returned (.int .i64 (cf x y))∧∃ q os',w'=grow (w.drewN q) os')
  (hO:SWO (l fun (x y:Sml a)=>cf x.1 y.1)) (f:Y) (hf:f=ρ.f 6) :
  Con.OK P ⟨f,[.rl e (.list a),.clo g []],[.list a],⟨[],[.rl (.list a)]⟩,[.list a],jq0 a cf⟩:=by
 subst hf
 intro args R k r hk
 unfold Con.C at hk
 split at hk
 rotate_left
 ·simp at hk
 rename_i h hu
 rw [jhQ hu]
 clear hu
 obtain ⟨ys,hys,hkr⟩:∃ ys,jq0 a cf h=some ys∧k (jkP ⟨[],[.rl (.list a)]⟩ [.list a] ys)=some r:=by
  cases hs:jq0 a cf h with
  | none=>simp only [hs,Option.bind_none] at hk;exact absurd hk smp_
  | some ys=>simp only [hs,ja] at hk;exact ⟨ys,rfl,hk⟩
 clear hk
 refine ⟨?_,?_⟩
 ·obtain ⟨nm,hn,hfn⟩:=L.f6
  exact ⟨_,hfn,rfl,hn⟩
 intro w S vals hA hnd hS
 have hA:All2 (jbg S w) [.rl e ⟨.list a,h⟩,.clo g []] vals:=hA
 obtain ⟨u0,u1,rfl⟩:∃ u0 u1,vals=[u0,u1]:=by
  match vals,hA with
  | [u0,u1],_=>exact ⟨u0,u1,rfl⟩
 obtain ⟨⟨a',xs,hx,hrow0,hfree⟩,⟨cv,rfl,hcv⟩,_⟩:=hA
 obtain ⟨css,hrow,hall⟩:∃ css,w.ownsRow 0 e a'.size u0 xs.length css.flatten∧All2 (fun x c=>Rep S w a' x c) xs css:=by
  rcases hrow0 with ⟨_,css,h1,h2⟩ | ⟨h1,_⟩
  ·exact ⟨css,h1,h2⟩
  ·rw [he] at h1;simp at h1
 obtain ⟨rfl,hx⟩:a=a'∧HEq h xs:=by
  have h1:=qb TV.t hx
  simp only [Ty.list.injEq] at h1
  subst h1
  refine ⟨rfl,?_⟩
  simp only [TV.mk.injEq,heq_eq_eq,qm] at hx
  rw [hx]
 obtain rfl:xs=h:=(eq_of_heq hx).symm
 have hcv0:cv = #[]:=by
  match hh:cv.toList,hcv with
  | [],_=>exact zm.1 hh
 subst hcv0
 obtain rfl:=(jq1 ha).1 hall
 unfold jq0 at hys
 split at hys
 rotate_left
 ·simp at hys
 rename_i hsm
 have hval:=jj5 xs hsm.1
 have hlen:=jw8 xs hsm.1
 generalize smlA xs hsm.1=sm at hys hval hlen
 have hpp:=(pdq_sorts (l fun (x y:Sml a)=>cf x.1 y.1) hO sm.toArray 0 sm.toArray.size (A sm.toArray.size) p p (kq _) (jz _) (N rfl)).1.1
 have hcall:Calls P (ρ.f 6) #[u0,.func (.func g) #[] #[]] w fun e' w'=>e' = .returned (.tuple #[])∧(w'=w∧xs=[]∨∃ gb cap cur n os,u0 = .slice (some ⟨gb,0,none⟩) xs.length cap∧w.heap[gb]? = some (.cells cur e (0,0))∧xs.length≤cap∧cap≤maxLen∧cur.size=cap*a.size∧
   w'=B (fun (x:Sml a)=>encT a x.1) a.size w gb 0 n (pdq (l fun (x y:Sml a)=>cf x.1 y.1) sm.toArray 0 sm.toArray.size (A sm.toArray.size) p p) os):=by
  rcases hrow.2 with ⟨rfl,hn⟩ | ⟨gb,cap,cur,rfl,_,hg,hcap,hmx,hcs,htk⟩
  ·refine (Go.Proofs.AnyF.slices_SortFunc_none L none 0 (.func (.func g) #[] #[]) w).mono ?_
   rintro e' w' ⟨rfl,rfl⟩
   exact ⟨rfl,N ⟨rfl,zo.1 hn⟩⟩
  ·have hsz:sm.toArray.size=xs.length:=by simpa using hlen
   have hfl:=jlN (fun (x:Sml a)=>encT a x.1) a.size (fun x=>jpZ a x.1 ha) sm.toArray
   have hfl2:(flatK (fun (x:Sml a)=>encT a x.1) a.size sm.toArray).toList=(xs.map (encT a)).flatten:=by
    rw [hfl,←hval,yq];rfl
   have hH:HoldsK (fun (x:Sml a)=>encT a x.1) a.size w gb 0 sm.toArray:=juu hg (by rw [size_flatK,hsz,hfl2];exact htk)
   have hb:gb<w.heap.size:=(jn.1 hg).1
   have:=Go.Proofs.AnyQ.slices_SortFunc_eq L a.size aE zE (fun (x:Sml a)=>encT a x.1) (fun x=>jpZ a x.1 ha) (fun x=>jyb a x.1 ha) (fun x y=>cf x.1 y.1) hO g #[] gb 0 cap sm.toArray w eg
    (fun m os dk _ x y=>hcmp x.1 y.1 _ x.2 y.2) hH hb omg_
   rw [hsz] at this ⊢
   refine this.mono ?_
   rintro e' w' ⟨rfl,n,os,rfl⟩
   exact ⟨rfl,Or.inr ⟨gb,cap,cur,n,os,rfl,hg,hcap,hmx,hcs,rfl⟩⟩
 refine hcall.mono ?_
 rintro e' w' ⟨rfl,hw⟩
 refine ⟨_,hkr,_,S,[],rfl,?_⟩
 simp only [jb] at hys
 rcases hw with ⟨rfl,rfl⟩ | ⟨gb,cap,cur,n,os,rfl,hg,hcap,hmx,hcs,rfl⟩
 ·-- nothing to sort
  obtain rfl:sm=[]:=by simpa using hlen
  have hys:ys=[]:=by
   rw [←hys]
   have:(pdq (l fun (x y:Sml a)=>cf x.1 y.1) (#[]:X (Sml a)) 0 0 (A 0) p p).size=0:=hpp
   rw [List.map_eq_nil_iff]
   exact zm.2 (Array.size_eq_zero_iff.1 this)
  subst hys
  refine ⟨rfl,trivial,by simp [j7D],by simp [j7D],?_,j2O.refl _ _,fun g o h=>N h,hS,fun g _ _=>rfl,jz _,rfl,rfl,rfl,by intro n s hm;simp [jkP,rvsF] at hm,by intro m hm;simp [jkP,rvsF] at hm⟩
  exact ⟨⟨a,[],rfl,.inl ⟨he,[],hrow,trivial⟩,hfree⟩,rfl,trivial⟩
 ·generalize pdq (l fun (x y:Sml a)=>cf x.1 y.1) sm.toArray 0 sm.toArray.size (A sm.toArray.size) p p=d' at hys hpp
  have hsz:sm.toArray.size=xs.length:=by simpa using hlen
  have hds:d'.size=xs.length:=by rw [hpp,hsz]
  have hfl:=jlN (fun (x:Sml a)=>encT a x.1) a.size (fun x=>jpZ a x.1 ha) d'
  have hfl2:(flatK (fun (x:Sml a)=>encT a x.1) a.size d').toList=(List.map (encT a) ys).flatten:=by
   rw [hfl,←hys,yq];rfl
  have hyl:ys.length=xs.length:=by rw [←hys];simpa using hds
  have hb:gb<w.heap.size:=(jn.1 hg).1
  have hFs:(flatK (fun (x:Sml a)=>encT a x.1) a.size d').size=xs.length*a.size:=by rw [size_flatK,hds]
  obtain ⟨cur',hg',hcs',htk'⟩:=jyc (w:=Sort.ahead w n) (F:=flatK (fun (x:Sml a)=>encT a x.1) a.size d') hg (by rw [hFs,hcs];exact kf _ hcap)
  have hsp:(putRow id (Sort.ahead w n) gb 0 (flatK (fun (x:Sml a)=>encT a x.1) a.size d')).heap.size=w.heap.size:=smp_
  have hother:∀ k,k<w.heap.size→k≠gb→(B (fun (x:Sml a)=>encT a x.1) a.size w gb 0 n d' os).heap[k]? = w.heap[k]? := fun k hk hne=>
   (joh (by show k<(putRow id (Sort.ahead w n) gb 0 (flatK (fun (x:Sml a)=>encT a x.1) a.size d')).heap.size;rw [hsp];exact hk)).trans (jsw hne)
  have hgrow:w.heap.size≤(B (fun (x:Sml a)=>encT a x.1) a.size w gb 0 n d' os).heap.size:=by
   show w.heap.size≤((putRow id (Sort.ahead w n) gb 0 (flatK (fun (x:Sml a)=>encT a x.1) a.size d')).heap++os).size
   rw [Array.size_append,hsp];omega
  have hfr:∀ o,¬ S gb o:=hfree gb rfl
  refine ⟨rfl,trivial,by simp [j7D],by simp [j7D],?_,?_,fun g o h=>N h,fun g o h=>zf (hS g o h) hgrow,?_,hgrow,rfl,rfl,rfl,by intro n s hm;simp [jkP,rvsF] at hm,by intro m hm;simp [jkP,rvsF] at hm⟩
  ·refine ⟨⟨a,ys,rfl,.inl ⟨he,ys.map (encT a),⟨?_,Or.inr ⟨gb,cap,cur',?_,kq _,?_,?_,hmx,?_,?_⟩⟩,(jq1 ha).2 rfl⟩,hfree⟩,rfl,trivial⟩
   ·rw [←hfl2,q8,hFs,hyl]
   ·rw [hyl]
   ·exact (joh (by show gb<(putRow id (Sort.ahead w n) gb 0 (flatK (fun (x:Sml a)=>encT a x.1) a.size d')).heap.size;rw [hsp];exact hb)).trans hg'
   ·rw [hyl];exact hcap
   ·rw [hcs',hcs]
   ·rw [hyl,←hFs,htk',hfl2]
  ·intro g' o hS'
   refine ⟨hS',?_⟩
   have hne:g'≠gb:=fun he=>hfr o (he▸hS')
   exact World.cell?_of_block (hother g' (hS g' o hS') hne)
  ·intro g' hg1 hg2
   refine hother g' hg1 fun he=>hg2 ?_
   subst he
   simp [jjN,ju9,argF,j1J,j7B,blk,ofHL,APat.n]
theorem juv {α:Type} (key:α→Int) (hk:∀ x, -1152921504606846976≤key x∧key x≤1152921504606846976) (cf:α→α→Int) (h:∀ x y,cf x y=w64 (key x-key y)):SWO (l cf):=by
 have e:∀ x y,l cf x y=decide (key x<key y):=by
  intro x y
  have h1:=hk x
  have h2:=hk y
  have:w64 (key x-key y)=key x-key y:=j5C omg_ omg_
  simp only [l,h,this]
  congr 1
  exact propext ⟨fun h=>omg_,fun h=>omg_⟩
 refine ⟨fun x=> ?_,fun x y z=> ?_,fun x y z=> ?_⟩
 ·rw [e];simp
 ·rw [e,e,e];simp only [jq];omega
 ·rw [e,e,e];simp only [ko];omega
open Go.Sort
variable {P:Program} {ρ:Go.Shelf.Ren}
end Go.Lft
