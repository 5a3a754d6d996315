/- yV.SortFunc: the kit's rP of it as a rP on plain data. -/
import Derived.Test.YtllkgjaoejhneaaGreatSELD
import Derived.Shelf.SlSortCmp.NoneTotal
import Derived.Shelf.SortM.Plain
import Derived.Shelf.SortM.SortNone
open Go.Proofs renaming ltOf->l,sortWorldK->B
open Bool renaming true->p
open Go.Lib renaming bitLen->A
open _root_ renaming List->D,Array->X,Nat->Y
open List renaming getElem?_take_of_lt->E,map_map->À
open Array renaming getElem?_modify->G,extract_size->I,getElem?_append_left->U
open Go renaming Value->H,World->O
open Or renaming inl->N
set_option linter.unusedVariables false
namespace Go.Lft
open Go.Sort
def Ty.scal:Ty->Bool
 |.int _|.bool|.str|.unit=>p
 |.wrap a=>a.scal
 |.pair a b=>a.scal&&b.scal
 |.list _=>false
 |.arr _ _=>false
def encT:(t:Ty)->t.den->D H
 |.int k,n=>[.int k n]
 |.bool,b=>[.bool b]
 |.str,s=>[.string s]
 |.unit,_=>[]
 |.wrap a,v=>encT a v
 |.pair a b,v=>encT a v.1++encT b v.2
 |.list _,_=>[]
 |.arr _ _,_=>[]
def iA:(t:Ty)->t.den->Bool
 |.int _,n=>decide (-1152921504606846976<=(n:Int))&&decide ((n:Int)<=1152921504606846976)
 |.bool,_=>p
 |.str,_=>p
 |.unit,_=>p
 |.wrap a,v=>iA a v
 |.pair a b,v=>iA a v.1&&iA b v.2
 |.list _,_=>p
 |.arr _ _,_=>p
theorem Hf:∀t:Ty,iA t t.dflt=p
 |.int _=>by simp[iA,Ty.dflt]
 |.bool=>rfl
 |.str=>rfl
 |.unit=>rfl
 |.wrap a=>Hf a
 |.pair a b=>by simp[iA,Ty.dflt,Hf a,Hf b]
 |.list _=>rfl
 |.arr _ _=>rfl
theorem wG{S:aU}{w:O}:∀(t:Ty)(v:t.den)(cs:D H),t.scal=p->(Rep S w t v cs↔cs=encT t v)
 |.int _,_,_,_=>Iff.rfl
 |.bool,_,_,_=>Iff.rfl
 |.str,_,_,_=>Iff.rfl
 |.unit,_,_,_=>Iff.rfl
 |.wrap a,v,cs,h=>wG a v cs h
 |.pair a b,v,cs,h=>by
  simp only[Ty.scal,ji]at h;constructor
  .rintro⟨c1,c2,rfl,h1,h2⟩
   rw[(wG a _ _ h.1).1 h1,(wG b _ _ h.2).1 h2];rfl
  .rintro rfl
   exact⟨_,_,rfl,(wG a _ _ h.1).2 rfl,(wG b _ _ h.2).2 rfl⟩
 |.list _,_,_,h=>by simp[Ty.scal]at h
 |.arr _ _,_,_,h=>by simp[Ty.scal]at h
theorem M4(t:Ty)(v:t.den)(h:t.scal=p):(encT t v).length=t.size:=
 Rep.length (S:=λ_ _=>False) (w:=default) t v _ ((wG t v _ h).2 rfl)
theorem jAr(t:Ty)(v:t.den)(h:t.scal=p):∀u∈encT t v,u.oneCell'=true:=
 Rep.one (S:=λ_ _=>False) (w:=default) t v _ ((wG t v _ h).2 rfl)
abbrev Sml(a:Ty):Type:={ x:a.den // iA a x=p }
instance(a:Ty):Inhabited (Sml a):=⟨⟨a.dflt,Hf a⟩⟩
def smlA{a:Ty}:(xs:D a.den)->xs.all (iA a)=p->D (Sml a)
 |[],_=>[]
 |x::xs,h=>⟨x,by simp at h;exact h.1⟩::smlA xs (by simp at h ⊢;exact h.2)
theorem Hg{a:Ty}:∀(xs:D a.den)(h:xs.all (iA a)=p),(smlA xs h).map (·.1)=xs
 |[],_=>rfl
 |x::xs,h=>by simp[smlA,Hg xs]
theorem jyd{a:Ty}(xs:D a.den)(h:xs.all (iA a)=p):(smlA xs h).length=xs.length:=by
 rw[<-ky (f:=(·.1)),Hg]
noncomputable def wH(a:Ty)(cf:a.den->a.den->Int)(xs:D a.den):Option (D a.den):=
 if h:xs.all (iA a)=p/\xs.length<4611686018427387904 then
  some ((pdq (l λ(x y:Sml a)=>cf x.1 y.1) (smlA xs h.1).toArray 0 (smlA xs h.1).toArray.size (A (smlA xs h.1).toArray.size) p p).toList.map (·.1))
 else none
theorem Va{a:Ty}{cf:a.den->a.den->Int}(hO:SWO (l λ(x y:Sml a)=>cf x.1 y.1)){xs:D a.den}(h:∀x∈xs,iA a x=p)(hl:xs.length<4611686018427387904) :
  ∃ys,wH a cf xs=some ys/\ys.Perm xs/\ys.Pairwise (λx y=>¬cf y x<0):=by
 have h1:xs.all (iA a)=true:=ka.2 h;unfold wH;rw[dif_pos ⟨h1,hl⟩];refine⟨_,rfl,?_,?_⟩
 .have hp:=(pdq_sorts (l λ(x y:Sml a)=>cf x.1 y.1) hO (smlA xs h1).toArray 0 (smlA xs h1).toArray.size (A (smlA xs h1).toArray.size) p p (kq _) (jy _) (N rfl)).1;obtain⟨hs,_,hp⟩:=hp;generalize pdq (l λ(x y:Sml a)=>cf x.1 y.1) (smlA xs h1).toArray 0 (smlA xs h1).toArray.size (A (smlA xs h1).toArray.size) p p=d' at *;rw[<-hs]at hp;rw[I,hs,I]at hp;have:=hp.map (·.1);rwa[show (smlA xs h1).toArray.toList=smlA xs h1 from rfl,Hg]at this
 .have hp:=(pdq_sorts (l λ(x y:Sml a)=>cf x.1 y.1) hO (smlA xs h1).toArray 0 (smlA xs h1).toArray.size (A (smlA xs h1).toArray.size) p p (kq _) (jy _) (N rfl));obtain⟨⟨hs,_,_⟩,hp⟩:=hp;generalize pdq (l λ(x y:Sml a)=>cf x.1 y.1) (smlA xs h1).toArray 0 (smlA xs h1).toArray.size (A (smlA xs h1).toArray.size) p p=d' at *;rw[List.pairwise_map,vi];intro i j hi hj ee;have ct:i<d'.size:=by simpa using hi
  have jI:j<d'.size:=by simpa using hj
  have:=hp i j (kq _) ee aa;rw[getElem!_pos d' j jI,getElem!_pos d' i ct]at this;simpa[l]using this
theorem Vb{m:Y}:∀{css:D (D H)},(∀c∈css,c.length=m)->∀t,t<css.length*m->css.flatten[t]? = ((css[t/m]?).getD [])[t%m]?
 |[],_,t,ht=>by simp at ht
 |c::css,h,t,ht=>by
  have hc:c.length=m:=h c af
  have m0:0<m:=by
   rcases yw m with h0|h0
   .subst h0;simp at ht
   .exact h0
  by_cases au:t<m
  .rw[kz,List.getElem?_append_left aa,Nat.div_eq_of_lt au,Nat.mod_eq_of_lt au];simp
  .have h':∀c∈css,c.length=m:=λc hc=>h c (by simp[hc]);have sA:t-m<css.length*m:=by simp only[jq,vj]at ht;omega
   rw[kz,kv aa,hc,Vb h' (t-m) sA];have e1:t=t-m+m:=aa;have e2:t/m=(t-m)/m+1:=(kj (· / m) e1).trans (Nat.add_div_right _ m0);have e3:t%m=(t-m)%m:=(kj (· % m) e1).trans (Nat.add_mod_right _ _);rw[e2,e3,yo]
theorem Vc{α:Type}(enc:α->D H):∀xs:D α,All2 (λx c=>c=enc x) xs (xs.map enc)
 |[]=>trivial
 |x::xs=>⟨rfl,Vc enc xs⟩
theorem Vd{α:Type}[Inhabited α](enc:α->D H)(k:Y)(hk:∀x,(enc x).length=k)(d:X α):(flatK enc k d).toList=(d.toList.map enc).flatten:=by
 have hl:(d.toList.map enc).flatten.length=d.size*k:=by have:=All2.flatten_length (R:=λx c=>c=enc x) (n:=k) (λx c h=>by rw[h,hk]) (xs:=d.toList) (css:=d.toList.map enc) (Vc enc _);simpa using this
 refine yb λt=>?_;by_cases ht:t<d.size*k
 .rw[Vb (m:=k) (by simpa using λx _=>hk x) t (by simpa using ht)]
  have k0:0<k:=by
   rcases yw k with h0|h0
   .subst h0;simp at ht
   .exact h0
  have hd:t/k<d.size:=Nat.div_lt_of_lt_mul (by rw[Nat.mul_comm];exact ht);have hm:t%k<k:=Nat.mod_lt _ k0;have:=get_flatK enc k d t ht;rw[getElem!_pos _ t (by rw[size_flatK];exact ht)]at this;rw[qr,jz (by rw[size_flatK];exact ht),this,getElem!_pos d _ hd];simp only[qt,qr,jz hd,qa,zj];rw[getElem!_pos _ _ (by rw[hk];exact hm),kb (by rw[hk];exact hm)]
 .rw[qz (by rw[qg,size_flatK];omega),qz aa]
theorem jwh{w:O}{g:Y}{cur F:X H}{e:Y}(hg:w.heap[g]? = some (.cells cur e (0,0)))(ht:cur.toList.take F.size=F.toList):Holds id w g 0 F:=by
 intro j hj
 have h1:cur[j]? = some F[j]:=by
  have:(cur.toList.take F.size)[j]? = F.toList[j]? := by rw[ht]
  rw[E hj,qr,qr,jz hj]at this;exact this
 refine⟨?_,?_⟩
 .simp only[World.cell?,hg,ko];rw[getElem!_pos F j hj];simpa using h1
 .simp[World.frozen?,hg]
theorem jAs{w:O}{g:Y}{cur F:X H}{e:Y}(hg:w.heap[g]? = some (.cells cur e (0,0)))(hF:F.size<=cur.size) :
  ∃lg,(putRow id w g 0 F).heap[g]? = some (.cells lg e (0,0))/\lg.size=cur.size/\lg.toList.take F.size=F.toList:=by
 refine⟨putCells id 0 F cur,?_,?_,?_⟩
 .unfold putRow mapBlock;simp only[G,if_true,hg,qa,onCells]
 .simp[putCells]
 .refine yb λt=>?_;by_cases ht:t<F.size
  .rw[E ht,qr,qr];simp only[putCells,Array.getElem?_mapIdx];rw[jz (show t<cur.size by omega),jz ht];simp only[qa,kq,qm,ko,ht,if_true,Nat.sub_zero,id];rw[getElem!_pos F t ht]
  .rw[List.getElem?_take_eq_none aa,qz (by simpa using ht)]
theorem jub{w:O}{g k:Y}{F:X H}(h:k≠g):(putRow id w g 0 F).heap[k]? = w.heap[k]? := by
 unfold putRow mapBlock;simp only[G,Ne.symm h,zi]
theorem Ve{w:O}{os:X Obj}{k:Y}(h:k<w.heap.size):(grow w os).heap[k]? = w.heap[k]? := by
 simp only[grow];exact U h
theorem M5{a:Ty}{S:aU}{w:O}(ha:a.scal=p):∀{xs:D a.den}{css:D (D H)},All2 (λx c=>Rep S w a x c) xs css↔css=xs.map (encT a)
 |[],[]=>by simp[All2]
 |x::xs,c::css=>by
  simp only[All2,qe,yt];exact and_congr (wG a x c ha) (M5 ha)
 |[],_::_=>by simp[All2]
 |_::_,[]=>by simp[All2]
variable{P:Program}{ρ:Go.Shelf.Ren}
theorem Vf(L:Go.Proofs.SlLaysF0.n6 P ρ)(a:Ty)(ha:a.scal=p)(e:Y)(he:isM e=false)(aE:∀w,(isAgg (ρ.t 24)).run P w = .ok p w)(zE:∀w,(Go.sizeOf (ρ.t 24)).run P w = .ok a.size w)(cf:a.den->a.den->Int)(g:Y)
  (eg:∀args w,(callFunc g args).run P w = .ok (.enter g args) w)
  (M6:∀(x y:a.den)(w:O),iA a x=p->iA a y=p->Calls P g #[.agg (encT a x).toArray,.agg (encT a y).toArray] w λe w'=>e = .returned (.int .i64 (cf x y))/\∃q pM,w'=grow (w.drewN q) pM)
  (hO:SWO (l λ(x y:Sml a)=>cf x.1 y.1))(f:Y)(hf:f=ρ.f 6) :
  Con.OK P ⟨f,[.rl e (.list a),.clo g []],[.list a],⟨[],[.rl (.list a)]⟩,[.list a],wH a cf⟩:=by
 subst hf;intro args R k r hk;unfold Con.C at hk;split at hk
 rotate_left
 .simp at hk
 rename_i h hu;rw[Mp hu];clear hu
 obtain⟨ys,lZ,hkr⟩:∃ys,wH a cf h=some ys/\k (sQ ⟨[],[.rl (.list a)]⟩ [.list a] ys)=some r:=by
  cases hs:wH a cf h with
  |none=>simp only[hs,Option.bind_none]at hk;exact absurd hk af
  |some ys=>simp only[hs,ja]at hk;exact⟨ys,rfl,hk⟩
 clear hk;refine⟨?_,?_⟩
 .obtain⟨nm,hn,tN⟩:=L.f6;exact⟨_,tN,rfl,hn⟩
 intro w S vals hA dP hS;have hA:All2 (nT S w) [.rl e ⟨.list a,h⟩,.clo g []] vals:=hA
 obtain⟨u0,u1,rfl⟩:∃u0 u1,vals=[u0,u1]:=by
  match vals,hA with
  |[u0,u1],_=>exact⟨u0,u1,rfl⟩
 obtain⟨⟨a',xs,hx,mo,bd⟩,⟨cv,rfl,ln⟩,_⟩:=hA
 obtain⟨css,cd,aw⟩:∃css,w.ownsRow 0 e a'.size u0 xs.length css.flatten/\All2 (λx c=>Rep S w a' x c) xs css:=by
  rcases mo with⟨_,css,h1,h2⟩|⟨h1,_⟩
  .exact⟨css,h1,h2⟩
  .rw[he]at h1;simp at h1
 obtain⟨rfl,hx⟩:a=a'/\HEq h xs:=by have h1:=kj TV.t hx;simp only[Ty.list.injEq]at h1;subst h1;refine⟨rfl,?_⟩;simp only[TV.mk.injEq,heq_eq_eq,qm]at hx;rw[hx]
 obtain rfl:xs=h:=(eq_of_heq hx).symm
 have M7:cv = #[]:=by
  match hh:cv.toList,ln with
  |[],_=>exact zq.1 hh
 subst M7;obtain rfl:=(M5 ha).1 aw;unfold wH at lZ;split at lZ
 rotate_left
 .simp at lZ
 rename_i BH;have dZ:=Hg xs BH.1;have hlen:=jyd xs BH.1;generalize smlA xs BH.1=sm at lZ dZ hlen;have sF:=(pdq_sorts (l λ(x y:Sml a)=>cf x.1 y.1) hO sm.toArray 0 sm.toArray.size (A sm.toArray.size) p p (kq _) (jy _) (N rfl)).1.1
 have Eo:Calls P (ρ.f 6) #[u0,.func (.func g) #[] #[]] w λe' w'=>e' = .returned (.tuple #[])/\(w'=w/\xs=[]\/∃gb cap cur n os,u0 = .slice (some ⟨gb,0,none⟩) xs.length cap/\w.heap[gb]? = some (.cells cur e (0,0))/\xs.length<=cap/\cap<=maxLen/\cur.size=cap*a.size/\
   w'=B (λ(x:Sml a)=>encT a x.1) a.size w gb 0 n (pdq (l λ(x y:Sml a)=>cf x.1 y.1) sm.toArray 0 sm.toArray.size (A sm.toArray.size) p p) os):=by
  rcases cd.2 with⟨rfl,hn⟩|⟨gb,cap,cur,rfl,_,hg,dO,qR,dj,Ba⟩
  .refine(Go.Proofs.AnyF.slices_SortFunc_none L none 0 (.func (.func g) #[] #[]) w).mono ?_
   rintro e' w' ⟨rfl,rfl⟩
   exact⟨rfl,N ⟨rfl,zr.1 hn⟩⟩
  .have bT:sm.toArray.size=xs.length:=by simpa using hlen
   have fD:=Vd (λ(x:Sml a)=>encT a x.1) a.size (λx=>M4 a x.1 ha) sm.toArray;have uu:(flatK (λ(x:Sml a)=>encT a x.1) a.size sm.toArray).toList=(xs.map (encT a)).flatten:=by rw[fD,<-dZ,À];rfl
   have hH:HoldsK (λ(x:Sml a)=>encT a x.1) a.size w gb 0 sm.toArray:=jwh hg (by rw[size_flatK,bT,uu];exact Ba);have hb:gb<w.heap.size:=(jp.1 hg).1
   have:=Go.Proofs.AnyQ.slices_SortFunc_eq L a.size aE zE (λ(x:Sml a)=>encT a x.1) (λx=>M4 a x.1 ha) (λx=>jAr a x.1 ha) (λx y=>cf x.1 y.1) hO g #[] gb 0 cap sm.toArray w eg
    (λm os dk _ x y=>M6 x.1 y.1 _ x.2 y.2) hH hb aa
   rw[bT]at this ⊢;refine this.mono ?_
   rintro e' w' ⟨rfl,n,os,rfl⟩
   exact⟨rfl,Or.inr ⟨gb,cap,cur,n,os,rfl,hg,dO,qR,dj,rfl⟩⟩
 refine Eo.mono ?_
 rintro e' w' ⟨rfl,hw⟩
 refine⟨_,hkr,_,S,[],rfl,?_⟩;simp only[jb]at lZ;rcases hw with⟨rfl,rfl⟩|⟨gb,cap,cur,n,os,rfl,hg,dO,qR,dj,rfl⟩
 ·-- nothing to sort
  obtain rfl:sm=[]:=by simpa using hlen
  have lZ:ys=[]:=by rw[<-lZ];have:(pdq (l λ(x y:Sml a)=>cf x.1 y.1) (#[]:X (Sml a)) 0 0 (A 0) p p).size=0:=sF;rw[List.map_eq_nil_iff];exact zq.2 (Array.size_eq_zero_iff.1 this)
  subst lZ;refine⟨rfl,trivial,by simp[gM],by simp[gM],?_,dD.refl _ _,λg o h=>N h,hS,λg _ _=>rfl,jy _,rfl,rfl,rfl,by intro n s hm;simp[sQ,rvsF]at hm,by intro m hm;simp[sQ,rvsF]at hm⟩;exact⟨⟨a,[],rfl,.inl ⟨he,[],cd,trivial⟩,bd⟩,rfl,trivial⟩
 .generalize pdq (l λ(x y:Sml a)=>cf x.1 y.1) sm.toArray 0 sm.toArray.size (A sm.toArray.size) p p=d' at lZ sF
  have bT:sm.toArray.size=xs.length:=by simpa using hlen
  have wj:d'.size=xs.length:=by rw[sF,bT]
  have fD:=Vd (λ(x:Sml a)=>encT a x.1) a.size (λx=>M4 a x.1 ha) d';have uu:(flatK (λ(x:Sml a)=>encT a x.1) a.size d').toList=(List.map (encT a) ys).flatten:=by rw[fD,<-lZ,À];rfl
  have tJ:ys.length=xs.length:=by rw[<-lZ];simpa using wj
  have hb:gb<w.heap.size:=(jp.1 hg).1;have M8:(flatK (λ(x:Sml a)=>encT a x.1) a.size d').size=xs.length*a.size:=by rw[size_flatK,wj]
  obtain⟨lg,az,rG,M9⟩:=jAs (w:=Sort.ahead w n) (F:=flatK (λ(x:Sml a)=>encT a x.1) a.size d') hg (by rw[M8,dj];exact kg _ dO);have dX:(putRow id (Sort.ahead w n) gb 0 (flatK (λ(x:Sml a)=>encT a x.1) a.size d')).heap.size=w.heap.size:=af
  have rQ:∀k,k<w.heap.size->k≠gb->(B (λ(x:Sml a)=>encT a x.1) a.size w gb 0 n d' os).heap[k]? = w.heap[k]? := λk hk br=>
   (Ve (by show k<(putRow id (Sort.ahead w n) gb 0 (flatK (λ(x:Sml a)=>encT a x.1) a.size d')).heap.size;rw[dX];exact hk)).trans (jub br)
  have gN:w.heap.size<=(B (λ(x:Sml a)=>encT a x.1) a.size w gb 0 n d' os).heap.size:=by show w.heap.size<=((putRow id (Sort.ahead w n) gb 0 (flatK (λ(x:Sml a)=>encT a x.1) a.size d')).heap++os).size;rw[Array.size_append,dX];omega
  have gH:∀o,¬S gb o:=bd gb rfl;refine⟨rfl,trivial,by simp[gM],by simp[gM],?_,?_,λg o h=>N h,λg o h=>zb (hS g o h) gN,?_,gN,rfl,rfl,rfl,by intro n s hm;simp[sQ,rvsF]at hm,by intro m hm;simp[sQ,rvsF]at hm⟩
  .refine⟨⟨a,ys,rfl,.inl ⟨he,ys.map (encT a),⟨?_,Or.inr ⟨gb,cap,lg,?_,kq _,?_,?_,qR,?_,?_⟩⟩,(M5 ha).2 rfl⟩,bd⟩,rfl,trivial⟩
   .rw[<-uu,qg,M8,tJ]
   .rw[tJ]
   .exact(Ve (by show gb<(putRow id (Sort.ahead w n) gb 0 (flatK (λ(x:Sml a)=>encT a x.1) a.size d')).heap.size;rw[dX];exact hb)).trans az
   .rw[tJ];exact dO
   .rw[rG,dj]
   .rw[tJ,<-M8,M9,uu]
  .intro g' o DV;refine⟨DV,?_⟩;have br:g'≠gb:=λhe=>gH o (he▸DV);exact World.cell?_of_block (rQ g' (hS g' o DV) br)
  .intro g' pJ gC;refine rQ g' pJ λhe=>gC ?_;subst he;simp[rJ,Ea,argF,eh,lh,blk,ofHL,APat.n]
theorem Hh{α:Type}(key:α->Int)(hk:∀x, -1152921504606846976<=key x/\key x<=1152921504606846976)(cf:α->α->Int)(h:∀x y,cf x y=w64 (key x-key y)):SWO (l cf):=by
 have e:∀x y,l cf x y=decide (key x<key y):=by intro x y;have h1:=hk x;have h2:=hk y;have:w64 (key x-key y)=key x-key y:=ik aa aa;simp only[l,h,this];congr 1;exact propext ⟨λh=>aa,λh=>aa⟩
 refine⟨λx=>?_,λx y z=>?_,λx y z=>?_⟩
 .rw[e];simp
 .rw[e,e,e];simp only[jr];omega
 .rw[e,e,e];simp only[ku];omega
open Go.Sort
variable{P:Program}{ρ:Go.Shelf.Ren}
end Go.Lft
