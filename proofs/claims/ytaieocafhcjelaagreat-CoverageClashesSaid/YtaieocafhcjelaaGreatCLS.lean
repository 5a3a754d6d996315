/- xc.SortFunc: the kit's p7 of it as a p7 on plain data. -/
import Derived.Test.YtaieocafhcjelaaGreatCLD
import Derived.Shelf.SlSortCmp.NoneTotal
import Derived.Shelf.SortM.Plain
import Derived.Shelf.SortM.SortNone
set_option linter.unusedVariables false
namespace Go.Lft
open Go.Sort
def Ty.scal:Ty->Bool
 |.int _|.bool|.str|.unit=>true
 |.wrap a=>a.scal
 |.pair a b=>a.scal&&b.scal
 |.list _=>false
 |.arr _ _=>false
def encT:(t:Ty)->t.den->List Value
 |.int k,n=>[.int k n]
 |.bool,b=>[.bool b]
 |.str,s=>[.string s]
 |.unit,_=>[]
 |.wrap a,v=>encT a v
 |.pair a b,v=>encT a v.1++encT b v.2
 |.list _,_=>[]
 |.arr _ _,_=>[]
def gE:(t:Ty)->t.den->Bool
 |.int _,n=>decide (-1152921504606846976<=(n:Int))&&decide ((n:Int)<=1152921504606846976)
 |.bool,_=>true
 |.str,_=>true
 |.unit,_=>true
 |.wrap a,v=>gE a v
 |.pair a b,v=>gE a v.1&&gE b v.2
 |.list _,_=>true
 |.arr _ _,_=>true
theorem FO:∀t:Ty,gE t t.dflt=true
 |.int _=>by simp[gE,Ty.dflt]
 |.bool=>rfl
 |.str=>rfl
 |.unit=>rfl
 |.wrap a=>FO a
 |.pair a b=>by simp[gE,Ty.dflt,FO a,FO b]
 |.list _=>rfl
 |.arr _ _=>rfl
theorem uI{S:aP}{w:World}:∀(t:Ty)(v:t.den)(cs:List Value),t.scal=true->(Rep S w t v cs↔cs=encT t v)
 |.int _,_,_,_=>Iff.rfl
 |.bool,_,_,_=>Iff.rfl
 |.str,_,_,_=>Iff.rfl
 |.unit,_,_,_=>Iff.rfl
 |.wrap a,v,cs,h=>uI a v cs h
 |.pair a b,v,cs,h=>by
  simp only[Ty.scal,jb]at h;constructor
  .rintro⟨c1,c2,rfl,h1,h2⟩
   rw[(uI a _ _ h.1).1 h1,(uI b _ _ h.2).1 h2];rfl
  .rintro rfl
   exact⟨_,_,rfl,(uI a _ _ h.1).2 rfl,(uI b _ _ h.2).2 rfl⟩
 |.list _,_,_,h=>by simp[Ty.scal]at h
 |.arr _ _,_,_,h=>by simp[Ty.scal]at h
theorem J7(t:Ty)(v:t.den)(h:t.scal=true):(encT t v).length=t.size:=
 Rep.length (S:=λ_ _=>False) (w:=default) t v _ ((uI t v _ h).2 rfl)
theorem jCc(t:Ty)(v:t.den)(h:t.scal=true):∀u∈encT t v,u.oneCell'=true:=
 Rep.one (S:=λ_ _=>False) (w:=default) t v _ ((uI t v _ h).2 rfl)
abbrev Sml(a:Ty):Type:={ x:a.den // gE a x=true }
instance(a:Ty):Inhabited (Sml a):=⟨⟨a.dflt,FO a⟩⟩
def smlA{a:Ty}:(xs:List a.den)->xs.all (gE a)=true->List (Sml a)
 |[],_=>[]
 |x::xs,h=>⟨x,by simp at h;exact h.1⟩::smlA xs (by simp at h ⊢;exact h.2)
theorem FP{a:Ty}:∀(xs:List a.den)(h:xs.all (gE a)=true),(smlA xs h).map (·.1)=xs
 |[],_=>rfl
 |x::xs,h=>by simp[smlA,FP xs]
theorem jAm{a:Ty}(xs:List a.den)(h:xs.all (gE a)=true):(smlA xs h).length=xs.length:=by
 rw[<-qb (f:=(·.1)),FP]
noncomputable def uJ(a:Ty)(cf:a.den->a.den->Int)(xs:List a.den):Option (List a.den):=
 if h:xs.all (gE a)=true/\xs.length<4611686018427387904 then
  some ((pdq (Go.Proofs.ltOf λ(x y:Sml a)=>cf x.1 y.1) (smlA xs h.1).toArray 0 (smlA xs h.1).toArray.size (Lib.bitLen (smlA xs h.1).toArray.size) true true).toList.map (·.1))
 else none
theorem R7{a:Ty}{cf:a.den->a.den->Int}(hO:SWO (Go.Proofs.ltOf λ(x y:Sml a)=>cf x.1 y.1)){xs:List a.den}(h:∀x∈xs,gE a x=true)(hl:xs.length<4611686018427387904) :
  ∃ys,uJ a cf xs=some ys/\ys.Perm xs/\ys.Pairwise (λx y=>¬cf y x<0):=by
 have h1:xs.all (gE a)=true:=jx.2 h;unfold uJ;rw[dif_pos ⟨h1,hl⟩];refine⟨_,rfl,?_,?_⟩
 .have hp:=(pdq_sorts (Go.Proofs.ltOf λ(x y:Sml a)=>cf x.1 y.1) hO (smlA xs h1).toArray 0 (smlA xs h1).toArray.size (Lib.bitLen (smlA xs h1).toArray.size) true true (kb _) (jl _) (Or.inl rfl)).1;obtain⟨hs,_,hp⟩:=hp;generalize pdq (Go.Proofs.ltOf λ(x y:Sml a)=>cf x.1 y.1) (smlA xs h1).toArray 0 (smlA xs h1).toArray.size (Lib.bitLen (smlA xs h1).toArray.size) true true=d' at *;rw[<-hs]at hp;rw[Array.extract_size,hs,Array.extract_size]at hp;have:=hp.map (·.1);rwa[show (smlA xs h1).toArray.toList=smlA xs h1 from rfl,FP]at this
 .have hp:=(pdq_sorts (Go.Proofs.ltOf λ(x y:Sml a)=>cf x.1 y.1) hO (smlA xs h1).toArray 0 (smlA xs h1).toArray.size (Lib.bitLen (smlA xs h1).toArray.size) true true (kb _) (jl _) (Or.inl rfl));obtain⟨⟨hs,_,_⟩,hp⟩:=hp;generalize pdq (Go.Proofs.ltOf λ(x y:Sml a)=>cf x.1 y.1) (smlA xs h1).toArray 0 (smlA xs h1).toArray.size (Lib.bitLen (smlA xs h1).toArray.size) true true=d' at *;rw[List.pairwise_map,kr];intro i j hi hj dP;have bd:i<d'.size:=by simpa using hi
  have fN:j<d'.size:=by simpa using hj
  have:=hp i j (kb _) dP (by omega);rw[getElem!_pos d' j fN,getElem!_pos d' i bd]at this;simpa[Go.Proofs.ltOf]using this
theorem R8{m:Nat}:∀{css:List (List Value)},(∀c∈css,c.length=m)->∀t,t<css.length*m->css.flatten[t]? = ((css[t/m]?).getD [])[t%m]?
 |[],_,t,ht=>by simp at ht
 |c::css,h,t,ht=>by
  have hc:c.length=m:=h c (by simp)
  have m0:0<m:=by
   rcases Nat.eq_zero_or_pos m with h0|h0
   .subst h0;simp at ht
   .exact h0
  by_cases aA:t<m
  .rw[kz,List.getElem?_append_left (by omega),Nat.div_eq_of_lt aA,Nat.mod_eq_of_lt aA];simp
  .have h':∀c∈css,c.length=m:=λc hc=>h c (by simp[hc]);have ri:t-m<css.length*m:=by simp only[jm,vg]at ht;omega
   rw[kz,jy (by omega),hc,R8 h' (t-m) ri];have e1:t=t-m+m:=by omega
   have e2:t/m=(t-m)/m+1:=(jp (· / m) e1).trans (Nat.add_div_right _ m0);have e3:t%m=(t-m)%m:=(jp (· % m) e1).trans (Nat.add_mod_right _ _);rw[e2,e3,vl]
theorem R9{α:Type}(enc:α->List Value):∀xs:List α,All2 (λx c=>c=enc x) xs (xs.map enc)
 |[]=>trivial
 |x::xs=>⟨rfl,R9 enc xs⟩
theorem Sa{α:Type}[Inhabited α](enc:α->List Value)(k:Nat)(hk:∀x,(enc x).length=k)(d:Array α):(flatK enc k d).toList=(d.toList.map enc).flatten:=by
 have hl:(d.toList.map enc).flatten.length=d.size*k:=by have:=All2.flatten_length (R:=λx c=>c=enc x) (n:=k) (λx c h=>by rw[h,hk]) (xs:=d.toList) (css:=d.toList.map enc) (R9 enc _);simpa using this
 refine vz λt=>?_;by_cases ht:t<d.size*k
 .rw[R8 (m:=k) (by simpa using λx _=>hk x) t (by simpa using ht)]
  have k0:0<k:=by
   rcases Nat.eq_zero_or_pos k with h0|h0
   .subst h0;simp at ht
   .exact h0
  have hd:t/k<d.size:=Nat.div_lt_of_lt_mul (by rw[Nat.mul_comm];exact ht);have hm:t%k<k:=Nat.mod_lt _ k0;have:=get_flatK enc k d t ht;rw[getElem!_pos _ t (by rw[size_flatK];exact ht)]at this;rw[qu,js (by rw[size_flatK];exact ht),this,getElem!_pos d _ hd];simp only[qp,qu,js hd,ky,zb];rw[getElem!_pos _ _ (by rw[hk];exact hm),jh (by rw[hk];exact hm)]
 .rw[qt (by rw[qe,size_flatK];omega),qt (by omega)]
theorem Sb{w:World}{g:Nat}{cur F:Array Value}{e:Nat}(hg:w.heap[g]? = some (.cells cur e (0,0)))(ht:cur.toList.take F.size=F.toList):Holds id w g 0 F:=by
 intro j hj
 have h1:cur[j]? = some F[j]:=by
  have:(cur.toList.take F.size)[j]? = F.toList[j]? := by rw[ht]
  rw[zo hj,qu,qu,js hj]at this;exact this
 refine⟨?_,?_⟩
 .simp only[World.cell?,hg,ke];rw[getElem!_pos F j hj];simpa using h1
 .simp[World.frozen?,hg]
theorem Sc{w:World}{g:Nat}{cur F:Array Value}{e:Nat}(hg:w.heap[g]? = some (.cells cur e (0,0)))(hF:F.size<=cur.size) :
  ∃il,(putRow id w g 0 F).heap[g]? = some (.cells il e (0,0))/\il.size=cur.size/\il.toList.take F.size=F.toList:=by
 refine⟨putCells id 0 F cur,?_,?_,?_⟩
 .unfold putRow mapBlock;simp only[Array.getElem?_modify,if_true,hg,ky,onCells]
 .simp[putCells]
 .refine vz λt=>?_;by_cases ht:t<F.size
  .rw[zo ht,qu,qu];simp only[putCells,Array.getElem?_mapIdx];rw[js (show t<cur.size by omega),js ht];simp only[ky,kb,qh,ke,ht,if_true,Nat.sub_zero,id];rw[getElem!_pos F t ht]
  .rw[List.getElem?_take_eq_none (by omega),qt (by simpa using ht)]
theorem Sd{w:World}{g k:Nat}{F:Array Value}(h:k≠g):(putRow id w g 0 F).heap[k]? = w.heap[k]? := by
 unfold putRow mapBlock;simp only[Array.getElem?_modify,Ne.symm h,za]
theorem FQ{w:World}{os:Array Obj}{k:Nat}(h:k<w.heap.size):(grow w os).heap[k]? = w.heap[k]? := by
 simp only[grow];exact Array.getElem?_append_left h
theorem CM{a:Ty}{S:aP}{w:World}(ha:a.scal=true):∀{xs:List a.den}{css:List (List Value)},All2 (λx c=>Rep S w a x c) xs css↔css=xs.map (encT a)
 |[],[]=>by simp[All2]
 |x::xs,c::css=>by
  simp only[All2,ku,List.cons.injEq];exact and_congr (uI a x c ha) (CM ha)
 |[],_::_=>by simp[All2]
 |_::_,[]=>by simp[All2]
variable{P:Program}{ρ:Go.Shelf.Ren}
theorem Se(L:Go.Proofs.SlLaysF0.n6 P ρ)(a:Ty)(ha:a.scal=true)(e:Nat)(he:isM e=false)(aE:∀w,(isAgg (ρ.t 24)).run P w = .ok true w)(zE:∀w,(Go.sizeOf (ρ.t 24)).run P w = .ok a.size w)(cf:a.den->a.den->Int)(g:Nat)
  (eg:∀args w,(callFunc g args).run P w = .ok (.enter g args) w)
  (J8:∀(x y:a.den)(w:World),gE a x=true->gE a y=true->Calls P g #[.agg (encT a x).toArray,.agg (encT a y).toArray] w λe w'=>e = .returned (.int .i64 (cf x y))/\∃q oA,w'=grow (w.drewN q) oA)
  (hO:SWO (Go.Proofs.ltOf λ(x y:Sml a)=>cf x.1 y.1))(f:Nat)(hf:f=ρ.f 6) :
  Con.OK P ⟨f,[.rl e (.list a),.clo g []],[.list a],⟨[],[.rl (.list a)]⟩,[.list a],uJ a cf⟩:=by
 subst hf;intro args R k r hk;unfold Con.C at hk;split at hk
 rotate_left
 .simp at hk
 rename_i h hu;rw[Fz hu];clear hu
 obtain⟨ys,gn,J9⟩:∃ys,uJ a cf h=some ys/\k (pU ⟨[],[.rl (.list a)]⟩ [.list a] ys)=some r:=by
  cases hs:uJ a cf h with
  |none=>simp only[hs,Option.bind_none]at hk;exact absurd hk (by simp)
  |some ys=>simp only[hs,j3]at hk;exact⟨ys,rfl,hk⟩
 clear hk;refine⟨?_,?_⟩
 .obtain⟨nm,hn,pt⟩:=L.f6;exact⟨_,pt,rfl,hn⟩
 intro w S vals hA dR hS;have hA:All2 (mJ S w) [.rl e ⟨.list a,h⟩,.clo g []] vals:=hA
 obtain⟨u0,u1,rfl⟩:∃u0 u1,vals=[u0,u1]:=by
  match vals,hA with
  |[u0,u1],_=>exact⟨u0,u1,rfl⟩
 obtain⟨⟨a',xs,hx,p8,bg⟩,⟨cv,rfl,rk⟩,_⟩:=hA
 obtain⟨css,cK,aB⟩:∃css,w.ownsRow 0 e a'.size u0 xs.length css.flatten/\All2 (λx c=>Rep S w a' x c) xs css:=by
  rcases p8 with⟨_,css,h1,h2⟩|⟨h1,_⟩
  .exact⟨css,h1,h2⟩
  .rw[he]at h1;simp at h1
 obtain⟨rfl,hx⟩:a=a'/\HEq h xs:=by have h1:=jp TV.t hx;simp only[Ty.list.injEq]at h1;subst h1;refine⟨rfl,?_⟩;simp only[TV.mk.injEq,heq_eq_eq,qh]at hx;rw[hx]
 obtain rfl:xs=h:=(eq_of_heq hx).symm
 have Ka:cv = #[]:=by
  match hh:cv.toList,rk with
  |[],_=>exact Array.toList_eq_nil_iff.1 hh
 subst Ka;obtain rfl:=(CM ha).1 aB;unfold uJ at gn;split at gn
 rotate_left
 .simp at gn
 rename_i mS;have dY:=FP xs mS.1;have hlen:=jAm xs mS.1;generalize smlA xs mS.1=sm at gn dY hlen;have wm:=(pdq_sorts (Go.Proofs.ltOf λ(x y:Sml a)=>cf x.1 y.1) hO sm.toArray 0 sm.toArray.size (Lib.bitLen sm.toArray.size) true true (kb _) (jl _) (Or.inl rfl)).1.1
 have p9:Calls P (ρ.f 6) #[u0,.func (.func g) #[] #[]] w λe' w'=>e' = .returned (.tuple #[])/\(w'=w/\xs=[]\/∃gb cap cur n os,u0 = .slice (some ⟨gb,0,none⟩) xs.length cap/\w.heap[gb]? = some (.cells cur e (0,0))/\xs.length<=cap/\cap<=maxLen/\cur.size=cap*a.size/\
   w'=Go.Proofs.sortWorldK (λ(x:Sml a)=>encT a x.1) a.size w gb 0 n (pdq (Go.Proofs.ltOf λ(x y:Sml a)=>cf x.1 y.1) sm.toArray 0 sm.toArray.size (Lib.bitLen sm.toArray.size) true true) os):=by
  rcases cK.2 with⟨rfl,hn⟩|⟨gb,cap,cur,rfl,_,hg,cR,nM,dL,nv⟩
  .refine(Go.Proofs.AnyF.slices_SortFunc_none L none 0 (.func (.func g) #[] #[]) w).mono ?_
   rintro e' w' ⟨rfl,rfl⟩
   exact⟨rfl,Or.inl ⟨rfl,kg.1 hn⟩⟩
  .have cp:sm.toArray.size=xs.length:=by simpa using hlen
   have eV:=Sa (λ(x:Sml a)=>encT a x.1) a.size (λx=>J7 a x.1 ha) sm.toArray;have sO:(flatK (λ(x:Sml a)=>encT a x.1) a.size sm.toArray).toList=(xs.map (encT a)).flatten:=by rw[eV,<-dY,List.map_map];rfl
   have hH:HoldsK (λ(x:Sml a)=>encT a x.1) a.size w gb 0 sm.toArray:=Sb hg (by rw[size_flatK,cp,sO];exact nv);have hb:gb<w.heap.size:=(jk.1 hg).1
   have:=Go.Proofs.AnyQ.slices_SortFunc_eq L a.size aE zE (λ(x:Sml a)=>encT a x.1) (λx=>J7 a x.1 ha) (λx=>jCc a x.1 ha) (λx y=>cf x.1 y.1) hO g #[] gb 0 cap sm.toArray w eg
    (λm os dk _ x y=>J8 x.1 y.1 _ x.2 y.2) hH hb (by omega)
   rw[cp]at this ⊢;refine this.mono ?_
   rintro e' w' ⟨rfl,n,os,rfl⟩
   exact⟨rfl,Or.inr ⟨gb,cap,cur,n,os,rfl,hg,cR,nM,dL,rfl⟩⟩
 refine p9.mono ?_
 rintro e' w' ⟨rfl,hw⟩
 refine⟨_,J9,_,S,[],rfl,?_⟩;simp only[j4]at gn;rcases hw with⟨rfl,rfl⟩|⟨gb,cap,cur,n,os,rfl,hg,cR,nM,dL,rfl⟩
 ·-- nothing to sort
  obtain rfl:sm=[]:=by simpa using hlen
  have gn:ys=[]:=by rw[<-gn];have:(pdq (Go.Proofs.ltOf λ(x y:Sml a)=>cf x.1 y.1) (#[]:Array (Sml a)) 0 0 (Lib.bitLen 0) true true).size=0:=wm;rw[List.map_eq_nil_iff];exact Array.toList_eq_nil_iff.2 (Array.size_eq_zero_iff.1 this)
  subst gn;refine⟨rfl,trivial,by simp[fy],by simp[fy],?_,dg.refl _ _,λg o h=>Or.inl h,hS,λg _ _=>rfl,jl _,rfl,rfl,rfl,by intro m hm;simp[pU,rvsF]at hm⟩;exact⟨⟨a,[],rfl,.inl ⟨he,[],cK,trivial⟩,bg⟩,rfl,trivial⟩
 .generalize pdq (Go.Proofs.ltOf λ(x y:Sml a)=>cf x.1 y.1) sm.toArray 0 sm.toArray.size (Lib.bitLen sm.toArray.size) true true=d' at gn wm
  have cp:sm.toArray.size=xs.length:=by simpa using hlen
  have yR:d'.size=xs.length:=by rw[wm,cp]
  have eV:=Sa (λ(x:Sml a)=>encT a x.1) a.size (λx=>J7 a x.1 ha) d';have sO:(flatK (λ(x:Sml a)=>encT a x.1) a.size d').toList=(List.map (encT a) ys).flatten:=by rw[eV,<-gn,List.map_map];rfl
  have lF:ys.length=xs.length:=by rw[<-gn];simpa using yR
  have hb:gb<w.heap.size:=(jk.1 hg).1;have zF:(flatK (λ(x:Sml a)=>encT a x.1) a.size d').size=xs.length*a.size:=by rw[size_flatK,yR]
  obtain⟨il,aC,mj,xd⟩:=Sc (w:=Sort.ahead w n) (F:=flatK (λ(x:Sml a)=>encT a x.1) a.size d') hg (by rw[zF,dL];exact jv _ cR);have cE:(putRow id (Sort.ahead w n) gb 0 (flatK (λ(x:Sml a)=>encT a x.1) a.size d')).heap.size=w.heap.size:=by simp
  have gS:∀k,k<w.heap.size->k≠gb->(Go.Proofs.sortWorldK (λ(x:Sml a)=>encT a x.1) a.size w gb 0 n d' os).heap[k]? = w.heap[k]? := λk hk bq=>
   (FQ (by show k<(putRow id (Sort.ahead w n) gb 0 (flatK (λ(x:Sml a)=>encT a x.1) a.size d')).heap.size;rw[cE];exact hk)).trans (Sd bq)
  have eL:w.heap.size<=(Go.Proofs.sortWorldK (λ(x:Sml a)=>encT a x.1) a.size w gb 0 n d' os).heap.size:=by show w.heap.size<=((putRow id (Sort.ahead w n) gb 0 (flatK (λ(x:Sml a)=>encT a x.1) a.size d')).heap++os).size;rw[Array.size_append,cE];omega
  have iY:∀o,¬S gb o:=bg gb rfl;refine⟨rfl,trivial,by simp[fy],by simp[fy],?_,?_,λg o h=>Or.inl h,λg o h=>qn (hS g o h) eL,?_,eL,rfl,rfl,rfl,by intro m hm;simp[pU,rvsF]at hm⟩
  .refine⟨⟨a,ys,rfl,.inl ⟨he,ys.map (encT a),⟨?_,Or.inr ⟨gb,cap,il,?_,kb _,?_,?_,nM,?_,?_⟩⟩,(CM ha).2 rfl⟩,bg⟩,rfl,trivial⟩
   .rw[<-sO,qe,zF,lF]
   .rw[lF]
   .exact(FQ (by show gb<(putRow id (Sort.ahead w n) gb 0 (flatK (λ(x:Sml a)=>encT a x.1) a.size d')).heap.size;rw[cE];exact hb)).trans aC
   .rw[lF];exact cR
   .rw[mj,dL]
   .rw[lF,<-zF,xd,sO]
  .intro g' o su;refine⟨su,?_⟩;have bq:g'≠gb:=λhe=>iY o (he▸su);exact World.cell?_of_block (gS g' (hS g' o su) bq)
  .intro g' vY nw;refine gS g' vY λhe=>nw ?_;subst he;simp[oJ,zB,argF,ej,lG,blk,ofHL,APat.n]
theorem FT{α:Type}(key:α->Int)(hk:∀x, -1152921504606846976<=key x/\key x<=1152921504606846976)(cf:α->α->Int)(h:∀x y,cf x y=w64 (key x-key y)):SWO (Go.Proofs.ltOf cf):=by
 have e:∀x y,Go.Proofs.ltOf cf x y=decide (key x<key y):=by intro x y;have h1:=hk x;have h2:=hk y;have:w64 (key x-key y)=key x-key y:=aj (by omega) (by omega);simp only[Go.Proofs.ltOf,h,this];congr 1;exact propext ⟨λh=>by omega,λh=>by omega⟩
 refine⟨λx=>?_,λx y z=>?_,λx y z=>?_⟩
 .rw[e];simp
 .rw[e,e,e];simp only[jq];omega
 .rw[e,e,e];simp only[kp];omega
open Go.Sort
def insI(x:Int):List Int->List Int
 |[]=>[x]
 |y::ys=>cond (decide (x<=y)) (x::y::ys) (y::insI x ys)
def CN:List Int->List Int
 |[]=>[]
 |x::xs=>insI x (CN xs)
def xe(xs:List Int):Option (List Int):=cond (Nat.blt xs.length 4611686018427387904) (some (CN xs)) none
theorem Kb(x:Int):∀l:List Int,(insI x l).Perm (x::l)
 |[]=>List.Perm.refl _
 |y::ys=>by
  unfold insI;cases decide (x<=y) with
  |true=>exact List.Perm.refl _
  |false=>exact((Kb x ys).cons y).trans (List.Perm.swap x y ys)
theorem FU:∀l:List Int,(CN l).Perm l
 |[]=>List.Perm.refl _
 |x::xs=>(Kb x _).trans ((FU xs).cons x)
theorem Sf(x:Int):∀l:List Int,l.Pairwise (· <= ·)->(insI x l).Pairwise (· <= ·)
 |[],_=>zt _ _
 |y::ys,h=>by
  have hc:=kq.1 h;unfold insI;cases hd:decide (x<=y) with
  |true=>
   have hd:=q9 hd;refine kq.2 ⟨λz hz=>?_,h⟩;rcases jg.1 hz with rfl|hz
   .exact hd
   .have:=hc.1 z hz;omega
  |false=>
   have hd:=of_decide_eq_false hd;refine kq.2 ⟨λz hz=>?_,Sf x ys hc.2⟩;rcases jg.1 ((Kb x ys).mem_iff.1 hz) with rfl|hz
   .omega
   .exact hc.1 z hz
theorem Kd:∀l:List Int,(CN l).Pairwise (· <= ·)
 |[]=>List.Pairwise.nil
 |x::xs=>Sf x _ (Kd xs)
theorem jys(xs:List Int):(xs.mergeSort λx y=>decide (x<=y))=CN xs:=by
 refine List.Perm.eq_of_pairwise (le:=(· <= ·)) (λa b _ _ h1 h2=>Int.le_antisymm h1 h2) ?_ (Kd xs) ((List.mergeSort_perm _ _).trans (FU xs).symm);have:=List.pairwise_mergeSort (le:=λx y:Int=>decide (x<=y)) (λa b c h1 h2=>by simp at h1 h2 ⊢;omega) (λa b=>by simp;omega) xs;exact this.imp (λh=>by simpa using h)
theorem jAn{xs:List Int}(h:xs.length<4611686018427387904):∃ys,xe xs=some ys/\ys.Perm xs/\ys.Pairwise (· <= ·):=by
 unfold xe;rw[show Nat.blt xs.length 4611686018427387904=true from Nat.ble_eq_true_of_le h];exact⟨_,rfl,FU xs,Kd xs⟩
theorem jDl(w:World)(g:Nat)(zs:List Int):putRow (Value.int .i64) w g 0 zs.toArray=putRow id w g 0 (zs.map (Value.int .i64)).toArray:=by
 have:putCells (Value.int .i64) 0 zs.toArray=putCells id 0 (zs.map (Value.int .i64)).toArray:=by
  funext c
  unfold putCells;refine Array.ext_getElem? λk=>?_;simp only[Array.getElem?_mapIdx,kb,qh,ke,Nat.sub_zero,vd,qb,id];cases c[k]? with
  |none=>rfl
  |some x=>
   simp only[ky];by_cases hk:k<zs.length
   .rw[if_pos hk,if_pos hk,getElem!_pos _ k (by simpa using hk),getElem!_pos _ k (by simpa using hk)];simp
   .rw[if_neg hk,if_neg hk]
 unfold putRow;rw[this]
theorem jAo{w:World}{g:Nat}{zs:List Int}(h:Holds id w g 0 (zs.map (Value.int .i64)).toArray):Holds (Value.int .i64) w g 0 zs.toArray:=by
 intro j hj;have fN:j<zs.length:=by simpa using hj
 have:=h j (by simpa using fN);refine⟨this.1.trans ?_,this.2⟩;rw[getElem!_pos _ j (by simpa using fN),getElem!_pos _ j hj];simp
theorem Ke(zs:List Int):(zs.map (encT (.int .i64))).flatten=zs.map (Value.int .i64):=by
 induction zs with
 |nil=>rfl
 |cons z zs ih=>simp only[ku,kz,ih];rfl
variable{P:Program}{ρ:Go.Shelf.Ren}
theorem jyt(L:Go.Proofs.SlLaysM.n5 P ρ)(e:Nat)(he:isM e=false)(f:Nat)(hf:f=ρ.f 5) :
  Con.OK P ⟨f,[.rl e (.list (.int .i64))],[.list (.int .i64)],⟨[],[.rl (.list (.int .i64))]⟩,[.list (.int .i64)],xe⟩:=by
 subst hf;intro args R k r hk;unfold Con.C at hk;split at hk
 rotate_left
 .simp at hk
 rename_i h hu;rw[Fz hu];clear hu
 obtain⟨ys,gn,J9⟩:∃ys,xe h=some ys/\k (pU ⟨[],[.rl (.list (.int .i64))]⟩ [.list (.int .i64)] ys)=some r:=by
  cases hs:xe h with
  |none=>simp only[hs,Option.bind_none]at hk;exact absurd hk (by simp)
  |some ys=>simp only[hs,j3]at hk;exact⟨ys,rfl,hk⟩
 clear hk;refine⟨?_,?_⟩
 .obtain⟨nm,hn,pt⟩:=L.f5;exact⟨_,pt,rfl,hn⟩
 intro w S vals hA dR hS;have hA:All2 (mJ S w) [.rl e ⟨.list (.int .i64),h⟩] vals:=hA
 obtain⟨u0,rfl⟩:∃u0,vals=[u0]:=by
  match vals,hA with
  |[u0],_=>exact⟨u0,rfl⟩
 obtain⟨⟨a',xs,hx,p8,bg⟩,_⟩:=hA
 obtain⟨css,cK,aB⟩:∃css,w.ownsRow 0 e a'.size u0 xs.length css.flatten/\All2 (λx c=>Rep S w a' x c) xs css:=by
  rcases p8 with⟨_,css,h1,h2⟩|⟨h1,_⟩
  .exact⟨css,h1,h2⟩
  .rw[he]at h1;simp at h1
 obtain⟨rfl,hx⟩:Ty.int .i64=a'/\HEq h xs:=by have h1:=jp TV.t hx;simp only[Ty.list.injEq]at h1;subst h1;refine⟨rfl,?_⟩;simp only[TV.mk.injEq,heq_eq_eq,qh]at hx;rw[hx]
 obtain rfl:xs=h:=(eq_of_heq hx).symm;obtain rfl:=(CM (a:= .int .i64) rfl).1 aB;have eV:(List.map (encT (.int .i64)) xs).flatten=List.map (Value.int .i64) xs:=Ke xs;rw[eV]at cK;unfold xe at gn;cases mS:Nat.blt (List.length xs) 4611686018427387904 with
 |false=>rw[mS]at gn;simp at gn
 |true=>
 rw[mS]at gn;simp only[j5,j4]at gn;have mS:List.length xs<4611686018427387904:=Nat.le_of_ble_eq_true mS;have lF:ys.length=List.length xs:=by rw[<-gn];exact(FU xs).length_eq
 have p9:Calls P (ρ.f 5) #[u0] w λe' w'=>e' = .returned (.tuple #[])/\(w'=w/\xs=[]\/∃gb cap cur n os,u0 = .slice (some ⟨gb,0,none⟩) (List.length xs) cap/\w.heap[gb]? = some (.cells cur e (0,0))/\List.length xs<=cap/\cap<=maxLen/\cur.size=cap*1/\
   w'=grow (putRow id (Sort.ahead w n) gb 0 (ys.map (Value.int .i64)).toArray) os):=by
  rcases cK.2 with⟨rfl,hn⟩|⟨gb,cap,cur,rfl,_,hg,cR,nM,dL,nv⟩
  .refine(Go.Proofs.AnyM.slices_Sort_int_none L none 0 w).mono ?_
   rintro e' w' ⟨rfl,rfl⟩
   exact⟨rfl,Or.inl ⟨rfl,kg.1 hn⟩⟩
  .have hH:Holds (Value.int .i64) w gb 0 (List.toArray xs):=jAo (Sb hg (by simpa[Ty.size]using nv));have hb:gb<w.heap.size:=(jk.1 hg).1;refine(Go.Proofs.AnyM.slices_Sort_int L gb 0 cap xs w hH hb mS).mono ?_
   rintro e' w' ⟨rfl,n,os,rfl⟩
   rw[jys,gn,jDl];exact⟨rfl,Or.inr ⟨gb,cap,cur,n,os,rfl,hg,cR,nM,dL,rfl⟩⟩
 refine p9.mono ?_
 rintro e' w' ⟨rfl,hw⟩
 refine⟨_,J9,_,S,[],rfl,?_⟩;rcases hw with⟨rfl,rfl⟩|⟨gb,cap,cur,n,os,rfl,hg,cR,nM,dL,rfl⟩
 .have gn:ys=[]:=kg.1 (by simpa using lF);subst gn;refine⟨rfl,trivial,by simp[fy],by simp[fy],?_,dg.refl _ _,λg o h=>Or.inl h,hS,λg _ _=>rfl,jl _,rfl,rfl,rfl,by intro m hm;simp[pU,rvsF]at hm⟩;exact⟨⟨.int .i64,[],rfl,.inl ⟨he,[],cK,trivial⟩,bg⟩,rfl,trivial⟩
 .have hb:gb<w.heap.size:=(jk.1 hg).1;have zF:(ys.map (Value.int .i64)).toArray.size=List.length xs:=by simp[lF]
  obtain⟨il,aC,mj,xd⟩:=Sc (w:=Sort.ahead w n) (F:=(ys.map (Value.int .i64)).toArray) hg (by rw[zF,dL];omega);have cE:(putRow id (Sort.ahead w n) gb 0 (ys.map (Value.int .i64)).toArray).heap.size=w.heap.size:=by simp
  have gS:∀k,k<w.heap.size->k≠gb->(grow (putRow id (Sort.ahead w n) gb 0 (ys.map (Value.int .i64)).toArray) os).heap[k]? = w.heap[k]? := λk hk bq=>
   (FQ (by rw[cE];exact hk)).trans (Sd bq)
  have eL:w.heap.size<=(grow (putRow id (Sort.ahead w n) gb 0 (ys.map (Value.int .i64)).toArray) os).heap.size:=by show w.heap.size<=((putRow id (Sort.ahead w n) gb 0 (ys.map (Value.int .i64)).toArray).heap++os).size;rw[Array.size_append,cE];omega
  have iY:∀o,¬S gb o:=bg gb rfl;refine⟨rfl,trivial,by simp[fy],by simp[fy],?_,?_,λg o h=>Or.inl h,λg o h=>qn (hS g o h) eL,?_,eL,rfl,rfl,rfl,by intro m hm;simp[pU,rvsF]at hm⟩
  .refine⟨⟨.int .i64,ys,rfl,.inl ⟨he,ys.map (encT (.int .i64)),⟨?_,Or.inr ⟨gb,cap,il,?_,kb _,?_,?_,nM,?_,?_⟩⟩,(CM (a:= .int .i64) rfl).2 rfl⟩,bg⟩,rfl,trivial⟩
   .rw[Ke];simp[Ty.size]
   .rw[lF]
   .exact(FQ (by rw[cE];exact hb)).trans aC
   .rw[lF];exact cR
   .rw[mj,dL];rfl
   .rw[Ke,lF,show List.length xs*(Ty.int .i64).size=(ys.map (Value.int .i64)).toArray.size by rw[zF];simp[Ty.size],xd]
  .intro g' o su;refine⟨su,?_⟩;have bq:g'≠gb:=λhe=>iY o (he▸su);exact World.cell?_of_block (gS g' (hS g' o su) bq)
  .intro g' vY nw;refine gS g' vY λhe=>nw ?_;subst he;simp[oJ,zB,argF,ej,lG,blk,ofHL]
end Go.Lft
