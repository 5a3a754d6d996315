/- xG.SortFunc: the kit's qG of it as a qG on plain data. -/
import Derived.Test.YtaieocafhcjelaaGreatELD
import Derived.Shelf.SlSortCmp.NoneTotal
import Derived.Shelf.SortM.Plain
import Derived.Shelf.SortM.SortNone
set_option linter.unusedVariables false
namespace Go.Lft
open Go.Sort
def Ty.scal:Ty->Bool
 |.int _|.bool|.str|.unit=>true
 |.wrap a=>a.scal
 |.pair a b=>a.scal&&b.scal
 |.list _=>false
 |.arr _ _=>false
def encT:(t:Ty)->t.den->List Value
 |.int k,n=>[.int k n]
 |.bool,b=>[.bool b]
 |.str,s=>[.string s]
 |.unit,_=>[]
 |.wrap a,v=>encT a v
 |.pair a b,v=>encT a v.1++encT b v.2
 |.list _,_=>[]
 |.arr _ _,_=>[]
def fK:(t:Ty)->t.den->Bool
 |.int _,n=>decide (-1152921504606846976<=(n:Int))&&decide ((n:Int)<=1152921504606846976)
 |.bool,_=>true
 |.str,_=>true
 |.unit,_=>true
 |.wrap a,v=>fK a v
 |.pair a b,v=>fK a v.1&&fK b v.2
 |.list _,_=>true
 |.arr _ _,_=>true
theorem Ga:∀t:Ty,fK t t.dflt=true
 |.int _=>by simp[fK,Ty.dflt]
 |.bool=>rfl
 |.str=>rfl
 |.unit=>rfl
 |.wrap a=>Ga a
 |.pair a b=>by simp[fK,Ty.dflt,Ga a,Ga b]
 |.list _=>rfl
 |.arr _ _=>rfl
theorem vE{S:aF}{w:World}:∀(t:Ty)(v:t.den)(cs:List Value),t.scal=true->(Rep S w t v cs↔cs=encT t v)
 |.int _,_,_,_=>Iff.rfl
 |.bool,_,_,_=>Iff.rfl
 |.str,_,_,_=>Iff.rfl
 |.unit,_,_,_=>Iff.rfl
 |.wrap a,v,cs,h=>vE a v cs h
 |.pair a b,v,cs,h=>by
  simp only[Ty.scal,jb]at h;constructor
  .rintro⟨c1,c2,rfl,h1,h2⟩
   rw[(vE a _ _ h.1).1 h1,(vE b _ _ h.2).1 h2];rfl
  .rintro rfl
   exact⟨_,_,rfl,(vE a _ _ h.1).2 rfl,(vE b _ _ h.2).2 rfl⟩
 |.list _,_,_,h=>by simp[Ty.scal]at h
 |.arr _ _,_,_,h=>by simp[Ty.scal]at h
theorem Kb(t:Ty)(v:t.den)(h:t.scal=true):(encT t v).length=t.size:=
 Rep.length (S:=λ_ _=>False) (w:=default) t v _ ((vE t v _ h).2 rfl)
theorem jyP(t:Ty)(v:t.den)(h:t.scal=true):∀u∈encT t v,u.oneCell'=true:=
 Rep.one (S:=λ_ _=>False) (w:=default) t v _ ((vE t v _ h).2 rfl)
abbrev Sml(a:Ty):Type:={ x:a.den // fK a x=true }
instance(a:Ty):Inhabited (Sml a):=⟨⟨a.dflt,Ga a⟩⟩
def smlA{a:Ty}:(xs:List a.den)->xs.all (fK a)=true->List (Sml a)
 |[],_=>[]
 |x::xs,h=>⟨x,by simp at h;exact h.1⟩::smlA xs (by simp at h ⊢;exact h.2)
theorem Gb{a:Ty}:∀(xs:List a.den)(h:xs.all (fK a)=true),(smlA xs h).map (·.1)=xs
 |[],_=>rfl
 |x::xs,h=>by simp[smlA,Gb xs]
theorem jx1{a:Ty}(xs:List a.den)(h:xs.all (fK a)=true):(smlA xs h).length=xs.length:=by
 rw[<-kb (f:=(·.1)),Gb]
noncomputable def tz(a:Ty)(cf:a.den->a.den->Int)(xs:List a.den):Option (List a.den):=
 if h:xs.all (fK a)=true/\xs.length<4611686018427387904 then
  some ((pdq (Go.Proofs.ltOf λ(x y:Sml a)=>cf x.1 y.1) (smlA xs h.1).toArray 0 (smlA xs h.1).toArray.size (Lib.bitLen (smlA xs h.1).toArray.size) true true).toList.map (·.1))
 else none
theorem Kd{a:Ty}{cf:a.den->a.den->Int}(hO:SWO (Go.Proofs.ltOf λ(x y:Sml a)=>cf x.1 y.1)){xs:List a.den}(h:∀x∈xs,fK a x=true)(hl:xs.length<4611686018427387904) :
  ∃ys,tz a cf xs=some ys/\ys.Perm xs/\ys.Pairwise (λx y=>¬cf y x<0):=by
 have h1:xs.all (fK a)=true:=jz.2 h;unfold tz;rw[dif_pos ⟨h1,hl⟩];refine⟨_,rfl,?_,?_⟩
 .have hp:=(pdq_sorts (Go.Proofs.ltOf λ(x y:Sml a)=>cf x.1 y.1) hO (smlA xs h1).toArray 0 (smlA xs h1).toArray.size (Lib.bitLen (smlA xs h1).toArray.size) true true (kc _) (jg _) (Or.inl rfl)).1;obtain⟨hs,_,hp⟩:=hp;generalize pdq (Go.Proofs.ltOf λ(x y:Sml a)=>cf x.1 y.1) (smlA xs h1).toArray 0 (smlA xs h1).toArray.size (Lib.bitLen (smlA xs h1).toArray.size) true true=d' at *;rw[<-hs]at hp;rw[Array.extract_size,hs,Array.extract_size]at hp;have:=hp.map (·.1);rwa[show (smlA xs h1).toArray.toList=smlA xs h1 from rfl,Gb]at this
 .have hp:=(pdq_sorts (Go.Proofs.ltOf λ(x y:Sml a)=>cf x.1 y.1) hO (smlA xs h1).toArray 0 (smlA xs h1).toArray.size (Lib.bitLen (smlA xs h1).toArray.size) true true (kc _) (jg _) (Or.inl rfl));obtain⟨⟨hs,_,_⟩,hp⟩:=hp;generalize pdq (Go.Proofs.ltOf λ(x y:Sml a)=>cf x.1 y.1) (smlA xs h1).toArray 0 (smlA xs h1).toArray.size (Lib.bitLen (smlA xs h1).toArray.size) true true=d' at *;rw[List.pairwise_map,ky];intro i j hi hj dK;have bF:i<d'.size:=by simpa using hi
  have eJ:j<d'.size:=by simpa using hj
  have:=hp i j (kc _) dK (by omega);rw[getElem!_pos d' j eJ,getElem!_pos d' i bF]at this;simpa[Go.Proofs.ltOf]using this
theorem RK{m:Nat}:∀{css:List (List Value)},(∀c∈css,c.length=m)->∀t,t<css.length*m->css.flatten[t]? = ((css[t/m]?).getD [])[t%m]?
 |[],_,t,ht=>by simp at ht
 |c::css,h,t,ht=>by
  have hc:c.length=m:=h c (by simp)
  have m0:0<m:=by
   rcases Nat.eq_zero_or_pos m with h0|h0
   .subst h0;simp at ht
   .exact h0
  by_cases aq:t<m
  .rw[q7,List.getElem?_append_left (by omega),Nat.div_eq_of_lt aq,Nat.mod_eq_of_lt aq];simp
  .have h':∀c∈css,c.length=m:=λc hc=>h c (by simp[hc]);have rG:t-m<css.length*m:=by simp only[jk,va]at ht;omega
   rw[q7,k5 (by omega),hc,RK h' (t-m) rG];have e1:t=t-m+m:=by omega
   have e2:t/m=(t-m)/m+1:=(ji (· / m) e1).trans (Nat.add_div_right _ m0);have e3:t%m=(t-m)%m:=(ji (· % m) e1).trans (Nat.add_mod_right _ _);rw[e2,e3,vh]
theorem RM{α:Type}(enc:α->List Value):∀xs:List α,All2 (λx c=>c=enc x) xs (xs.map enc)
 |[]=>trivial
 |x::xs=>⟨rfl,RM enc xs⟩
theorem RN{α:Type}[Inhabited α](enc:α->List Value)(k:Nat)(hk:∀x,(enc x).length=k)(d:Array α):(flatK enc k d).toList=(d.toList.map enc).flatten:=by
 have hl:(d.toList.map enc).flatten.length=d.size*k:=by have:=All2.flatten_length (R:=λx c=>c=enc x) (n:=k) (λx c h=>by rw[h,hk]) (xs:=d.toList) (css:=d.toList.map enc) (RM enc _);simpa using this
 refine vu λt=>?_;by_cases ht:t<d.size*k
 .rw[RK (m:=k) (by simpa using λx _=>hk x) t (by simpa using ht)]
  have k0:0<k:=by
   rcases Nat.eq_zero_or_pos k with h0|h0
   .subst h0;simp at ht
   .exact h0
  have hd:t/k<d.size:=Nat.div_lt_of_lt_mul (by rw[Nat.mul_comm];exact ht);have hm:t%k<k:=Nat.mod_lt _ k0;have:=get_flatK enc k d t ht;rw[getElem!_pos _ t (by rw[size_flatK];exact ht)]at this;rw[qs,jt (by rw[size_flatK];exact ht),this,getElem!_pos d _ hd];simp only[qm,qs,jt hd,kx,kz];rw[getElem!_pos _ _ (by rw[hk];exact hm),jj (by rw[hk];exact hm)]
 .rw[qr (by rw[qe,size_flatK];omega),qr (by omega)]
theorem RO{w:World}{g:Nat}{cur F:Array Value}{e:Nat}(hg:w.heap[g]? = some (.cells cur e (0,0)))(ht:cur.toList.take F.size=F.toList):Holds id w g 0 F:=by
 intro j hj
 have h1:cur[j]? = some F[j]:=by
  have:(cur.toList.take F.size)[j]? = F.toList[j]? := by rw[ht]
  rw[List.getElem?_take_of_lt hj,qs,qs,jt hj]at this;exact this
 refine⟨?_,?_⟩
 .simp only[World.cell?,hg,kf];rw[getElem!_pos F j hj];simpa using h1
 .simp[World.frozen?,hg]
theorem RP{w:World}{g:Nat}{cur F:Array Value}{e:Nat}(hg:w.heap[g]? = some (.cells cur e (0,0)))(hF:F.size<=cur.size) :
  ∃im,(putRow id w g 0 F).heap[g]? = some (.cells im e (0,0))/\im.size=cur.size/\im.toList.take F.size=F.toList:=by
 refine⟨putCells id 0 F cur,?_,?_,?_⟩
 .unfold putRow mapBlock;simp only[Array.getElem?_modify,if_true,hg,kx,onCells]
 .simp[putCells]
 .refine vu λt=>?_;by_cases ht:t<F.size
  .rw[List.getElem?_take_of_lt ht,qs,qs];simp only[putCells,Array.getElem?_mapIdx];rw[jt (show t<cur.size by omega),jt ht];simp only[kx,kc,qi,kf,ht,if_true,Nat.sub_zero,id];rw[getElem!_pos F t ht]
  .rw[List.getElem?_take_eq_none (by omega),qr (by simpa using ht)]
theorem RQ{w:World}{g k:Nat}{F:Array Value}(h:k≠g):(putRow id w g 0 F).heap[k]? = w.heap[k]? := by
 unfold putRow mapBlock;simp only[Array.getElem?_modify,Ne.symm h,z7]
theorem Gc{w:World}{os:Array Obj}{k:Nat}(h:k<w.heap.size):(grow w os).heap[k]? = w.heap[k]? := by
 simp only[grow];exact Array.getElem?_append_left h
theorem Dq{a:Ty}{S:aF}{w:World}(ha:a.scal=true):∀{xs:List a.den}{css:List (List Value)},All2 (λx c=>Rep S w a x c) xs css↔css=xs.map (encT a)
 |[],[]=>by simp[All2]
 |x::xs,c::css=>by
  simp only[All2,kr,List.cons.injEq];exact and_congr (vE a x c ha) (Dq ha)
 |[],_::_=>by simp[All2]
 |_::_,[]=>by simp[All2]
variable{P:Program}{ρ:Go.Shelf.Ren}
theorem Ke(L:Go.Proofs.SlLaysF0.n6 P ρ)(a:Ty)(ha:a.scal=true)(e:Nat)(he:isM e=false)(aE:∀w,(isAgg (ρ.t 24)).run P w = .ok true w)(zE:∀w,(Go.sizeOf (ρ.t 24)).run P w = .ok a.size w)(cf:a.den->a.den->Int)(g:Nat)
  (eg:∀args w,(callFunc g args).run P w = .ok (.enter g args) w)
  (Kf:∀(x y:a.den)(w:World),fK a x=true->fK a y=true->Calls P g #[.agg (encT a x).toArray,.agg (encT a y).toArray] w λe w'=>e = .returned (.int .i64 (cf x y))/\∃q lK,w'=grow (w.drewN q) lK)
  (hO:SWO (Go.Proofs.ltOf λ(x y:Sml a)=>cf x.1 y.1))(f:Nat)(hf:f=ρ.f 6) :
  Con.OK P ⟨f,[.rl e (.list a),.clo g []],[.list a],⟨[],[.rl (.list a)]⟩,[.list a],tz a cf⟩:=by
 subst hf;intro args R k r hk;unfold Con.C at hk;split at hk
 rotate_left
 .simp at hk
 rename_i h hu;rw[FX hu];clear hu
 obtain⟨ys,gl,Kg⟩:∃ys,tz a cf h=some ys/\k (qA ⟨[],[.rl (.list a)]⟩ [.list a] ys)=some r:=by
  cases hs:tz a cf h with
  |none=>simp only[hs,Option.bind_none]at hk;exact absurd hk (by simp)
  |some ys=>simp only[hs,j3]at hk;exact⟨ys,rfl,hk⟩
 clear hk;refine⟨?_,?_⟩
 .obtain⟨nm,hn,pK⟩:=L.f6;exact⟨_,pK,rfl,hn⟩
 intro w S vals hA dy hS;have hA:All2 (mV S w) [.rl e ⟨.list a,h⟩,.clo g []] vals:=hA
 obtain⟨u0,u1,rfl⟩:∃u0 u1,vals=[u0,u1]:=by
  match vals,hA with
  |[u0,u1],_=>exact⟨u0,u1,rfl⟩
 obtain⟨⟨a',xs,hx,qH,aY⟩,⟨cv,rfl,rI⟩,_⟩:=hA
 obtain⟨css,cF,ar⟩:∃css,w.ownsRow 0 e a'.size u0 xs.length css.flatten/\All2 (λx c=>Rep S w a' x c) xs css:=by
  rcases qH with⟨_,css,h1,h2⟩|⟨h1,_⟩
  .exact⟨css,h1,h2⟩
  .rw[he]at h1;simp at h1
 obtain⟨rfl,hx⟩:a=a'/\HEq h xs:=by have h1:=ji TV.t hx;simp only[Ty.list.injEq]at h1;subst h1;refine⟨rfl,?_⟩;simp only[TV.mk.injEq,heq_eq_eq,qi]at hx;rw[hx]
 obtain rfl:xs=h:=(eq_of_heq hx).symm
 have Kh:cv = #[]:=by
  match hh:cv.toList,rI with
  |[],_=>exact Array.toList_eq_nil_iff.1 hh
 subst Kh;obtain rfl:=(Dq ha).1 ar;unfold tz at gl;split at gl
 rotate_left
 .simp at gl
 rename_i ia;have dW:=Gb xs ia.1;have hlen:=jx1 xs ia.1;generalize smlA xs ia.1=sm at gl dW hlen;have wT:=(pdq_sorts (Go.Proofs.ltOf λ(x y:Sml a)=>cf x.1 y.1) hO sm.toArray 0 sm.toArray.size (Lib.bitLen sm.toArray.size) true true (kc _) (jg _) (Or.inl rfl)).1.1
 have qI:Calls P (ρ.f 6) #[u0,.func (.func g) #[] #[]] w λe' w'=>e' = .returned (.tuple #[])/\(w'=w/\xs=[]\/∃gb cap cur n os,u0 = .slice (some ⟨gb,0,none⟩) xs.length cap/\w.heap[gb]? = some (.cells cur e (0,0))/\xs.length<=cap/\cap<=maxLen/\cur.size=cap*a.size/\
   w'=Go.Proofs.sortWorldK (λ(x:Sml a)=>encT a x.1) a.size w gb 0 n (pdq (Go.Proofs.ltOf λ(x y:Sml a)=>cf x.1 y.1) sm.toArray 0 sm.toArray.size (Lib.bitLen sm.toArray.size) true true) os):=by
  rcases cF.2 with⟨rfl,hn⟩|⟨gb,cap,cur,rfl,_,hg,cM,xH,dG,mo⟩
  .refine(Go.Proofs.AnyF.slices_SortFunc_none L none 0 (.func (.func g) #[] #[]) w).mono ?_
   rintro e' w' ⟨rfl,rfl⟩
   exact⟨rfl,Or.inl ⟨rfl,km.1 hn⟩⟩
  .have bZ:sm.toArray.size=xs.length:=by simpa using hlen
   have fa:=RN (λ(x:Sml a)=>encT a x.1) a.size (λx=>Kb a x.1 ha) sm.toArray;have tA:(flatK (λ(x:Sml a)=>encT a x.1) a.size sm.toArray).toList=(xs.map (encT a)).flatten:=by rw[fa,<-dW,List.map_map];rfl
   have hH:HoldsK (λ(x:Sml a)=>encT a x.1) a.size w gb 0 sm.toArray:=RO hg (by rw[size_flatK,bZ,tA];exact mo);have hb:gb<w.heap.size:=(jm.1 hg).1
   have:=Go.Proofs.AnyQ.slices_SortFunc_eq L a.size aE zE (λ(x:Sml a)=>encT a x.1) (λx=>Kb a x.1 ha) (λx=>jyP a x.1 ha) (λx y=>cf x.1 y.1) hO g #[] gb 0 cap sm.toArray w eg
    (λm os dk _ x y=>Kf x.1 y.1 _ x.2 y.2) hH hb (by omega)
   rw[bZ]at this ⊢;refine this.mono ?_
   rintro e' w' ⟨rfl,n,os,rfl⟩
   exact⟨rfl,Or.inr ⟨gb,cap,cur,n,os,rfl,hg,cM,xH,dG,rfl⟩⟩
 refine qI.mono ?_
 rintro e' w' ⟨rfl,hw⟩
 refine⟨_,Kg,_,S,[],rfl,?_⟩;simp only[j4]at gl;rcases hw with⟨rfl,rfl⟩|⟨gb,cap,cur,n,os,rfl,hg,cM,xH,dG,rfl⟩
 ·-- nothing to sort
  obtain rfl:sm=[]:=by simpa using hlen
  have gl:ys=[]:=by rw[<-gl];have:(pdq (Go.Proofs.ltOf λ(x y:Sml a)=>cf x.1 y.1) (#[]:Array (Sml a)) 0 0 (Lib.bitLen 0) true true).size=0:=wT;rw[List.map_eq_nil_iff];exact Array.toList_eq_nil_iff.2 (Array.size_eq_zero_iff.1 this)
  subst gl;refine⟨rfl,trivial,by simp[fE],by simp[fE],?_,cX.refl _ _,λg o h=>Or.inl h,hS,λg _ _=>rfl,jg _,rfl,rfl,rfl,by intro m hm;simp[qA,rvsF]at hm⟩;exact⟨⟨a,[],rfl,.inl ⟨he,[],cF,trivial⟩,aY⟩,rfl,trivial⟩
 .generalize pdq (Go.Proofs.ltOf λ(x y:Sml a)=>cf x.1 y.1) sm.toArray 0 sm.toArray.size (Lib.bitLen sm.toArray.size) true true=d' at gl wT
  have bZ:sm.toArray.size=xs.length:=by simpa using hlen
  have Ae:d'.size=xs.length:=by rw[wT,bZ]
  have fa:=RN (λ(x:Sml a)=>encT a x.1) a.size (λx=>Kb a x.1 ha) d';have tA:(flatK (λ(x:Sml a)=>encT a x.1) a.size d').toList=(List.map (encT a) ys).flatten:=by rw[fa,<-gl,List.map_map];rfl
  have lG:ys.length=xs.length:=by rw[<-gl];simpa using Ae
  have hb:gb<w.heap.size:=(jm.1 hg).1;have Aq:(flatK (λ(x:Sml a)=>encT a x.1) a.size d').size=xs.length*a.size:=by rw[size_flatK,Ae]
  obtain⟨im,az,my,xI⟩:=RP (w:=Sort.ahead w n) (F:=flatK (λ(x:Sml a)=>encT a x.1) a.size d') hg (by rw[Aq,dG];exact jx _ cM);have cH:(putRow id (Sort.ahead w n) gb 0 (flatK (λ(x:Sml a)=>encT a x.1) a.size d')).heap.size=w.heap.size:=by simp
  have gU:∀k,k<w.heap.size->k≠gb->(Go.Proofs.sortWorldK (λ(x:Sml a)=>encT a x.1) a.size w gb 0 n d' os).heap[k]? = w.heap[k]? := λk hk ba=>
   (Gc (by show k<(putRow id (Sort.ahead w n) gb 0 (flatK (λ(x:Sml a)=>encT a x.1) a.size d')).heap.size;rw[cH];exact hk)).trans (RQ ba)
  have eM:w.heap.size<=(Go.Proofs.sortWorldK (λ(x:Sml a)=>encT a x.1) a.size w gb 0 n d' os).heap.size:=by show w.heap.size<=((putRow id (Sort.ahead w n) gb 0 (flatK (λ(x:Sml a)=>encT a x.1) a.size d')).heap++os).size;rw[Array.size_append,cH];omega
  have iX:∀o,¬S gb o:=aY gb rfl;refine⟨rfl,trivial,by simp[fE],by simp[fE],?_,?_,λg o h=>Or.inl h,λg o h=>qk (hS g o h) eM,?_,eM,rfl,rfl,rfl,by intro m hm;simp[qA,rvsF]at hm⟩
  .refine⟨⟨a,ys,rfl,.inl ⟨he,ys.map (encT a),⟨?_,Or.inr ⟨gb,cap,im,?_,kc _,?_,?_,xH,?_,?_⟩⟩,(Dq ha).2 rfl⟩,aY⟩,rfl,trivial⟩
   .rw[<-tA,qe,Aq,lG]
   .rw[lG]
   .exact(Gc (by show gb<(putRow id (Sort.ahead w n) gb 0 (flatK (λ(x:Sml a)=>encT a x.1) a.size d')).heap.size;rw[cH];exact hb)).trans az
   .rw[lG];exact cM
   .rw[my,dG]
   .rw[lG,<-Aq,xI,tA]
  .intro g' o sW;refine⟨sW,?_⟩;have ba:g'≠gb:=λhe=>iX o (he▸sW);exact World.cell?_of_block (gU g' (hS g' o sW) ba)
  .intro g' sD nN;refine gU g' sD λhe=>nN ?_;subst he;simp[o5,An,argF,dX,lH,blk,ofHL,APat.n]
theorem Gd{α:Type}(key:α->Int)(hk:∀x, -1152921504606846976<=key x/\key x<=1152921504606846976)(cf:α->α->Int)(h:∀x y,cf x y=w64 (key x-key y)):SWO (Go.Proofs.ltOf cf):=by
 have e:∀x y,Go.Proofs.ltOf cf x y=decide (key x<key y):=by intro x y;have h1:=hk x;have h2:=hk y;have:w64 (key x-key y)=key x-key y:=ai (by omega) (by omega);simp only[Go.Proofs.ltOf,h,this];congr 1;exact propext ⟨λh=>by omega,λh=>by omega⟩
 refine⟨λx=>?_,λx y z=>?_,λx y z=>?_⟩
 .rw[e];simp
 .rw[e,e,e];simp only[jo];omega
 .rw[e,e,e];simp only[kp];omega
open Go.Sort
def insI(x:Int):List Int->List Int
 |[]=>[x]
 |y::ys=>cond (decide (x<=y)) (x::y::ys) (y::insI x ys)
def Dr:List Int->List Int
 |[]=>[]
 |x::xs=>insI x (Dr xs)
def xJ(xs:List Int):Option (List Int):=cond (Nat.blt xs.length 4611686018427387904) (some (Dr xs)) none
theorem Ki(x:Int):∀l:List Int,(insI x l).Perm (x::l)
 |[]=>List.Perm.refl _
 |y::ys=>by
  unfold insI;cases decide (x<=y) with
  |true=>exact List.Perm.refl _
  |false=>exact((Ki x ys).cons y).trans (List.Perm.swap x y ys)
theorem Ge:∀l:List Int,(Dr l).Perm l
 |[]=>List.Perm.refl _
 |x::xs=>(Ki x _).trans ((Ge xs).cons x)
theorem RR(x:Int):∀l:List Int,l.Pairwise (· <= ·)->(insI x l).Pairwise (· <= ·)
 |[],_=>zg _ _
 |y::ys,h=>by
  have hc:=js.1 h;unfold insI;cases hd:decide (x<=y) with
  |true=>
   have hd:=q8 hd;refine js.2 ⟨λz hz=>?_,h⟩;rcases je.1 hz with rfl|hz
   .exact hd
   .have:=hc.1 z hz;omega
  |false=>
   have hd:=of_decide_eq_false hd;refine js.2 ⟨λz hz=>?_,RR x ys hc.2⟩;rcases je.1 ((Ki x ys).mem_iff.1 hz) with rfl|hz
   .omega
   .exact hc.1 z hz
theorem Kj:∀l:List Int,(Dr l).Pairwise (· <= ·)
 |[]=>List.Pairwise.nil
 |x::xs=>RR x _ (Kj xs)
theorem jvd(xs:List Int):(xs.mergeSort λx y=>decide (x<=y))=Dr xs:=by
 refine List.Perm.eq_of_pairwise (le:=(· <= ·)) (λa b _ _ h1 h2=>Int.le_antisymm h1 h2) ?_ (Kj xs) ((List.mergeSort_perm _ _).trans (Ge xs).symm);have:=List.pairwise_mergeSort (le:=λx y:Int=>decide (x<=y)) (λa b c h1 h2=>by simp at h1 h2 ⊢;omega) (λa b=>by simp;omega) xs;exact this.imp (λh=>by simpa using h)
theorem jx2{xs:List Int}(h:xs.length<4611686018427387904):∃ys,xJ xs=some ys/\ys.Perm xs/\ys.Pairwise (· <= ·):=by
 unfold xJ;rw[show Nat.blt xs.length 4611686018427387904=true from Nat.ble_eq_true_of_le h];exact⟨_,rfl,Ge xs,Kj xs⟩
theorem jA9(w:World)(g:Nat)(zs:List Int):putRow (Value.int .i64) w g 0 zs.toArray=putRow id w g 0 (zs.map (Value.int .i64)).toArray:=by
 have:putCells (Value.int .i64) 0 zs.toArray=putCells id 0 (zs.map (Value.int .i64)).toArray:=by
  funext c
  unfold putCells;refine Array.ext_getElem? λk=>?_;simp only[Array.getElem?_mapIdx,kc,qi,kf,Nat.sub_zero,zu,kb,id];cases c[k]? with
  |none=>rfl
  |some x=>
   simp only[kx];by_cases hk:k<zs.length
   .rw[if_pos hk,if_pos hk,getElem!_pos _ k (by simpa using hk),getElem!_pos _ k (by simpa using hk)];simp
   .rw[if_neg hk,if_neg hk]
 unfold putRow;rw[this]
theorem jx3{w:World}{g:Nat}{zs:List Int}(h:Holds id w g 0 (zs.map (Value.int .i64)).toArray):Holds (Value.int .i64) w g 0 zs.toArray:=by
 intro j hj;have eJ:j<zs.length:=by simpa using hj
 have:=h j (by simpa using eJ);refine⟨this.1.trans ?_,this.2⟩;rw[getElem!_pos _ j (by simpa using eJ),getElem!_pos _ j hj];simp
theorem Kk(zs:List Int):(zs.map (encT (.int .i64))).flatten=zs.map (Value.int .i64):=by
 induction zs with
 |nil=>rfl
 |cons z zs ih=>simp only[kr,q7,ih];rfl
variable{P:Program}{ρ:Go.Shelf.Ren}
theorem jve(L:Go.Proofs.SlLaysM.n5 P ρ)(e:Nat)(he:isM e=false)(f:Nat)(hf:f=ρ.f 5) :
  Con.OK P ⟨f,[.rl e (.list (.int .i64))],[.list (.int .i64)],⟨[],[.rl (.list (.int .i64))]⟩,[.list (.int .i64)],xJ⟩:=by
 subst hf;intro args R k r hk;unfold Con.C at hk;split at hk
 rotate_left
 .simp at hk
 rename_i h hu;rw[FX hu];clear hu
 obtain⟨ys,gl,Kg⟩:∃ys,xJ h=some ys/\k (qA ⟨[],[.rl (.list (.int .i64))]⟩ [.list (.int .i64)] ys)=some r:=by
  cases hs:xJ h with
  |none=>simp only[hs,Option.bind_none]at hk;exact absurd hk (by simp)
  |some ys=>simp only[hs,j3]at hk;exact⟨ys,rfl,hk⟩
 clear hk;refine⟨?_,?_⟩
 .obtain⟨nm,hn,pK⟩:=L.f5;exact⟨_,pK,rfl,hn⟩
 intro w S vals hA dy hS;have hA:All2 (mV S w) [.rl e ⟨.list (.int .i64),h⟩] vals:=hA
 obtain⟨u0,rfl⟩:∃u0,vals=[u0]:=by
  match vals,hA with
  |[u0],_=>exact⟨u0,rfl⟩
 obtain⟨⟨a',xs,hx,qH,aY⟩,_⟩:=hA
 obtain⟨css,cF,ar⟩:∃css,w.ownsRow 0 e a'.size u0 xs.length css.flatten/\All2 (λx c=>Rep S w a' x c) xs css:=by
  rcases qH with⟨_,css,h1,h2⟩|⟨h1,_⟩
  .exact⟨css,h1,h2⟩
  .rw[he]at h1;simp at h1
 obtain⟨rfl,hx⟩:Ty.int .i64=a'/\HEq h xs:=by have h1:=ji TV.t hx;simp only[Ty.list.injEq]at h1;subst h1;refine⟨rfl,?_⟩;simp only[TV.mk.injEq,heq_eq_eq,qi]at hx;rw[hx]
 obtain rfl:xs=h:=(eq_of_heq hx).symm;obtain rfl:=(Dq (a:= .int .i64) rfl).1 ar;have fa:(List.map (encT (.int .i64)) xs).flatten=List.map (Value.int .i64) xs:=Kk xs;rw[fa]at cF;unfold xJ at gl;cases ia:Nat.blt (List.length xs) 4611686018427387904 with
 |false=>rw[ia]at gl;simp at gl
 |true=>
 rw[ia]at gl;simp only[j5,j4]at gl;have ia:List.length xs<4611686018427387904:=Nat.le_of_ble_eq_true ia;have lG:ys.length=List.length xs:=by rw[<-gl];exact(Ge xs).length_eq
 have qI:Calls P (ρ.f 5) #[u0] w λe' w'=>e' = .returned (.tuple #[])/\(w'=w/\xs=[]\/∃gb cap cur n os,u0 = .slice (some ⟨gb,0,none⟩) (List.length xs) cap/\w.heap[gb]? = some (.cells cur e (0,0))/\List.length xs<=cap/\cap<=maxLen/\cur.size=cap*1/\
   w'=grow (putRow id (Sort.ahead w n) gb 0 (ys.map (Value.int .i64)).toArray) os):=by
  rcases cF.2 with⟨rfl,hn⟩|⟨gb,cap,cur,rfl,_,hg,cM,xH,dG,mo⟩
  .refine(Go.Proofs.AnyM.slices_Sort_int_none L none 0 w).mono ?_
   rintro e' w' ⟨rfl,rfl⟩
   exact⟨rfl,Or.inl ⟨rfl,km.1 hn⟩⟩
  .have hH:Holds (Value.int .i64) w gb 0 (List.toArray xs):=jx3 (RO hg (by simpa[Ty.size]using mo));have hb:gb<w.heap.size:=(jm.1 hg).1;refine(Go.Proofs.AnyM.slices_Sort_int L gb 0 cap xs w hH hb ia).mono ?_
   rintro e' w' ⟨rfl,n,os,rfl⟩
   rw[jvd,gl,jA9];exact⟨rfl,Or.inr ⟨gb,cap,cur,n,os,rfl,hg,cM,xH,dG,rfl⟩⟩
 refine qI.mono ?_
 rintro e' w' ⟨rfl,hw⟩
 refine⟨_,Kg,_,S,[],rfl,?_⟩;rcases hw with⟨rfl,rfl⟩|⟨gb,cap,cur,n,os,rfl,hg,cM,xH,dG,rfl⟩
 .have gl:ys=[]:=km.1 (by simpa using lG);subst gl;refine⟨rfl,trivial,by simp[fE],by simp[fE],?_,cX.refl _ _,λg o h=>Or.inl h,hS,λg _ _=>rfl,jg _,rfl,rfl,rfl,by intro m hm;simp[qA,rvsF]at hm⟩;exact⟨⟨.int .i64,[],rfl,.inl ⟨he,[],cF,trivial⟩,aY⟩,rfl,trivial⟩
 .have hb:gb<w.heap.size:=(jm.1 hg).1;have Aq:(ys.map (Value.int .i64)).toArray.size=List.length xs:=by simp[lG]
  obtain⟨im,az,my,xI⟩:=RP (w:=Sort.ahead w n) (F:=(ys.map (Value.int .i64)).toArray) hg (by rw[Aq,dG];omega);have cH:(putRow id (Sort.ahead w n) gb 0 (ys.map (Value.int .i64)).toArray).heap.size=w.heap.size:=by simp
  have gU:∀k,k<w.heap.size->k≠gb->(grow (putRow id (Sort.ahead w n) gb 0 (ys.map (Value.int .i64)).toArray) os).heap[k]? = w.heap[k]? := λk hk ba=>
   (Gc (by rw[cH];exact hk)).trans (RQ ba)
  have eM:w.heap.size<=(grow (putRow id (Sort.ahead w n) gb 0 (ys.map (Value.int .i64)).toArray) os).heap.size:=by show w.heap.size<=((putRow id (Sort.ahead w n) gb 0 (ys.map (Value.int .i64)).toArray).heap++os).size;rw[Array.size_append,cH];omega
  have iX:∀o,¬S gb o:=aY gb rfl;refine⟨rfl,trivial,by simp[fE],by simp[fE],?_,?_,λg o h=>Or.inl h,λg o h=>qk (hS g o h) eM,?_,eM,rfl,rfl,rfl,by intro m hm;simp[qA,rvsF]at hm⟩
  .refine⟨⟨.int .i64,ys,rfl,.inl ⟨he,ys.map (encT (.int .i64)),⟨?_,Or.inr ⟨gb,cap,im,?_,kc _,?_,?_,xH,?_,?_⟩⟩,(Dq (a:= .int .i64) rfl).2 rfl⟩,aY⟩,rfl,trivial⟩
   .rw[Kk];simp[Ty.size]
   .rw[lG]
   .exact(Gc (by rw[cH];exact hb)).trans az
   .rw[lG];exact cM
   .rw[my,dG];rfl
   .rw[Kk,lG,show List.length xs*(Ty.int .i64).size=(ys.map (Value.int .i64)).toArray.size by rw[Aq];simp[Ty.size],xI]
  .intro g' o sW;refine⟨sW,?_⟩;have ba:g'≠gb:=λhe=>iX o (he▸sW);exact World.cell?_of_block (gU g' (hS g' o sW) ba)
  .intro g' sD nN;refine gU g' sD λhe=>nN ?_;subst he;simp[o5,An,argF,dX,lH,blk,ofHL]
end Go.Lft
