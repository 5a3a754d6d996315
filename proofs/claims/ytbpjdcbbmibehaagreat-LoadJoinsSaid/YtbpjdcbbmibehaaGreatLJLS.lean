/- yA.SortFunc: the kit's rR of it as a rR on plain data. -/
import Derived.Test.YtbpjdcbbmibehaaGreatLJLD
import Derived.Shelf.SlSortCmp.NoneTotal
import Derived.Shelf.SortM.Plain
import Derived.Shelf.SortM.SortNone
import Derived.Shelf.SlIterI.Sorted
import Derived.Shelf.Spec.SlicesGrow
set_option linter.unusedVariables false
namespace Go.Lft
open Go.Sort
def Ty.scal:Ty->Bool
 |.int _|.bool|.str|.unit=>true
 |.wrap a=>a.scal
 |.pair a b=>a.scal&&b.scal
 |.list _=>false
 |.arr _ _=>false
def encT:(t:Ty)->t.den->List Value
 |.int k,n=>[.int k n]
 |.bool,b=>[.bool b]
 |.str,s=>[.string s]
 |.unit,_=>[]
 |.wrap a,v=>encT a v
 |.pair a b,v=>encT a v.1++encT b v.2
 |.list _,_=>[]
 |.arr _ _,_=>[]
def ic:(t:Ty)->t.den->Bool
 |.int _,n=>decide (-1152921504606846976<=(n:Int))&&decide ((n:Int)<=1152921504606846976)
 |.bool,_=>true
 |.str,_=>true
 |.unit,_=>true
 |.wrap a,v=>ic a v
 |.pair a b,v=>ic a v.1&&ic b v.2
 |.list _,_=>true
 |.arr _ _,_=>true
theorem Hf:∀t:Ty,ic t t.dflt=true
 |.int _=>by simp[ic,Ty.dflt]
 |.bool=>rfl
 |.str=>rfl
 |.unit=>rfl
 |.wrap a=>Hf a
 |.pair a b=>by simp[ic,Ty.dflt,Hf a,Hf b]
 |.list _=>rfl
 |.arr _ _=>rfl
theorem wD{S:ay}{w:World}:∀(t:Ty)(v:t.den)(cs:List Value),t.scal=true->(Rep S w t v cs↔cs=encT t v)
 |.int _,_,_,_=>Iff.rfl
 |.bool,_,_,_=>Iff.rfl
 |.str,_,_,_=>Iff.rfl
 |.unit,_,_,_=>Iff.rfl
 |.wrap a,v,cs,h=>wD a v cs h
 |.pair a b,v,cs,h=>by
  simp only[Ty.scal,ja]at h;constructor
  .rintro⟨c1,c2,rfl,h1,h2⟩
   rw[(wD a _ _ h.1).1 h1,(wD b _ _ h.2).1 h2];rfl
  .rintro rfl
   exact⟨_,_,rfl,(wD a _ _ h.1).2 rfl,(wD b _ _ h.2).2 rfl⟩
 |.list _,_,_,h=>by simp[Ty.scal]at h
 |.arr _ _,_,_,h=>by simp[Ty.scal]at h
theorem jps(t:Ty)(v:t.den)(h:t.scal=true):(encT t v).length=t.size:=
 Rep.length (S:=λ_ _=>False) (w:=default) t v _ ((wD t v _ h).2 rfl)
theorem jxi(t:Ty)(v:t.den)(h:t.scal=true):∀u∈encT t v,u.oneCell'=true:=
 Rep.one (S:=λ_ _=>False) (w:=default) t v _ ((wD t v _ h).2 rfl)
abbrev Sml(a:Ty):Type:={ x:a.den // ic a x=true }
instance(a:Ty):Inhabited (Sml a):=⟨⟨a.dflt,Hf a⟩⟩
def smlA{a:Ty}:(xs:List a.den)->xs.all (ic a)=true->List (Sml a)
 |[],_=>[]
 |x::xs,h=>⟨x,by simp at h;exact h.1⟩::smlA xs (by simp at h ⊢;exact h.2)
theorem Hg{a:Ty}:∀(xs:List a.den)(h:xs.all (ic a)=true),(smlA xs h).map (·.1)=xs
 |[],_=>rfl
 |x::xs,h=>by simp[smlA,Hg xs]
theorem jvo{a:Ty}(xs:List a.den)(h:xs.all (ic a)=true):(smlA xs h).length=xs.length:=by
 rw[<-ka (f:=(·.1)),Hg]
noncomputable def wE(a:Ty)(cf:a.den->a.den->Int)(xs:List a.den):Option (List a.den):=
 if h:xs.all (ic a)=true/\xs.length<4611686018427387904 then
  some ((pdq (Go.Proofs.ltOf λ(x y:Sml a)=>cf x.1 y.1) (smlA xs h.1).toArray 0 (smlA xs h.1).toArray.size (Lib.bitLen (smlA xs h.1).toArray.size) true true).toList.map (·.1))
 else none
theorem T7{a:Ty}{cf:a.den->a.den->Int}(hO:SWO (Go.Proofs.ltOf λ(x y:Sml a)=>cf x.1 y.1)){xs:List a.den}(h:∀x∈xs,ic a x=true)(hl:xs.length<4611686018427387904) :
  ∃ys,wE a cf xs=some ys/\ys.Perm xs/\ys.Pairwise (λx y=>¬cf y x<0):=by
 have h1:xs.all (ic a)=true:=jq.2 h;unfold wE;rw[dif_pos ⟨h1,hl⟩];refine⟨_,rfl,?_,?_⟩
 .have hp:=(pdq_sorts (Go.Proofs.ltOf λ(x y:Sml a)=>cf x.1 y.1) hO (smlA xs h1).toArray 0 (smlA xs h1).toArray.size (Lib.bitLen (smlA xs h1).toArray.size) true true (k7 _) (jo _) (Or.inl rfl)).1;obtain⟨hs,_,hp⟩:=hp;generalize pdq (Go.Proofs.ltOf λ(x y:Sml a)=>cf x.1 y.1) (smlA xs h1).toArray 0 (smlA xs h1).toArray.size (Lib.bitLen (smlA xs h1).toArray.size) true true=d' at *;rw[<-hs]at hp;rw[Array.extract_size,hs,Array.extract_size]at hp;have:=hp.map (·.1);rwa[show (smlA xs h1).toArray.toList=smlA xs h1 from rfl,Hg]at this
 .have hp:=(pdq_sorts (Go.Proofs.ltOf λ(x y:Sml a)=>cf x.1 y.1) hO (smlA xs h1).toArray 0 (smlA xs h1).toArray.size (Lib.bitLen (smlA xs h1).toArray.size) true true (k7 _) (jo _) (Or.inl rfl));obtain⟨⟨hs,_,_⟩,hp⟩:=hp;generalize pdq (Go.Proofs.ltOf λ(x y:Sml a)=>cf x.1 y.1) (smlA xs h1).toArray 0 (smlA xs h1).toArray.size (Lib.bitLen (smlA xs h1).toArray.size) true true=d' at *;rw[List.pairwise_map,qh];intro i j hi hj dG;have bQ:i<d'.size:=by simpa using hi
  have h9:j<d'.size:=by simpa using hj
  have:=hp i j (k7 _) dG (by omega);rw[getElem!_pos d' j h9,getElem!_pos d' i bQ]at this;simpa[Go.Proofs.ltOf]using this
theorem T8{m:Nat}:∀{css:List (List Value)},(∀c∈css,c.length=m)->∀t,t<css.length*m->css.flatten[t]? = ((css[t/m]?).getD [])[t%m]?
 |[],_,t,ht=>by simp at ht
 |c::css,h,t,ht=>by
  have hc:c.length=m:=h c (by simp)
  have m0:0<m:=by
   rcases Nat.eq_zero_or_pos m with h0|h0
   .subst h0;simp at ht
   .exact h0
  by_cases ak:t<m
  .rw[ki,List.getElem?_append_left (by omega),Nat.div_eq_of_lt ak,Nat.mod_eq_of_lt ak];simp
  .have h':∀c∈css,c.length=m:=λc hc=>h c (by simp[hc]);have sv:t-m<css.length*m:=by simp only[jl,vw]at ht;omega
   rw[ki,kc (by omega),hc,T8 h' (t-m) sv];have e1:t=t-m+m:=by omega
   have e2:t/m=(t-m)/m+1:=(jj (· / m) e1).trans (Nat.add_div_right _ m0);have e3:t%m=(t-m)%m:=(jj (· % m) e1).trans (Nat.add_mod_right _ _);rw[e2,e3,yc]
theorem T9{α:Type}(enc:α->List Value):∀xs:List α,All2 (λx c=>c=enc x) xs (xs.map enc)
 |[]=>trivial
 |x::xs=>⟨rfl,T9 enc xs⟩
theorem Ua{α:Type}[Inhabited α](enc:α->List Value)(k:Nat)(hk:∀x,(enc x).length=k)(d:Array α):(flatK enc k d).toList=(d.toList.map enc).flatten:=by
 have hl:(d.toList.map enc).flatten.length=d.size*k:=by have:=All2.flatten_length (R:=λx c=>c=enc x) (n:=k) (λx c h=>by rw[h,hk]) (xs:=d.toList) (css:=d.toList.map enc) (T9 enc _);simpa using this
 refine zm λt=>?_;by_cases ht:t<d.size*k
 .rw[T8 (m:=k) (by simpa using λx _=>hk x) t (by simpa using ht)]
  have k0:0<k:=by
   rcases Nat.eq_zero_or_pos k with h0|h0
   .subst h0;simp at ht
   .exact h0
  have hd:t/k<d.size:=Nat.div_lt_of_lt_mul (by rw[Nat.mul_comm];exact ht);have hm:t%k<k:=Nat.mod_lt _ k0;have:=get_flatK enc k d t ht;rw[getElem!_pos _ t (by rw[size_flatK];exact ht)]at this;rw[kz,jr (by rw[size_flatK];exact ht),this,getElem!_pos d _ hd];simp only[qf,kz,jr hd,ko,vb];rw[getElem!_pos _ _ (by rw[hk];exact hm),jk (by rw[hk];exact hm)]
 .rw[qk (by rw[qd,size_flatK];omega),qk (by omega)]
theorem Ub{w:World}{g:Nat}{cur F:Array Value}{e:Nat}(hg:w.heap[g]? = some (.cells cur e (0,0)))(ht:cur.toList.take F.size=F.toList):Holds id w g 0 F:=by
 intro j hj
 have h1:cur[j]? = some F[j]:=by
  have:(cur.toList.take F.size)[j]? = F.toList[j]? := by rw[ht]
  rw[List.getElem?_take_of_lt hj,kz,kz,jr hj]at this;exact this
 refine⟨?_,?_⟩
 .simp only[World.cell?,hg,k9];rw[getElem!_pos F j hj];simpa using h1
 .simp[World.frozen?,hg]
theorem Uc{w:World}{g:Nat}{cur F:Array Value}{e:Nat}(hg:w.heap[g]? = some (.cells cur e (0,0)))(hF:F.size<=cur.size) :
  ∃iB,(putRow id w g 0 F).heap[g]? = some (.cells iB e (0,0))/\iB.size=cur.size/\iB.toList.take F.size=F.toList:=by
 refine⟨putCells id 0 F cur,?_,?_,?_⟩
 .unfold putRow mapBlock;simp only[Array.getElem?_modify,if_true,hg,ko,onCells]
 .simp[putCells]
 .refine zm λt=>?_;by_cases ht:t<F.size
  .rw[List.getElem?_take_of_lt ht,kz,kz];simp only[putCells,Array.getElem?_mapIdx];rw[jr (show t<cur.size by omega),jr ht];simp only[ko,k7,q9,k9,ht,if_true,Nat.sub_zero,id];rw[getElem!_pos F t ht]
  .rw[List.getElem?_take_eq_none (by omega),qk (by simpa using ht)]
theorem Ud{w:World}{g k:Nat}{F:Array Value}(h:k≠g):(putRow id w g 0 F).heap[k]? = w.heap[k]? := by
 unfold putRow mapBlock;simp only[Array.getElem?_modify,Ne.symm h,z6]
theorem Hh{w:World}{os:Array Obj}{k:Nat}(h:k<w.heap.size):(grow w os).heap[k]? = w.heap[k]? := by
 simp only[grow];exact Array.getElem?_append_left h
theorem DK{a:Ty}{S:ay}{w:World}(ha:a.scal=true):∀{xs:List a.den}{css:List (List Value)},All2 (λx c=>Rep S w a x c) xs css↔css=xs.map (encT a)
 |[],[]=>by simp[All2]
 |x::xs,c::css=>by
  simp only[All2,jz,vi];exact and_congr (wD a x c ha) (DK ha)
 |[],_::_=>by simp[All2]
 |_::_,[]=>by simp[All2]
variable{P:Program}{ρ:Go.Shelf.Ren}
theorem Ue(L:Go.Proofs.SlLaysF0.n6 P ρ)(a:Ty)(ha:a.scal=true)(e:Nat)(he:isM e=false)(aE:∀w,(isAgg (ρ.t 24)).run P w = .ok true w)(zE:∀w,(Go.sizeOf (ρ.t 24)).run P w = .ok a.size w)(cf:a.den->a.den->Int)(g:Nat)
  (eg:∀args w,(callFunc g args).run P w = .ok (.enter g args) w)
  (Mf:∀(x y:a.den)(w:World),ic a x=true->ic a y=true->Calls P g #[.agg (encT a x).toArray,.agg (encT a y).toArray] w λe w'=>e = .returned (.int .i64 (cf x y))/\∃q pS,w'=grow (w.drewN q) pS)
  (hO:SWO (Go.Proofs.ltOf λ(x y:Sml a)=>cf x.1 y.1))(f:Nat)(hf:f=ρ.f 6) :
  Con.OK P ⟨f,[.rl e (.list a),.clo g []],[.list a],⟨[],[.rl (.list a)]⟩,[.list a],wE a cf⟩:=by
 subst hf;intro args R k r hk;unfold Con.C at hk;split at hk
 rotate_left
 .simp at hk
 rename_i h hu;rw[G0 hu];clear hu
 obtain⟨ys,gN,Mg⟩:∃ys,wE a cf h=some ys/\k (nM ⟨[],[.rl (.list a)]⟩ [.list a] ys)=some r:=by
  cases hs:wE a cf h with
  |none=>simp only[hs,Option.bind_none]at hk;exact absurd hk (by simp)
  |some ys=>simp only[hs,j3]at hk;exact⟨ys,rfl,hk⟩
 clear hk;refine⟨?_,?_⟩
 .obtain⟨nm,hn,lV⟩:=L.f6;exact⟨_,lV,rfl,hn⟩
 intro w S vals hA dv hS;have hA:All2 (nk S w) [.rl e ⟨.list a,h⟩,.clo g []] vals:=hA
 obtain⟨u0,u1,rfl⟩:∃u0 u1,vals=[u0,u1]:=by
  match vals,hA with
  |[u0,u1],_=>exact⟨u0,u1,rfl⟩
 obtain⟨⟨a',xs,hx,iG,aH⟩,⟨cv,rfl,iV⟩,_⟩:=hA
 obtain⟨css,bJ,al⟩:∃css,w.ownsRow 0 e a'.size u0 xs.length css.flatten/\All2 (λx c=>Rep S w a' x c) xs css:=by
  rcases iG with⟨_,css,h1,h2⟩|⟨h1,_⟩
  .exact⟨css,h1,h2⟩
  .rw[he]at h1;simp at h1
 obtain⟨rfl,hx⟩:a=a'/\HEq h xs:=by have h1:=jj TV.t hx;simp only[Ty.list.injEq]at h1;subst h1;refine⟨rfl,?_⟩;simp only[TV.mk.injEq,heq_eq_eq,q9]at hx;rw[hx]
 obtain rfl:xs=h:=(eq_of_heq hx).symm
 have Mh:cv = #[]:=by
  match hh:cv.toList,iV with
  |[],_=>exact zh.1 hh
 subst Mh;obtain rfl:=(DK ha).1 al;unfold wE at gN;split at gN
 rotate_left
 .simp at gN
 rename_i pZ;have eA:=Hg xs pZ.1;have hlen:=jvo xs pZ.1;generalize smlA xs pZ.1=sm at gN eA hlen;have sy:=(pdq_sorts (Go.Proofs.ltOf λ(x y:Sml a)=>cf x.1 y.1) hO sm.toArray 0 sm.toArray.size (Lib.bitLen sm.toArray.size) true true (k7 _) (jo _) (Or.inl rfl)).1.1
 have rS:Calls P (ρ.f 6) #[u0,.func (.func g) #[] #[]] w λe' w'=>e' = .returned (.tuple #[])/\(w'=w/\xs=[]\/∃gb cap cur n os,u0 = .slice (some ⟨gb,0,none⟩) xs.length cap/\w.heap[gb]? = some (.cells cur e (0,0))/\xs.length<=cap/\cap<=maxLen/\cur.size=cap*a.size/\
   w'=Go.Proofs.sortWorldK (λ(x:Sml a)=>encT a x.1) a.size w gb 0 n (pdq (Go.Proofs.ltOf λ(x y:Sml a)=>cf x.1 y.1) sm.toArray 0 sm.toArray.size (Lib.bitLen sm.toArray.size) true true) os):=by
  rcases bJ.2 with⟨rfl,hn⟩|⟨gb,cap,cur,rfl,_,hg,df,tF,dF,jZ⟩
  .refine(Go.Proofs.AnyF.slices_SortFunc_none L none 0 (.func (.func g) #[] #[]) w).mono ?_
   rintro e' w' ⟨rfl,rfl⟩
   exact⟨rfl,Or.inl ⟨rfl,zj.1 hn⟩⟩
  .have bH:sm.toArray.size=xs.length:=by simpa using hlen
   have fC:=Ua (λ(x:Sml a)=>encT a x.1) a.size (λx=>jps a x.1 ha) sm.toArray;have uw:(flatK (λ(x:Sml a)=>encT a x.1) a.size sm.toArray).toList=(xs.map (encT a)).flatten:=by rw[fC,<-eA,List.map_map];rfl
   have hH:HoldsK (λ(x:Sml a)=>encT a x.1) a.size w gb 0 sm.toArray:=Ub hg (by rw[size_flatK,bH,uw];exact jZ);have hb:gb<w.heap.size:=(je.1 hg).1
   have:=Go.Proofs.AnyQ.slices_SortFunc_eq L a.size aE zE (λ(x:Sml a)=>encT a x.1) (λx=>jps a x.1 ha) (λx=>jxi a x.1 ha) (λx y=>cf x.1 y.1) hO g #[] gb 0 cap sm.toArray w eg
    (λm os dk _ x y=>Mf x.1 y.1 _ x.2 y.2) hH hb (by omega)
   rw[bH]at this ⊢;refine this.mono ?_
   rintro e' w' ⟨rfl,n,os,rfl⟩
   exact⟨rfl,Or.inr ⟨gb,cap,cur,n,os,rfl,hg,df,tF,dF,rfl⟩⟩
 refine rS.mono ?_
 rintro e' w' ⟨rfl,hw⟩
 refine⟨_,Mg,_,S,[],rfl,?_⟩;simp only[j4]at gN;rcases hw with⟨rfl,rfl⟩|⟨gb,cap,cur,n,os,rfl,hg,df,tF,dF,rfl⟩
 ·-- nothing to sort
  obtain rfl:sm=[]:=by simpa using hlen
  have gN:ys=[]:=by rw[<-gN];have:(pdq (Go.Proofs.ltOf λ(x y:Sml a)=>cf x.1 y.1) (#[]:Array (Sml a)) 0 0 (Lib.bitLen 0) true true).size=0:=sy;rw[List.map_eq_nil_iff];exact zh.2 (Array.size_eq_zero_iff.1 this)
  subst gN;refine⟨rfl,trivial,by simp[fI],by simp[fI],?_,dz.refl _ _,λg o h=>Or.inl h,hS,λg _ _=>rfl,jo _,rfl,rfl,rfl,by intro n s hm;simp[nM,rvsF]at hm,by intro m hm;simp[nM,rvsF]at hm⟩;exact⟨⟨a,[],rfl,.inl ⟨he,[],bJ,trivial⟩,aH⟩,rfl,trivial⟩
 .generalize pdq (Go.Proofs.ltOf λ(x y:Sml a)=>cf x.1 y.1) sm.toArray 0 sm.toArray.size (Lib.bitLen sm.toArray.size) true true=d' at gN sy
  have bH:sm.toArray.size=xs.length:=by simpa using hlen
  have AH:d'.size=xs.length:=by rw[sy,bH]
  have fC:=Ua (λ(x:Sml a)=>encT a x.1) a.size (λx=>jps a x.1 ha) d';have uw:(flatK (λ(x:Sml a)=>encT a x.1) a.size d').toList=(List.map (encT a) ys).flatten:=by rw[fC,<-gN,List.map_map];rfl
  have mE:ys.length=xs.length:=by rw[<-gN];simpa using AH
  have hb:gb<w.heap.size:=(je.1 hg).1;have Bb:(flatK (λ(x:Sml a)=>encT a x.1) a.size d').size=xs.length*a.size:=by rw[size_flatK,AH]
  obtain⟨iB,ah,nK,yB⟩:=Uc (w:=Sort.ahead w n) (F:=flatK (λ(x:Sml a)=>encT a x.1) a.size d') hg (by rw[Bb,dF];exact jv _ df);have cY:(putRow id (Sort.ahead w n) gb 0 (flatK (λ(x:Sml a)=>encT a x.1) a.size d')).heap.size=w.heap.size:=by simp
  have iJ:∀k,k<w.heap.size->k≠gb->(Go.Proofs.sortWorldK (λ(x:Sml a)=>encT a x.1) a.size w gb 0 n d' os).heap[k]? = w.heap[k]? := λk hk aN=>
   (Hh (by show k<(putRow id (Sort.ahead w n) gb 0 (flatK (λ(x:Sml a)=>encT a x.1) a.size d')).heap.size;rw[cY];exact hk)).trans (Ud aN)
  have eQ:w.heap.size<=(Go.Proofs.sortWorldK (λ(x:Sml a)=>encT a x.1) a.size w gb 0 n d' os).heap.size:=by show w.heap.size<=((putRow id (Sort.ahead w n) gb 0 (flatK (λ(x:Sml a)=>encT a x.1) a.size d')).heap++os).size;rw[Array.size_append,cY];omega
  have gL:∀o,¬S gb o:=aH gb rfl;refine⟨rfl,trivial,by simp[fI],by simp[fI],?_,?_,λg o h=>Or.inl h,λg o h=>qc (hS g o h) eQ,?_,eQ,rfl,rfl,rfl,by intro n s hm;simp[nM,rvsF]at hm,by intro m hm;simp[nM,rvsF]at hm⟩
  .refine⟨⟨a,ys,rfl,.inl ⟨he,ys.map (encT a),⟨?_,Or.inr ⟨gb,cap,iB,?_,k7 _,?_,?_,tF,?_,?_⟩⟩,(DK ha).2 rfl⟩,aH⟩,rfl,trivial⟩
   .rw[<-uw,qd,Bb,mE]
   .rw[mE]
   .exact(Hh (by show gb<(putRow id (Sort.ahead w n) gb 0 (flatK (λ(x:Sml a)=>encT a x.1) a.size d')).heap.size;rw[cY];exact hb)).trans ah
   .rw[mE];exact df
   .rw[nK,dF]
   .rw[mE,<-Bb,yB,uw]
  .intro g' o ua;refine⟨ua,?_⟩;have aN:g'≠gb:=λhe=>gL o (he▸ua);exact World.cell?_of_block (iJ g' (hS g' o ua) aN)
  .intro g' iz ej;refine iJ g' iz λhe=>ej ?_;subst he;simp[pY,AZ,argF,dR,jW,blk,ofHL,APat.n]
theorem Hi{α:Type}(key:α->Int)(hk:∀x, -1152921504606846976<=key x/\key x<=1152921504606846976)(cf:α->α->Int)(h:∀x y,cf x y=w64 (key x-key y)):SWO (Go.Proofs.ltOf cf):=by
 have e:∀x y,Go.Proofs.ltOf cf x y=decide (key x<key y):=by intro x y;have h1:=hk x;have h2:=hk y;have:w64 (key x-key y)=key x-key y:=aj (by omega) (by omega);simp only[Go.Proofs.ltOf,h,this];congr 1;exact propext ⟨λh=>by omega,λh=>by omega⟩
 refine⟨λx=>?_,λx y z=>?_,λx y z=>?_⟩
 .rw[e];simp
 .rw[e,e,e];simp only[jh];omega
 .rw[e,e,e];simp only[kj];omega
open Go.Sort
def yC(xs:List Int):Option (List Int):=cond (Nat.blt xs.length 4611686018427387904) (some (mU xs)) none
theorem insI_perm(x:Int):∀l:List Int,(insI x l).Perm (x::l)
 |[]=>List.Perm.refl _
 |y::ys=>by
  unfold insI;cases decide (x<=y) with
  |true=>exact List.Perm.refl _
  |false=>exact((insI_perm x ys).cons y).trans (List.Perm.swap x y ys)
theorem isortI_perm:∀l:List Int,(mU l).Perm l
 |[]=>List.Perm.refl _
 |x::xs=>(insI_perm x _).trans ((isortI_perm xs).cons x)
theorem Uf(x:Int):∀l:List Int,l.Pairwise (· <= ·)->(insI x l).Pairwise (· <= ·)
 |[],_=>yd _ _
 |y::ys,h=>by
  have hc:=kx.1 h;unfold insI;cases hd:decide (x<=y) with
  |true=>
   have hd:=qg hd;refine kx.2 ⟨λz hz=>?_,h⟩;rcases jc.1 hz with rfl|hz
   .exact hd
   .have:=hc.1 z hz;omega
  |false=>
   have hd:=of_decide_eq_false hd;refine kx.2 ⟨λz hz=>?_,Uf x ys hc.2⟩;rcases jc.1 ((insI_perm x ys).mem_iff.1 hz) with rfl|hz
   .omega
   .exact hc.1 z hz
theorem Mi:∀l:List Int,(mU l).Pairwise (· <= ·)
 |[]=>List.Pairwise.nil
 |x::xs=>Uf x _ (Mi xs)
theorem Ug(xs:List Int):(xs.mergeSort λx y=>decide (x<=y))=mU xs:=by
 refine List.Perm.eq_of_pairwise (le:=(· <= ·)) (λa b _ _ h1 h2=>Int.le_antisymm h1 h2) ?_ (Mi xs) ((List.mergeSort_perm _ _).trans (isortI_perm xs).symm);have:=List.pairwise_mergeSort (le:=λx y:Int=>decide (x<=y)) (λa b c h1 h2=>by simp at h1 h2 ⊢;omega) (λa b=>by simp;omega) xs;exact this.imp (λh=>by simpa using h)
theorem jvp{xs:List Int}(h:xs.length<4611686018427387904):∃ys,yC xs=some ys/\ys.Perm xs/\ys.Pairwise (· <= ·):=by
 unfold yC;rw[show Nat.blt xs.length 4611686018427387904=true from Nat.ble_eq_true_of_le h];exact⟨_,rfl,isortI_perm xs,Mi xs⟩
theorem jyt(w:World)(g:Nat)(zs:List Int):putRow (Value.int .i64) w g 0 zs.toArray=putRow id w g 0 (zs.map (Value.int .i64)).toArray:=by
 have:putCells (Value.int .i64) 0 zs.toArray=putCells id 0 (zs.map (Value.int .i64)).toArray:=by
  funext c
  unfold putCells;refine Array.ext_getElem? λk=>?_;simp only[Array.getElem?_mapIdx,k7,q9,k9,Nat.sub_zero,v7,ka,id];cases c[k]? with
  |none=>rfl
  |some x=>
   simp only[ko];by_cases hk:k<zs.length
   .rw[if_pos hk,if_pos hk,getElem!_pos _ k (by simpa using hk),getElem!_pos _ k (by simpa using hk)];simp
   .rw[if_neg hk,if_neg hk]
 unfold putRow;rw[this]
theorem jvq{w:World}{g:Nat}{zs:List Int}(h:Holds id w g 0 (zs.map (Value.int .i64)).toArray):Holds (Value.int .i64) w g 0 zs.toArray:=by
 intro j hj;have h9:j<zs.length:=by simpa using hj
 have:=h j (by simpa using h9);refine⟨this.1.trans ?_,this.2⟩;rw[getElem!_pos _ j (by simpa using h9),getElem!_pos _ j hj];simp
theorem Mj(zs:List Int):(zs.map (encT (.int .i64))).flatten=zs.map (Value.int .i64):=by
 induction zs with
 |nil=>rfl
 |cons z zs ih=>simp only[jz,ki,ih];rfl
variable{P:Program}{ρ:Go.Shelf.Ren}
theorem jtC(L:Go.Proofs.SlLaysM.n5 P ρ)(e:Nat)(he:isM e=false)(f:Nat)(hf:f=ρ.f 5) :
  Con.OK P ⟨f,[.rl e (.list (.int .i64))],[.list (.int .i64)],⟨[],[.rl (.list (.int .i64))]⟩,[.list (.int .i64)],yC⟩:=by
 subst hf;intro args R k r hk;unfold Con.C at hk;split at hk
 rotate_left
 .simp at hk
 rename_i h hu;rw[G0 hu];clear hu
 obtain⟨ys,gN,Mg⟩:∃ys,yC h=some ys/\k (nM ⟨[],[.rl (.list (.int .i64))]⟩ [.list (.int .i64)] ys)=some r:=by
  cases hs:yC h with
  |none=>simp only[hs,Option.bind_none]at hk;exact absurd hk (by simp)
  |some ys=>simp only[hs,j3]at hk;exact⟨ys,rfl,hk⟩
 clear hk;refine⟨?_,?_⟩
 .obtain⟨nm,hn,lV⟩:=L.f5;exact⟨_,lV,rfl,hn⟩
 intro w S vals hA dv hS;have hA:All2 (nk S w) [.rl e ⟨.list (.int .i64),h⟩] vals:=hA
 obtain⟨u0,rfl⟩:∃u0,vals=[u0]:=by
  match vals,hA with
  |[u0],_=>exact⟨u0,rfl⟩
 obtain⟨⟨a',xs,hx,iG,aH⟩,_⟩:=hA
 obtain⟨css,bJ,al⟩:∃css,w.ownsRow 0 e a'.size u0 xs.length css.flatten/\All2 (λx c=>Rep S w a' x c) xs css:=by
  rcases iG with⟨_,css,h1,h2⟩|⟨h1,_⟩
  .exact⟨css,h1,h2⟩
  .rw[he]at h1;simp at h1
 obtain⟨rfl,hx⟩:Ty.int .i64=a'/\HEq h xs:=by have h1:=jj TV.t hx;simp only[Ty.list.injEq]at h1;subst h1;refine⟨rfl,?_⟩;simp only[TV.mk.injEq,heq_eq_eq,q9]at hx;rw[hx]
 obtain rfl:xs=h:=(eq_of_heq hx).symm;obtain rfl:=(DK (a:= .int .i64) rfl).1 al;have fC:(List.map (encT (.int .i64)) xs).flatten=List.map (Value.int .i64) xs:=Mj xs;rw[fC]at bJ;unfold yC at gN;cases pZ:Nat.blt (List.length xs) 4611686018427387904 with
 |false=>rw[pZ]at gN;simp at gN
 |true=>
 rw[pZ]at gN;simp only[j5,j4]at gN;have pZ:List.length xs<4611686018427387904:=ql pZ;have mE:ys.length=List.length xs:=by rw[<-gN];exact(isortI_perm xs).length_eq
 have rS:Calls P (ρ.f 5) #[u0] w λe' w'=>e' = .returned (.tuple #[])/\(w'=w/\xs=[]\/∃gb cap cur n os,u0 = .slice (some ⟨gb,0,none⟩) (List.length xs) cap/\w.heap[gb]? = some (.cells cur e (0,0))/\List.length xs<=cap/\cap<=maxLen/\cur.size=cap*1/\
   w'=grow (putRow id (Sort.ahead w n) gb 0 (ys.map (Value.int .i64)).toArray) os):=by
  rcases bJ.2 with⟨rfl,hn⟩|⟨gb,cap,cur,rfl,_,hg,df,tF,dF,jZ⟩
  .refine(Go.Proofs.AnyM.slices_Sort_int_none L none 0 w).mono ?_
   rintro e' w' ⟨rfl,rfl⟩
   exact⟨rfl,Or.inl ⟨rfl,zj.1 hn⟩⟩
  .have hH:Holds (Value.int .i64) w gb 0 (List.toArray xs):=jvq (Ub hg (by simpa[Ty.size]using jZ));have hb:gb<w.heap.size:=(je.1 hg).1;refine(Go.Proofs.AnyM.slices_Sort_int L gb 0 cap xs w hH hb pZ).mono ?_
   rintro e' w' ⟨rfl,n,os,rfl⟩
   rw[Ug,gN,jyt];exact⟨rfl,Or.inr ⟨gb,cap,cur,n,os,rfl,hg,df,tF,dF,rfl⟩⟩
 refine rS.mono ?_
 rintro e' w' ⟨rfl,hw⟩
 refine⟨_,Mg,_,S,[],rfl,?_⟩;rcases hw with⟨rfl,rfl⟩|⟨gb,cap,cur,n,os,rfl,hg,df,tF,dF,rfl⟩
 .have gN:ys=[]:=zj.1 (by simpa using mE);subst gN;refine⟨rfl,trivial,by simp[fI],by simp[fI],?_,dz.refl _ _,λg o h=>Or.inl h,hS,λg _ _=>rfl,jo _,rfl,rfl,rfl,by intro n s hm;simp[nM,rvsF]at hm,by intro m hm;simp[nM,rvsF]at hm⟩;exact⟨⟨.int .i64,[],rfl,.inl ⟨he,[],bJ,trivial⟩,aH⟩,rfl,trivial⟩
 .have hb:gb<w.heap.size:=(je.1 hg).1;have Bb:(ys.map (Value.int .i64)).toArray.size=List.length xs:=by simp[mE]
  obtain⟨iB,ah,nK,yB⟩:=Uc (w:=Sort.ahead w n) (F:=(ys.map (Value.int .i64)).toArray) hg (by rw[Bb,dF];omega);have cY:(putRow id (Sort.ahead w n) gb 0 (ys.map (Value.int .i64)).toArray).heap.size=w.heap.size:=by simp
  have iJ:∀k,k<w.heap.size->k≠gb->(grow (putRow id (Sort.ahead w n) gb 0 (ys.map (Value.int .i64)).toArray) os).heap[k]? = w.heap[k]? := λk hk aN=>
   (Hh (by rw[cY];exact hk)).trans (Ud aN)
  have eQ:w.heap.size<=(grow (putRow id (Sort.ahead w n) gb 0 (ys.map (Value.int .i64)).toArray) os).heap.size:=by show w.heap.size<=((putRow id (Sort.ahead w n) gb 0 (ys.map (Value.int .i64)).toArray).heap++os).size;rw[Array.size_append,cY];omega
  have gL:∀o,¬S gb o:=aH gb rfl;refine⟨rfl,trivial,by simp[fI],by simp[fI],?_,?_,λg o h=>Or.inl h,λg o h=>qc (hS g o h) eQ,?_,eQ,rfl,rfl,rfl,by intro n s hm;simp[nM,rvsF]at hm,by intro m hm;simp[nM,rvsF]at hm⟩
  .refine⟨⟨.int .i64,ys,rfl,.inl ⟨he,ys.map (encT (.int .i64)),⟨?_,Or.inr ⟨gb,cap,iB,?_,k7 _,?_,?_,tF,?_,?_⟩⟩,(DK (a:= .int .i64) rfl).2 rfl⟩,aH⟩,rfl,trivial⟩
   .rw[Mj];simp[Ty.size]
   .rw[mE]
   .exact(Hh (by rw[cY];exact hb)).trans ah
   .rw[mE];exact df
   .rw[nK,dF];rfl
   .rw[Mj,mE,show List.length xs*(Ty.int .i64).size=(ys.map (Value.int .i64)).toArray.size by rw[Bb];simp[Ty.size],yB]
  .intro g' o ua;refine⟨ua,?_⟩;have aN:g'≠gb:=λhe=>gL o (he▸ua);exact World.cell?_of_block (iJ g' (hS g' o ua) aN)
  .intro g' iz ej;refine iJ g' iz λhe=>ej ?_;subst he;simp[pY,AZ,argF,dR,jW,blk,ofHL]
open Go.Sort Go.Maps Go.Shelf
variable{P:Program}{ρ ρ' ρ'':Ren}
abbrev rT:Value->Option (DataW Unit×List MemPlace):=λ_=>some (.lit (.bool true),[])
theorem Uh(w:World)(o:Obj){k:Nat}(hk:k<w.heap.size):(w.alloc o).heap[k]? = w.heap[k]? := by
 show (w.heap.push o)[k]? = _;rw[Array.getElem?_push,if_neg (by omega)]
theorem jvr{w:World}{g:Nat}{es:Array MapEntry}{clock:Nat}{ks:List Int}{k:TypeId}(hk:P.underlying k=some (.int .i64))(hh:w.heap[g]? = some (.map es clock))(au:MapKept.Stamped es clock)
  (hks:es.toList.map (·.key)=ks.map (Value.int .i64))(hr:∀x∈ks, -9223372036854775808<=x/\x<=9223372036854775807)(hl:ks.length<=1000000) :
  ∃D:DataW Unit,w.ownsMap P k rT g es.size D/\ks.Perm (intKeys D)/\Maps.size D=ks.length:=by
 have ue:∀x∈es.toList,∃z,x.key = .int .i64 z/\keyOf P k x.key=some (.int .i64 z):=by intro x hx;have:x.key∈es.toList.map (·.key):=jn.2 ⟨x,hx,rfl⟩;rw[hks]at this;obtain⟨z,hz,he⟩:=jn.1 this;refine⟨z,he.symm,?_⟩;rw[<-he];exact keyOf_int_mk hk (by have:=hr z hz;simp[Lit.wf,show IntKind.i64.min = -9223372036854775808 by decide,show IntKind.i64.max=9223372036854775807 by decide];omega)
 have hlen:es.size=ks.length:=by have:=jj List.length hks;simpa using this
 refine⟨_,⟨es,clock,hh,⟨by rw[hlen];simp[maxLen];omega,au,λx hx=>?_⟩,jo _,rfl⟩,?_,?_⟩
 .obtain⟨z,_,hz⟩:=ue x hx;exact⟨(.int .i64 z,.lit (.bool true)),by simp[WideElems.rd,hz]⟩
 .have e:(es.toList.map (WideElems.rg P k rT)).map (λp=>intOf p.1)=ks:=by
   have:∀(l:List MapEntry)(ks:List Int),(∀x∈l,∃z,x.key = .int .i64 z/\keyOf P k x.key=some (.int .i64 z))->l.map (·.key)=ks.map (Value.int .i64)->(l.map (WideElems.rg P k rT)).map (λp=>intOf p.1)=ks:=by
    intro l;induction l with
    |nil=>intro ks _ h;cases ks<;>simp_all
    |cons x r ih=>
     intro ks hx h;cases ks with
     |nil=>simp at h
     |cons z q=>
      simp only[jz,vi]at h ⊢;obtain⟨z',h1,h2⟩:=hx x (by simp);refine⟨?_,ih q (λy hy=>hx y (by simp[hy])) h.2⟩;rw[h.1]at h1;have:z=z':=by simpa using h1
      subst this;simp[WideElems.rg,WideElems.rd,h2,intOf]
   exact this _ _ ue hks
  show ks.Perm (((es.toList.map (WideElems.rg P k rT)).foldr DataW.insert []).map λp=>intOf p.1);exact(e▸((WideShapes.sorted_perm _).map (λp:Lit×DataW Unit=>intOf p.1)).symm)
 .show ((es.toList.map (WideElems.rg P k rT)).foldr DataW.insert []).length=ks.length;rw[length_sorted];simp[hlen]
theorem jtD(LK:Go.Proofs.SlLaysZI.n7 P ρ)(LS:Go.Proofs.SlLaysZI.n6 P ρ')(LM:Go.Proofs.SlLaysM.n5 P ρ''){fK fS e:Nat}(hK:ρ.f 7=fK)(hS:ρ'.f 6=fS)(he:ρ'.t 26=e)(hm:ρ''.f 5=ρ'.f 9):Kv P fK fS e:=by
 subst hK;subst hS;subst he;refine⟨?_,?_,?_⟩
 .obtain⟨nm,hn,lV⟩:=LK.f7;exact⟨_,lV,rfl,hn⟩
 .obtain⟨nm,hn,lV⟩:=LS.f6;exact⟨_,lV,rfl,hn⟩
 intro w g es clock ks hh au hks hr hl;obtain⟨D,aA,DL,bH⟩:=jvr (P:=P) LK.t26 hh au hks hr hl;have sC:=aA.lt;have cK:=callsIn_wide.1 (Go.Proofs.AnyZI.keys_in LK Fence.wide 5 trivial rfl (some g) w);refine cK.mono ?_
 rintro r w1 ⟨rfl,rfl⟩
 refine⟨_,rfl,⟨λk hk=>Uh w _ hk,by simp,rfl,rfl,rfl⟩,?_⟩
 have Mk:=Go.Proofs.AnyZI.keys_gives (ρ:=ρ) { LK with } Fence.wide 2 trivial rfl (by omega) w.heap.size g es.size D (w.alloc (.cells #[.map (some g)] (ρ.t 23))) (by simp) (by simp) (by
  obtain⟨es,clock,hb,Ft,hs,hD⟩:=aA;exact⟨es,clock,(Uh w _ sC).trans hb,Ft,hs,hD⟩)
 have yD:Go.Proofs.AnyZI.SortsIn P ρ' Fence.wide 4:=by unfold Go.Proofs.AnyZI.SortsIn;rw[<-hm];exact⟨λblk off cap ss W hH hblk bH=>callsIn_wide.2 (Go.Proofs.AnyM.slices_Sort_int LM blk off cap ss W hH hblk bH),λp cap W=>callsIn_wide.2 (Go.Proofs.AnyM.slices_Sort_int_none LM p cap W)⟩
 have cS:=callsIn_wide.1 (Go.Proofs.AnyZI.sorted_in LS Fence.wide 5 trivial trivial trivial trivial rfl (by omega) yD (hm▸LM.f5.enters rfl) (ρ.f 10) #[.pointer (some ⟨w.heap.size,0,none⟩)] trivial (LK.f10.enters rfl) _ _ (by rw[bH];simp[maxLen];omega) (by rw[bH];omega) _ Mk);refine cS.mono ?_
 rintro r2 w2 ⟨v,ss,rfl,hS,bJ,fh,hb⟩
 refine⟨v,rfl,?_,⟨hb.block,hb.size,hb.os,hb.tape,hb.output⟩⟩;have hp:ss.Perm ks:=hS.trans DL.symm;rw[<-Ug ks,<-mergeSort_of_perm_i hp,<-hp.length_eq];exact bJ
open Go.Shelf
variable{P:Program}{ρ:Ren}
theorem Grew.refl(w:World):Grew w w:=⟨λ_ _=>rfl,jo _,rfl,rfl,rfl⟩
theorem jtE(L:Go.Proofs.Lays8.n4 P ρ){f e sz bt:Nat}(hf:ρ.f 4=f)(he:ρ.t 25=e)(hi:((P.info? e).map λi=>(i.zero.map λz=>z.cells.size,i.size,i.bytes))=some (some sz,sz,bt))(hs:0<sz)(hb:bt<=100000000) :
  Kw P f e sz:=by
 subst hf;subst he;cases vI:P.info? (ρ.t 25) with
 |none=>rw[vI]at hi;simp at hi
 |some i0=>
 rw[vI]at hi;cases kT:i0.zero with
 |none=>simp[kT]at hi
 |some z=>
 simp only[ko,kT,j4,j8]at hi;obtain⟨kO,Q7,tw⟩:=hi;subst Q7;subst tw;refine⟨?_,λw n h0 h1=>?_⟩
 .obtain⟨nm,hn,lV⟩:=L.f4;exact⟨_,lV,rfl,hn⟩
 obtain⟨m,rfl⟩:∃m:Nat,n=(m:Int):=⟨n.toNat,by omega⟩;have gp:m<=1000000:=by omega
 by_cases hm:m=0
 .subst hm;refine(Go.Proofs.Any8.slices_Grow_room L none 0 0 0 w (by omega) (by omega) (by omega) (by omega)).mono ?_
  rintro r w' ⟨rfl,rfl⟩
  exact⟨_,rfl,⟨by simp,.inl ⟨rfl,rfl⟩⟩,Grew.refl _⟩
 .have hbm:(0+m)*i0.bytes<=140737488355328:=by have:(0+m)*i0.bytes<=1000000*100000000:=qu (by omega) hb;omega
  refine(Go.Proofs.Any8.slices_Grow_grow L i0 z vI kT hs none 0 0 m [] w (by omega) (by omega) hbm (by omega) (by simp) (λ_=>rfl) (λa h=>by simp at h)).mono ?_
  rintro r w' ⟨rfl,rfl⟩
  have hG:=Go.grownCap_ge w (0+m) 0 (ρ.t 25);have hGm:=Go.grownCap_le_maxLen w (0+m) 0 (ρ.t 25) (by unfold maxLen;omega);generalize hGd:grownCap w (0+m) 0 (ρ.t 25)=G at *
  have cT:(w.drew.alloc (.cells (([]:List Value).toArray++Builtin.zeroCells z.cells (0+m-0)++Builtin.zeroCells z.cells (G-(0+m))) (ρ.t 25))).heap[w.heap.size]? =
    some (.cells (([]:List Value).toArray++Builtin.zeroCells z.cells (0+m-0)++Builtin.zeroCells z.cells (G-(0+m))) (ρ.t 25) (0,0)):=by
   show (w.heap.push _)[w.heap.size]? = _;rw[Array.getElem?_push_size]
  have bH:(([]:List Value).toArray++Builtin.zeroCells z.cells (0+m-0)++Builtin.zeroCells z.cells (G-(0+m))).size=G*i0.size:=by
   have hq:∀k,(Builtin.zeroCells z.cells k).size=k*i0.size:=λk=>by simp[Builtin.zeroCells,kO]
   simp only[Array.size_append,hq,v7,qq,k9,Nat.sub_zero];rw[<-Nat.add_mul];congr 1;omega
  refine⟨_,rfl,⟨by simp,.inr ⟨w.heap.size,G,_,rfl,jo _,cT,k7 _,hGm,bH,by simp⟩⟩,⟨λk hk=>?_,?_,rfl,rfl,rfl⟩⟩
  .show (w.heap.push _)[k]? = _;rw[Array.getElem?_push,if_neg (by omega)]
  .show w.heap.size<=(w.heap.push _).size;simp
end Go.Lft
