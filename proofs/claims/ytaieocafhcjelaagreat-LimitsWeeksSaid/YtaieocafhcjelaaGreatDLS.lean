/- xy.SortFunc: the kit's qF of it as a qF on plain data. -/
import Derived.Test.YtaieocafhcjelaaGreatDLD
import Derived.Shelf.SlSortCmp.NoneTotal
import Derived.Shelf.SortM.Plain
import Derived.Shelf.SortM.SortNone
set_option linter.unusedVariables false
namespace Go.Lft
open Go.Sort
def Ty.scal:Ty->Bool
 |.int _|.bool|.str|.unit=>true
 |.wrap a=>a.scal
 |.pair a b=>a.scal&&b.scal
 |.list _=>false
 |.arr _ _=>false
def encT:(t:Ty)->t.den->List Value
 |.int k,n=>[.int k n]
 |.bool,b=>[.bool b]
 |.str,s=>[.string s]
 |.unit,_=>[]
 |.wrap a,v=>encT a v
 |.pair a b,v=>encT a v.1++encT b v.2
 |.list _,_=>[]
 |.arr _ _,_=>[]
def fG:(t:Ty)->t.den->Bool
 |.int _,n=>decide (-1152921504606846976<=(n:Int))&&decide ((n:Int)<=1152921504606846976)
 |.bool,_=>true
 |.str,_=>true
 |.unit,_=>true
 |.wrap a,v=>fG a v
 |.pair a b,v=>fG a v.1&&fG b v.2
 |.list _,_=>true
 |.arr _ _,_=>true
theorem FY:∀t:Ty,fG t t.dflt=true
 |.int _=>by simp[fG,Ty.dflt]
 |.bool=>rfl
 |.str=>rfl
 |.unit=>rfl
 |.wrap a=>FY a
 |.pair a b=>by simp[fG,Ty.dflt,FY a,FY b]
 |.list _=>rfl
 |.arr _ _=>rfl
theorem vu{S:aD}{w:World}:∀(t:Ty)(v:t.den)(cs:List Value),t.scal=true->(Rep S w t v cs↔cs=encT t v)
 |.int _,_,_,_=>Iff.rfl
 |.bool,_,_,_=>Iff.rfl
 |.str,_,_,_=>Iff.rfl
 |.unit,_,_,_=>Iff.rfl
 |.wrap a,v,cs,h=>vu a v cs h
 |.pair a b,v,cs,h=>by
  simp only[Ty.scal,jb]at h;constructor
  .rintro⟨c1,c2,rfl,h1,h2⟩
   rw[(vu a _ _ h.1).1 h1,(vu b _ _ h.2).1 h2];rfl
  .rintro rfl
   exact⟨_,_,rfl,(vu a _ _ h.1).2 rfl,(vu b _ _ h.2).2 rfl⟩
 |.list _,_,_,h=>by simp[Ty.scal]at h
 |.arr _ _,_,_,h=>by simp[Ty.scal]at h
theorem J4(t:Ty)(v:t.den)(h:t.scal=true):(encT t v).length=t.size:=
 Rep.length (S:=λ_ _=>False) (w:=default) t v _ ((vu t v _ h).2 rfl)
theorem jyC(t:Ty)(v:t.den)(h:t.scal=true):∀u∈encT t v,u.oneCell'=true:=
 Rep.one (S:=λ_ _=>False) (w:=default) t v _ ((vu t v _ h).2 rfl)
abbrev Sml(a:Ty):Type:={ x:a.den // fG a x=true }
instance(a:Ty):Inhabited (Sml a):=⟨⟨a.dflt,FY a⟩⟩
def smlA{a:Ty}:(xs:List a.den)->xs.all (fG a)=true->List (Sml a)
 |[],_=>[]
 |x::xs,h=>⟨x,by simp at h;exact h.1⟩::smlA xs (by simp at h ⊢;exact h.2)
theorem FZ{a:Ty}:∀(xs:List a.den)(h:xs.all (fG a)=true),(smlA xs h).map (·.1)=xs
 |[],_=>rfl
 |x::xs,h=>by simp[smlA,FZ xs]
theorem jwQ{a:Ty}(xs:List a.den)(h:xs.all (fG a)=true):(smlA xs h).length=xs.length:=by
 rw[<-kn (f:=(·.1)),FZ]
noncomputable def tt(a:Ty)(cf:a.den->a.den->Int)(xs:List a.den):Option (List a.den):=
 if h:xs.all (fG a)=true/\xs.length<4611686018427387904 then
  some ((pdq (Go.Proofs.ltOf λ(x y:Sml a)=>cf x.1 y.1) (smlA xs h.1).toArray 0 (smlA xs h.1).toArray.size (Lib.bitLen (smlA xs h.1).toArray.size) true true).toList.map (·.1))
 else none
theorem J5{a:Ty}{cf:a.den->a.den->Int}(hO:SWO (Go.Proofs.ltOf λ(x y:Sml a)=>cf x.1 y.1)){xs:List a.den}(h:∀x∈xs,fG a x=true)(hl:xs.length<4611686018427387904) :
  ∃ys,tt a cf xs=some ys/\ys.Perm xs/\ys.Pairwise (λx y=>¬cf y x<0):=by
 have h1:xs.all (fG a)=true:=k5.2 h;unfold tt;rw[dif_pos ⟨h1,hl⟩];refine⟨_,rfl,?_,?_⟩
 .have hp:=(pdq_sorts (Go.Proofs.ltOf λ(x y:Sml a)=>cf x.1 y.1) hO (smlA xs h1).toArray 0 (smlA xs h1).toArray.size (Lib.bitLen (smlA xs h1).toArray.size) true true (kc _) (jj _) (Or.inl rfl)).1;obtain⟨hs,_,hp⟩:=hp;generalize pdq (Go.Proofs.ltOf λ(x y:Sml a)=>cf x.1 y.1) (smlA xs h1).toArray 0 (smlA xs h1).toArray.size (Lib.bitLen (smlA xs h1).toArray.size) true true=d' at *;rw[<-hs]at hp;rw[Array.extract_size,hs,Array.extract_size]at hp;have:=hp.map (·.1);rwa[show (smlA xs h1).toArray.toList=smlA xs h1 from rfl,FZ]at this
 .have hp:=(pdq_sorts (Go.Proofs.ltOf λ(x y:Sml a)=>cf x.1 y.1) hO (smlA xs h1).toArray 0 (smlA xs h1).toArray.size (Lib.bitLen (smlA xs h1).toArray.size) true true (kc _) (jj _) (Or.inl rfl));obtain⟨⟨hs,_,_⟩,hp⟩:=hp;generalize pdq (Go.Proofs.ltOf λ(x y:Sml a)=>cf x.1 y.1) (smlA xs h1).toArray 0 (smlA xs h1).toArray.size (Lib.bitLen (smlA xs h1).toArray.size) true true=d' at *;rw[List.pairwise_map,kx];intro i j hi hj dG;have bF:i<d'.size:=by simpa using hi
  have ez:j<d'.size:=by simpa using hj
  have:=hp i j (kc _) dG (by omega);rw[getElem!_pos d' j ez,getElem!_pos d' i bF]at this;simpa[Go.Proofs.ltOf]using this
theorem Rv{m:Nat}:∀{css:List (List Value)},(∀c∈css,c.length=m)->∀t,t<css.length*m->css.flatten[t]? = ((css[t/m]?).getD [])[t%m]?
 |[],_,t,ht=>by simp at ht
 |c::css,h,t,ht=>by
  have hc:c.length=m:=h c (by simp)
  have m0:0<m:=by
   rcases Nat.eq_zero_or_pos m with h0|h0
   .subst h0;simp at ht
   .exact h0
  by_cases an:t<m
  .rw[ky,List.getElem?_append_left (by omega),Nat.div_eq_of_lt an,Nat.mod_eq_of_lt an];simp
  .have h':∀c∈css,c.length=m:=λc hc=>h c (by simp[hc]);have rC:t-m<css.length*m:=by simp only[jl,v8]at ht;omega
   rw[ky,k7 (by omega),hc,Rv h' (t-m) rC];have e1:t=t-m+m:=by omega
   have e2:t/m=(t-m)/m+1:=(jh (· / m) e1).trans (Nat.add_div_right _ m0);have e3:t%m=(t-m)%m:=(jh (· % m) e1).trans (Nat.add_mod_right _ _);rw[e2,e3,vd]
theorem Rw{α:Type}(enc:α->List Value):∀xs:List α,All2 (λx c=>c=enc x) xs (xs.map enc)
 |[]=>trivial
 |x::xs=>⟨rfl,Rw enc xs⟩
theorem Rx{α:Type}[Inhabited α](enc:α->List Value)(k:Nat)(hk:∀x,(enc x).length=k)(d:Array α):(flatK enc k d).toList=(d.toList.map enc).flatten:=by
 have hl:(d.toList.map enc).flatten.length=d.size*k:=by have:=All2.flatten_length (R:=λx c=>c=enc x) (n:=k) (λx c h=>by rw[h,hk]) (xs:=d.toList) (css:=d.toList.map enc) (Rw enc _);simpa using this
 refine vl λt=>?_;by_cases ht:t<d.size*k
 .rw[Rv (m:=k) (by simpa using λx _=>hk x) t (by simpa using ht)]
  have k0:0<k:=by
   rcases Nat.eq_zero_or_pos k with h0|h0
   .subst h0;simp at ht
   .exact h0
  have hd:t/k<d.size:=Nat.div_lt_of_lt_mul (by rw[Nat.mul_comm];exact ht);have hm:t%k<k:=Nat.mod_lt _ k0;have:=get_flatK enc k d t ht;rw[getElem!_pos _ t (by rw[size_flatK];exact ht)]at this;rw[qs,js (by rw[size_flatK];exact ht),this,getElem!_pos d _ hd];simp only[qm,qs,js hd,kv,q9];rw[getElem!_pos _ _ (by rw[hk];exact hm),ji (by rw[hk];exact hm)]
 .rw[qr (by rw[qe,size_flatK];omega),qr (by omega)]
theorem Ry{w:World}{g:Nat}{cur F:Array Value}{e:Nat}(hg:w.heap[g]? = some (.cells cur e (0,0)))(ht:cur.toList.take F.size=F.toList):Holds id w g 0 F:=by
 intro j hj
 have h1:cur[j]? = some F[j]:=by
  have:(cur.toList.take F.size)[j]? = F.toList[j]? := by rw[ht]
  rw[List.getElem?_take_of_lt hj,qs,qs,js hj]at this;exact this
 refine⟨?_,?_⟩
 .simp only[World.cell?,hg,kf];rw[getElem!_pos F j hj];simpa using h1
 .simp[World.frozen?,hg]
theorem Rz{w:World}{g:Nat}{cur F:Array Value}{e:Nat}(hg:w.heap[g]? = some (.cells cur e (0,0)))(hF:F.size<=cur.size) :
  ∃ie,(putRow id w g 0 F).heap[g]? = some (.cells ie e (0,0))/\ie.size=cur.size/\ie.toList.take F.size=F.toList:=by
 refine⟨putCells id 0 F cur,?_,?_,?_⟩
 .unfold putRow mapBlock;simp only[Array.getElem?_modify,if_true,hg,kv,onCells]
 .simp[putCells]
 .refine vl λt=>?_;by_cases ht:t<F.size
  .rw[List.getElem?_take_of_lt ht,qs,qs];simp only[putCells,Array.getElem?_mapIdx];rw[js (show t<cur.size by omega),js ht];simp only[kv,kc,qh,kf,ht,if_true,Nat.sub_zero,id];rw[getElem!_pos F t ht]
  .rw[List.getElem?_take_eq_none (by omega),qr (by simpa using ht)]
theorem RA{w:World}{g k:Nat}{F:Array Value}(h:k≠g):(putRow id w g 0 F).heap[k]? = w.heap[k]? := by
 unfold putRow mapBlock;simp only[Array.getElem?_modify,Ne.symm h,qz]
theorem F0{w:World}{os:Array Obj}{k:Nat}(h:k<w.heap.size):(grow w os).heap[k]? = w.heap[k]? := by
 simp only[grow];exact Array.getElem?_append_left h
theorem Di{a:Ty}{S:aD}{w:World}(ha:a.scal=true):∀{xs:List a.den}{css:List (List Value)},All2 (λx c=>Rep S w a x c) xs css↔css=xs.map (encT a)
 |[],[]=>by simp[All2]
 |x::xs,c::css=>by
  simp only[All2,kr,List.cons.injEq];exact and_congr (vu a x c ha) (Di ha)
 |[],_::_=>by simp[All2]
 |_::_,[]=>by simp[All2]
variable{P:Program}{ρ:Go.Shelf.Ren}
theorem J6(L:Go.Proofs.SlLaysF0.n6 P ρ)(a:Ty)(ha:a.scal=true)(e:Nat)(he:isM e=false)(aE:∀w,(isAgg (ρ.t 24)).run P w = .ok true w)(zE:∀w,(Go.sizeOf (ρ.t 24)).run P w = .ok a.size w)(cf:a.den->a.den->Int)(g:Nat)
  (eg:∀args w,(callFunc g args).run P w = .ok (.enter g args) w)
  (J7:∀(x y:a.den)(w:World),fG a x=true->fG a y=true->Calls P g #[.agg (encT a x).toArray,.agg (encT a y).toArray] w λe w'=>e = .returned (.int .i64 (cf x y))/\∃q lH,w'=grow (w.drewN q) lH)
  (hO:SWO (Go.Proofs.ltOf λ(x y:Sml a)=>cf x.1 y.1))(f:Nat)(hf:f=ρ.f 6) :
  Con.OK P ⟨f,[.rl e (.list a),.clo g []],[.list a],⟨[],[.rl (.list a)]⟩,[.list a],tt a cf⟩:=by
 subst hf;intro args R k r hk;unfold Con.C at hk;split at hk
 rotate_left
 .simp at hk
 rename_i h hu;rw[FJ hu];clear hu
 obtain⟨ys,fZ,J8⟩:∃ys,tt a cf h=some ys/\k (p8 ⟨[],[.rl (.list a)]⟩ [.list a] ys)=some r:=by
  cases hs:tt a cf h with
  |none=>simp only[hs,Option.bind_none]at hk;exact absurd hk (by simp)
  |some ys=>simp only[hs,j3]at hk;exact⟨ys,rfl,hk⟩
 clear hk;refine⟨?_,?_⟩
 .obtain⟨nm,hn,pI⟩:=L.f6;exact⟨_,pI,rfl,hn⟩
 intro w S vals hA dJ hS;have hA:All2 (mR S w) [.rl e ⟨.list a,h⟩,.clo g []] vals:=hA
 obtain⟨u0,u1,rfl⟩:∃u0 u1,vals=[u0,u1]:=by
  match vals,hA with
  |[u0,u1],_=>exact⟨u0,u1,rfl⟩
 obtain⟨⟨a',xs,hx,qG,aY⟩,⟨cv,rfl,rE⟩,_⟩:=hA
 obtain⟨css,cE,ao⟩:∃css,w.ownsRow 0 e a'.size u0 xs.length css.flatten/\All2 (λx c=>Rep S w a' x c) xs css:=by
  rcases qG with⟨_,css,h1,h2⟩|⟨h1,_⟩
  .exact⟨css,h1,h2⟩
  .rw[he]at h1;simp at h1
 obtain⟨rfl,hx⟩:a=a'/\HEq h xs:=by have h1:=jh TV.t hx;simp only[Ty.list.injEq]at h1;subst h1;refine⟨rfl,?_⟩;simp only[TV.mk.injEq,heq_eq_eq,qh]at hx;rw[hx]
 obtain rfl:xs=h:=(eq_of_heq hx).symm
 have J9:cv = #[]:=by
  match hh:cv.toList,rE with
  |[],_=>exact Array.toList_eq_nil_iff.1 hh
 subst J9;obtain rfl:=(Di ha).1 ao;unfold tt at fZ;split at fZ
 rotate_left
 .simp at fZ
 rename_i gY;have dQ:=FZ xs gY.1;have hlen:=jwQ xs gY.1;generalize smlA xs gY.1=sm at fZ dQ hlen;have wL:=(pdq_sorts (Go.Proofs.ltOf λ(x y:Sml a)=>cf x.1 y.1) hO sm.toArray 0 sm.toArray.size (Lib.bitLen sm.toArray.size) true true (kc _) (jj _) (Or.inl rfl)).1.1
 have qH:Calls P (ρ.f 6) #[u0,.func (.func g) #[] #[]] w λe' w'=>e' = .returned (.tuple #[])/\(w'=w/\xs=[]\/∃gb cap cur n os,u0 = .slice (some ⟨gb,0,none⟩) xs.length cap/\w.heap[gb]? = some (.cells cur e (0,0))/\xs.length<=cap/\cap<=maxLen/\cur.size=cap*a.size/\
   w'=Go.Proofs.sortWorldK (λ(x:Sml a)=>encT a x.1) a.size w gb 0 n (pdq (Go.Proofs.ltOf λ(x y:Sml a)=>cf x.1 y.1) sm.toArray 0 sm.toArray.size (Lib.bitLen sm.toArray.size) true true) os):=by
  rcases cE.2 with⟨rfl,hn⟩|⟨gb,cap,cur,rfl,_,hg,cL,xz,dB,mj⟩
  .refine(Go.Proofs.AnyF.slices_SortFunc_none L none 0 (.func (.func g) #[] #[]) w).mono ?_
   rintro e' w' ⟨rfl,rfl⟩
   exact⟨rfl,Or.inl ⟨rfl,kj.1 hn⟩⟩
  .have bX:sm.toArray.size=xs.length:=by simpa using hlen
   have eO:=Rx (λ(x:Sml a)=>encT a x.1) a.size (λx=>J4 a x.1 ha) sm.toArray;have tu:(flatK (λ(x:Sml a)=>encT a x.1) a.size sm.toArray).toList=(xs.map (encT a)).flatten:=by rw[eO,<-dQ,List.map_map];rfl
   have hH:HoldsK (λ(x:Sml a)=>encT a x.1) a.size w gb 0 sm.toArray:=Ry hg (by rw[size_flatK,bX,tu];exact mj);have hb:gb<w.heap.size:=(jk.1 hg).1
   have:=Go.Proofs.AnyQ.slices_SortFunc_eq L a.size aE zE (λ(x:Sml a)=>encT a x.1) (λx=>J4 a x.1 ha) (λx=>jyC a x.1 ha) (λx y=>cf x.1 y.1) hO g #[] gb 0 cap sm.toArray w eg
    (λm os dk _ x y=>J7 x.1 y.1 _ x.2 y.2) hH hb (by omega)
   rw[bX]at this ⊢;refine this.mono ?_
   rintro e' w' ⟨rfl,n,os,rfl⟩
   exact⟨rfl,Or.inr ⟨gb,cap,cur,n,os,rfl,hg,cL,xz,dB,rfl⟩⟩
 refine qH.mono ?_
 rintro e' w' ⟨rfl,hw⟩
 refine⟨_,J8,_,S,[],rfl,?_⟩;simp only[j4]at fZ;rcases hw with⟨rfl,rfl⟩|⟨gb,cap,cur,n,os,rfl,hg,cL,xz,dB,rfl⟩
 ·-- nothing to sort
  obtain rfl:sm=[]:=by simpa using hlen
  have fZ:ys=[]:=by rw[<-fZ];have:(pdq (Go.Proofs.ltOf λ(x y:Sml a)=>cf x.1 y.1) (#[]:Array (Sml a)) 0 0 (Lib.bitLen 0) true true).size=0:=wL;rw[List.map_eq_nil_iff];exact Array.toList_eq_nil_iff.2 (Array.size_eq_zero_iff.1 this)
  subst fZ;refine⟨rfl,trivial,by simp[fq],by simp[fq],?_,cW.refl _ _,λg o h=>Or.inl h,hS,λg _ _=>rfl,jj _,rfl,rfl,rfl,by intro m hm;simp[p8,rvsF]at hm⟩;exact⟨⟨a,[],rfl,.inl ⟨he,[],cE,trivial⟩,aY⟩,rfl,trivial⟩
 .generalize pdq (Go.Proofs.ltOf λ(x y:Sml a)=>cf x.1 y.1) sm.toArray 0 sm.toArray.size (Lib.bitLen sm.toArray.size) true true=d' at fZ wL
  have bX:sm.toArray.size=xs.length:=by simpa using hlen
  have zW:d'.size=xs.length:=by rw[wL,bX]
  have eO:=Rx (λ(x:Sml a)=>encT a x.1) a.size (λx=>J4 a x.1 ha) d';have tu:(flatK (λ(x:Sml a)=>encT a x.1) a.size d').toList=(List.map (encT a) ys).flatten:=by rw[eO,<-fZ,List.map_map];rfl
  have lx:ys.length=xs.length:=by rw[<-fZ];simpa using zW
  have hb:gb<w.heap.size:=(jk.1 hg).1;have Ah:(flatK (λ(x:Sml a)=>encT a x.1) a.size d').size=xs.length*a.size:=by rw[size_flatK,zW]
  obtain⟨ie,aw,mr,xA⟩:=Rz (w:=Sort.ahead w n) (F:=flatK (λ(x:Sml a)=>encT a x.1) a.size d') hg (by rw[Ah,dB];exact jv _ cL);have cC:(putRow id (Sort.ahead w n) gb 0 (flatK (λ(x:Sml a)=>encT a x.1) a.size d')).heap.size=w.heap.size:=by simp
  have gQ:∀k,k<w.heap.size->k≠gb->(Go.Proofs.sortWorldK (λ(x:Sml a)=>encT a x.1) a.size w gb 0 n d' os).heap[k]? = w.heap[k]? := λk hk aZ=>
   (F0 (by show k<(putRow id (Sort.ahead w n) gb 0 (flatK (λ(x:Sml a)=>encT a x.1) a.size d')).heap.size;rw[cC];exact hk)).trans (RA aZ)
  have eE:w.heap.size<=(Go.Proofs.sortWorldK (λ(x:Sml a)=>encT a x.1) a.size w gb 0 n d' os).heap.size:=by show w.heap.size<=((putRow id (Sort.ahead w n) gb 0 (flatK (λ(x:Sml a)=>encT a x.1) a.size d')).heap++os).size;rw[Array.size_append,cC];omega
  have iR:∀o,¬S gb o:=aY gb rfl;refine⟨rfl,trivial,by simp[fq],by simp[fq],?_,?_,λg o h=>Or.inl h,λg o h=>qj (hS g o h) eE,?_,eE,rfl,rfl,rfl,by intro m hm;simp[p8,rvsF]at hm⟩
  .refine⟨⟨a,ys,rfl,.inl ⟨he,ys.map (encT a),⟨?_,Or.inr ⟨gb,cap,ie,?_,kc _,?_,?_,xz,?_,?_⟩⟩,(Di ha).2 rfl⟩,aY⟩,rfl,trivial⟩
   .rw[<-tu,qe,Ah,lx]
   .rw[lx]
   .exact(F0 (by show gb<(putRow id (Sort.ahead w n) gb 0 (flatK (λ(x:Sml a)=>encT a x.1) a.size d')).heap.size;rw[cC];exact hb)).trans aw
   .rw[lx];exact cL
   .rw[mr,dB]
   .rw[lx,<-Ah,xA,tu]
  .intro g' o sT;refine⟨sT,?_⟩;have aZ:g'≠gb:=λhe=>iR o (he▸sT);exact World.cell?_of_block (gQ g' (hS g' o sT) aZ)
  .intro g' sw nI;refine gQ g' sw λhe=>nI ?_;subst he;simp[oV,Ae,argF,dU,lz,blk,ofHL,APat.n]
theorem F1{α:Type}(key:α->Int)(hk:∀x, -1152921504606846976<=key x/\key x<=1152921504606846976)(cf:α->α->Int)(h:∀x y,cf x y=w64 (key x-key y)):SWO (Go.Proofs.ltOf cf):=by
 have e:∀x y,Go.Proofs.ltOf cf x y=decide (key x<key y):=by intro x y;have h1:=hk x;have h2:=hk y;have:w64 (key x-key y)=key x-key y:=ah (by omega) (by omega);simp only[Go.Proofs.ltOf,h,this];congr 1;exact propext ⟨λh=>by omega,λh=>by omega⟩
 refine⟨λx=>?_,λx y z=>?_,λx y z=>?_⟩
 .rw[e];simp
 .rw[e,e,e];simp only[jo];omega
 .rw[e,e,e];simp only[kp];omega
open Go.Sort
def insI(x:Int):List Int->List Int
 |[]=>[x]
 |y::ys=>cond (decide (x<=y)) (x::y::ys) (y::insI x ys)
def Dj:List Int->List Int
 |[]=>[]
 |x::xs=>insI x (Dj xs)
def xB(xs:List Int):Option (List Int):=cond (Nat.blt xs.length 4611686018427387904) (some (Dj xs)) none
theorem Ka(x:Int):∀l:List Int,(insI x l).Perm (x::l)
 |[]=>List.Perm.refl _
 |y::ys=>by
  unfold insI;cases decide (x<=y) with
  |true=>exact List.Perm.refl _
  |false=>exact((Ka x ys).cons y).trans (List.Perm.swap x y ys)
theorem F2:∀l:List Int,(Dj l).Perm l
 |[]=>List.Perm.refl _
 |x::xs=>(Ka x _).trans ((F2 xs).cons x)
theorem RB(x:Int):∀l:List Int,l.Pairwise (· <= ·)->(insI x l).Pairwise (· <= ·)
 |[],_=>ze _ _
 |y::ys,h=>by
  have hc:=jx.1 h;unfold insI;cases hd:decide (x<=y) with
  |true=>
   have hd:=kz hd;refine jx.2 ⟨λz hz=>?_,h⟩;rcases je.1 hz with rfl|hz
   .exact hd
   .have:=hc.1 z hz;omega
  |false=>
   have hd:=of_decide_eq_false hd;refine jx.2 ⟨λz hz=>?_,RB x ys hc.2⟩;rcases je.1 ((Ka x ys).mem_iff.1 hz) with rfl|hz
   .omega
   .exact hc.1 z hz
theorem Kb:∀l:List Int,(Dj l).Pairwise (· <= ·)
 |[]=>List.Pairwise.nil
 |x::xs=>RB x _ (Kb xs)
theorem jv4(xs:List Int):(xs.mergeSort λx y=>decide (x<=y))=Dj xs:=by
 refine List.Perm.eq_of_pairwise (le:=(· <= ·)) (λa b _ _ h1 h2=>Int.le_antisymm h1 h2) ?_ (Kb xs) ((List.mergeSort_perm _ _).trans (F2 xs).symm);have:=List.pairwise_mergeSort (le:=λx y:Int=>decide (x<=y)) (λa b c h1 h2=>by simp at h1 h2 ⊢;omega) (λa b=>by simp;omega) xs;exact this.imp (λh=>by simpa using h)
theorem jwR{xs:List Int}(h:xs.length<4611686018427387904):∃ys,xB xs=some ys/\ys.Perm xs/\ys.Pairwise (· <= ·):=by
 unfold xB;rw[show Nat.blt xs.length 4611686018427387904=true from Nat.ble_eq_true_of_le h];exact⟨_,rfl,F2 xs,Kb xs⟩
theorem jzT(w:World)(g:Nat)(zs:List Int):putRow (Value.int .i64) w g 0 zs.toArray=putRow id w g 0 (zs.map (Value.int .i64)).toArray:=by
 have:putCells (Value.int .i64) 0 zs.toArray=putCells id 0 (zs.map (Value.int .i64)).toArray:=by
  funext c
  unfold putCells;refine Array.ext_getElem? λk=>?_;simp only[Array.getElem?_mapIdx,kc,qh,kf,Nat.sub_zero,zt,kn,id];cases c[k]? with
  |none=>rfl
  |some x=>
   simp only[kv];by_cases hk:k<zs.length
   .rw[if_pos hk,if_pos hk,getElem!_pos _ k (by simpa using hk),getElem!_pos _ k (by simpa using hk)];simp
   .rw[if_neg hk,if_neg hk]
 unfold putRow;rw[this]
theorem jwS{w:World}{g:Nat}{zs:List Int}(h:Holds id w g 0 (zs.map (Value.int .i64)).toArray):Holds (Value.int .i64) w g 0 zs.toArray:=by
 intro j hj;have ez:j<zs.length:=by simpa using hj
 have:=h j (by simpa using ez);refine⟨this.1.trans ?_,this.2⟩;rw[getElem!_pos _ j (by simpa using ez),getElem!_pos _ j hj];simp
theorem Kd(zs:List Int):(zs.map (encT (.int .i64))).flatten=zs.map (Value.int .i64):=by
 induction zs with
 |nil=>rfl
 |cons z zs ih=>simp only[kr,ky,ih];rfl
variable{P:Program}{ρ:Go.Shelf.Ren}
theorem jv5(L:Go.Proofs.SlLaysM.n5 P ρ)(e:Nat)(he:isM e=false)(f:Nat)(hf:f=ρ.f 5) :
  Con.OK P ⟨f,[.rl e (.list (.int .i64))],[.list (.int .i64)],⟨[],[.rl (.list (.int .i64))]⟩,[.list (.int .i64)],xB⟩:=by
 subst hf;intro args R k r hk;unfold Con.C at hk;split at hk
 rotate_left
 .simp at hk
 rename_i h hu;rw[FJ hu];clear hu
 obtain⟨ys,fZ,J8⟩:∃ys,xB h=some ys/\k (p8 ⟨[],[.rl (.list (.int .i64))]⟩ [.list (.int .i64)] ys)=some r:=by
  cases hs:xB h with
  |none=>simp only[hs,Option.bind_none]at hk;exact absurd hk (by simp)
  |some ys=>simp only[hs,j3]at hk;exact⟨ys,rfl,hk⟩
 clear hk;refine⟨?_,?_⟩
 .obtain⟨nm,hn,pI⟩:=L.f5;exact⟨_,pI,rfl,hn⟩
 intro w S vals hA dJ hS;have hA:All2 (mR S w) [.rl e ⟨.list (.int .i64),h⟩] vals:=hA
 obtain⟨u0,rfl⟩:∃u0,vals=[u0]:=by
  match vals,hA with
  |[u0],_=>exact⟨u0,rfl⟩
 obtain⟨⟨a',xs,hx,qG,aY⟩,_⟩:=hA
 obtain⟨css,cE,ao⟩:∃css,w.ownsRow 0 e a'.size u0 xs.length css.flatten/\All2 (λx c=>Rep S w a' x c) xs css:=by
  rcases qG with⟨_,css,h1,h2⟩|⟨h1,_⟩
  .exact⟨css,h1,h2⟩
  .rw[he]at h1;simp at h1
 obtain⟨rfl,hx⟩:Ty.int .i64=a'/\HEq h xs:=by have h1:=jh TV.t hx;simp only[Ty.list.injEq]at h1;subst h1;refine⟨rfl,?_⟩;simp only[TV.mk.injEq,heq_eq_eq,qh]at hx;rw[hx]
 obtain rfl:xs=h:=(eq_of_heq hx).symm;obtain rfl:=(Di (a:= .int .i64) rfl).1 ao;have eO:(List.map (encT (.int .i64)) xs).flatten=List.map (Value.int .i64) xs:=Kd xs;rw[eO]at cE;unfold xB at fZ;cases gY:Nat.blt (List.length xs) 4611686018427387904 with
 |false=>rw[gY]at fZ;simp at fZ
 |true=>
 rw[gY]at fZ;simp only[j5,j4]at fZ;have gY:List.length xs<4611686018427387904:=Nat.le_of_ble_eq_true gY;have lx:ys.length=List.length xs:=by rw[<-fZ];exact(F2 xs).length_eq
 have qH:Calls P (ρ.f 5) #[u0] w λe' w'=>e' = .returned (.tuple #[])/\(w'=w/\xs=[]\/∃gb cap cur n os,u0 = .slice (some ⟨gb,0,none⟩) (List.length xs) cap/\w.heap[gb]? = some (.cells cur e (0,0))/\List.length xs<=cap/\cap<=maxLen/\cur.size=cap*1/\
   w'=grow (putRow id (Sort.ahead w n) gb 0 (ys.map (Value.int .i64)).toArray) os):=by
  rcases cE.2 with⟨rfl,hn⟩|⟨gb,cap,cur,rfl,_,hg,cL,xz,dB,mj⟩
  .refine(Go.Proofs.AnyM.slices_Sort_int_none L none 0 w).mono ?_
   rintro e' w' ⟨rfl,rfl⟩
   exact⟨rfl,Or.inl ⟨rfl,kj.1 hn⟩⟩
  .have hH:Holds (Value.int .i64) w gb 0 (List.toArray xs):=jwS (Ry hg (by simpa[Ty.size]using mj));have hb:gb<w.heap.size:=(jk.1 hg).1;refine(Go.Proofs.AnyM.slices_Sort_int L gb 0 cap xs w hH hb gY).mono ?_
   rintro e' w' ⟨rfl,n,os,rfl⟩
   rw[jv4,fZ,jzT];exact⟨rfl,Or.inr ⟨gb,cap,cur,n,os,rfl,hg,cL,xz,dB,rfl⟩⟩
 refine qH.mono ?_
 rintro e' w' ⟨rfl,hw⟩
 refine⟨_,J8,_,S,[],rfl,?_⟩;rcases hw with⟨rfl,rfl⟩|⟨gb,cap,cur,n,os,rfl,hg,cL,xz,dB,rfl⟩
 .have fZ:ys=[]:=kj.1 (by simpa using lx);subst fZ;refine⟨rfl,trivial,by simp[fq],by simp[fq],?_,cW.refl _ _,λg o h=>Or.inl h,hS,λg _ _=>rfl,jj _,rfl,rfl,rfl,by intro m hm;simp[p8,rvsF]at hm⟩;exact⟨⟨.int .i64,[],rfl,.inl ⟨he,[],cE,trivial⟩,aY⟩,rfl,trivial⟩
 .have hb:gb<w.heap.size:=(jk.1 hg).1;have Ah:(ys.map (Value.int .i64)).toArray.size=List.length xs:=by simp[lx]
  obtain⟨ie,aw,mr,xA⟩:=Rz (w:=Sort.ahead w n) (F:=(ys.map (Value.int .i64)).toArray) hg (by rw[Ah,dB];omega);have cC:(putRow id (Sort.ahead w n) gb 0 (ys.map (Value.int .i64)).toArray).heap.size=w.heap.size:=by simp
  have gQ:∀k,k<w.heap.size->k≠gb->(grow (putRow id (Sort.ahead w n) gb 0 (ys.map (Value.int .i64)).toArray) os).heap[k]? = w.heap[k]? := λk hk aZ=>
   (F0 (by rw[cC];exact hk)).trans (RA aZ)
  have eE:w.heap.size<=(grow (putRow id (Sort.ahead w n) gb 0 (ys.map (Value.int .i64)).toArray) os).heap.size:=by show w.heap.size<=((putRow id (Sort.ahead w n) gb 0 (ys.map (Value.int .i64)).toArray).heap++os).size;rw[Array.size_append,cC];omega
  have iR:∀o,¬S gb o:=aY gb rfl;refine⟨rfl,trivial,by simp[fq],by simp[fq],?_,?_,λg o h=>Or.inl h,λg o h=>qj (hS g o h) eE,?_,eE,rfl,rfl,rfl,by intro m hm;simp[p8,rvsF]at hm⟩
  .refine⟨⟨.int .i64,ys,rfl,.inl ⟨he,ys.map (encT (.int .i64)),⟨?_,Or.inr ⟨gb,cap,ie,?_,kc _,?_,?_,xz,?_,?_⟩⟩,(Di (a:= .int .i64) rfl).2 rfl⟩,aY⟩,rfl,trivial⟩
   .rw[Kd];simp[Ty.size]
   .rw[lx]
   .exact(F0 (by rw[cC];exact hb)).trans aw
   .rw[lx];exact cL
   .rw[mr,dB];rfl
   .rw[Kd,lx,show List.length xs*(Ty.int .i64).size=(ys.map (Value.int .i64)).toArray.size by rw[Ah];simp[Ty.size],xA]
  .intro g' o sT;refine⟨sT,?_⟩;have aZ:g'≠gb:=λhe=>iR o (he▸sT);exact World.cell?_of_block (gQ g' (hS g' o sT) aZ)
  .intro g' sw nI;refine gQ g' sw λhe=>nI ?_;subst he;simp[oV,Ae,argF,dU,lz,blk,ofHL]
end Go.Lft
