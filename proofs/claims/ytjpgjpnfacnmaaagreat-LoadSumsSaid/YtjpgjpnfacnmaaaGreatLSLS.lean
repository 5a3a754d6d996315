/- zH.SortFunc: the kit's sx of it as a sx on plain data. -/
import Derived.Test.YtjpgjpnfacnmaaaGreatLSLD
import Derived.Shelf.SlSortCmp.NoneTotal
import Derived.Shelf.SortM.Plain
import Derived.Shelf.SortM.SortNone
import Derived.Shelf.SlIterI.Sorted
set_option linter.unusedVariables false
namespace Go.Lft
open Go.Sort
def Ty.scal:Ty->Bool
 |.int _|.bool|.str|.unit=>true
 |.wrap a=>a.scal
 |.pair a b=>a.scal&&b.scal
 |.list _=>false
 |.arr _ _=>false
def encT:(t:Ty)->t.den->List Value
 |.int k,n=>[.int k n]
 |.bool,b=>[.bool b]
 |.str,s=>[.string s]
 |.unit,_=>[]
 |.wrap a,v=>encT a v
 |.pair a b,v=>encT a v.1++encT b v.2
 |.list _,_=>[]
 |.arr _ _,_=>[]
def iE:(t:Ty)->t.den->Bool
 |.int _,n=>decide (-1152921504606846976<=(n:Int))&&decide ((n:Int)<=1152921504606846976)
 |.bool,_=>true
 |.str,_=>true
 |.unit,_=>true
 |.wrap a,v=>iE a v
 |.pair a b,v=>iE a v.1&&iE b v.2
 |.list _,_=>true
 |.arr _ _,_=>true
theorem H6:∀t:Ty,iE t t.dflt=true
 |.int _=>by simp[iE,Ty.dflt]
 |.bool=>rfl
 |.str=>rfl
 |.unit=>rfl
 |.wrap a=>H6 a
 |.pair a b=>by simp[iE,Ty.dflt,H6 a,H6 b]
 |.list _=>rfl
 |.arr _ _=>rfl
theorem xb{S:aP}{w:World}:∀(t:Ty)(v:t.den)(cs:List Value),t.scal=true->(Rep S w t v cs↔cs=encT t v)
 |.int _,_,_,_=>Iff.rfl
 |.bool,_,_,_=>Iff.rfl
 |.str,_,_,_=>Iff.rfl
 |.unit,_,_,_=>Iff.rfl
 |.wrap a,v,cs,h=>xb a v cs h
 |.pair a b,v,cs,h=>by
  simp only[Ty.scal,jc]at h;constructor
  .rintro⟨c1,c2,rfl,h1,h2⟩
   rw[(xb a _ _ h.1).1 h1,(xb b _ _ h.2).1 h2];rfl
  .rintro rfl
   exact⟨_,_,rfl,(xb a _ _ h.1).2 rfl,(xb b _ _ h.2).2 rfl⟩
 |.list _,_,_,h=>by simp[Ty.scal]at h
 |.arr _ _,_,_,h=>by simp[Ty.scal]at h
theorem Ni(t:Ty)(v:t.den)(h:t.scal=true):(encT t v).length=t.size:=
 Rep.length (S:=λ_ _=>False) (w:=default) t v _ ((xb t v _ h).2 rfl)
theorem jD4(t:Ty)(v:t.den)(h:t.scal=true):∀u∈encT t v,u.oneCell'=true:=
 Rep.one (S:=λ_ _=>False) (w:=default) t v _ ((xb t v _ h).2 rfl)
abbrev Sml(a:Ty):Type:={ x:a.den // iE a x=true }
instance(a:Ty):Inhabited (Sml a):=⟨⟨a.dflt,H6 a⟩⟩
def smlA{a:Ty}:(xs:List a.den)->xs.all (iE a)=true->List (Sml a)
 |[],_=>[]
 |x::xs,h=>⟨x,by simp at h;exact h.1⟩::smlA xs (by simp at h ⊢;exact h.2)
theorem H7{a:Ty}:∀(xs:List a.den)(h:xs.all (iE a)=true),(smlA xs h).map (·.1)=xs
 |[],_=>rfl
 |x::xs,h=>by simp[smlA,H7 xs]
theorem jAG{a:Ty}(xs:List a.den)(h:xs.all (iE a)=true):(smlA xs h).length=xs.length:=by
 rw[<-k5 (f:=(·.1)),H7]
noncomputable def xc(a:Ty)(cf:a.den->a.den->Int)(xs:List a.den):Option (List a.den):=
 if h:xs.all (iE a)=true/\xs.length<4611686018427387904 then
  some ((pdq (Go.Proofs.ltOf λ(x y:Sml a)=>cf x.1 y.1) (smlA xs h.1).toArray 0 (smlA xs h.1).toArray.size (Lib.bitLen (smlA xs h.1).toArray.size) true true).toList.map (·.1))
 else none
theorem V3{a:Ty}{cf:a.den->a.den->Int}(hO:SWO (Go.Proofs.ltOf λ(x y:Sml a)=>cf x.1 y.1)){xs:List a.den}(h:∀x∈xs,iE a x=true)(hl:xs.length<4611686018427387904) :
  ∃ys,xc a cf xs=some ys/\ys.Perm xs/\ys.Pairwise (λx y=>¬cf y x<0):=by
 have h1:xs.all (iE a)=true:=jy.2 h;unfold xc;rw[dif_pos ⟨h1,hl⟩];refine⟨_,rfl,?_,?_⟩
 .have hp:=(pdq_sorts (Go.Proofs.ltOf λ(x y:Sml a)=>cf x.1 y.1) hO (smlA xs h1).toArray 0 (smlA xs h1).toArray.size (Lib.bitLen (smlA xs h1).toArray.size) true true (kf _) (js _) (Or.inl rfl)).1;obtain⟨hs,_,hp⟩:=hp;generalize pdq (Go.Proofs.ltOf λ(x y:Sml a)=>cf x.1 y.1) (smlA xs h1).toArray 0 (smlA xs h1).toArray.size (Lib.bitLen (smlA xs h1).toArray.size) true true=d' at *;rw[<-hs]at hp;rw[Array.extract_size,hs,Array.extract_size]at hp;have:=hp.map (·.1);rwa[show (smlA xs h1).toArray.toList=smlA xs h1 from rfl,H7]at this
 .have hp:=(pdq_sorts (Go.Proofs.ltOf λ(x y:Sml a)=>cf x.1 y.1) hO (smlA xs h1).toArray 0 (smlA xs h1).toArray.size (Lib.bitLen (smlA xs h1).toArray.size) true true (kf _) (js _) (Or.inl rfl));obtain⟨⟨hs,_,_⟩,hp⟩:=hp;generalize pdq (Go.Proofs.ltOf λ(x y:Sml a)=>cf x.1 y.1) (smlA xs h1).toArray 0 (smlA xs h1).toArray.size (Lib.bitLen (smlA xs h1).toArray.size) true true=d' at *;rw[List.pairwise_map,ko];intro i j hi hj dF;have bj:i<d'.size:=by simpa using hi
  have iB:j<d'.size:=by simpa using hj
  have:=hp i j (kf _) dF (by omega);rw[getElem!_pos d' j iB,getElem!_pos d' i bj]at this;simpa[Go.Proofs.ltOf]using this
theorem V4{m:Nat}:∀{css:List (List Value)},(∀c∈css,c.length=m)->∀t,t<css.length*m->css.flatten[t]? = ((css[t/m]?).getD [])[t%m]?
 |[],_,t,ht=>by simp at ht
 |c::css,h,t,ht=>by
  have hc:c.length=m:=h c (by simp)
  have m0:0<m:=by
   rcases Nat.eq_zero_or_pos m with h0|h0
   .subst h0;simp at ht
   .exact h0
  by_cases ak:t<m
  .rw[kx,List.getElem?_append_left (by omega),Nat.div_eq_of_lt ak,Nat.mod_eq_of_lt ak];simp
  .have h':∀c∈css,c.length=m:=λc hc=>h c (by simp[hc]);have tq:t-m<css.length*m:=by simp only[jm,yd]at ht;omega
   rw[kx,kj (by omega),hc,V4 h' (t-m) tq];have e1:t=t-m+m:=by omega
   have e2:t/m=(t-m)/m+1:=(jq (· / m) e1).trans (Nat.add_div_right _ m0);have e3:t%m=(t-m)%m:=(jq (· % m) e1).trans (Nat.add_mod_right _ _);rw[e2,e3,yj]
theorem V5{α:Type}(enc:α->List Value):∀xs:List α,All2 (λx c=>c=enc x) xs (xs.map enc)
 |[]=>trivial
 |x::xs=>⟨rfl,V5 enc xs⟩
theorem V6{α:Type}[Inhabited α](enc:α->List Value)(k:Nat)(hk:∀x,(enc x).length=k)(d:Array α):(flatK enc k d).toList=(d.toList.map enc).flatten:=by
 have hl:(d.toList.map enc).flatten.length=d.size*k:=by have:=All2.flatten_length (R:=λx c=>c=enc x) (n:=k) (λx c h=>by rw[h,hk]) (xs:=d.toList) (css:=d.toList.map enc) (V5 enc _);simpa using this
 refine zp λt=>?_;by_cases ht:t<d.size*k
 .rw[V4 (m:=k) (by simpa using λx _=>hk x) t (by simpa using ht)]
  have k0:0<k:=by
   rcases Nat.eq_zero_or_pos k with h0|h0
   .subst h0;simp at ht
   .exact h0
  have hd:t/k<d.size:=Nat.div_lt_of_lt_mul (by rw[Nat.mul_comm];exact ht);have hm:t%k<k:=Nat.mod_lt _ k0;have:=get_flatK enc k d t ht;rw[getElem!_pos _ t (by rw[size_flatK];exact ht)]at this;rw[q8,ju (by rw[size_flatK];exact ht),this,getElem!_pos d _ hd];simp only[qi,q8,ju hd,qa,zg];rw[getElem!_pos _ _ (by rw[hk];exact hm),jk (by rw[hk];exact hm)]
 .rw[qp (by rw[qg,size_flatK];omega),qp (by omega)]
theorem V7{w:World}{g:Nat}{cur F:Array Value}{e:Nat}(hg:w.heap[g]? = some (.cells cur e (0,0)))(ht:cur.toList.take F.size=F.toList):Holds id w g 0 F:=by
 intro j hj
 have h1:cur[j]? = some F[j]:=by
  have:(cur.toList.take F.size)[j]? = F.toList[j]? := by rw[ht]
  rw[vc hj,q8,q8,ju hj]at this;exact this
 refine⟨?_,?_⟩
 .simp only[World.cell?,hg,kg];rw[getElem!_pos F j hj];simpa using h1
 .simp[World.frozen?,hg]
theorem V8{w:World}{g:Nat}{cur F:Array Value}{e:Nat}(hg:w.heap[g]? = some (.cells cur e (0,0)))(hF:F.size<=cur.size) :
  ∃jW,(putRow id w g 0 F).heap[g]? = some (.cells jW e (0,0))/\jW.size=cur.size/\jW.toList.take F.size=F.toList:=by
 refine⟨putCells id 0 F cur,?_,?_,?_⟩
 .unfold putRow mapBlock;simp only[Array.getElem?_modify,if_true,hg,qa,onCells]
 .simp[putCells]
 .refine zp λt=>?_;by_cases ht:t<F.size
  .rw[vc ht,q8,q8];simp only[putCells,Array.getElem?_mapIdx];rw[ju (show t<cur.size by omega),ju ht];simp only[qa,kf,qj,kg,ht,if_true,Nat.sub_zero,id];rw[getElem!_pos F t ht]
  .rw[List.getElem?_take_eq_none (by omega),qp (by simpa using ht)]
theorem V9{w:World}{g k:Nat}{F:Array Value}(h:k≠g):(putRow id w g 0 F).heap[k]? = w.heap[k]? := by
 unfold putRow mapBlock;simp only[Array.getElem?_modify,Ne.symm h,zo]
theorem H8{w:World}{os:Array Obj}{k:Nat}(h:k<w.heap.size):(grow w os).heap[k]? = w.heap[k]? := by
 simp only[grow];exact Array.getElem?_append_left h
theorem En{a:Ty}{S:aP}{w:World}(ha:a.scal=true):∀{xs:List a.den}{css:List (List Value)},All2 (λx c=>Rep S w a x c) xs css↔css=xs.map (encT a)
 |[],[]=>by simp[All2]
 |x::xs,c::css=>by
  simp only[All2,ke,List.cons.injEq];exact and_congr (xb a x c ha) (En ha)
 |[],_::_=>by simp[All2]
 |_::_,[]=>by simp[All2]
variable{P:Program}{ρ:Go.Shelf.Ren}
theorem Wa(L:Go.Proofs.SlLaysF0.n6 P ρ)(a:Ty)(ha:a.scal=true)(e:Nat)(he:isM e=false)(aE:∀w,(isAgg (ρ.t 24)).run P w = .ok true w)(zE:∀w,(Go.sizeOf (ρ.t 24)).run P w = .ok a.size w)(cf:a.den->a.den->Int)(g:Nat)
  (eg:∀args w,(callFunc g args).run P w = .ok (.enter g args) w)
  (Nj:∀(x y:a.den)(w:World),iE a x=true->iE a y=true->Calls P g #[.agg (encT a x).toArray,.agg (encT a y).toArray] w λe w'=>e = .returned (.int .i64 (cf x y))/\∃q qS,w'=grow (w.drewN q) qS)
  (hO:SWO (Go.Proofs.ltOf λ(x y:Sml a)=>cf x.1 y.1))(f:Nat)(hf:f=ρ.f 6) :
  Con.OK P ⟨f,[.rl e (.list a),.clo g []],[.list a],⟨[],[.rl (.list a)]⟩,[.list a],xc a cf⟩:=by
 subst hf;intro args R k r hk;unfold Con.C at hk;split at hk
 rotate_left
 .simp at hk
 rename_i h hu;rw[HR hu];clear hu
 obtain⟨ys,ij,Nk⟩:∃ys,xc a cf h=some ys/\k (jmp ⟨[],[.rl (.list a)]⟩ [.list a] ys)=some r:=by
  cases hs:xc a cf h with
  |none=>simp only[hs,Option.bind_none]at hk;exact absurd hk (by simp)
  |some ys=>simp only[hs,j4]at hk;exact⟨ys,rfl,hk⟩
 clear hk;refine⟨?_,?_⟩
 .obtain⟨nm,hn,pB⟩:=L.f6;exact⟨_,pB,rfl,hn⟩
 intro w S vals hA fA hS;have hA:All2 (oT S w) [.rl e ⟨.list a,h⟩,.clo g []] vals:=hA
 obtain⟨u0,u1,rfl⟩:∃u0 u1,vals=[u0,u1]:=by
  match vals,hA with
  |[u0,u1],_=>exact⟨u0,u1,rfl⟩
 obtain⟨⟨a',xs,hx,iX,bg⟩,⟨cv,rfl,kP⟩,_⟩:=hA
 obtain⟨css,cg,au⟩:∃css,w.ownsRow 0 e a'.size u0 xs.length css.flatten/\All2 (λx c=>Rep S w a' x c) xs css:=by
  rcases iX with⟨_,css,h1,h2⟩|⟨h1,_⟩
  .exact⟨css,h1,h2⟩
  .rw[he]at h1;simp at h1
 obtain⟨rfl,hx⟩:a=a'/\HEq h xs:=by have h1:=jq TV.t hx;simp only[Ty.list.injEq]at h1;subst h1;refine⟨rfl,?_⟩;simp only[TV.mk.injEq,heq_eq_eq,qj]at hx;rw[hx]
 obtain rfl:xs=h:=(eq_of_heq hx).symm
 have Nl:cv = #[]:=by
  match hh:cv.toList,kP with
  |[],_=>exact ve.1 hh
 subst Nl;obtain rfl:=(En ha).1 au;unfold xc at ij;split at ij
 rotate_left
 .simp at ij
 rename_i re;have fm:=H7 xs re.1;have hlen:=jAG xs re.1;generalize smlA xs re.1=sm at ij fm hlen;have wx:=(pdq_sorts (Go.Proofs.ltOf λ(x y:Sml a)=>cf x.1 y.1) hO sm.toArray 0 sm.toArray.size (Lib.bitLen sm.toArray.size) true true (kf _) (js _) (Or.inl rfl)).1.1
 have sy:Calls P (ρ.f 6) #[u0,.func (.func g) #[] #[]] w λe' w'=>e' = .returned (.tuple #[])/\(w'=w/\xs=[]\/∃gb cap cur n os,u0 = .slice (some ⟨gb,0,none⟩) xs.length cap/\w.heap[gb]? = some (.cells cur e (0,0))/\xs.length<=cap/\cap<=maxLen/\cur.size=cap*a.size/\
   w'=Go.Proofs.sortWorldK (λ(x:Sml a)=>encT a x.1) a.size w gb 0 n (pdq (Go.Proofs.ltOf λ(x y:Sml a)=>cf x.1 y.1) sm.toArray 0 sm.toArray.size (Lib.bitLen sm.toArray.size) true true) os):=by
  rcases cg.2 with⟨rfl,hn⟩|⟨gb,cap,cur,rfl,_,hg,dh,nR,dE,kQ⟩
  .refine(Go.Proofs.AnyF.slices_SortFunc_none L none 0 (.func (.func g) #[] #[]) w).mono ?_
   rintro e' w' ⟨rfl,rfl⟩
   exact⟨rfl,Or.inl ⟨rfl,qh.1 hn⟩⟩
  .have bU:sm.toArray.size=xs.length:=by simpa using hlen
   have fk:=V6 (λ(x:Sml a)=>encT a x.1) a.size (λx=>Ni a x.1 ha) sm.toArray;have u7:(flatK (λ(x:Sml a)=>encT a x.1) a.size sm.toArray).toList=(xs.map (encT a)).flatten:=by rw[fk,<-fm,List.map_map];rfl
   have hH:HoldsK (λ(x:Sml a)=>encT a x.1) a.size w gb 0 sm.toArray:=V7 hg (by rw[size_flatK,bU,u7];exact kQ);have hb:gb<w.heap.size:=(ji.1 hg).1
   have:=Go.Proofs.AnyQ.slices_SortFunc_eq L a.size aE zE (λ(x:Sml a)=>encT a x.1) (λx=>Ni a x.1 ha) (λx=>jD4 a x.1 ha) (λx y=>cf x.1 y.1) hO g #[] gb 0 cap sm.toArray w eg
    (λm os dk _ x y=>Nj x.1 y.1 _ x.2 y.2) hH hb (by omega)
   rw[bU]at this ⊢;refine this.mono ?_
   rintro e' w' ⟨rfl,n,os,rfl⟩
   exact⟨rfl,Or.inr ⟨gb,cap,cur,n,os,rfl,hg,dh,nR,dE,rfl⟩⟩
 refine sy.mono ?_
 rintro e' w' ⟨rfl,hw⟩
 refine⟨_,Nk,_,S,[],rfl,?_⟩;simp only[j5]at ij;rcases hw with⟨rfl,rfl⟩|⟨gb,cap,cur,n,os,rfl,hg,dh,nR,dE,rfl⟩
 ·-- nothing to sort
  obtain rfl:sm=[]:=by simpa using hlen
  have ij:ys=[]:=by rw[<-ij];have:(pdq (Go.Proofs.ltOf λ(x y:Sml a)=>cf x.1 y.1) (#[]:Array (Sml a)) 0 0 (Lib.bitLen 0) true true).size=0:=wx;rw[List.map_eq_nil_iff];exact ve.2 (Array.size_eq_zero_iff.1 this)
  subst ij;refine⟨rfl,trivial,by simp[gC],by simp[gC],?_,dP.refl _ _,λg o h=>Or.inl h,hS,λg _ _=>rfl,js _,rfl,rfl,rfl,by intro m hm;simp[jmp,rvsF]at hm⟩;exact⟨⟨a,[],rfl,.inl ⟨he,[],cg,trivial⟩,bg⟩,rfl,trivial⟩
 .generalize pdq (Go.Proofs.ltOf λ(x y:Sml a)=>cf x.1 y.1) sm.toArray 0 sm.toArray.size (Lib.bitLen sm.toArray.size) true true=d' at ij wx
  have bU:sm.toArray.size=xs.length:=by simpa using hlen
  have wP:d'.size=xs.length:=by rw[wx,bU]
  have fk:=V6 (λ(x:Sml a)=>encT a x.1) a.size (λx=>Ni a x.1 ha) d';have u7:(flatK (λ(x:Sml a)=>encT a x.1) a.size d').toList=(List.map (encT a) ys).flatten:=by rw[fk,<-ij,List.map_map];rfl
  have nS:ys.length=xs.length:=by rw[<-ij];simpa using wP
  have hb:gb<w.heap.size:=(ji.1 hg).1;have BP:(flatK (λ(x:Sml a)=>encT a x.1) a.size d').size=xs.length*a.size:=by rw[size_flatK,wP]
  obtain⟨jW,ar,oh,zI⟩:=V8 (w:=Sort.ahead w n) (F:=flatK (λ(x:Sml a)=>encT a x.1) a.size d') hg (by rw[BP,dE];exact jw _ dh);have dQ:(putRow id (Sort.ahead w n) gb 0 (flatK (λ(x:Sml a)=>encT a x.1) a.size d')).heap.size=w.heap.size:=by simp
  have iZ:∀k,k<w.heap.size->k≠gb->(Go.Proofs.sortWorldK (λ(x:Sml a)=>encT a x.1) a.size w gb 0 n d' os).heap[k]? = w.heap[k]? := λk hk bk=>
   (H8 (by show k<(putRow id (Sort.ahead w n) gb 0 (flatK (λ(x:Sml a)=>encT a x.1) a.size d')).heap.size;rw[dQ];exact hk)).trans (V9 bk)
  have fE:w.heap.size<=(Go.Proofs.sortWorldK (λ(x:Sml a)=>encT a x.1) a.size w gb 0 n d' os).heap.size:=by show w.heap.size<=((putRow id (Sort.ahead w n) gb 0 (flatK (λ(x:Sml a)=>encT a x.1) a.size d')).heap++os).size;rw[Array.size_append,dQ];omega
  have ir:∀o,¬S gb o:=bg gb rfl;refine⟨rfl,trivial,by simp[gC],by simp[gC],?_,?_,λg o h=>Or.inl h,λg o h=>qv (hS g o h) fE,?_,fE,rfl,rfl,rfl,by intro m hm;simp[jmp,rvsF]at hm⟩
  .refine⟨⟨a,ys,rfl,.inl ⟨he,ys.map (encT a),⟨?_,Or.inr ⟨gb,cap,jW,?_,kf _,?_,?_,nR,?_,?_⟩⟩,(En ha).2 rfl⟩,bg⟩,rfl,trivial⟩
   .rw[<-u7,qg,BP,nS]
   .rw[nS]
   .exact(H8 (by show gb<(putRow id (Sort.ahead w n) gb 0 (flatK (λ(x:Sml a)=>encT a x.1) a.size d')).heap.size;rw[dQ];exact hb)).trans ar
   .rw[nS];exact dh
   .rw[oh,dE]
   .rw[nS,<-BP,zI,u7]
  .intro g' o uN;refine⟨uN,?_⟩;have bk:g'≠gb:=λhe=>ir o (he▸uN);exact World.cell?_of_block (iZ g' (hS g' o uN) bk)
  .intro g' ug jV;refine iZ g' ug λhe=>jV ?_;subst he;simp[ra,BN,argF,eI,lK,blk,ofHL,APat.n]
theorem H9{α:Type}(key:α->Int)(hk:∀x, -1152921504606846976<=key x/\key x<=1152921504606846976)(cf:α->α->Int)(h:∀x y,cf x y=w64 (key x-key y)):SWO (Go.Proofs.ltOf cf):=by
 have e:∀x y,Go.Proofs.ltOf cf x y=decide (key x<key y):=by intro x y;have h1:=hk x;have h2:=hk y;have:w64 (key x-key y)=key x-key y:=im (by omega) (by omega);simp only[Go.Proofs.ltOf,h,this];congr 1;exact propext ⟨λh=>by omega,λh=>by omega⟩
 refine⟨λx=>?_,λx y z=>?_,λx y z=>?_⟩
 .rw[e];simp
 .rw[e,e,e];simp only[jo];omega
 .rw[e,e,e];simp only[kn];omega
open Go.Sort
def zJ(xs:List Int):Option (List Int):=cond (Nat.blt xs.length 4611686018427387904) (some (nH xs)) none
theorem insI_perm(x:Int):∀l:List Int,(insI x l).Perm (x::l)
 |[]=>List.Perm.refl _
 |y::ys=>by
  unfold insI;cases decide (x<=y) with
  |true=>exact List.Perm.refl _
  |false=>exact((insI_perm x ys).cons y).trans (List.Perm.swap x y ys)
theorem isortI_perm:∀l:List Int,(nH l).Perm l
 |[]=>List.Perm.refl _
 |x::xs=>(insI_perm x _).trans ((isortI_perm xs).cons x)
theorem Wb(x:Int):∀l:List Int,l.Pairwise (· <= ·)->(insI x l).Pairwise (· <= ·)
 |[],_=>yk _ _
 |y::ys,h=>by
  have hc:=ki.1 h;unfold insI;cases hd:decide (x<=y) with
  |true=>
   have hd:=kz hd;refine ki.2 ⟨λz hz=>?_,h⟩;rcases je.1 hz with rfl|hz
   .exact hd
   .have:=hc.1 z hz;omega
  |false=>
   have hd:=of_decide_eq_false hd;refine ki.2 ⟨λz hz=>?_,Wb x ys hc.2⟩;rcases je.1 ((insI_perm x ys).mem_iff.1 hz) with rfl|hz
   .omega
   .exact hc.1 z hz
theorem Nn:∀l:List Int,(nH l).Pairwise (· <= ·)
 |[]=>List.Pairwise.nil
 |x::xs=>Wb x _ (Nn xs)
theorem Wc(xs:List Int):(xs.mergeSort λx y=>decide (x<=y))=nH xs:=by
 refine List.Perm.eq_of_pairwise (le:=(· <= ·)) (λa b _ _ h1 h2=>Int.le_antisymm h1 h2) ?_ (Nn xs) ((List.mergeSort_perm _ _).trans (isortI_perm xs).symm);have:=List.pairwise_mergeSort (le:=λx y:Int=>decide (x<=y)) (λa b c h1 h2=>by simp at h1 h2 ⊢;omega) (λa b=>by simp;omega) xs;exact this.imp (λh=>by simpa using h)
theorem jAH{xs:List Int}(h:xs.length<4611686018427387904):∃ys,zJ xs=some ys/\ys.Perm xs/\ys.Pairwise (· <= ·):=by
 unfold zJ;rw[show Nat.blt xs.length 4611686018427387904=true from Nat.ble_eq_true_of_le h];exact⟨_,rfl,isortI_perm xs,Nn xs⟩
theorem jEm(w:World)(g:Nat)(zs:List Int):putRow (Value.int .i64) w g 0 zs.toArray=putRow id w g 0 (zs.map (Value.int .i64)).toArray:=by
 have:putCells (Value.int .i64) 0 zs.toArray=putCells id 0 (zs.map (Value.int .i64)).toArray:=by
  funext c
  unfold putCells;refine Array.ext_getElem? λk=>?_;simp only[Array.getElem?_mapIdx,kf,qj,kg,Nat.sub_zero,vv,k5,id];cases c[k]? with
  |none=>rfl
  |some x=>
   simp only[qa];by_cases hk:k<zs.length
   .rw[if_pos hk,if_pos hk,getElem!_pos _ k (by simpa using hk),getElem!_pos _ k (by simpa using hk)];simp
   .rw[if_neg hk,if_neg hk]
 unfold putRow;rw[this]
theorem jAI{w:World}{g:Nat}{zs:List Int}(h:Holds id w g 0 (zs.map (Value.int .i64)).toArray):Holds (Value.int .i64) w g 0 zs.toArray:=by
 intro j hj;have iB:j<zs.length:=by simpa using hj
 have:=h j (by simpa using iB);refine⟨this.1.trans ?_,this.2⟩;rw[getElem!_pos _ j (by simpa using iB),getElem!_pos _ j hj];simp
theorem Np(zs:List Int):(zs.map (encT (.int .i64))).flatten=zs.map (Value.int .i64):=by
 induction zs with
 |nil=>rfl
 |cons z zs ih=>simp only[ke,kx,ih];rfl
variable{P:Program}{ρ:Go.Shelf.Ren}
theorem jyr(L:Go.Proofs.SlLaysM.n5 P ρ)(e:Nat)(he:isM e=false)(f:Nat)(hf:f=ρ.f 5) :
  Con.OK P ⟨f,[.rl e (.list (.int .i64))],[.list (.int .i64)],⟨[],[.rl (.list (.int .i64))]⟩,[.list (.int .i64)],zJ⟩:=by
 subst hf;intro args R k r hk;unfold Con.C at hk;split at hk
 rotate_left
 .simp at hk
 rename_i h hu;rw[HR hu];clear hu
 obtain⟨ys,ij,Nk⟩:∃ys,zJ h=some ys/\k (jmp ⟨[],[.rl (.list (.int .i64))]⟩ [.list (.int .i64)] ys)=some r:=by
  cases hs:zJ h with
  |none=>simp only[hs,Option.bind_none]at hk;exact absurd hk (by simp)
  |some ys=>simp only[hs,j4]at hk;exact⟨ys,rfl,hk⟩
 clear hk;refine⟨?_,?_⟩
 .obtain⟨nm,hn,pB⟩:=L.f5;exact⟨_,pB,rfl,hn⟩
 intro w S vals hA fA hS;have hA:All2 (oT S w) [.rl e ⟨.list (.int .i64),h⟩] vals:=hA
 obtain⟨u0,rfl⟩:∃u0,vals=[u0]:=by
  match vals,hA with
  |[u0],_=>exact⟨u0,rfl⟩
 obtain⟨⟨a',xs,hx,iX,bg⟩,_⟩:=hA
 obtain⟨css,cg,au⟩:∃css,w.ownsRow 0 e a'.size u0 xs.length css.flatten/\All2 (λx c=>Rep S w a' x c) xs css:=by
  rcases iX with⟨_,css,h1,h2⟩|⟨h1,_⟩
  .exact⟨css,h1,h2⟩
  .rw[he]at h1;simp at h1
 obtain⟨rfl,hx⟩:Ty.int .i64=a'/\HEq h xs:=by have h1:=jq TV.t hx;simp only[Ty.list.injEq]at h1;subst h1;refine⟨rfl,?_⟩;simp only[TV.mk.injEq,heq_eq_eq,qj]at hx;rw[hx]
 obtain rfl:xs=h:=(eq_of_heq hx).symm;obtain rfl:=(En (a:= .int .i64) rfl).1 au;have fk:(List.map (encT (.int .i64)) xs).flatten=List.map (Value.int .i64) xs:=Np xs;rw[fk]at cg;unfold zJ at ij;cases re:Nat.blt (List.length xs) 4611686018427387904 with
 |false=>rw[re]at ij;simp at ij
 |true=>
 rw[re]at ij;simp only[j6,j5]at ij;have re:List.length xs<4611686018427387904:=qq re;have nS:ys.length=List.length xs:=by rw[<-ij];exact(isortI_perm xs).length_eq
 have sy:Calls P (ρ.f 5) #[u0] w λe' w'=>e' = .returned (.tuple #[])/\(w'=w/\xs=[]\/∃gb cap cur n os,u0 = .slice (some ⟨gb,0,none⟩) (List.length xs) cap/\w.heap[gb]? = some (.cells cur e (0,0))/\List.length xs<=cap/\cap<=maxLen/\cur.size=cap*1/\
   w'=grow (putRow id (Sort.ahead w n) gb 0 (ys.map (Value.int .i64)).toArray) os):=by
  rcases cg.2 with⟨rfl,hn⟩|⟨gb,cap,cur,rfl,_,hg,dh,nR,dE,kQ⟩
  .refine(Go.Proofs.AnyM.slices_Sort_int_none L none 0 w).mono ?_
   rintro e' w' ⟨rfl,rfl⟩
   exact⟨rfl,Or.inl ⟨rfl,qh.1 hn⟩⟩
  .have hH:Holds (Value.int .i64) w gb 0 (List.toArray xs):=jAI (V7 hg (by simpa[Ty.size]using kQ));have hb:gb<w.heap.size:=(ji.1 hg).1;refine(Go.Proofs.AnyM.slices_Sort_int L gb 0 cap xs w hH hb re).mono ?_
   rintro e' w' ⟨rfl,n,os,rfl⟩
   rw[Wc,ij,jEm];exact⟨rfl,Or.inr ⟨gb,cap,cur,n,os,rfl,hg,dh,nR,dE,rfl⟩⟩
 refine sy.mono ?_
 rintro e' w' ⟨rfl,hw⟩
 refine⟨_,Nk,_,S,[],rfl,?_⟩;rcases hw with⟨rfl,rfl⟩|⟨gb,cap,cur,n,os,rfl,hg,dh,nR,dE,rfl⟩
 .have ij:ys=[]:=qh.1 (by simpa using nS);subst ij;refine⟨rfl,trivial,by simp[gC],by simp[gC],?_,dP.refl _ _,λg o h=>Or.inl h,hS,λg _ _=>rfl,js _,rfl,rfl,rfl,by intro m hm;simp[jmp,rvsF]at hm⟩;exact⟨⟨.int .i64,[],rfl,.inl ⟨he,[],cg,trivial⟩,bg⟩,rfl,trivial⟩
 .have hb:gb<w.heap.size:=(ji.1 hg).1;have BP:(ys.map (Value.int .i64)).toArray.size=List.length xs:=by simp[nS]
  obtain⟨jW,ar,oh,zI⟩:=V8 (w:=Sort.ahead w n) (F:=(ys.map (Value.int .i64)).toArray) hg (by rw[BP,dE];omega);have dQ:(putRow id (Sort.ahead w n) gb 0 (ys.map (Value.int .i64)).toArray).heap.size=w.heap.size:=by simp
  have iZ:∀k,k<w.heap.size->k≠gb->(grow (putRow id (Sort.ahead w n) gb 0 (ys.map (Value.int .i64)).toArray) os).heap[k]? = w.heap[k]? := λk hk bk=>
   (H8 (by rw[dQ];exact hk)).trans (V9 bk)
  have fE:w.heap.size<=(grow (putRow id (Sort.ahead w n) gb 0 (ys.map (Value.int .i64)).toArray) os).heap.size:=by show w.heap.size<=((putRow id (Sort.ahead w n) gb 0 (ys.map (Value.int .i64)).toArray).heap++os).size;rw[Array.size_append,dQ];omega
  have ir:∀o,¬S gb o:=bg gb rfl;refine⟨rfl,trivial,by simp[gC],by simp[gC],?_,?_,λg o h=>Or.inl h,λg o h=>qv (hS g o h) fE,?_,fE,rfl,rfl,rfl,by intro m hm;simp[jmp,rvsF]at hm⟩
  .refine⟨⟨.int .i64,ys,rfl,.inl ⟨he,ys.map (encT (.int .i64)),⟨?_,Or.inr ⟨gb,cap,jW,?_,kf _,?_,?_,nR,?_,?_⟩⟩,(En (a:= .int .i64) rfl).2 rfl⟩,bg⟩,rfl,trivial⟩
   .rw[Np];simp[Ty.size]
   .rw[nS]
   .exact(H8 (by rw[dQ];exact hb)).trans ar
   .rw[nS];exact dh
   .rw[oh,dE];rfl
   .rw[Np,nS,show List.length xs*(Ty.int .i64).size=(ys.map (Value.int .i64)).toArray.size by rw[BP];simp[Ty.size],zI]
  .intro g' o uN;refine⟨uN,?_⟩;have bk:g'≠gb:=λhe=>ir o (he▸uN);exact World.cell?_of_block (iZ g' (hS g' o uN) bk)
  .intro g' ug jV;refine iZ g' ug λhe=>jV ?_;subst he;simp[ra,BN,argF,eI,lK,blk,ofHL]
open Go.Sort Go.Maps Go.Shelf
variable{P:Program}{ρ ρ' ρ'':Ren}
abbrev sA:Value->Option (DataW Unit×List MemPlace):=λ_=>some (.lit (.bool true),[])
theorem Wd(w:World)(o:Obj){k:Nat}(hk:k<w.heap.size):(w.alloc o).heap[k]? = w.heap[k]? := by
 show (w.heap.push o)[k]? = _;rw[Array.getElem?_push,if_neg (by omega)]
theorem jAJ{w:World}{g:Nat}{es:Array MapEntry}{clock:Nat}{ks:List Int}{k:TypeId}(hk:P.underlying k=some (.int .i64))(hh:w.heap[g]? = some (.map es clock))(aM:MapKept.Stamped es clock)
  (hks:es.toList.map (·.key)=ks.map (Value.int .i64))(hr:∀x∈ks, -9223372036854775808<=x/\x<=9223372036854775807)(hl:ks.length<=1000000) :
  ∃D:DataW Unit,w.ownsMap P k sA g es.size D/\ks.Perm (intKeys D)/\Maps.size D=ks.length:=by
 have uQ:∀x∈es.toList,∃z,x.key = .int .i64 z/\keyOf P k x.key=some (.int .i64 z):=by intro x hx;have:x.key∈es.toList.map (·.key):=jt.2 ⟨x,hx,rfl⟩;rw[hks]at this;obtain⟨z,hz,he⟩:=jt.1 this;refine⟨z,he.symm,?_⟩;rw[<-he];exact keyOf_int_mk hk (by have:=hr z hz;simp[Lit.wf,show IntKind.i64.min = -9223372036854775808 by decide,show IntKind.i64.max=9223372036854775807 by decide];omega)
 have hlen:es.size=ks.length:=by have:=jq List.length hks;simpa using this
 refine⟨_,⟨es,clock,hh,⟨by rw[hlen];simp[maxLen];omega,aM,λx hx=>?_⟩,js _,rfl⟩,?_,?_⟩
 .obtain⟨z,_,hz⟩:=uQ x hx;exact⟨(.int .i64 z,.lit (.bool true)),by simp[WideElems.rd,hz]⟩
 .have e:(es.toList.map (WideElems.rg P k sA)).map (λp=>intOf p.1)=ks:=by
   have:∀(l:List MapEntry)(ks:List Int),(∀x∈l,∃z,x.key = .int .i64 z/\keyOf P k x.key=some (.int .i64 z))->l.map (·.key)=ks.map (Value.int .i64)->(l.map (WideElems.rg P k sA)).map (λp=>intOf p.1)=ks:=by
    intro l;induction l with
    |nil=>intro ks _ h;cases ks<;>simp_all
    |cons x r ih=>
     intro ks hx h;cases ks with
     |nil=>simp at h
     |cons z q=>
      simp only[ke,List.cons.injEq]at h ⊢;obtain⟨z',h1,h2⟩:=hx x (by simp);refine⟨?_,ih q (λy hy=>hx y (by simp[hy])) h.2⟩;rw[h.1]at h1;have:z=z':=by simpa using h1
      subst this;simp[WideElems.rg,WideElems.rd,h2,intOf]
   exact this _ _ uQ hks
  show ks.Perm (((es.toList.map (WideElems.rg P k sA)).foldr DataW.insert []).map λp=>intOf p.1);exact(e▸((WideShapes.sorted_perm _).map (λp:Lit×DataW Unit=>intOf p.1)).symm)
 .show ((es.toList.map (WideElems.rg P k sA)).foldr DataW.insert []).length=ks.length;rw[length_sorted];simp[hlen]
theorem jys(LK:Go.Proofs.SlLaysZI.n7 P ρ)(LS:Go.Proofs.SlLaysZI.n6 P ρ')(LM:Go.Proofs.SlLaysM.n5 P ρ''){fK fS e:Nat}(hK:ρ.f 7=fK)(hS:ρ'.f 6=fS)(he:ρ'.t 26=e)(hm:ρ''.f 5=ρ'.f 9):LF P fK fS e:=by
 subst hK;subst hS;subst he;refine⟨?_,?_,?_⟩
 .obtain⟨nm,hn,pB⟩:=LK.f7;exact⟨_,pB,rfl,hn⟩
 .obtain⟨nm,hn,pB⟩:=LS.f6;exact⟨_,pB,rfl,hn⟩
 intro w g es clock ks hh aM hks hr hl;obtain⟨D,aU,Eo,bU⟩:=jAJ (P:=P) LK.t26 hh aM hks hr hl;have uB:=aU.lt;have cK:=callsIn_wide.1 (Go.Proofs.AnyZI.keys_in LK Fence.wide 5 trivial rfl (some g) w);refine cK.mono ?_
 rintro r w1 ⟨rfl,rfl⟩
 refine⟨_,rfl,⟨λk hk=>Wd w _ hk,by simp,rfl,rfl,rfl⟩,?_⟩
 have Nq:=Go.Proofs.AnyZI.keys_gives (ρ:=ρ) { LK with } Fence.wide 2 trivial rfl (by omega) w.heap.size g es.size D (w.alloc (.cells #[.map (some g)] (ρ.t 23))) (by simp) (by simp) (by
  obtain⟨es,clock,hb,Ft,hs,hD⟩:=aU;exact⟨es,clock,(Wd w _ uB).trans hb,Ft,hs,hD⟩)
 have zK:Go.Proofs.AnyZI.SortsIn P ρ' Fence.wide 4:=by unfold Go.Proofs.AnyZI.SortsIn;rw[<-hm];exact⟨λblk off cap ss W hH hblk bU=>callsIn_wide.2 (Go.Proofs.AnyM.slices_Sort_int LM blk off cap ss W hH hblk bU),λp cap W=>callsIn_wide.2 (Go.Proofs.AnyM.slices_Sort_int_none LM p cap W)⟩
 have cS:=callsIn_wide.1 (Go.Proofs.AnyZI.sorted_in LS Fence.wide 5 trivial trivial trivial trivial rfl (by omega) zK (hm▸LM.f5.enters rfl) (ρ.f 10) #[.pointer (some ⟨w.heap.size,0,none⟩)] trivial (LK.f10.enters rfl) _ _ (by rw[bU];simp[maxLen];omega) (by rw[bU];omega) _ Nq);refine cS.mono ?_
 rintro r2 w2 ⟨v,ss,rfl,hS,cg,fo,hb⟩
 refine⟨v,rfl,?_,⟨hb.block,hb.size,hb.os,hb.tape,hb.output⟩⟩;have hp:ss.Perm ks:=hS.trans Eo.symm;rw[<-Wc ks,<-mergeSort_of_perm_i hp,<-hp.length_eq];exact cg
end Go.Lft
