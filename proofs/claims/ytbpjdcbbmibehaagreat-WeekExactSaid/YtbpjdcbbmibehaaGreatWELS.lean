/- sy.SortFunc: the kit's mK of it as a mK on plain data. -/
import Derived.Test.YtbpjdcbbmibehaaGreatWELD
import Derived.Shelf.SlSortCmp.NoneTotal
import Derived.Shelf.SortM.Plain
import Derived.Shelf.SortM.SortNone
set_option linter.unusedVariables false
namespace Go.Lft
open Go.Sort
def Ty.scal:Ty->Bool
 |.int _|.bool|.str|.unit=>true
 |.wrap a=>a.scal
 |.pair a b=>a.scal&&b.scal
 |.list _=>false
 |.arr _ _=>false
def encT:(t:Ty)->t.den->List Value
 |.int k,n=>[.int k n]
 |.bool,b=>[.bool b]
 |.str,s=>[.string s]
 |.unit,_=>[]
 |.wrap a,v=>encT a v
 |.pair a b,v=>encT a v.1++encT b v.2
 |.list _,_=>[]
 |.arr _ _,_=>[]
def gd:(t:Ty)->t.den->Bool
 |.int _,n=>decide (-1152921504606846976<=(n:Int))&&decide ((n:Int)<=1152921504606846976)
 |.bool,_=>true
 |.str,_=>true
 |.unit,_=>true
 |.wrap a,v=>gd a v
 |.pair a b,v=>gd a v.1&&gd b v.2
 |.list _,_=>true
 |.arr _ _,_=>true
theorem zD:∀t:Ty,gd t t.dflt=true
 |.int _=>by simp[gd,Ty.dflt]
 |.bool=>rfl
 |.str=>rfl
 |.unit=>rfl
 |.wrap a=>zD a
 |.pair a b=>by simp[gd,Ty.dflt,zD a,zD b]
 |.list _=>rfl
 |.arr _ _=>rfl
theorem qP{S:aq}{w:World}:∀(t:Ty)(v:t.den)(cs:List Value),t.scal=true->(Rep S w t v cs↔cs=encT t v)
 |.int _,_,_,_=>Iff.rfl
 |.bool,_,_,_=>Iff.rfl
 |.str,_,_,_=>Iff.rfl
 |.unit,_,_,_=>Iff.rfl
 |.wrap a,v,cs,h=>qP a v cs h
 |.pair a b,v,cs,h=>by
  simp only[Ty.scal,jb]at h;constructor
  .rintro⟨c1,c2,rfl,h1,h2⟩
   rw[(qP a _ _ h.1).1 h1,(qP b _ _ h.2).1 h2];rfl
  .rintro rfl
   exact⟨_,_,rfl,(qP a _ _ h.1).2 rfl,(qP b _ _ h.2).2 rfl⟩
 |.list _,_,_,h=>by simp[Ty.scal]at h
 |.arr _ _,_,_,h=>by simp[Ty.scal]at h
theorem DR(t:Ty)(v:t.den)(h:t.scal=true):(encT t v).length=t.size:=
 Rep.length (S:=λ_ _=>False) (w:=default) t v _ ((qP t v _ h).2 rfl)
theorem QA(t:Ty)(v:t.den)(h:t.scal=true):∀u∈encT t v,u.oneCell'=true:=
 Rep.one (S:=λ_ _=>False) (w:=default) t v _ ((qP t v _ h).2 rfl)
abbrev Sml(a:Ty):Type:={ x:a.den // gd a x=true }
instance(a:Ty):Inhabited (Sml a):=⟨⟨a.dflt,zD a⟩⟩
def smlA{a:Ty}:(xs:List a.den)->xs.all (gd a)=true->List (Sml a)
 |[],_=>[]
 |x::xs,h=>⟨x,by simp at h;exact h.1⟩::smlA xs (by simp at h ⊢;exact h.2)
theorem zF{a:Ty}:∀(xs:List a.den)(h:xs.all (gd a)=true),(smlA xs h).map (·.1)=xs
 |[],_=>rfl
 |x::xs,h=>by simp[smlA,zF xs]
theorem QB{a:Ty}(xs:List a.den)(h:xs.all (gd a)=true):(smlA xs h).length=xs.length:=by
 rw[<-qf (f:=(·.1)),zF]
noncomputable def sA(a:Ty)(cf:a.den->a.den->Int)(xs:List a.den):Option (List a.den):=
 if h:xs.all (gd a)=true/\xs.length<4611686018427387904 then
  some ((pdq (Go.Proofs.ltOf λ(x y:Sml a)=>cf x.1 y.1) (smlA xs h.1).toArray 0 (smlA xs h.1).toArray.size (Lib.bitLen (smlA xs h.1).toArray.size) true true).toList.map (·.1))
 else none
theorem QC{a:Ty}{cf:a.den->a.den->Int}(hO:SWO (Go.Proofs.ltOf λ(x y:Sml a)=>cf x.1 y.1)){xs:List a.den}(h:∀x∈xs,gd a x=true)(hl:xs.length<4611686018427387904) :
  ∃ys,sA a cf xs=some ys/\ys.Perm xs/\ys.Pairwise (λx y=>¬cf y x<0):=by
 have h1:xs.all (gd a)=true:=ji.2 h;unfold sA;rw[dif_pos ⟨h1,hl⟩];refine⟨_,rfl,?_,?_⟩
 .have hp:=(pdq_sorts (Go.Proofs.ltOf λ(x y:Sml a)=>cf x.1 y.1) hO (smlA xs h1).toArray 0 (smlA xs h1).toArray.size (Lib.bitLen (smlA xs h1).toArray.size) true true (jw _) (jr _) (Or.inl rfl)).1;obtain⟨hs,_,hp⟩:=hp;generalize pdq (Go.Proofs.ltOf λ(x y:Sml a)=>cf x.1 y.1) (smlA xs h1).toArray 0 (smlA xs h1).toArray.size (Lib.bitLen (smlA xs h1).toArray.size) true true=d' at *;rw[<-hs]at hp;rw[Array.extract_size,hs,Array.extract_size]at hp;have:=hp.map (·.1);rwa[show (smlA xs h1).toArray.toList=smlA xs h1 from rfl,zF]at this
 .have hp:=(pdq_sorts (Go.Proofs.ltOf λ(x y:Sml a)=>cf x.1 y.1) hO (smlA xs h1).toArray 0 (smlA xs h1).toArray.size (Lib.bitLen (smlA xs h1).toArray.size) true true (jw _) (jr _) (Or.inl rfl));obtain⟨⟨hs,_,_⟩,hp⟩:=hp;generalize pdq (Go.Proofs.ltOf λ(x y:Sml a)=>cf x.1 y.1) (smlA xs h1).toArray 0 (smlA xs h1).toArray.size (Lib.bitLen (smlA xs h1).toArray.size) true true=d' at *;rw[List.pairwise_map,List.pairwise_iff_getElem];intro i j hi hj cg;have ei:i<d'.size:=by simpa using hi
  have iu:j<d'.size:=by simpa using hj
  have:=hp i j (jw _) cg (by omega);rw[getElem!_pos d' j iu,getElem!_pos d' i ei]at this;simpa[Go.Proofs.ltOf]using this
theorem Jc{m:Nat}:∀{css:List (List Value)},(∀c∈css,c.length=m)->∀t,t<css.length*m->css.flatten[t]? = ((css[t/m]?).getD [])[t%m]?
 |[],_,t,ht=>by simp at ht
 |c::css,h,t,ht=>by
  have hc:c.length=m:=h c (by simp)
  have m0:0<m:=by
   rcases Nat.eq_zero_or_pos m with h0|h0
   .subst h0;simp at ht
   .exact h0
  by_cases ak:t<m
  .rw[k9,List.getElem?_append_left (by omega),Nat.div_eq_of_lt ak,Nat.mod_eq_of_lt ak];simp
  .have h':∀c∈css,c.length=m:=λc hc=>h c (by simp[hc]);have pE:t-m<css.length*m:=by simp only[jm,zd]at ht;omega
   rw[k9,k5 (by omega),hc,Jc h' (t-m) pE];have e1:t=t-m+m:=by omega
   have e2:t/m=(t-m)/m+1:=(kc (· / m) e1).trans (Nat.add_div_right _ m0);have e3:t%m=(t-m)%m:=(kc (· % m) e1).trans (Nat.add_mod_right _ _);rw[e2,e3,List.getElem?_cons_succ]
theorem Jd{α:Type}(enc:α->List Value):∀xs:List α,All2 (λx c=>c=enc x) xs (xs.map enc)
 |[]=>trivial
 |x::xs=>⟨rfl,Jd enc xs⟩
theorem Jf{α:Type}[Inhabited α](enc:α->List Value)(k:Nat)(hk:∀x,(enc x).length=k)(d:Array α):(flatK enc k d).toList=(d.toList.map enc).flatten:=by
 have hl:(d.toList.map enc).flatten.length=d.size*k:=by have:=All2.flatten_length (R:=λx c=>c=enc x) (n:=k) (λx c h=>by rw[h,hk]) (xs:=d.toList) (css:=d.toList.map enc) (Jd enc _);simpa using this
 refine qn λt=>?_;by_cases ht:t<d.size*k
 .rw[Jc (m:=k) (by simpa using λx _=>hk x) t (by simpa using ht)]
  have k0:0<k:=by
   rcases Nat.eq_zero_or_pos k with h0|h0
   .subst h0;simp at ht
   .exact h0
  have hd:t/k<d.size:=Nat.div_lt_of_lt_mul (by rw[Nat.mul_comm];exact ht);have hm:t%k<k:=Nat.mod_lt _ k0;have:=get_flatK enc k d t ht;rw[getElem!_pos _ t (by rw[size_flatK];exact ht)]at this;rw[ke,jh (by rw[size_flatK];exact ht),this,getElem!_pos d _ hd];simp only[kn,ke,jh hd,ki,Option.getD_some];rw[getElem!_pos _ _ (by rw[hk];exact hm),jq (by rw[hk];exact hm)]
 .rw[kr (by rw[km,size_flatK];omega),kr (by omega)]
theorem QD{w:World}{g:Nat}{cur F:Array Value}{e:Nat}(hg:w.heap[g]? = some (.cells cur e (0,0)))(ht:cur.toList.take F.size=F.toList):Holds id w g 0 F:=by
 intro j hj
 have h1:cur[j]? = some F[j]:=by
  have:(cur.toList.take F.size)[j]? = F.toList[j]? := by rw[ht]
  rw[List.getElem?_take_of_lt hj,ke,ke,jh hj]at this;exact this
 refine⟨?_,?_⟩
 .simp only[World.cell?,hg,jt];rw[getElem!_pos F j hj];simpa using h1
 .simp[World.frozen?,hg]
theorem QE{w:World}{g:Nat}{cur F:Array Value}{e:Nat}(hg:w.heap[g]? = some (.cells cur e (0,0)))(hF:F.size<=cur.size) :
  ∃gx,(putRow id w g 0 F).heap[g]? = some (.cells gx e (0,0))/\gx.size=cur.size/\gx.toList.take F.size=F.toList:=by
 refine⟨putCells id 0 F cur,?_,?_,?_⟩
 .unfold putRow mapBlock;simp only[Array.getElem?_modify,if_true,hg,ki,onCells]
 .simp[putCells]
 .refine qn λt=>?_;by_cases ht:t<F.size
  .rw[List.getElem?_take_of_lt ht,ke,ke];simp only[putCells,Array.getElem?_mapIdx];rw[jh (show t<cur.size by omega),jh ht];simp only[ki,jw,kq,jt,ht,if_true,Nat.sub_zero,id];rw[getElem!_pos F t ht]
  .rw[List.getElem?_take_eq_none (by omega),kr (by simpa using ht)]
theorem QF{w:World}{g k:Nat}{F:Array Value}(h:k≠g):(putRow id w g 0 F).heap[k]? = w.heap[k]? := by
 unfold putRow mapBlock;simp only[Array.getElem?_modify,Ne.symm h,qi]
theorem Jg{w:World}{os:Array Obj}{k:Nat}(h:k<w.heap.size):(grow w os).heap[k]? = w.heap[k]? := by
 simp only[grow];exact Array.getElem?_append_left h
theorem DS{a:Ty}{S:aq}{w:World}(ha:a.scal=true):∀{xs:List a.den}{css:List (List Value)},All2 (λx c=>Rep S w a x c) xs css↔css=xs.map (encT a)
 |[],[]=>by simp[All2]
 |x::xs,c::css=>by
  simp only[All2,qb,zh];exact and_congr (qP a x c ha) (DS ha)
 |[],_::_=>by simp[All2]
 |_::_,[]=>by simp[All2]
variable{P:Program}{ρ:Go.Shelf.Ren}
theorem QG(L:Go.Proofs.SlLaysF0.n6 P ρ)(a:Ty)(ha:a.scal=true)(e:Nat)(he:isM e=false)(aE:∀w,(isAgg (ρ.t 24)).run P w = .ok true w)(zE:∀w,(Go.sizeOf (ρ.t 24)).run P w = .ok a.size w)(cf:a.den->a.den->Int)(g:Nat)
  (eg:∀args w,(callFunc g args).run P w = .ok (.enter g args) w)
  (DT:∀(x y:a.den)(w:World),gd a x=true->gd a y=true->Calls P g #[.agg (encT a x).toArray,.agg (encT a y).toArray] w λe w'=>e = .returned (.int .i64 (cf x y))/\∃q pO,w'=grow (w.drewN q) pO)
  (hO:SWO (Go.Proofs.ltOf λ(x y:Sml a)=>cf x.1 y.1))(f:Nat)(hf:f=ρ.f 6) :
  Con.OK P ⟨f,[.rl e (.list a),.clo g []],[.list a],⟨[],[.rl (.list a)]⟩,[.list a],sA a cf⟩:=by
 subst hf;intro args R k r hk;unfold Con.C at hk;split at hk
 rotate_left
 .simp at hk
 rename_i h hu;rw[DB hu];clear hu
 obtain⟨ys,gY,QH⟩:∃ys,sA a cf h=some ys/\k (nB ⟨[],[.rl (.list a)]⟩ [.list a] ys)=some r:=by
  cases hs:sA a cf h with
  |none=>simp only[hs,Option.bind_none]at hk;exact absurd hk (by simp)
  |some ys=>simp only[hs,j4]at hk;exact⟨ys,rfl,hk⟩
 clear hk;refine⟨?_,?_⟩
 .obtain⟨nm,hn,oq⟩:=L.f6;exact⟨_,oq,rfl,hn⟩
 intro w S vals hA bV hS;have hA:All2 (jM S w) [.rl e ⟨.list a,h⟩,.clo g []] vals:=hA
 obtain⟨u0,u1,rfl⟩:∃u0 u1,vals=[u0,u1]:=by
  match vals,hA with
  |[u0,u1],_=>exact⟨u0,u1,rfl⟩
 obtain⟨⟨a',xs,hx,ig,ay⟩,⟨cv,rfl,fA⟩,_⟩:=hA
 obtain⟨css,bb,ah⟩:∃css,w.ownsRow 0 e a'.size u0 xs.length css.flatten/\All2 (λx c=>Rep S w a' x c) xs css:=by
  rcases ig with⟨_,css,h1,h2⟩|⟨h1,_⟩
  .exact⟨css,h1,h2⟩
  .rw[he]at h1;simp at h1
 obtain⟨rfl,hx⟩:a=a'/\HEq h xs:=by have h1:=kc TV.t hx;simp only[Ty.list.injEq]at h1;subst h1;refine⟨rfl,?_⟩;simp only[TV.mk.injEq,heq_eq_eq,kq]at hx;rw[hx]
 obtain rfl:xs=h:=(eq_of_heq hx).symm
 have DU:cv = #[]:=by
  match hh:cv.toList,fA with
  |[],_=>exact qm.1 hh
 subst DU;obtain rfl:=(DS ha).1 ah;unfold sA at gY;split at gY
 rotate_left
 .simp at gY
 rename_i uc;have ct:=zF xs uc.1;have hlen:=QB xs uc.1;generalize smlA xs uc.1=sm at gY ct hlen;have ng:=(pdq_sorts (Go.Proofs.ltOf λ(x y:Sml a)=>cf x.1 y.1) hO sm.toArray 0 sm.toArray.size (Lib.bitLen sm.toArray.size) true true (jw _) (jr _) (Or.inl rfl)).1.1
 have xe:Calls P (ρ.f 6) #[u0,.func (.func g) #[] #[]] w λe' w'=>e' = .returned (.tuple #[])/\(w'=w/\xs=[]\/∃gb cap cur n os,u0 = .slice (some ⟨gb,0,none⟩) xs.length cap/\w.heap[gb]? = some (.cells cur e (0,0))/\xs.length<=cap/\cap<=maxLen/\cur.size=cap*a.size/\
   w'=Go.Proofs.sortWorldK (λ(x:Sml a)=>encT a x.1) a.size w gb 0 n (pdq (Go.Proofs.ltOf λ(x y:Sml a)=>cf x.1 y.1) sm.toArray 0 sm.toArray.size (Lib.bitLen sm.toArray.size) true true) os):=by
  rcases bb.2 with⟨rfl,hn⟩|⟨gb,cap,cur,rfl,_,hg,cQ,vj,cB,tJ⟩
  .refine(Go.Proofs.AnyF.slices_SortFunc_none L none 0 (.func (.func g) #[] #[]) w).mono ?_
   rintro e' w' ⟨rfl,rfl⟩
   exact⟨rfl,Or.inl ⟨rfl,List.length_eq_zero_iff.1 hn⟩⟩
  .have ba:sm.toArray.size=xs.length:=by simpa using hlen
   have dV:=Jf (λ(x:Sml a)=>encT a x.1) a.size (λx=>DR a x.1 ha) sm.toArray;have oU:(flatK (λ(x:Sml a)=>encT a x.1) a.size sm.toArray).toList=(xs.map (encT a)).flatten:=by rw[dV,<-ct,zl];rfl
   have hH:HoldsK (λ(x:Sml a)=>encT a x.1) a.size w gb 0 sm.toArray:=QD hg (by rw[size_flatK,ba,oU];exact tJ);have hb:gb<w.heap.size:=(jc.1 hg).1
   have:=Go.Proofs.AnyQ.slices_SortFunc_eq L a.size aE zE (λ(x:Sml a)=>encT a x.1) (λx=>DR a x.1 ha) (λx=>QA a x.1 ha) (λx y=>cf x.1 y.1) hO g #[] gb 0 cap sm.toArray w eg
    (λm os dk _ x y=>DT x.1 y.1 _ x.2 y.2) hH hb (by omega)
   rw[ba]at this ⊢;refine this.mono ?_
   rintro e' w' ⟨rfl,n,os,rfl⟩
   exact⟨rfl,Or.inr ⟨gb,cap,cur,n,os,rfl,hg,cQ,vj,cB,rfl⟩⟩
 refine xe.mono ?_
 rintro e' w' ⟨rfl,hw⟩
 refine⟨_,QH,_,S,[],rfl,?_⟩;simp only[j5]at gY;rcases hw with⟨rfl,rfl⟩|⟨gb,cap,cur,n,os,rfl,hg,cQ,vj,cB,rfl⟩
 ·-- nothing to sort
  obtain rfl:sm=[]:=by simpa using hlen
  have gY:ys=[]:=by rw[<-gY];have:(pdq (Go.Proofs.ltOf λ(x y:Sml a)=>cf x.1 y.1) (#[]:Array (Sml a)) 0 0 (Lib.bitLen 0) true true).size=0:=ng;rw[List.map_eq_nil_iff];exact qm.2 (Array.size_eq_zero_iff.1 this)
  subst gY;refine⟨rfl,trivial,by simp[dX],by simp[dX],?_,bY.refl _ _,λg o h=>Or.inl h,hS,λg _ _=>rfl,jr _,rfl,rfl,rfl,by intro n s hm;simp[nB,rvsF]at hm,by intro m hm;simp[nB,rvsF]at hm⟩;exact⟨⟨a,[],rfl,.inl ⟨he,[],bb,trivial⟩,ay⟩,rfl,trivial⟩
 .generalize pdq (Go.Proofs.ltOf λ(x y:Sml a)=>cf x.1 y.1) sm.toArray 0 sm.toArray.size (Lib.bitLen sm.toArray.size) true true=d' at gY ng
  have ba:sm.toArray.size=xs.length:=by simpa using hlen
  have tN:d'.size=xs.length:=by rw[ng,ba]
  have dV:=Jf (λ(x:Sml a)=>encT a x.1) a.size (λx=>DR a x.1 ha) d';have oU:(flatK (λ(x:Sml a)=>encT a x.1) a.size d').toList=(List.map (encT a) ys).flatten:=by rw[dV,<-gY,zl];rfl
  have pH:ys.length=xs.length:=by rw[<-gY];simpa using tN
  have hb:gb<w.heap.size:=(jc.1 hg).1;have DV:(flatK (λ(x:Sml a)=>encT a x.1) a.size d').size=xs.length*a.size:=by rw[size_flatK,tN]
  obtain⟨gx,af,mD,DW⟩:=QE (w:=Sort.ahead w n) (F:=flatK (λ(x:Sml a)=>encT a x.1) a.size d') hg (by rw[DV,cB];exact jv _ cQ);have bS:(putRow id (Sort.ahead w n) gb 0 (flatK (λ(x:Sml a)=>encT a x.1) a.size d')).heap.size=w.heap.size:=by simp
  have mL:∀k,k<w.heap.size->k≠gb->(Go.Proofs.sortWorldK (λ(x:Sml a)=>encT a x.1) a.size w gb 0 n d' os).heap[k]? = w.heap[k]? := λk hk aB=>
   (Jg (by show k<(putRow id (Sort.ahead w n) gb 0 (flatK (λ(x:Sml a)=>encT a x.1) a.size d')).heap.size;rw[bS];exact hk)).trans (QF aB)
  have dY:w.heap.size<=(Go.Proofs.sortWorldK (λ(x:Sml a)=>encT a x.1) a.size w gb 0 n d' os).heap.size:=by show w.heap.size<=((putRow id (Sort.ahead w n) gb 0 (flatK (λ(x:Sml a)=>encT a x.1) a.size d')).heap++os).size;rw[Array.size_append,bS];omega
  have fQ:∀o,¬S gb o:=ay gb rfl;refine⟨rfl,trivial,by simp[dX],by simp[dX],?_,?_,λg o h=>Or.inl h,λg o h=>q7 (hS g o h) dY,?_,dY,rfl,rfl,rfl,by intro n s hm;simp[nB,rvsF]at hm,by intro m hm;simp[nB,rvsF]at hm⟩
  .refine⟨⟨a,ys,rfl,.inl ⟨he,ys.map (encT a),⟨?_,Or.inr ⟨gb,cap,gx,?_,jw _,?_,?_,vj,?_,?_⟩⟩,(DS ha).2 rfl⟩,ay⟩,rfl,trivial⟩
   .rw[<-oU,km,DV,pH]
   .rw[pH]
   .exact(Jg (by show gb<(putRow id (Sort.ahead w n) gb 0 (flatK (λ(x:Sml a)=>encT a x.1) a.size d')).heap.size;rw[bS];exact hb)).trans af
   .rw[pH];exact cQ
   .rw[mD,cB]
   .rw[pH,<-DV,DW,oU]
  .intro g' o DX;refine⟨DX,?_⟩;have aB:g'≠gb:=λhe=>fQ o (he▸DX);exact World.cell?_of_block (mL g' (hS g' o DX) aB)
  .intro g' fw cY;refine mL g' fw λhe=>cY ?_;subst he;simp[mG,wY,argF,cu,gy,blk,ofHL,APat.n]
theorem Jh{α:Type}(key:α->Int)(hk:∀x, -1152921504606846976<=key x/\key x<=1152921504606846976)(cf:α->α->Int)(h:∀x y,cf x y=w64 (key x-key y)):SWO (Go.Proofs.ltOf cf):=by
 have e:∀x y,Go.Proofs.ltOf cf x y=decide (key x<key y):=by intro x y;have h1:=hk x;have h2:=hk y;have:w64 (key x-key y)=key x-key y:=an (by omega) (by omega);simp only[Go.Proofs.ltOf,h,this];congr 1;exact propext ⟨λh=>by omega,λh=>by omega⟩
 refine⟨λx=>?_,λx y z=>?_,λx y z=>?_⟩
 .rw[e];simp
 .rw[e,e,e];simp only[jg];omega
 .rw[e,e,e];simp only[k7];omega
open Go.Sort
variable{P:Program}{ρ:Go.Shelf.Ren}
end Go.Lft
