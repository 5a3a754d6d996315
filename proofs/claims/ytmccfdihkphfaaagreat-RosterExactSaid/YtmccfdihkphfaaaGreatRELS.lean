/- zW.SortFunc: the kit's sr of it as a sr on plain data. -/
import Derived.Test.YtmccfdihkphfaaaGreatRELD
import Derived.Shelf.SlSortCmp.NoneTotal
import Derived.Shelf.SortM.Plain
import Derived.Shelf.SortM.SortNone
open Go.Proofs renaming ltOf->p,sortWorldK->H
open Go.Value renaming int->A
open Bool renaming true->B,false->Ô
open _root_ renaming List->D,Int->M,Nat->Å,Array->É
open Go.Lib renaming bitLen->E
open List renaming length->G,getElem?_take_of_lt->J,map_map->Í,map->Î
open Option renaming some->I,bind_none->Æ,none->Ò
open Or renaming inl->K,inr->Ð
open Array renaming getElem?_modify->N,getElem?_mapIdx->O,extract_size->À,size_append->Ä
open List.Perm renaming refl->U,eq_of_pairwise->Ê,swap->Ö
open Go renaming Value->X,World->Y
set_option linter.unusedVariables false
namespace Go.Lft
open Go.Sort
def Ty.scal:Ty->Bool
 |.int _|.bool|.str|.unit=>B
 |.wrap a=>a.scal
 |.pair a b=>a.scal&&b.scal
 |.list _=>Ô
 |.arr _ _=>Ô
def encT:(t:Ty)->t.den->D X
 |.int k,n=>[.int k n]
 |.bool,b=>[.bool b]
 |.str,s=>[.string s]
 |.unit,_=>[]
 |.wrap a,v=>encT a v
 |.pair a b,v=>encT a v.1++encT b v.2
 |.list _,_=>[]
 |.arr _ _,_=>[]
def iP:(t:Ty)->t.den->Bool
 |.int _,n=>decide (-1152921504606846976<=(n:M))&&decide ((n:M)<=1152921504606846976)
 |.bool,_=>B
 |.str,_=>B
 |.unit,_=>B
 |.wrap a,v=>iP a v
 |.pair a b,v=>iP a v.1&&iP b v.2
 |.list _,_=>B
 |.arr _ _,_=>B
theorem Im:∀t:Ty,iP t t.dflt=B
 |.int _=>by simp[iP,Ty.dflt]
 |.bool=>rfl
 |.str=>rfl
 |.unit=>rfl
 |.wrap a=>Im a
 |.pair a b=>by simp[iP,Ty.dflt,Im a,Im b]
 |.list _=>rfl
 |.arr _ _=>rfl
theorem xk{S:aY}{w:Y}:∀(t:Ty)(v:t.den)(cs:D X),t.scal=B->(Rep S w t v cs↔cs=encT t v)
 |.int _,_,_,_=>Iff.rfl
 |.bool,_,_,_=>Iff.rfl
 |.str,_,_,_=>Iff.rfl
 |.unit,_,_,_=>Iff.rfl
 |.wrap a,v,cs,h=>xk a v cs h
 |.pair a b,v,cs,h=>by
  simp only[Ty.scal,jd]at h;constructor
  .rintro⟨c1,c2,rfl,h1,h2⟩
   rw[(xk a _ _ h.1).1 h1,(xk b _ _ h.2).1 h2];rfl
  .rintro rfl
   exact⟨_,_,rfl,(xk a _ _ h.1).2 rfl,(xk b _ _ h.2).2 rfl⟩
 |.list _,_,_,h=>by simp[Ty.scal]at h
 |.arr _ _,_,_,h=>by simp[Ty.scal]at h
theorem Ol(t:Ty)(v:t.den)(h:t.scal=B):(encT t v).length=t.size:=
 Rep.length (S:=λ_ _=>False) (w:=default) t v _ ((xk t v _ h).2 rfl)
theorem jDY(t:Ty)(v:t.den)(h:t.scal=B):∀u∈encT t v,u.oneCell'=true:=
 Rep.one (S:=λ_ _=>False) (w:=default) t v _ ((xk t v _ h).2 rfl)
abbrev Sml(a:Ty):Type:={ x:a.den // iP a x=B }
instance(a:Ty):Inhabited (Sml a):=⟨⟨a.dflt,Im a⟩⟩
def smlA{a:Ty}:(xs:D a.den)->xs.all (iP a)=B->D (Sml a)
 |[],_=>[]
 |x::xs,h=>⟨x,by simp at h;exact h.1⟩::smlA xs (by simp at h ⊢;exact h.2)
theorem Io{a:Ty}:∀(xs:D a.den)(h:xs.all (iP a)=B),(smlA xs h).map (·.1)=xs
 |[],_=>rfl
 |x::xs,h=>by simp[smlA,Io xs]
theorem jBE{a:Ty}(xs:D a.den)(h:xs.all (iP a)=B):(smlA xs h).length=xs.length:=by
 rw[<-kc (f:=(·.1)),Io]
noncomputable def xl(a:Ty)(cf:a.den->a.den->M)(xs:D a.den):Option (D a.den):=
 if h:xs.all (iP a)=B/\xs.length<4611686018427387904 then
  I ((pdq (p λ(x y:Sml a)=>cf x.1 y.1) (smlA xs h.1).toArray 0 (smlA xs h.1).toArray.size (E (smlA xs h.1).toArray.size) B B).toList.map (·.1))
 else Ò
theorem Xk{a:Ty}{cf:a.den->a.den->M}(hO:SWO (p λ(x y:Sml a)=>cf x.1 y.1)){xs:D a.den}(h:∀x∈xs,iP a x=B)(hl:xs.length<4611686018427387904) :
  ∃ys,xl a cf xs=I ys/\ys.Perm xs/\ys.Pairwise (λx y=>¬cf y x<0):=by
 have h1:xs.all (iP a)=true:=jv.2 h;unfold xl;rw[dif_pos ⟨h1,hl⟩];refine⟨_,rfl,?_,?_⟩
 .have hp:=(pdq_sorts (p λ(x y:Sml a)=>cf x.1 y.1) hO (smlA xs h1).toArray 0 (smlA xs h1).toArray.size (E (smlA xs h1).toArray.size) B B (k7 _) (jq _) (K rfl)).1;obtain⟨hs,_,hp⟩:=hp;generalize pdq (p λ(x y:Sml a)=>cf x.1 y.1) (smlA xs h1).toArray 0 (smlA xs h1).toArray.size (E (smlA xs h1).toArray.size) B B=d' at *;rw[<-hs]at hp;rw[À,hs,À]at hp;have:=hp.map (·.1);rwa[show (smlA xs h1).toArray.toList=smlA xs h1 from rfl,Io]at this
 .have hp:=(pdq_sorts (p λ(x y:Sml a)=>cf x.1 y.1) hO (smlA xs h1).toArray 0 (smlA xs h1).toArray.size (E (smlA xs h1).toArray.size) B B (k7 _) (jq _) (K rfl));obtain⟨⟨hs,_,_⟩,hp⟩:=hp;generalize pdq (p λ(x y:Sml a)=>cf x.1 y.1) (smlA xs h1).toArray 0 (smlA xs h1).toArray.size (E (smlA xs h1).toArray.size) B B=d' at *;rw[List.pairwise_map,qc];intro i j hi hj eh;have bY:i<d'.size:=by simpa using hi
  have im:j<d'.size:=by simpa using hj
  have:=hp i j (k7 _) eh aa;rw[getElem!_pos d' j im,getElem!_pos d' i bY]at this;simpa[p]using this
theorem Xl{m:Å}:∀{css:D (D X)},(∀c∈css,c.length=m)->∀t,t<css.length*m->css.flatten[t]? = ((css[t/m]?).getD [])[t%m]?
 |[],_,t,ht=>by simp at ht
 |c::css,h,t,ht=>by
  have hc:c.length=m:=h c ae
  have m0:0<m:=by
   rcases yi m with h0|h0
   .subst h0;simp at ht
   .exact h0
  by_cases aq:t<m
  .rw[kq,List.getElem?_append_left aa,Nat.div_eq_of_lt aq,Nat.mod_eq_of_lt aq];simp
  .have h':∀c∈css,c.length=m:=λc hc=>h c (by simp[hc]);have tg:t-m<css.length*m:=by simp only[ji,zr]at ht;omega
   rw[kq,ke aa,hc,Xl h' (t-m) tg];have e1:t=t-m+m:=aa;have e2:t/m=(t-m)/m+1:=(js (· / m) e1).trans (Nat.add_div_right _ m0);have e3:t%m=(t-m)%m:=(js (· % m) e1).trans (Nat.add_mod_right _ _);rw[e2,e3,vb]
theorem Xm{α:Type}(enc:α->D X):∀xs:D α,All2 (λx c=>c=enc x) xs (xs.map enc)
 |[]=>trivial
 |x::xs=>⟨rfl,Xm enc xs⟩
theorem Xn{α:Type}[Inhabited α](enc:α->D X)(k:Å)(hk:∀x,(enc x).length=k)(d:É α):(flatK enc k d).toList=(d.toList.map enc).flatten:=by
 have hl:(d.toList.map enc).flatten.length=d.size*k:=by have:=All2.flatten_length (R:=λx c=>c=enc x) (n:=k) (λx c h=>by rw[h,hk]) (xs:=d.toList) (css:=d.toList.map enc) (Xm enc _);simpa using this
 refine vu λt=>?_;by_cases ht:t<d.size*k
 .rw[Xl (m:=k) (by simpa using λx _=>hk x) t (by simpa using ht)]
  have k0:0<k:=by
   rcases yi k with h0|h0
   .subst h0;simp at ht
   .exact h0
  have hd:t/k<d.size:=Nat.div_lt_of_lt_mul (by rw[Nat.mul_comm];exact ht);have hm:t%k<k:=Nat.mod_lt _ k0;have:=get_flatK enc k d t ht;rw[getElem!_pos _ t (by rw[size_flatK];exact ht)]at this;rw[kv,jt (by rw[size_flatK];exact ht),this,getElem!_pos d _ hd];simp only[qg,kv,jt hd,kn,z6];rw[getElem!_pos _ _ (by rw[hk];exact hm),jo (by rw[hk];exact hm)]
 .rw[qf (by rw[qe,size_flatK];omega),qf aa]
theorem Xo{w:Y}{g:Å}{cur F:É X}{e:Å}(hg:w.heap[g]? = I (.cells cur e (0,0)))(ht:cur.toList.take F.size=F.toList):Holds id w g 0 F:=by
 intro j hj
 have h1:cur[j]? = I F[j]:=by
  have:(cur.toList.take F.size)[j]? = F.toList[j]? := by rw[ht]
  rw[J hj,kv,kv,jt hj]at this;exact this
 refine⟨?_,?_⟩
 .simp only[World.cell?,hg,kb];rw[getElem!_pos F j hj];simpa using h1
 .simp[World.frozen?,hg]
theorem Xp{w:Y}{g:Å}{cur F:É X}{e:Å}(hg:w.heap[g]? = I (.cells cur e (0,0)))(hF:F.size<=cur.size) :
  ∃jL,(putRow id w g 0 F).heap[g]? = I (.cells jL e (0,0))/\jL.size=cur.size/\jL.toList.take F.size=F.toList:=by
 refine⟨putCells id 0 F cur,?_,?_,?_⟩
 .unfold putRow mapBlock;simp only[N,if_true,hg,kn,onCells]
 .simp[putCells]
 .refine vu λt=>?_;by_cases ht:t<F.size
  .rw[J ht,kv,kv];simp only[putCells,O];rw[jt (show t<cur.size by omega),jt ht];simp only[kn,k7,q7,kb,ht,if_true,Nat.sub_zero,id];rw[getElem!_pos F t ht]
  .rw[List.getElem?_take_eq_none aa,qf (by simpa using ht)]
theorem Xq{w:Y}{g k:Å}{F:É X}(h:k≠g):(putRow id w g 0 F).heap[k]? = w.heap[k]? := by
 unfold putRow mapBlock;simp only[N,Ne.symm h,qz]
theorem Ip{w:Y}{os:É Obj}{k:Å}(h:k<w.heap.size):(grow w os).heap[k]? = w.heap[k]? := by
 simp only[grow];exact Array.getElem?_append_left h
theorem E0{a:Ty}{S:aY}{w:Y}(ha:a.scal=B):∀{xs:D a.den}{css:D (D X)},All2 (λx c=>Rep S w a x c) xs css↔css=xs.map (encT a)
 |[],[]=>by simp[All2]
 |x::xs,c::css=>by
  simp only[All2,kj,yh];exact and_congr (xk a x c ha) (E0 ha)
 |[],_::_=>by simp[All2]
 |_::_,[]=>by simp[All2]
variable{P:Program}{ρ:Go.Shelf.Ren}
theorem Xr(L:Go.Proofs.SlLaysF0.n6 P ρ)(a:Ty)(ha:a.scal=B)(e:Å)(he:isM e=Ô)(aE:∀w,(isAgg (ρ.t 24)).run P w = .ok B w)(zE:∀w,(Go.sizeOf (ρ.t 24)).run P w = .ok a.size w)(cf:a.den->a.den->M)(g:Å)
  (eg:∀args w,(callFunc g args).run P w = .ok (.enter g args) w)
  (Om:∀(x y:a.den)(w:Y),iP a x=B->iP a y=B->Calls P g #[.agg (encT a x).toArray,.agg (encT a y).toArray] w λe w'=>e = .returned (.int .i64 (cf x y))/\∃q qH,w'=grow (w.drewN q) qH)
  (hO:SWO (p λ(x y:Sml a)=>cf x.1 y.1))(f:Å)(hf:f=ρ.f 6) :
  Con.OK P ⟨f,[.rl e (.list a),.clo g []],[.list a],⟨[],[.rl (.list a)]⟩,[.list a],xl a cf⟩:=by
 subst hf;intro args R k r hk;unfold Con.C at hk;split at hk
 rotate_left
 .simp at hk
 rename_i h hu;rw[H3 hu];clear hu
 obtain⟨ys,iq,On⟩:∃ys,xl a cf h=I ys/\k (oq ⟨[],[.rl (.list a)]⟩ [.list a] ys)=I r:=by
  cases hs:xl a cf h with
  |none=>simp only[hs,Æ]at hk;exact absurd hk ae
  |some ys=>simp only[hs,j4]at hk;exact⟨ys,rfl,hk⟩
 clear hk;refine⟨?_,?_⟩
 .obtain⟨nm,hn,rD⟩:=L.f6;exact⟨_,rD,rfl,hn⟩
 intro w S vals hA dZ hS;have hA:All2 (oa S w) [.rl e ⟨.list a,h⟩,.clo g []] vals:=hA
 obtain⟨u0,u1,rfl⟩:∃u0 u1,vals=[u0,u1]:=by
  match vals,hA with
  |[u0,u1],_=>exact⟨u0,u1,rfl⟩
 obtain⟨⟨a',xs,hx,jT,bq⟩,⟨cv,rfl,lY⟩,_⟩:=hA
 obtain⟨css,bZ,ay⟩:∃css,w.ownsRow 0 e a'.size u0 xs.length css.flatten/\All2 (λx c=>Rep S w a' x c) xs css:=by
  rcases jT with⟨_,css,h1,h2⟩|⟨h1,_⟩
  .exact⟨css,h1,h2⟩
  .rw[he]at h1;simp at h1
 obtain⟨rfl,hx⟩:a=a'/\HEq h xs:=by have h1:=js TV.t hx;simp only[Ty.list.injEq]at h1;subst h1;refine⟨rfl,?_⟩;simp only[TV.mk.injEq,heq_eq_eq,q7]at hx;rw[hx]
 obtain rfl:xs=h:=(eq_of_heq hx).symm
 have Oo:cv = #[]:=by
  match hh:cv.toList,lY with
  |[],_=>exact va.1 hh
 subst Oo;obtain rfl:=(E0 ha).1 ay;unfold xl at iq;split at iq
 rotate_left
 .simp at iq
 rename_i qL;have eR:=Io xs qL.1;have hlen:=jBE xs qL.1;generalize smlA xs qL.1=sm at iq eR hlen;have wB:=(pdq_sorts (p λ(x y:Sml a)=>cf x.1 y.1) hO sm.toArray 0 sm.toArray.size (E sm.toArray.size) B B (k7 _) (jq _) (K rfl)).1.1
 have su:Calls P (ρ.f 6) #[u0,.func (.func g) #[] #[]] w λe' w'=>e' = .returned (.tuple #[])/\(w'=w/\xs=[]\/∃gb cap cur n os,u0 = .slice (I ⟨gb,0,Ò⟩) xs.length cap/\w.heap[gb]? = I (.cells cur e (0,0))/\xs.length<=cap/\cap<=maxLen/\cur.size=cap*a.size/\
   w'=H (λ(x:Sml a)=>encT a x.1) a.size w gb 0 n (pdq (p λ(x y:Sml a)=>cf x.1 y.1) sm.toArray 0 sm.toArray.size (E sm.toArray.size) B B) os):=by
  rcases bZ.2 with⟨rfl,hn⟩|⟨gb,cap,cur,rfl,_,hg,cK,nW,c9,pz⟩
  .refine(Go.Proofs.AnyF.slices_SortFunc_none L Ò 0 (.func (.func g) #[] #[]) w).mono ?_
   rintro e' w' ⟨rfl,rfl⟩
   exact⟨rfl,K ⟨rfl,qh.1 hn⟩⟩
  .have cm:sm.toArray.size=xs.length:=by simpa using hlen
   have fB:=Xn (λ(x:Sml a)=>encT a x.1) a.size (λx=>Ol a x.1 ha) sm.toArray;have u7:(flatK (λ(x:Sml a)=>encT a x.1) a.size sm.toArray).toList=(xs.map (encT a)).flatten:=by rw[fB,<-eR,Í];rfl
   have hH:HoldsK (λ(x:Sml a)=>encT a x.1) a.size w gb 0 sm.toArray:=Xo hg (by rw[size_flatK,cm,u7];exact pz);have hb:gb<w.heap.size:=(jh.1 hg).1
   have:=Go.Proofs.AnyQ.slices_SortFunc_eq L a.size aE zE (λ(x:Sml a)=>encT a x.1) (λx=>Ol a x.1 ha) (λx=>jDY a x.1 ha) (λx y=>cf x.1 y.1) hO g #[] gb 0 cap sm.toArray w eg
    (λm os dk _ x y=>Om x.1 y.1 _ x.2 y.2) hH hb aa
   rw[cm]at this ⊢;refine this.mono ?_
   rintro e' w' ⟨rfl,n,os,rfl⟩
   exact⟨rfl,Ð ⟨gb,cap,cur,n,os,rfl,hg,cK,nW,c9,rfl⟩⟩
 refine su.mono ?_
 rintro e' w' ⟨rfl,hw⟩
 refine⟨_,On,_,S,[],rfl,?_⟩;simp only[j5]at iq;rcases hw with⟨rfl,rfl⟩|⟨gb,cap,cur,n,os,rfl,hg,cK,nW,c9,rfl⟩
 ·-- nothing to sort
  obtain rfl:sm=[]:=by simpa using hlen
  have iq:ys=[]:=by rw[<-iq];have:(pdq (p λ(x y:Sml a)=>cf x.1 y.1) (#[]:É (Sml a)) 0 0 (E 0) B B).size=0:=wB;rw[List.map_eq_nil_iff];exact va.2 (Array.size_eq_zero_iff.1 this)
  subst iq;refine⟨rfl,trivial,by simp[gq],by simp[gq],?_,dH.refl _ _,λg o h=>K h,hS,λg _ _=>rfl,jq _,rfl,rfl,rfl,by intro n s hm;simp[oq,rvsF]at hm,by intro m hm;simp[oq,rvsF]at hm⟩;exact⟨⟨a,[],rfl,.inl ⟨he,[],bZ,trivial⟩,bq⟩,rfl,trivial⟩
 .generalize pdq (p λ(x y:Sml a)=>cf x.1 y.1) sm.toArray 0 sm.toArray.size (E sm.toArray.size) B B=d' at iq wB
  have cm:sm.toArray.size=xs.length:=by simpa using hlen
  have wW:d'.size=xs.length:=by rw[wB,cm]
  have fB:=Xn (λ(x:Sml a)=>encT a x.1) a.size (λx=>Ol a x.1 ha) d';have u7:(flatK (λ(x:Sml a)=>encT a x.1) a.size d').toList=(Î (encT a) ys).flatten:=by rw[fB,<-iq,Í];rfl
  have nX:ys.length=xs.length:=by rw[<-iq];simpa using wW
  have hb:gb<w.heap.size:=(jh.1 hg).1;have Cd:(flatK (λ(x:Sml a)=>encT a x.1) a.size d').size=xs.length*a.size:=by rw[size_flatK,wW]
  obtain⟨jL,aC,oo,zX⟩:=Xp (w:=Sort.ahead w n) (F:=flatK (λ(x:Sml a)=>encT a x.1) a.size d') hg (by rw[Cd,c9];exact ka _ cK);have dE:(putRow id (Sort.ahead w n) gb 0 (flatK (λ(x:Sml a)=>encT a x.1) a.size d')).heap.size=w.heap.size:=ae
  have jX:∀k,k<w.heap.size->k≠gb->(H (λ(x:Sml a)=>encT a x.1) a.size w gb 0 n d' os).heap[k]? = w.heap[k]? := λk hk br=>
   (Ip (by show k<(putRow id (Sort.ahead w n) gb 0 (flatK (λ(x:Sml a)=>encT a x.1) a.size d')).heap.size;rw[dE];exact hk)).trans (Xq br)
  have fF:w.heap.size<=(H (λ(x:Sml a)=>encT a x.1) a.size w gb 0 n d' os).heap.size:=by show w.heap.size<=((putRow id (Sort.ahead w n) gb 0 (flatK (λ(x:Sml a)=>encT a x.1) a.size d')).heap++os).size;rw[Ä,dE];omega
  have fT:∀o,¬S gb o:=bq gb rfl;refine⟨rfl,trivial,by simp[gq],by simp[gq],?_,?_,λg o h=>K h,λg o h=>qd (hS g o h) fF,?_,fF,rfl,rfl,rfl,by intro n s hm;simp[oq,rvsF]at hm,by intro m hm;simp[oq,rvsF]at hm⟩
  .refine⟨⟨a,ys,rfl,.inl ⟨he,ys.map (encT a),⟨?_,Ð ⟨gb,cap,jL,?_,k7 _,?_,?_,nW,?_,?_⟩⟩,(E0 ha).2 rfl⟩,bq⟩,rfl,trivial⟩
   .rw[<-u7,qe,Cd,nX]
   .rw[nX]
   .exact(Ip (by show gb<(putRow id (Sort.ahead w n) gb 0 (flatK (λ(x:Sml a)=>encT a x.1) a.size d')).heap.size;rw[dE];exact hb)).trans aC
   .rw[nX];exact cK
   .rw[oo,c9]
   .rw[nX,<-Cd,zX,u7]
  .intro g' o uP;refine⟨uP,?_⟩;have br:g'≠gb:=λhe=>fT o (he▸uP);exact World.cell?_of_block (jX g' (hS g' o uP) br)
  .intro g' iM gw;refine jX g' iM λhe=>gw ?_;subst he;simp[sa,B7,argF,eF,lh,blk,ofHL,APat.n]
theorem Iq{α:Type}(key:α->M)(hk:∀x, -1152921504606846976<=key x/\key x<=1152921504606846976)(cf:α->α->M)(h:∀x y,cf x y=w64 (key x-key y)):SWO (p cf):=by
 have e:∀x y,p cf x y=decide (key x<key y):=by intro x y;have h1:=hk x;have h2:=hk y;have:w64 (key x-key y)=key x-key y:=gX aa aa;simp only[p,h,this];congr 1;exact propext ⟨λh=>aa,λh=>aa⟩
 refine⟨λx=>?_,λx y z=>?_,λx y z=>?_⟩
 .rw[e];simp
 .rw[e,e,e];simp only[jj];omega
 .rw[e,e,e];simp only[kg];omega
open Go.Sort
def zY(xs:D M):Option (D M):=cond (Nat.blt xs.length 4611686018427387904) (I (qX xs)) Ò
theorem Oq(x:M):∀l:D M,(insI x l).Perm (x::l)
 |[]=>U _
 |y::ys=>by
  unfold insI;cases decide (x<=y) with
  |true=>exact U _
  |false=>exact((Oq x ys).cons y).trans (Ö x y ys)
theorem Ir:∀l:D M,(qX l).Perm l
 |[]=>U _
 |x::xs=>(Oq x _).trans ((Ir xs).cons x)
theorem Xs(x:M):∀l:D M,l.Pairwise (· <= ·)->(insI x l).Pairwise (· <= ·)
 |[],_=>List.pairwise_singleton _ _
 |y::ys,h=>by
  have hc:=kf.1 h;unfold insI;cases hd:decide (x<=y) with
  |true=>
   have hd:=kr hd;refine kf.2 ⟨λz hz=>?_,h⟩;rcases je.1 hz with rfl|hz
   .exact hd
   .have:=hc.1 z hz;omega
  |false=>
   have hd:=of_decide_eq_false hd;refine kf.2 ⟨λz hz=>?_,Xs x ys hc.2⟩;rcases je.1 ((Oq x ys).mem_iff.1 hz) with rfl|hz
   .omega
   .exact hc.1 z hz
theorem Ot:∀l:D M,(qX l).Pairwise (· <= ·)
 |[]=>List.Pairwise.nil
 |x::xs=>Xs x _ (Ot xs)
theorem jzv(xs:D M):(xs.mergeSort λx y=>decide (x<=y))=qX xs:=by
 refine Ê (le:=(· <= ·)) (λa b _ _ h1 h2=>Int.le_antisymm h1 h2) ?_ (Ot xs) ((List.mergeSort_perm _ _).trans (Ir xs).symm);have:=List.pairwise_mergeSort (le:=λx y:M=>decide (x<=y)) (λa b c h1 h2=>by simp at h1 h2 ⊢;omega) (λa b=>az) xs;exact this.imp (λh=>by simpa using h)
theorem jBF{xs:D M}(h:xs.length<4611686018427387904):∃ys,zY xs=I ys/\ys.Perm xs/\ys.Pairwise (· <= ·):=by
 unfold zY;rw[show Nat.blt xs.length 4611686018427387904=B from Nat.ble_eq_true_of_le h];exact⟨_,rfl,Ir xs,Ot xs⟩
theorem jFp(w:Y)(g:Å)(zs:D M):putRow (A .i64) w g 0 zs.toArray=putRow id w g 0 (zs.map (A .i64)).toArray:=by
 have:putCells (A .i64) 0 zs.toArray=putCells id 0 (zs.map (A .i64)).toArray:=by
  funext c
  unfold putCells;refine Array.ext_getElem? λk=>?_;simp only[O,k7,q7,kb,Nat.sub_zero,yl,kc,id];cases c[k]? with
  |none=>rfl
  |some x=>
   simp only[kn];by_cases hk:k<zs.length
   .rw[if_pos hk,if_pos hk,getElem!_pos _ k (by simpa using hk),getElem!_pos _ k (by simpa using hk)];simp
   .rw[if_neg hk,if_neg hk]
 unfold putRow;rw[this]
theorem jBG{w:Y}{g:Å}{zs:D M}(h:Holds id w g 0 (zs.map (A .i64)).toArray):Holds (A .i64) w g 0 zs.toArray:=by
 intro j hj;have im:j<zs.length:=by simpa using hj
 have:=h j (by simpa using im);refine⟨this.1.trans ?_,this.2⟩;rw[getElem!_pos _ j (by simpa using im),getElem!_pos _ j hj];simp
theorem Ou(zs:D M):(zs.map (encT (.int .i64))).flatten=zs.map (A .i64):=by
 induction zs with
 |nil=>rfl
 |cons z zs ih=>simp only[kj,kq,ih];rfl
variable{P:Program}{ρ:Go.Shelf.Ren}
theorem jzw(L:Go.Proofs.SlLaysM.n5 P ρ)(e:Å)(he:isM e=Ô)(f:Å)(hf:f=ρ.f 5) :
  Con.OK P ⟨f,[.rl e (.list (.int .i64))],[.list (.int .i64)],⟨[],[.rl (.list (.int .i64))]⟩,[.list (.int .i64)],zY⟩:=by
 subst hf;intro args R k r hk;unfold Con.C at hk;split at hk
 rotate_left
 .simp at hk
 rename_i h hu;rw[H3 hu];clear hu
 obtain⟨ys,iq,On⟩:∃ys,zY h=I ys/\k (oq ⟨[],[.rl (.list (.int .i64))]⟩ [.list (.int .i64)] ys)=I r:=by
  cases hs:zY h with
  |none=>simp only[hs,Æ]at hk;exact absurd hk ae
  |some ys=>simp only[hs,j4]at hk;exact⟨ys,rfl,hk⟩
 clear hk;refine⟨?_,?_⟩
 .obtain⟨nm,hn,rD⟩:=L.f5;exact⟨_,rD,rfl,hn⟩
 intro w S vals hA dZ hS;have hA:All2 (oa S w) [.rl e ⟨.list (.int .i64),h⟩] vals:=hA
 obtain⟨u0,rfl⟩:∃u0,vals=[u0]:=by
  match vals,hA with
  |[u0],_=>exact⟨u0,rfl⟩
 obtain⟨⟨a',xs,hx,jT,bq⟩,_⟩:=hA
 obtain⟨css,bZ,ay⟩:∃css,w.ownsRow 0 e a'.size u0 xs.length css.flatten/\All2 (λx c=>Rep S w a' x c) xs css:=by
  rcases jT with⟨_,css,h1,h2⟩|⟨h1,_⟩
  .exact⟨css,h1,h2⟩
  .rw[he]at h1;simp at h1
 obtain⟨rfl,hx⟩:Ty.int .i64=a'/\HEq h xs:=by have h1:=js TV.t hx;simp only[Ty.list.injEq]at h1;subst h1;refine⟨rfl,?_⟩;simp only[TV.mk.injEq,heq_eq_eq,q7]at hx;rw[hx]
 obtain rfl:xs=h:=(eq_of_heq hx).symm;obtain rfl:=(E0 (a:= .int .i64) rfl).1 ay;have fB:(Î (encT (.int .i64)) xs).flatten=Î (A .i64) xs:=Ou xs;rw[fB]at bZ;unfold zY at iq;cases qL:Nat.blt (G xs) 4611686018427387904 with
 |false=>rw[qL]at iq;simp at iq
 |true=>
 rw[qL]at iq;simp only[j6,j5]at iq;have qL:G xs<4611686018427387904:=vq qL;have nX:ys.length=G xs:=by rw[<-iq];exact(Ir xs).length_eq
 have su:Calls P (ρ.f 5) #[u0] w λe' w'=>e' = .returned (.tuple #[])/\(w'=w/\xs=[]\/∃gb cap cur n os,u0 = .slice (I ⟨gb,0,Ò⟩) (G xs) cap/\w.heap[gb]? = I (.cells cur e (0,0))/\G xs<=cap/\cap<=maxLen/\cur.size=cap*1/\
   w'=grow (putRow id (Sort.ahead w n) gb 0 (ys.map (A .i64)).toArray) os):=by
  rcases bZ.2 with⟨rfl,hn⟩|⟨gb,cap,cur,rfl,_,hg,cK,nW,c9,pz⟩
  .refine(Go.Proofs.AnyM.slices_Sort_int_none L Ò 0 w).mono ?_
   rintro e' w' ⟨rfl,rfl⟩
   exact⟨rfl,K ⟨rfl,qh.1 hn⟩⟩
  .have hH:Holds (A .i64) w gb 0 (List.toArray xs):=jBG (Xo hg (by simpa[Ty.size]using pz));have hb:gb<w.heap.size:=(jh.1 hg).1;refine(Go.Proofs.AnyM.slices_Sort_int L gb 0 cap xs w hH hb qL).mono ?_
   rintro e' w' ⟨rfl,n,os,rfl⟩
   rw[jzv,iq,jFp];exact⟨rfl,Ð ⟨gb,cap,cur,n,os,rfl,hg,cK,nW,c9,rfl⟩⟩
 refine su.mono ?_
 rintro e' w' ⟨rfl,hw⟩
 refine⟨_,On,_,S,[],rfl,?_⟩;rcases hw with⟨rfl,rfl⟩|⟨gb,cap,cur,n,os,rfl,hg,cK,nW,c9,rfl⟩
 .have iq:ys=[]:=qh.1 (by simpa using nX);subst iq;refine⟨rfl,trivial,by simp[gq],by simp[gq],?_,dH.refl _ _,λg o h=>K h,hS,λg _ _=>rfl,jq _,rfl,rfl,rfl,by intro n s hm;simp[oq,rvsF]at hm,by intro m hm;simp[oq,rvsF]at hm⟩;exact⟨⟨.int .i64,[],rfl,.inl ⟨he,[],bZ,trivial⟩,bq⟩,rfl,trivial⟩
 .have hb:gb<w.heap.size:=(jh.1 hg).1;have Cd:(ys.map (A .i64)).toArray.size=G xs:=by simp[nX]
  obtain⟨jL,aC,oo,zX⟩:=Xp (w:=Sort.ahead w n) (F:=(ys.map (A .i64)).toArray) hg (by rw[Cd,c9];omega);have dE:(putRow id (Sort.ahead w n) gb 0 (ys.map (A .i64)).toArray).heap.size=w.heap.size:=ae
  have jX:∀k,k<w.heap.size->k≠gb->(grow (putRow id (Sort.ahead w n) gb 0 (ys.map (A .i64)).toArray) os).heap[k]? = w.heap[k]? := λk hk br=>
   (Ip (by rw[dE];exact hk)).trans (Xq br)
  have fF:w.heap.size<=(grow (putRow id (Sort.ahead w n) gb 0 (ys.map (A .i64)).toArray) os).heap.size:=by show w.heap.size<=((putRow id (Sort.ahead w n) gb 0 (ys.map (A .i64)).toArray).heap++os).size;rw[Ä,dE];omega
  have fT:∀o,¬S gb o:=bq gb rfl;refine⟨rfl,trivial,by simp[gq],by simp[gq],?_,?_,λg o h=>K h,λg o h=>qd (hS g o h) fF,?_,fF,rfl,rfl,rfl,by intro n s hm;simp[oq,rvsF]at hm,by intro m hm;simp[oq,rvsF]at hm⟩
  .refine⟨⟨.int .i64,ys,rfl,.inl ⟨he,ys.map (encT (.int .i64)),⟨?_,Ð ⟨gb,cap,jL,?_,k7 _,?_,?_,nW,?_,?_⟩⟩,(E0 (a:= .int .i64) rfl).2 rfl⟩,bq⟩,rfl,trivial⟩
   .rw[Ou];simp[Ty.size]
   .rw[nX]
   .exact(Ip (by rw[dE];exact hb)).trans aC
   .rw[nX];exact cK
   .rw[oo,c9];rfl
   .rw[Ou,nX,show G xs*(Ty.int .i64).size=(ys.map (A .i64)).toArray.size by rw[Cd];simp[Ty.size],zX]
  .intro g' o uP;refine⟨uP,?_⟩;have br:g'≠gb:=λhe=>fT o (he▸uP);exact World.cell?_of_block (jX g' (hS g' o uP) br)
  .intro g' iM gw;refine jX g' iM λhe=>gw ?_;subst he;simp[sa,B7,argF,eF,lh,blk,ofHL]
end Go.Lft
