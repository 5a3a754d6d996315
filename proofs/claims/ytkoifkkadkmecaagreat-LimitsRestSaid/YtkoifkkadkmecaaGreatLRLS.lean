/- AS.SortFunc: the kit's tP of it as a tP on plain data. -/
import Derived.Test.YtkoifkkadkmecaaGreatLRLD
import Derived.Shelf.SlSortCmp.NoneTotal
import Derived.Shelf.SortM.Plain
import Derived.Shelf.SortM.SortNone
open Go.Proofs renaming ltOf->p,sortWorldK->H
open Go.Value renaming int->A
open Bool renaming true->B,false->Ó
open _root_ renaming List->D,Int->K,Nat->Ä,Array->È
open Go.Lib renaming bitLen->E
open List renaming length->G,map_map->Ì,map->Í
open Option renaming some->I,bind_none->Å,none->Ñ
open Or renaming inl->J,inr->Ï
open Array renaming getElem?_modify->M,getElem?_mapIdx->N,extract_size->Z,size_append->Ã
open List.Perm renaming refl->O,eq_of_pairwise->É,swap->Ö
open Go renaming Value->W,World->X
set_option linter.unusedVariables false
namespace Go.Lft
open Go.Sort
def Ty.scal:Ty->Bool
 |.int _|.bool|.str|.unit=>B
 |.wrap a=>a.scal
 |.pair a b=>a.scal&&b.scal
 |.list _=>Ó
 |.arr _ _=>Ó
def encT:(t:Ty)->t.den->D W
 |.int k,n=>[.int k n]
 |.bool,b=>[.bool b]
 |.str,s=>[.string s]
 |.unit,_=>[]
 |.wrap a,v=>encT a v
 |.pair a b,v=>encT a v.1++encT b v.2
 |.list _,_=>[]
 |.arr _ _,_=>[]
def gZ:(t:Ty)->t.den->Bool
 |.int _,n=>decide (-1152921504606846976<=(n:K))&&decide ((n:K)<=1152921504606846976)
 |.bool,_=>B
 |.str,_=>B
 |.unit,_=>B
 |.wrap a,v=>gZ a v
 |.pair a b,v=>gZ a v.1&&gZ b v.2
 |.list _,_=>B
 |.arr _ _,_=>B
theorem I0:∀t:Ty,gZ t t.dflt=B
 |.int _=>by simp[gZ,Ty.dflt]
 |.bool=>rfl
 |.str=>rfl
 |.unit=>rfl
 |.wrap a=>I0 a
 |.pair a b=>by simp[gZ,Ty.dflt,I0 a,I0 b]
 |.list _=>rfl
 |.arr _ _=>rfl
theorem yL{S:aY}{w:X}:∀(t:Ty)(v:t.den)(cs:D W),t.scal=B->(Rep S w t v cs↔cs=encT t v)
 |.int _,_,_,_=>Iff.rfl
 |.bool,_,_,_=>Iff.rfl
 |.str,_,_,_=>Iff.rfl
 |.unit,_,_,_=>Iff.rfl
 |.wrap a,v,cs,h=>yL a v cs h
 |.pair a b,v,cs,h=>by
  simp only[Ty.scal,jg]at h;constructor
  .rintro⟨c1,c2,rfl,h1,h2⟩
   rw[(yL a _ _ h.1).1 h1,(yL b _ _ h.2).1 h2];rfl
  .rintro rfl
   exact⟨_,_,rfl,(yL a _ _ h.1).2 rfl,(yL b _ _ h.2).2 rfl⟩
 |.list _,_,_,h=>by simp[Ty.scal]at h
 |.arr _ _,_,_,h=>by simp[Ty.scal]at h
theorem Ou(t:Ty)(v:t.den)(h:t.scal=B):(encT t v).length=t.size:=
 Rep.length (S:=λ_ _=>False) (w:=default) t v _ ((yL t v _ h).2 rfl)
theorem jEB(t:Ty)(v:t.den)(h:t.scal=B):∀u∈encT t v,u.oneCell'=true:=
 Rep.one (S:=λ_ _=>False) (w:=default) t v _ ((yL t v _ h).2 rfl)
abbrev Sml(a:Ty):Type:={ x:a.den // gZ a x=B }
instance(a:Ty):Inhabited (Sml a):=⟨⟨a.dflt,I0 a⟩⟩
def smlA{a:Ty}:(xs:D a.den)->xs.all (gZ a)=B->D (Sml a)
 |[],_=>[]
 |x::xs,h=>⟨x,by simp at h;exact h.1⟩::smlA xs (by simp at h ⊢;exact h.2)
theorem I1{a:Ty}:∀(xs:D a.den)(h:xs.all (gZ a)=B),(smlA xs h).map (·.1)=xs
 |[],_=>rfl
 |x::xs,h=>by simp[smlA,I1 xs]
theorem jC8{a:Ty}(xs:D a.den)(h:xs.all (gZ a)=B):(smlA xs h).length=xs.length:=by
 rw[<-ke (f:=(·.1)),I1]
noncomputable def wM(a:Ty)(cf:a.den->a.den->K)(xs:D a.den):Option (D a.den):=
 if h:xs.all (gZ a)=B/\xs.length<4611686018427387904 then
  I ((pdq (p λ(x y:Sml a)=>cf x.1 y.1) (smlA xs h.1).toArray 0 (smlA xs h.1).toArray.size (E (smlA xs h.1).toArray.size) B B).toList.map (·.1))
 else Ñ
theorem Ov{a:Ty}{cf:a.den->a.den->K}(hO:SWO (p λ(x y:Sml a)=>cf x.1 y.1)){xs:D a.den}(h:∀x∈xs,gZ a x=B)(hl:xs.length<4611686018427387904) :
  ∃ys,wM a cf xs=I ys/\ys.Perm xs/\ys.Pairwise (λx y=>¬cf y x<0):=by
 have h1:xs.all (gZ a)=true:=kj.2 h;unfold wM;rw[dif_pos ⟨h1,hl⟩];refine⟨_,rfl,?_,?_⟩
 .have hp:=(pdq_sorts (p λ(x y:Sml a)=>cf x.1 y.1) hO (smlA xs h1).toArray 0 (smlA xs h1).toArray.size (E (smlA xs h1).toArray.size) B B (kp _) (jn _) (J rfl)).1;obtain⟨hs,_,hp⟩:=hp;generalize pdq (p λ(x y:Sml a)=>cf x.1 y.1) (smlA xs h1).toArray 0 (smlA xs h1).toArray.size (E (smlA xs h1).toArray.size) B B=d' at *;rw[<-hs]at hp;rw[Z,hs,Z]at hp;have:=hp.map (·.1);rwa[show (smlA xs h1).toArray.toList=smlA xs h1 from rfl,I1]at this
 .have hp:=(pdq_sorts (p λ(x y:Sml a)=>cf x.1 y.1) hO (smlA xs h1).toArray 0 (smlA xs h1).toArray.size (E (smlA xs h1).toArray.size) B B (kp _) (jn _) (J rfl));obtain⟨⟨hs,_,_⟩,hp⟩:=hp;generalize pdq (p λ(x y:Sml a)=>cf x.1 y.1) (smlA xs h1).toArray 0 (smlA xs h1).toArray.size (E (smlA xs h1).toArray.size) B B=d' at *;rw[List.pairwise_map,kg];intro i j hi hj dP;have bh:i<d'.size:=by simpa using hi
  have fS:j<d'.size:=by simpa using hj
  have:=hp i j (kp _) dP omg_;rw[getElem!_pos d' j fS,getElem!_pos d' i bh]at this;simpa[p]using this
theorem Xt{m:Ä}:∀{css:D (D W)},(∀c∈css,c.length=m)->∀t,t<css.length*m->css.flatten[t]? = ((css[t/m]?).getD [])[t%m]?
 |[],_,t,ht=>by simp at ht
 |c::css,h,t,ht=>by
  have hc:c.length=m:=h c smp_
  have m0:0<m:=by
   rcases yp m with h0|h0
   .subst h0;simp at ht
   .exact h0
  by_cases aq:t<m
  .rw[qm,List.getElem?_append_left omg_,Nat.div_eq_of_lt aq,Nat.mod_eq_of_lt aq];simp
  .have h':∀c∈css,c.length=m:=λc hc=>h c (by simp[hc]);have uJ:t-m<css.length*m:=by simp only[ji,yf]at ht;omega
   rw[qm,kn omg_,hc,Xt h' (t-m) uJ];have e1:t=t-m+m:=omg_;have e2:t/m=(t-m)/m+1:=(jo (· / m) e1).trans (Nat.add_div_right _ m0);have e3:t%m=(t-m)%m:=(jo (· % m) e1).trans (Nat.add_mod_right _ _);rw[e2,e3,yk]
theorem Xu{α:Type}(enc:α->D W):∀xs:D α,All2 (λx c=>c=enc x) xs (xs.map enc)
 |[]=>trivial
 |x::xs=>⟨rfl,Xu enc xs⟩
theorem Xv{α:Type}[Inhabited α](enc:α->D W)(k:Ä)(hk:∀x,(enc x).length=k)(d:È α):(flatK enc k d).toList=(d.toList.map enc).flatten:=by
 have hl:(d.toList.map enc).flatten.length=d.size*k:=by have:=All2.flatten_length (R:=λx c=>c=enc x) (n:=k) (λx c h=>by rw[h,hk]) (xs:=d.toList) (css:=d.toList.map enc) (Xu enc _);simpa using this
 refine ya λt=>?_;by_cases ht:t<d.size*k
 .rw[Xt (m:=k) (by simpa using λx _=>hk x) t (by simpa using ht)]
  have k0:0<k:=by
   rcases yp k with h0|h0
   .subst h0;simp at ht
   .exact h0
  have hd:t/k<d.size:=Nat.div_lt_of_lt_mul (by rw[Nat.mul_comm];exact ht);have hm:t%k<k:=Nat.mod_lt _ k0;have:=get_flatK enc k d t ht;rw[getElem!_pos _ t (by rw[size_flatK];exact ht)]at this;rw[qu,kb (by rw[size_flatK];exact ht),this,getElem!_pos d _ hd];simp only[qv,qu,kb hd,qj,qd];rw[getElem!_pos _ _ (by rw[hk];exact hm),jm (by rw[hk];exact hm)]
 .rw[zi (by rw[qt,size_flatK];omega),zi omg_]
theorem Xw{w:X}{g:Ä}{cur F:È W}{e:Ä}(hg:w.heap[g]? = I (.cells cur e (0,0)))(ht:cur.toList.take F.size=F.toList):Holds id w g 0 F:=by
 intro j hj
 have h1:cur[j]? = I F[j]:=by
  have:(cur.toList.take F.size)[j]? = F.toList[j]? := by rw[ht]
  rw[vf hj,qu,qu,kb hj]at this;exact this
 refine⟨?_,?_⟩
 .simp only[World.cell?,hg,ki];rw[getElem!_pos F j hj];simpa using h1
 .simp[World.frozen?,hg]
theorem Xx{w:X}{g:Ä}{cur F:È W}{e:Ä}(hg:w.heap[g]? = I (.cells cur e (0,0)))(hF:F.size<=cur.size) :
  ∃kR,(putRow id w g 0 F).heap[g]? = I (.cells kR e (0,0))/\kR.size=cur.size/\kR.toList.take F.size=F.toList:=by
 refine⟨putCells id 0 F cur,?_,?_,?_⟩
 .unfold putRow mapBlock;simp only[M,if_true,hg,qj,onCells]
 .simp[putCells]
 .refine ya λt=>?_;by_cases ht:t<F.size
  .rw[vf ht,qu,qu];simp only[putCells,N];rw[kb (show t<cur.size by omega),kb ht];simp only[qj,kp,qc,ki,ht,if_true,Nat.sub_zero,id];rw[getElem!_pos F t ht]
  .rw[List.getElem?_take_eq_none omg_,zi (by simpa using ht)]
theorem Xy{w:X}{g k:Ä}{F:È W}(h:k≠g):(putRow id w g 0 F).heap[k]? = w.heap[k]? := by
 unfold putRow mapBlock;simp only[M,Ne.symm h,zu]
theorem I2{w:X}{os:È Obj}{k:Ä}(h:k<w.heap.size):(grow w os).heap[k]? = w.heap[k]? := by
 simp only[grow];exact Array.getElem?_append_left h
theorem EX{a:Ty}{S:aY}{w:X}(ha:a.scal=B):∀{xs:D a.den}{css:D (D W)},All2 (λx c=>Rep S w a x c) xs css↔css=xs.map (encT a)
 |[],[]=>by simp[All2]
 |x::xs,c::css=>by
  simp only[All2,qf,List.cons.injEq];exact and_congr (yL a x c ha) (EX ha)
 |[],_::_=>by simp[All2]
 |_::_,[]=>by simp[All2]
variable{P:Program}{ρ:Go.Shelf.Ren}
theorem Ow(L:Go.Proofs.SlLaysF0.n6 P ρ)(a:Ty)(ha:a.scal=B)(e:Ä)(he:isM e=Ó)(aE:∀w,(isAgg (ρ.t 24)).run P w = .ok B w)(zE:∀w,(Go.sizeOf (ρ.t 24)).run P w = .ok a.size w)(cf:a.den->a.den->K)(g:Ä)
  (eg:∀args w,(callFunc g args).run P w = .ok (.enter g args) w)
  (Ox:∀(x y:a.den)(w:X),gZ a x=B->gZ a y=B->Calls P g #[.agg (encT a x).toArray,.agg (encT a y).toArray] w λe w'=>e = .returned (.int .i64 (cf x y))/\∃q oq,w'=grow (w.drewN q) oq)
  (hO:SWO (p λ(x y:Sml a)=>cf x.1 y.1))(f:Ä)(hf:f=ρ.f 6) :
  Con.OK P ⟨f,[.rl e (.list a),.clo g []],[.list a],⟨[],[.rl (.list a)]⟩,[.list a],wM a cf⟩:=by
 subst hf;intro args R k r hk;unfold Con.C at hk;split at hk
 rotate_left
 .simp at hk
 rename_i h hu;rw[IF hu];clear hu
 obtain⟨ys,iy,Oy⟩:∃ys,wM a cf h=I ys/\k (tI ⟨[],[.rl (.list a)]⟩ [.list a] ys)=I r:=by
  cases hs:wM a cf h with
  |none=>simp only[hs,Å]at hk;exact absurd hk smp_
  |some ys=>simp only[hs,j4]at hk;exact⟨ys,rfl,hk⟩
 clear hk;refine⟨?_,?_⟩
 .obtain⟨nm,hn,sY⟩:=L.f6;exact⟨_,sY,rfl,hn⟩
 intro w S vals hA ew hS;have hA:All2 (pO S w) [.rl e ⟨.list a,h⟩,.clo g []] vals:=hA
 obtain⟨u0,u1,rfl⟩:∃u0 u1,vals=[u0,u1]:=by
  match vals,hA with
  |[u0,u1],_=>exact⟨u0,u1,rfl⟩
 obtain⟨⟨a',xs,hx,tQ,bC⟩,⟨cv,rfl,xK⟩,_⟩:=hA
 obtain⟨css,cV,aA⟩:∃css,w.ownsRow 0 e a'.size u0 xs.length css.flatten/\All2 (λx c=>Rep S w a' x c) xs css:=by
  rcases tQ with⟨_,css,h1,h2⟩|⟨h1,_⟩
  .exact⟨css,h1,h2⟩
  .rw[he]at h1;simp at h1
 obtain⟨rfl,hx⟩:a=a'/\HEq h xs:=by have h1:=jo TV.t hx;simp only[Ty.list.injEq]at h1;subst h1;refine⟨rfl,?_⟩;simp only[TV.mk.injEq,heq_eq_eq,qc]at hx;rw[hx]
 obtain rfl:xs=h:=(eq_of_heq hx).symm
 have Oz:cv = #[]:=by
  match hh:cv.toList,xK with
  |[],_=>exact Array.toList_eq_nil_iff.1 hh
 subst Oz;obtain rfl:=(EX ha).1 aA;unfold wM at iy;split at iy
 rotate_left
 .simp at iy
 rename_i iH;have fq:=I1 xs iH.1;have hlen:=jC8 xs iH.1;generalize smlA xs iH.1=sm at iy fq hlen;have xG:=(pdq_sorts (p λ(x y:Sml a)=>cf x.1 y.1) hO sm.toArray 0 sm.toArray.size (E sm.toArray.size) B B (kp _) (jn _) (J rfl)).1.1
 have tR:Calls P (ρ.f 6) #[u0,.func (.func g) #[] #[]] w λe' w'=>e' = .returned (.tuple #[])/\(w'=w/\xs=[]\/∃gb cap cur n os,u0 = .slice (I ⟨gb,0,Ñ⟩) xs.length cap/\w.heap[gb]? = I (.cells cur e (0,0))/\xs.length<=cap/\cap<=maxLen/\cur.size=cap*a.size/\
   w'=H (λ(x:Sml a)=>encT a x.1) a.size w gb 0 n (pdq (p λ(x y:Sml a)=>cf x.1 y.1) sm.toArray 0 sm.toArray.size (E sm.toArray.size) B B) os):=by
  rcases cV.2 with⟨rfl,hn⟩|⟨gb,cap,cur,rfl,_,hg,dq,oM,dy,oY⟩
  .refine(Go.Proofs.AnyF.slices_SortFunc_none L Ñ 0 (.func (.func g) #[] #[]) w).mono ?_
   rintro e' w' ⟨rfl,rfl⟩
   exact⟨rfl,J ⟨rfl,k9.1 hn⟩⟩
  .have cp:sm.toArray.size=xs.length:=by simpa using hlen
   have fh:=Xv (λ(x:Sml a)=>encT a x.1) a.size (λx=>Ou a x.1 ha) sm.toArray;have wN:(flatK (λ(x:Sml a)=>encT a x.1) a.size sm.toArray).toList=(xs.map (encT a)).flatten:=by rw[fh,<-fq,Ì];rfl
   have hH:HoldsK (λ(x:Sml a)=>encT a x.1) a.size w gb 0 sm.toArray:=Xw hg (by rw[size_flatK,cp,wN];exact oY);have hb:gb<w.heap.size:=(jq.1 hg).1
   have:=Go.Proofs.AnyQ.slices_SortFunc_eq L a.size aE zE (λ(x:Sml a)=>encT a x.1) (λx=>Ou a x.1 ha) (λx=>jEB a x.1 ha) (λx y=>cf x.1 y.1) hO g #[] gb 0 cap sm.toArray w eg
    (λm os dk _ x y=>Ox x.1 y.1 _ x.2 y.2) hH hb omg_
   rw[cp]at this ⊢;refine this.mono ?_
   rintro e' w' ⟨rfl,n,os,rfl⟩
   exact⟨rfl,Ï ⟨gb,cap,cur,n,os,rfl,hg,dq,oM,dy,rfl⟩⟩
 refine tR.mono ?_
 rintro e' w' ⟨rfl,hw⟩
 refine⟨_,Oy,_,S,[],rfl,?_⟩;simp only[j5]at iy;rcases hw with⟨rfl,rfl⟩|⟨gb,cap,cur,n,os,rfl,hg,dq,oM,dy,rfl⟩
 ·-- nothing to sort
  obtain rfl:sm=[]:=by simpa using hlen
  have iy:ys=[]:=by rw[<-iy];have:(pdq (p λ(x y:Sml a)=>cf x.1 y.1) (#[]:È (Sml a)) 0 0 (E 0) B B).size=0:=xG;rw[List.map_eq_nil_iff];exact Array.toList_eq_nil_iff.2 (Array.size_eq_zero_iff.1 this)
  subst iy;refine⟨rfl,trivial,by simp[gL],by simp[gL],?_,dK.refl _ _,λg o h=>J h,hS,λg _ _=>rfl,jn _,rfl,rfl,rfl,by intro m hm;simp[tI,rvsF]at hm⟩;exact⟨⟨a,[],rfl,.inl ⟨he,[],cV,trivial⟩,bC⟩,rfl,trivial⟩
 .generalize pdq (p λ(x y:Sml a)=>cf x.1 y.1) sm.toArray 0 sm.toArray.size (E sm.toArray.size) B B=d' at iy xG
  have cp:sm.toArray.size=xs.length:=by simpa using hlen
  have x9:d'.size=xs.length:=by rw[xG,cp]
  have fh:=Xv (λ(x:Sml a)=>encT a x.1) a.size (λx=>Ou a x.1 ha) d';have wN:(flatK (λ(x:Sml a)=>encT a x.1) a.size d').toList=(Í (encT a) ys).flatten:=by rw[fh,<-iy,Ì];rfl
  have oP:ys.length=xs.length:=by rw[<-iy];simpa using x9
  have hb:gb<w.heap.size:=(jq.1 hg).1;have CD:(flatK (λ(x:Sml a)=>encT a x.1) a.size d').size=xs.length*a.size:=by rw[size_flatK,x9]
  obtain⟨kR,aL,o9,AU⟩:=Xx (w:=Sort.ahead w n) (F:=flatK (λ(x:Sml a)=>encT a x.1) a.size d') hg (by rw[CD,dy];exact k7 _ dq);have dz:(putRow id (Sort.ahead w n) gb 0 (flatK (λ(x:Sml a)=>encT a x.1) a.size d')).heap.size=w.heap.size:=smp_
  have jO:∀k,k<w.heap.size->k≠gb->(H (λ(x:Sml a)=>encT a x.1) a.size w gb 0 n d' os).heap[k]? = w.heap[k]? := λk hk bz=>
   (I2 (by show k<(putRow id (Sort.ahead w n) gb 0 (flatK (λ(x:Sml a)=>encT a x.1) a.size d')).heap.size;rw[dz];exact hk)).trans (Xy bz)
  have fU:w.heap.size<=(H (λ(x:Sml a)=>encT a x.1) a.size w gb 0 n d' os).heap.size:=by show w.heap.size<=((putRow id (Sort.ahead w n) gb 0 (flatK (λ(x:Sml a)=>encT a x.1) a.size d')).heap++os).size;rw[Ã,dz];omega
  have kB:∀o,¬S gb o:=bC gb rfl;refine⟨rfl,trivial,by simp[gL],by simp[gL],?_,?_,λg o h=>J h,λg o h=>zk (hS g o h) fU,?_,fU,rfl,rfl,rfl,by intro m hm;simp[tI,rvsF]at hm⟩
  .refine⟨⟨a,ys,rfl,.inl ⟨he,ys.map (encT a),⟨?_,Ï ⟨gb,cap,kR,?_,kp _,?_,?_,oM,?_,?_⟩⟩,(EX ha).2 rfl⟩,bC⟩,rfl,trivial⟩
   .rw[<-wN,qt,CD,oP]
   .rw[oP]
   .exact(I2 (by show gb<(putRow id (Sort.ahead w n) gb 0 (flatK (λ(x:Sml a)=>encT a x.1) a.size d')).heap.size;rw[dz];exact hb)).trans aL
   .rw[oP];exact dq
   .rw[o9,dy]
   .rw[oP,<-CD,AU,wN]
  .intro g' o wv;refine⟨wv,?_⟩;have bz:g'≠gb:=λhe=>kB o (he▸wv);exact World.cell?_of_block (jO g' (hS g' o wv) bz)
  .intro g' vN kQ;refine jO g' vN λhe=>kQ ?_;subst he;simp[sd,CA,argF,eu,mD,blk,ofHL,APat.n]
theorem I3{α:Type}(key:α->K)(hk:∀x, -1152921504606846976<=key x/\key x<=1152921504606846976)(cf:α->α->K)(h:∀x y,cf x y=w64 (key x-key y)):SWO (p cf):=by
 have e:∀x y,p cf x y=decide (key x<key y):=by intro x y;have h1:=hk x;have h2:=hk y;have:w64 (key x-key y)=key x-key y:=gY omg_ omg_;simp only[p,h,this];congr 1;exact propext ⟨λh=>omg_,λh=>omg_⟩
 refine⟨λx=>?_,λx y z=>?_,λx y z=>?_⟩
 .rw[e];simp
 .rw[e,e,e];simp only[js];omega
 .rw[e,e,e];simp only[q7];omega
open Go.Sort
def AV(xs:D K):Option (D K):=cond (Nat.blt xs.length 4611686018427387904) (I (Di xs)) Ñ
theorem OA(x:K):∀l:D K,(insI x l).Perm (x::l)
 |[]=>O _
 |y::ys=>by
  unfold insI;cases decide (x<=y) with
  |true=>exact O _
  |false=>exact((OA x ys).cons y).trans (Ö x y ys)
theorem I4:∀l:D K,(Di l).Perm l
 |[]=>O _
 |x::xs=>(OA x _).trans ((I4 xs).cons x)
theorem Xz(x:K):∀l:D K,l.Pairwise (· <= ·)->(insI x l).Pairwise (· <= ·)
 |[],_=>qw _ _
 |y::ys,h=>by
  have hc:=jt.1 h;unfold insI;cases hd:decide (x<=y) with
  |true=>
   have hd:=q8 hd;refine jt.2 ⟨λz hz=>?_,h⟩;rcases je.1 hz with rfl|hz
   .exact hd
   .have:=hc.1 z hz;omega
  |false=>
   have hd:=vv hd;refine jt.2 ⟨λz hz=>?_,Xz x ys hc.2⟩;rcases je.1 ((OA x ys).mem_iff.1 hz) with rfl|hz
   .omega
   .exact hc.1 z hz
theorem OB:∀l:D K,(Di l).Pairwise (· <= ·)
 |[]=>List.Pairwise.nil
 |x::xs=>Xz x _ (OB xs)
theorem jzP(xs:D K):(xs.mergeSort λx y=>decide (x<=y))=Di xs:=by
 refine É (le:=(· <= ·)) (λa b _ _ h1 h2=>Int.le_antisymm h1 h2) ?_ (OB xs) ((List.mergeSort_perm _ _).trans (I4 xs).symm);have:=List.pairwise_mergeSort (le:=λx y:K=>decide (x<=y)) (λa b c h1 h2=>by simp at h1 h2 ⊢;omega) (λa b=>sqo_) xs;exact this.imp (λh=>by simpa using h)
theorem jC9{xs:D K}(h:xs.length<4611686018427387904):∃ys,AV xs=I ys/\ys.Perm xs/\ys.Pairwise (· <= ·):=by
 unfold AV;rw[show Nat.blt xs.length 4611686018427387904=B from Nat.ble_eq_true_of_le h];exact⟨_,rfl,I4 xs,OB xs⟩
theorem jFX(w:X)(g:Ä)(zs:D K):putRow (A .i64) w g 0 zs.toArray=putRow id w g 0 (zs.map (A .i64)).toArray:=by
 have:putCells (A .i64) 0 zs.toArray=putCells id 0 (zs.map (A .i64)).toArray:=by
  funext c
  unfold putCells;refine Array.ext_getElem? λk=>?_;simp only[N,kp,qc,ki,Nat.sub_zero,yb,ke,id];cases c[k]? with
  |none=>rfl
  |some x=>
   simp only[qj];by_cases hk:k<zs.length
   .rw[if_pos hk,if_pos hk,getElem!_pos _ k (by simpa using hk),getElem!_pos _ k (by simpa using hk)];simp
   .rw[if_neg hk,if_neg hk]
 unfold putRow;rw[this]
theorem jCa{w:X}{g:Ä}{zs:D K}(h:Holds id w g 0 (zs.map (A .i64)).toArray):Holds (A .i64) w g 0 zs.toArray:=by
 intro j hj;have fS:j<zs.length:=by simpa using hj
 have:=h j (by simpa using fS);refine⟨this.1.trans ?_,this.2⟩;rw[getElem!_pos _ j (by simpa using fS),getElem!_pos _ j hj];simp
theorem OC(zs:D K):(zs.map (encT (.int .i64))).flatten=zs.map (A .i64):=by
 induction zs with
 |nil=>rfl
 |cons z zs ih=>simp only[qf,qm,ih];rfl
variable{P:Program}{ρ:Go.Shelf.Ren}
theorem jzQ(L:Go.Proofs.SlLaysM.n5 P ρ)(e:Ä)(he:isM e=Ó)(f:Ä)(hf:f=ρ.f 5) :
  Con.OK P ⟨f,[.rl e (.list (.int .i64))],[.list (.int .i64)],⟨[],[.rl (.list (.int .i64))]⟩,[.list (.int .i64)],AV⟩:=by
 subst hf;intro args R k r hk;unfold Con.C at hk;split at hk
 rotate_left
 .simp at hk
 rename_i h hu;rw[IF hu];clear hu
 obtain⟨ys,iy,Oy⟩:∃ys,AV h=I ys/\k (tI ⟨[],[.rl (.list (.int .i64))]⟩ [.list (.int .i64)] ys)=I r:=by
  cases hs:AV h with
  |none=>simp only[hs,Å]at hk;exact absurd hk smp_
  |some ys=>simp only[hs,j4]at hk;exact⟨ys,rfl,hk⟩
 clear hk;refine⟨?_,?_⟩
 .obtain⟨nm,hn,sY⟩:=L.f5;exact⟨_,sY,rfl,hn⟩
 intro w S vals hA ew hS;have hA:All2 (pO S w) [.rl e ⟨.list (.int .i64),h⟩] vals:=hA
 obtain⟨u0,rfl⟩:∃u0,vals=[u0]:=by
  match vals,hA with
  |[u0],_=>exact⟨u0,rfl⟩
 obtain⟨⟨a',xs,hx,tQ,bC⟩,_⟩:=hA
 obtain⟨css,cV,aA⟩:∃css,w.ownsRow 0 e a'.size u0 xs.length css.flatten/\All2 (λx c=>Rep S w a' x c) xs css:=by
  rcases tQ with⟨_,css,h1,h2⟩|⟨h1,_⟩
  .exact⟨css,h1,h2⟩
  .rw[he]at h1;simp at h1
 obtain⟨rfl,hx⟩:Ty.int .i64=a'/\HEq h xs:=by have h1:=jo TV.t hx;simp only[Ty.list.injEq]at h1;subst h1;refine⟨rfl,?_⟩;simp only[TV.mk.injEq,heq_eq_eq,qc]at hx;rw[hx]
 obtain rfl:xs=h:=(eq_of_heq hx).symm;obtain rfl:=(EX (a:= .int .i64) rfl).1 aA;have fh:(Í (encT (.int .i64)) xs).flatten=Í (A .i64) xs:=OC xs;rw[fh]at cV;unfold AV at iy;cases iH:Nat.blt (G xs) 4611686018427387904 with
 |false=>rw[iH]at iy;simp at iy
 |true=>
 rw[iH]at iy;simp only[j6,j5]at iy;have iH:G xs<4611686018427387904:=Nat.le_of_ble_eq_true iH;have oP:ys.length=G xs:=by rw[<-iy];exact(I4 xs).length_eq
 have tR:Calls P (ρ.f 5) #[u0] w λe' w'=>e' = .returned (.tuple #[])/\(w'=w/\xs=[]\/∃gb cap cur n os,u0 = .slice (I ⟨gb,0,Ñ⟩) (G xs) cap/\w.heap[gb]? = I (.cells cur e (0,0))/\G xs<=cap/\cap<=maxLen/\cur.size=cap*1/\
   w'=grow (putRow id (Sort.ahead w n) gb 0 (ys.map (A .i64)).toArray) os):=by
  rcases cV.2 with⟨rfl,hn⟩|⟨gb,cap,cur,rfl,_,hg,dq,oM,dy,oY⟩
  .refine(Go.Proofs.AnyM.slices_Sort_int_none L Ñ 0 w).mono ?_
   rintro e' w' ⟨rfl,rfl⟩
   exact⟨rfl,J ⟨rfl,k9.1 hn⟩⟩
  .have hH:Holds (A .i64) w gb 0 (List.toArray xs):=jCa (Xw hg (by simpa[Ty.size]using oY));have hb:gb<w.heap.size:=(jq.1 hg).1;refine(Go.Proofs.AnyM.slices_Sort_int L gb 0 cap xs w hH hb iH).mono ?_
   rintro e' w' ⟨rfl,n,os,rfl⟩
   rw[jzP,iy,jFX];exact⟨rfl,Ï ⟨gb,cap,cur,n,os,rfl,hg,dq,oM,dy,rfl⟩⟩
 refine tR.mono ?_
 rintro e' w' ⟨rfl,hw⟩
 refine⟨_,Oy,_,S,[],rfl,?_⟩;rcases hw with⟨rfl,rfl⟩|⟨gb,cap,cur,n,os,rfl,hg,dq,oM,dy,rfl⟩
 .have iy:ys=[]:=k9.1 (by simpa using oP);subst iy;refine⟨rfl,trivial,by simp[gL],by simp[gL],?_,dK.refl _ _,λg o h=>J h,hS,λg _ _=>rfl,jn _,rfl,rfl,rfl,by intro m hm;simp[tI,rvsF]at hm⟩;exact⟨⟨.int .i64,[],rfl,.inl ⟨he,[],cV,trivial⟩,bC⟩,rfl,trivial⟩
 .have hb:gb<w.heap.size:=(jq.1 hg).1;have CD:(ys.map (A .i64)).toArray.size=G xs:=by simp[oP]
  obtain⟨kR,aL,o9,AU⟩:=Xx (w:=Sort.ahead w n) (F:=(ys.map (A .i64)).toArray) hg (by rw[CD,dy];omega);have dz:(putRow id (Sort.ahead w n) gb 0 (ys.map (A .i64)).toArray).heap.size=w.heap.size:=smp_
  have jO:∀k,k<w.heap.size->k≠gb->(grow (putRow id (Sort.ahead w n) gb 0 (ys.map (A .i64)).toArray) os).heap[k]? = w.heap[k]? := λk hk bz=>
   (I2 (by rw[dz];exact hk)).trans (Xy bz)
  have fU:w.heap.size<=(grow (putRow id (Sort.ahead w n) gb 0 (ys.map (A .i64)).toArray) os).heap.size:=by show w.heap.size<=((putRow id (Sort.ahead w n) gb 0 (ys.map (A .i64)).toArray).heap++os).size;rw[Ã,dz];omega
  have kB:∀o,¬S gb o:=bC gb rfl;refine⟨rfl,trivial,by simp[gL],by simp[gL],?_,?_,λg o h=>J h,λg o h=>zk (hS g o h) fU,?_,fU,rfl,rfl,rfl,by intro m hm;simp[tI,rvsF]at hm⟩
  .refine⟨⟨.int .i64,ys,rfl,.inl ⟨he,ys.map (encT (.int .i64)),⟨?_,Ï ⟨gb,cap,kR,?_,kp _,?_,?_,oM,?_,?_⟩⟩,(EX (a:= .int .i64) rfl).2 rfl⟩,bC⟩,rfl,trivial⟩
   .rw[OC];simp[Ty.size]
   .rw[oP]
   .exact(I2 (by rw[dz];exact hb)).trans aL
   .rw[oP];exact dq
   .rw[o9,dy];rfl
   .rw[OC,oP,show G xs*(Ty.int .i64).size=(ys.map (A .i64)).toArray.size by rw[CD];simp[Ty.size],AU]
  .intro g' o wv;refine⟨wv,?_⟩;have bz:g'≠gb:=λhe=>kB o (he▸wv);exact World.cell?_of_block (jO g' (hS g' o wv) bz)
  .intro g' vN kQ;refine jO g' vN λhe=>kQ ?_;subst he;simp[sd,CA,argF,eu,mD,blk,ofHL]
end Go.Lft
