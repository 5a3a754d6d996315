/- slices.SortFunc: the kit's contract of it as a contract on plain data. -/
import Derived.Test.YtgepoeafaklbjaaGreatPFLD
import Derived.Shelf.SlSortCmp.NoneTotal
import Derived.Shelf.SortM.Plain
import Derived.Shelf.SortM.SortNone
import Derived.Shelf.SlIterI.Sorted
open Go.Proofs renaming ltOf->A,sortWorldK->À
open Go.Value renaming int->B
open Bool renaming true->E,false->ô
open Array renaming getElem?_toList->G,getElem?_eq_getElem->H,getElem?_modify->Ê,getElem?_mapIdx->Ë,length_toList->Ð,extract_size->Ô,size_append->Ü
open _root_ renaming List->I,Int->Ä,Nat->Í,Array->ß,Option->ö
open Go.Lib renaming bitLen->J
open Nat renaming zero_le->M,le_refl->X,eq_zero_or_pos->Õ,lt_of_lt_of_le->Ø,zero_add->Ù,sub_zero->å,blt->ó
open List renaming length->N,getElem?_eq_none->Y,flatten_cons->Ã,getElem?_take_of_lt->Å,map_cons->Ñ,ext_getElem?->Ú,length_map->Þ,map_map->ç,map->ì
open Option renaming some->O,map_some->Á,bind_none->Ý,none->ë
open Go.Proofs.AnyM renaming slices_Sort_int_none->U,slices_Sort_int->Z
open Go.WideElems renaming rg->Â,rd->è
open Or renaming inl->Æ,inr->ï
open Go renaming World->Ç,Value->É,Program->ò
open Go.Proofs.AnyZI renaming SortsIn->È,keys_gives->á,sorted_in->ã,keys_in->ê
open List.Perm renaming refl->Ì,eq_of_pairwise->ä,swap->ù
set_option linter.unusedVariables false
namespace Go.Lft
open Go.Sort
def Ty.scal:Ty->Bool
 |.int _|.bool|.str|.unit=>E
 |.wrap a=>a.scal
 |.pair a b=>a.scal&&b.scal
 |.list _=>ô
 |.arr _ _=>ô
def encT:(t:Ty)->t.den->I É
 |.int k,n=>[.int k n]
 |.bool,b=>[.bool b]
 |.str,s=>[.string s]
 |.unit,_=>[]
 |.wrap a,v=>encT a v
 |.pair a b,v=>encT a v.1++encT b v.2
 |.list _,_=>[]
 |.arr _ _,_=>[]
def j3s:(t:Ty)->t.den->Bool
 |.int _,n=>decide (-1152921504606846976<=(n:Ä))&&decide ((n:Ä)<=1152921504606846976)
 |.bool,_=>E
 |.str,_=>E
 |.unit,_=>E
 |.wrap a,v=>j3s a v
 |.pair a b,v=>j3s a v.1&&j3s b v.2
 |.list _,_=>E
 |.arr _ _,_=>E
theorem jg3:∀t:Ty,j3s t t.dflt=E
 |.int _=>by simp[j3s,Ty.dflt]
 |.bool=>rfl
 |.str=>rfl
 |.unit=>rfl
 |.wrap a=>jg3 a
 |.pair a b=>by simp[j3s,Ty.dflt,jg3 a,jg3 b]
 |.list _=>rfl
 |.arr _ _=>rfl
theorem jfc{S:j09}{w:Ç}:∀(t:Ty)(v:t.den)(cs:I É),t.scal=E->(Rep S w t v cs↔cs=encT t v)
 |.int _,_,_,_=>Iff.rfl
 |.bool,_,_,_=>Iff.rfl
 |.str,_,_,_=>Iff.rfl
 |.unit,_,_,_=>Iff.rfl
 |.wrap a,v,cs,h=>jfc a v cs h
 |.pair a b,v,cs,h=>by
  simp only[Ty.scal,Bool.and_eq_true]at h;constructor
  .rintro⟨c1,c2,rfl,h1,h2⟩
   rw[(jfc a _ _ h.1).1 h1,(jfc b _ _ h.2).1 h2];rfl
  .rintro rfl
   exact⟨_,_,rfl,(jfc a _ _ h.1).2 rfl,(jfc b _ _ h.2).2 rfl⟩
 |.list _,_,_,h=>by simp[Ty.scal]at h
 |.arr _ _,_,_,h=>by simp[Ty.scal]at h
theorem jqr(t:Ty)(v:t.den)(h:t.scal=E):(encT t v).length=t.size:=
 Rep.length (S:=λ_ _=>False) (w:=default) t v _ ((jfc t v _ h).2 rfl)
theorem jAL(t:Ty)(v:t.den)(h:t.scal=E):∀u∈encT t v,u.oneCell'=true:=
 Rep.one (S:=λ_ _=>False) (w:=default) t v _ ((jfc t v _ h).2 rfl)
abbrev Sml(a:Ty):Type:={ x:a.den // j3s a x=E }
instance(a:Ty):Inhabited (Sml a):=⟨⟨a.dflt,jg3 a⟩⟩
def smlA{a:Ty}:(xs:I a.den)->xs.all (j3s a)=E->I (Sml a)
 |[],_=>[]
 |x::xs,h=>⟨x,by simp at h;exact h.1⟩::smlA xs (by simp at h ⊢;exact h.2)
theorem jjU{a:Ty}:∀(xs:I a.den)(h:xs.all (j3s a)=E),(smlA xs h).map (·.1)=xs
 |[],_=>rfl
 |x::xs,h=>by simp[smlA,jjU xs]
theorem jy7{a:Ty}(xs:I a.den)(h:xs.all (j3s a)=E):(smlA xs h).length=xs.length:=by
 rw[<-Þ (f:=(·.1)),jjU]
noncomputable def jlQ(a:Ty)(cf:a.den->a.den->Ä)(xs:I a.den):ö (I a.den):=
 if h:xs.all (j3s a)=E/\xs.length<4611686018427387904 then
  O ((pdq (A λ(x y:Sml a)=>cf x.1 y.1) (smlA xs h.1).toArray 0 (smlA xs h.1).toArray.size (J (smlA xs h.1).toArray.size) E E).toList.map (·.1))
 else ë
theorem jjV{a:Ty}{cf:a.den->a.den->Ä}(hO:SWO (A λ(x y:Sml a)=>cf x.1 y.1)){xs:I a.den}(h:∀x∈xs,j3s a x=E)(hl:xs.length<4611686018427387904) :
  ∃ys,jlQ a cf xs=O ys/\ys.Perm xs/\ys.Pairwise (λx y=>¬cf y x<0):=by
 have h1:xs.all (j3s a)=true:=List.all_eq_true.2 h;unfold jlQ;rw[dif_pos ⟨h1,hl⟩];refine⟨_,rfl,?_,?_⟩
 .have hp:=(pdq_sorts (A λ(x y:Sml a)=>cf x.1 y.1) hO (smlA xs h1).toArray 0 (smlA xs h1).toArray.size (J (smlA xs h1).toArray.size) E E (M _) (X _) (Æ rfl)).1;obtain⟨hs,_,hp⟩:=hp;generalize pdq (A λ(x y:Sml a)=>cf x.1 y.1) (smlA xs h1).toArray 0 (smlA xs h1).toArray.size (J (smlA xs h1).toArray.size) E E=d' at *;rw[<-hs]at hp;rw[Ô,hs,Ô]at hp;have:=hp.map (·.1);rwa[show (smlA xs h1).toArray.toList=smlA xs h1 from rfl,jjU]at this
 .have hp:=(pdq_sorts (A λ(x y:Sml a)=>cf x.1 y.1) hO (smlA xs h1).toArray 0 (smlA xs h1).toArray.size (J (smlA xs h1).toArray.size) E E (M _) (X _) (Æ rfl));obtain⟨⟨hs,_,_⟩,hp⟩:=hp;generalize pdq (A λ(x y:Sml a)=>cf x.1 y.1) (smlA xs h1).toArray 0 (smlA xs h1).toArray.size (J (smlA xs h1).toArray.size) E E=d' at *;rw[List.pairwise_map,List.pairwise_iff_getElem];intro i j hi hj hij;have hi':i<d'.size:=by simpa using hi
  have hj':j<d'.size:=by simpa using hj
  have:=hp i j (M _) hij omg_;rw[getElem!_pos d' j hj',getElem!_pos d' i hi']at this;simpa[A]using this
theorem jrZ{m:Í}:∀{css:I (I É)},(∀c∈css,c.length=m)->∀t,t<css.length*m->css.flatten[t]? = ((css[t/m]?).getD [])[t%m]?
 |[],_,t,ht=>by simp at ht
 |c::css,h,t,ht=>by
  have hc:c.length=m:=h c smp_
  have m0:0<m:=by
   rcases Õ m with h0|h0
   .subst h0;simp at ht
   .exact h0
  by_cases hlt:t<m
  .rw[Ã,List.getElem?_append_left omg_,Nat.div_eq_of_lt hlt,Nat.mod_eq_of_lt hlt];simp
  .have h':∀c∈css,c.length=m:=λc hc=>h c (by simp[hc]);have ht':t-m<css.length*m:=by simp only[List.length_cons,Nat.succ_mul]at ht;omega
   rw[Ã,List.getElem?_append_right omg_,hc,jrZ h' (t-m) ht'];have e1:t=t-m+m:=omg_;have e2:t/m=(t-m)/m+1:=(congrArg (· / m) e1).trans (Nat.add_div_right _ m0);have e3:t%m=(t-m)%m:=(congrArg (· % m) e1).trans (Nat.add_mod_right _ _);rw[e2,e3,List.getElem?_cons_succ]
theorem jvy{α:Type}(enc:α->I É):∀xs:I α,All2 (λx c=>c=enc x) xs (xs.map enc)
 |[]=>trivial
 |x::xs=>⟨rfl,jvy enc xs⟩
theorem jmG{α:Type}[Inhabited α](enc:α->I É)(k:Í)(hk:∀x,(enc x).length=k)(d:ß α):(flatK enc k d).toList=(d.toList.map enc).flatten:=by
 have hl:(d.toList.map enc).flatten.length=d.size*k:=by have:=All2.flatten_length (R:=λx c=>c=enc x) (n:=k) (λx c h=>by rw[h,hk]) (xs:=d.toList) (css:=d.toList.map enc) (jvy enc _);simpa using this
 refine Ú λt=>?_;by_cases ht:t<d.size*k
 .rw[jrZ (m:=k) (by simpa using λx _=>hk x) t (by simpa using ht)]
  have k0:0<k:=by
   rcases Õ k with h0|h0
   .subst h0;simp at ht
   .exact h0
  have hd:t/k<d.size:=Nat.div_lt_of_lt_mul (by rw[Nat.mul_comm];exact ht);have hm:t%k<k:=Nat.mod_lt _ k0;have:=get_flatK enc k d t ht;rw[getElem!_pos _ t (by rw[size_flatK];exact ht)]at this;rw[G,H (by rw[size_flatK];exact ht),this,getElem!_pos d _ hd];simp only[List.getElem?_map,G,H hd,Á,Option.getD_some];rw[getElem!_pos _ _ (by rw[hk];exact hm),List.getElem?_eq_getElem (by rw[hk];exact hm)]
 .rw[Y (by rw[Ð,size_flatK];omega),Y omg_]
theorem jp6{w:Ç}{g:Í}{cur F:ß É}{e:Í}(hg:w.heap[g]? = O (.cells cur e (0,0)))(ht:cur.toList.take F.size=F.toList):Holds id w g 0 F:=by
 intro j hj
 have h1:cur[j]? = O F[j]:=by
  have:(cur.toList.take F.size)[j]? = F.toList[j]? := by rw[ht]
  rw[Å hj,G,G,H hj]at this;exact this
 refine⟨?_,?_⟩
 .simp only[World.cell?,hg,Ù];rw[getElem!_pos F j hj];simpa using h1
 .simp[World.frozen?,hg]
theorem jvz{w:Ç}{g:Í}{cur F:ß É}{e:Í}(hg:w.heap[g]? = O (.cells cur e (0,0)))(hF:F.size<=cur.size) :
  ∃cur',(putRow id w g 0 F).heap[g]? = O (.cells cur' e (0,0))/\cur'.size=cur.size/\cur'.toList.take F.size=F.toList:=by
 refine⟨putCells id 0 F cur,?_,?_,?_⟩
 .unfold putRow mapBlock;simp only[Ê,if_true,hg,Á,onCells]
 .simp[putCells]
 .refine Ú λt=>?_;by_cases ht:t<F.size
  .rw[Å ht,G,G];simp only[putCells,Ë];rw[H (show t<cur.size by omega),H ht];simp only[Á,M,true_and,Ù,ht,if_true,å,id];rw[getElem!_pos F t ht]
  .rw[List.getElem?_take_eq_none omg_,Y (by simpa using ht)]
theorem jmH{w:Ç}{g k:Í}{F:ß É}(h:k≠g):(putRow id w g 0 F).heap[k]? = w.heap[k]? := by
 unfold putRow mapBlock;simp only[Ê,Ne.symm h,if_false]
theorem jhB{w:Ç}{os:ß Obj}{k:Í}(h:k<w.heap.size):(grow w os).heap[k]? = w.heap[k]? := by
 simp only[grow];exact Array.getElem?_append_left h
theorem jkS{a:Ty}{S:j09}{w:Ç}(ha:a.scal=E):∀{xs:I a.den}{css:I (I É)},All2 (λx c=>Rep S w a x c) xs css↔css=xs.map (encT a)
 |[],[]=>by simp[All2]
 |x::xs,c::css=>by
  simp only[All2,Ñ,List.cons.injEq];exact and_congr (jfc a x c ha) (jkS ha)
 |[],_::_=>by simp[All2]
 |_::_,[]=>by simp[All2]
variable{P:ò}{ρ:Go.Shelf.Ren}
theorem jjW(L:Go.Proofs.SlLaysF0.n6 P ρ)(a:Ty)(ha:a.scal=E)(e:Í)(he:isM e=ô)(aE:∀w,(isAgg (ρ.t 24)).run P w = .ok E w)(zE:∀w,(Go.sizeOf (ρ.t 24)).run P w = .ok a.size w)(cf:a.den->a.den->Ä)(g:Í)
  (eg:∀args w,(callFunc g args).run P w = .ok (.enter g args) w)
  (hcmp:∀(x y:a.den)(w:Ç),j3s a x=E->j3s a y=E->Calls P g #[.agg (encT a x).toArray,.agg (encT a y).toArray] w λe w'=>e = .returned (.int .i64 (cf x y))/\∃q os',w'=grow (w.drewN q) os')
  (hO:SWO (A λ(x y:Sml a)=>cf x.1 y.1))(f:Í)(hf:f=ρ.f 6) :
  Con.OK P ⟨f,[.rl e (.list a),.clo g []],[.list a],⟨[],[.rl (.list a)]⟩,[.list a],jlQ a cf⟩:=by
 subst hf;intro args R k r hk;unfold Con.C at hk;split at hk
 rotate_left
 .simp at hk
 rename_i h hu;rw[jg0 hu];clear hu
 obtain⟨ys,hys,hkr⟩:∃ys,jlQ a cf h=O ys/\k (jfa ⟨[],[.rl (.list a)]⟩ [.list a] ys)=O r:=by
  cases hs:jlQ a cf h with
  |none=>simp only[hs,Ý]at hk;exact absurd hk smp_
  |some ys=>simp only[hs,j4]at hk;exact⟨ys,rfl,hk⟩
 clear hk;refine⟨?_,?_⟩
 .obtain⟨nm,hn,hfn⟩:=L.f6;exact⟨_,hfn,rfl,hn⟩
 intro w S vals hA hnd hS;have hA:All2 (jbJ S w) [.rl e ⟨.list a,h⟩,.clo g []] vals:=hA
 obtain⟨u0,u1,rfl⟩:∃u0 u1,vals=[u0,u1]:=by
  match vals,hA with
  |[u0,u1],_=>exact⟨u0,u1,rfl⟩
 obtain⟨⟨a',xs,hx,hrow0,hfree⟩,⟨cv,rfl,hcv⟩,_⟩:=hA
 obtain⟨css,hrow,hall⟩:∃css,w.ownsRow 0 e a'.size u0 xs.length css.flatten/\All2 (λx c=>Rep S w a' x c) xs css:=by
  rcases hrow0 with⟨_,css,h1,h2⟩|⟨h1,_⟩
  .exact⟨css,h1,h2⟩
  .rw[he]at h1;simp at h1
 obtain⟨rfl,hx⟩:a=a'/\HEq h xs:=by have h1:=congrArg TV.t hx;simp only[Ty.list.injEq]at h1;subst h1;refine⟨rfl,?_⟩;simp only[TV.mk.injEq,heq_eq_eq,true_and]at hx;rw[hx]
 obtain rfl:xs=h:=(eq_of_heq hx).symm
 have hcv0:cv = #[]:=by
  match hh:cv.toList,hcv with
  |[],_=>exact Array.toList_eq_nil_iff.1 hh
 subst hcv0;obtain rfl:=(jkS ha).1 hall;unfold jlQ at hys;split at hys
 rotate_left
 .simp at hys
 rename_i hsm;have hval:=jjU xs hsm.1;have hlen:=jy7 xs hsm.1;generalize smlA xs hsm.1=sm at hys hval hlen;have hpp:=(pdq_sorts (A λ(x y:Sml a)=>cf x.1 y.1) hO sm.toArray 0 sm.toArray.size (J sm.toArray.size) E E (M _) (X _) (Æ rfl)).1.1
 have hcall:Calls P (ρ.f 6) #[u0,.func (.func g) #[] #[]] w λe' w'=>e' = .returned (.tuple #[])/\(w'=w/\xs=[]\/∃gb cap cur n os,u0 = .slice (O ⟨gb,0,ë⟩) xs.length cap/\w.heap[gb]? = O (.cells cur e (0,0))/\xs.length<=cap/\cap<=maxLen/\cur.size=cap*a.size/\
   w'=À (λ(x:Sml a)=>encT a x.1) a.size w gb 0 n (pdq (A λ(x y:Sml a)=>cf x.1 y.1) sm.toArray 0 sm.toArray.size (J sm.toArray.size) E E) os):=by
  rcases hrow.2 with⟨rfl,hn⟩|⟨gb,cap,cur,rfl,_,hg,hcap,hmx,hcs,htk⟩
  .refine(Go.Proofs.AnyF.slices_SortFunc_none L ë 0 (.func (.func g) #[] #[]) w).mono ?_
   rintro e' w' ⟨rfl,rfl⟩
   exact⟨rfl,Æ ⟨rfl,List.length_eq_zero_iff.1 hn⟩⟩
  .have hsz:sm.toArray.size=xs.length:=by simpa using hlen
   have hfl:=jmG (λ(x:Sml a)=>encT a x.1) a.size (λx=>jqr a x.1 ha) sm.toArray;have hfl2:(flatK (λ(x:Sml a)=>encT a x.1) a.size sm.toArray).toList=(xs.map (encT a)).flatten:=by rw[hfl,<-hval,ç];rfl
   have hH:HoldsK (λ(x:Sml a)=>encT a x.1) a.size w gb 0 sm.toArray:=jp6 hg (by rw[size_flatK,hsz,hfl2];exact htk);have hb:gb<w.heap.size:=(Array.getElem?_eq_some_iff.1 hg).1
   have:=Go.Proofs.AnyQ.slices_SortFunc_eq L a.size aE zE (λ(x:Sml a)=>encT a x.1) (λx=>jqr a x.1 ha) (λx=>jAL a x.1 ha) (λx y=>cf x.1 y.1) hO g #[] gb 0 cap sm.toArray w eg
    (λm os dk _ x y=>hcmp x.1 y.1 _ x.2 y.2) hH hb omg_
   rw[hsz]at this ⊢;refine this.mono ?_
   rintro e' w' ⟨rfl,n,os,rfl⟩
   exact⟨rfl,ï ⟨gb,cap,cur,n,os,rfl,hg,hcap,hmx,hcs,rfl⟩⟩
 refine hcall.mono ?_
 rintro e' w' ⟨rfl,hw⟩
 refine⟨_,hkr,_,S,[],rfl,?_⟩;simp only[j5]at hys;rcases hw with⟨rfl,rfl⟩|⟨gb,cap,cur,n,os,rfl,hg,hcap,hmx,hcs,rfl⟩
 ·-- nothing to sort
  obtain rfl:sm=[]:=by simpa using hlen
  have hys:ys=[]:=by rw[<-hys];have:(pdq (A λ(x y:Sml a)=>cf x.1 y.1) (#[]:ß (Sml a)) 0 0 (J 0) E E).size=0:=hpp;rw[List.map_eq_nil_iff];exact Array.toList_eq_nil_iff.2 (Array.size_eq_zero_iff.1 this)
  subst hys;refine⟨rfl,trivial,by simp[j7U],by simp[j7U],?_,j3m.refl _ _,λg o h=>Æ h,hS,λg _ _=>rfl,X _,rfl,rfl,rfl,by intro n s hm;simp[jfa,rvsF]at hm,by intro m hm;simp[jfa,rvsF]at hm⟩;exact⟨⟨a,[],rfl,.inl ⟨he,[],hrow,trivial⟩,hfree⟩,rfl,trivial⟩
 .generalize pdq (A λ(x y:Sml a)=>cf x.1 y.1) sm.toArray 0 sm.toArray.size (J sm.toArray.size) E E=d' at hys hpp
  have hsz:sm.toArray.size=xs.length:=by simpa using hlen
  have hds:d'.size=xs.length:=by rw[hpp,hsz]
  have hfl:=jmG (λ(x:Sml a)=>encT a x.1) a.size (λx=>jqr a x.1 ha) d';have hfl2:(flatK (λ(x:Sml a)=>encT a x.1) a.size d').toList=(ì (encT a) ys).flatten:=by rw[hfl,<-hys,ç];rfl
  have hyl:ys.length=xs.length:=by rw[<-hys];simpa using hds
  have hb:gb<w.heap.size:=(Array.getElem?_eq_some_iff.1 hg).1;have hFs:(flatK (λ(x:Sml a)=>encT a x.1) a.size d').size=xs.length*a.size:=by rw[size_flatK,hds]
  obtain⟨cur',hg',hcs',htk'⟩:=jvz (w:=Sort.ahead w n) (F:=flatK (λ(x:Sml a)=>encT a x.1) a.size d') hg (by rw[hFs,hcs];exact Nat.mul_le_mul_right _ hcap);have hsp:(putRow id (Sort.ahead w n) gb 0 (flatK (λ(x:Sml a)=>encT a x.1) a.size d')).heap.size=w.heap.size:=smp_
  have hother:∀k,k<w.heap.size->k≠gb->(À (λ(x:Sml a)=>encT a x.1) a.size w gb 0 n d' os).heap[k]? = w.heap[k]? := λk hk hne=>
   (jhB (by show k<(putRow id (Sort.ahead w n) gb 0 (flatK (λ(x:Sml a)=>encT a x.1) a.size d')).heap.size;rw[hsp];exact hk)).trans (jmH hne)
  have hgrow:w.heap.size<=(À (λ(x:Sml a)=>encT a x.1) a.size w gb 0 n d' os).heap.size:=by show w.heap.size<=((putRow id (Sort.ahead w n) gb 0 (flatK (λ(x:Sml a)=>encT a x.1) a.size d')).heap++os).size;rw[Ü,hsp];omega
  have hfr:∀o,¬S gb o:=hfree gb rfl;refine⟨rfl,trivial,by simp[j7U],by simp[j7U],?_,?_,λg o h=>Æ h,λg o h=>Ø (hS g o h) hgrow,?_,hgrow,rfl,rfl,rfl,by intro n s hm;simp[jfa,rvsF]at hm,by intro m hm;simp[jfa,rvsF]at hm⟩
  .refine⟨⟨a,ys,rfl,.inl ⟨he,ys.map (encT a),⟨?_,ï ⟨gb,cap,cur',?_,M _,?_,?_,hmx,?_,?_⟩⟩,(jkS ha).2 rfl⟩,hfree⟩,rfl,trivial⟩
   .rw[<-hfl2,Ð,hFs,hyl]
   .rw[hyl]
   .exact(jhB (by show gb<(putRow id (Sort.ahead w n) gb 0 (flatK (λ(x:Sml a)=>encT a x.1) a.size d')).heap.size;rw[hsp];exact hb)).trans hg'
   .rw[hyl];exact hcap
   .rw[hcs',hcs]
   .rw[hyl,<-hFs,htk',hfl2]
  .intro g' o hS';refine⟨hS',?_⟩;have hne:g'≠gb:=λhe=>hfr o (he▸hS');exact World.cell?_of_block (hother g' (hS g' o hS') hne)
  .intro g' hg1 hg2;refine hother g' hg1 λhe=>hg2 ?_;subst he;simp[jjA,jti,argF,j1O,j8L,blk,ofHL,APat.n]
theorem jnB{α:Type}(key:α->Ä)(hk:∀x, -1152921504606846976<=key x/\key x<=1152921504606846976)(cf:α->α->Ä)(h:∀x y,cf x y=w64 (key x-key y)):SWO (A cf):=by
 have e:∀x y,A cf x y=decide (key x<key y):=by intro x y;have h1:=hk x;have h2:=hk y;have:w64 (key x-key y)=key x-key y:=j4N omg_ omg_;simp only[A,h,this];congr 1;exact propext ⟨λh=>omg_,λh=>omg_⟩
 refine⟨λx=>?_,λx y z=>?_,λx y z=>?_⟩
 .rw[e];simp
 .rw[e,e,e];simp only[decide_eq_true_eq];omega
 .rw[e,e,e];simp only[decide_eq_false_iff_not];omega
open Go.Sort
def jqs(xs:I Ä):ö (I Ä):=cond (ó xs.length 4611686018427387904) (O (jeC xs)) ë
theorem insI_perm(x:Ä):∀l:I Ä,(insI x l).Perm (x::l)
 |[]=>Ì _
 |y::ys=>by
  unfold insI;cases decide (x<=y) with
  |true=>exact Ì _
  |false=>exact((insI_perm x ys).cons y).trans (ù x y ys)
theorem isortI_perm:∀l:I Ä,(jeC l).Perm l
 |[]=>Ì _
 |x::xs=>(insI_perm x _).trans ((isortI_perm xs).cons x)
theorem jvA(x:Ä):∀l:I Ä,l.Pairwise (· <= ·)->(insI x l).Pairwise (· <= ·)
 |[],_=>List.pairwise_singleton _ _
 |y::ys,h=>by
  have hc:=List.pairwise_cons.1 h;unfold insI;cases hd:decide (x<=y) with
  |true=>
   have hd:=of_decide_eq_true hd;refine List.pairwise_cons.2 ⟨λz hz=>?_,h⟩;rcases List.mem_cons.1 hz with rfl|hz
   .exact hd
   .have:=hc.1 z hz;omega
  |false=>
   have hd:=of_decide_eq_false hd;refine List.pairwise_cons.2 ⟨λz hz=>?_,jvA x ys hc.2⟩;rcases List.mem_cons.1 ((insI_perm x ys).mem_iff.1 hz) with rfl|hz
   .omega
   .exact hc.1 z hz
theorem jkT:∀l:I Ä,(jeC l).Pairwise (· <= ·)
 |[]=>List.Pairwise.nil
 |x::xs=>jvA x _ (jkT xs)
theorem jp7(xs:I Ä):(xs.mergeSort λx y=>decide (x<=y))=jeC xs:=by
 refine ä (le:=(· <= ·)) (λa b _ _ h1 h2=>Int.le_antisymm h1 h2) ?_ (jkT xs) ((List.mergeSort_perm _ _).trans (isortI_perm xs).symm);have:=List.pairwise_mergeSort (le:=λx y:Ä=>decide (x<=y)) (λa b c h1 h2=>by simp at h1 h2 ⊢;omega) (λa b=>sqo_) xs;exact this.imp (λh=>by simpa using h)
theorem jy8{xs:I Ä}(h:xs.length<4611686018427387904):∃ys,jqs xs=O ys/\ys.Perm xs/\ys.Pairwise (· <= ·):=by
 unfold jqs;rw[show ó xs.length 4611686018427387904=E from Nat.ble_eq_true_of_le h];exact⟨_,rfl,isortI_perm xs,jkT xs⟩
theorem jC8(w:Ç)(g:Í)(zs:I Ä):putRow (B .i64) w g 0 zs.toArray=putRow id w g 0 (zs.map (B .i64)).toArray:=by
 have:putCells (B .i64) 0 zs.toArray=putCells id 0 (zs.map (B .i64)).toArray:=by
  funext c
  unfold putCells;refine Array.ext_getElem? λk=>?_;simp only[Ë,M,true_and,Ù,å,List.size_toArray,Þ,id];cases c[k]? with
  |none=>rfl
  |some x=>
   simp only[Á];by_cases hk:k<zs.length
   .rw[if_pos hk,if_pos hk,getElem!_pos _ k (by simpa using hk),getElem!_pos _ k (by simpa using hk)];simp
   .rw[if_neg hk,if_neg hk]
 unfold putRow;rw[this]
theorem jy9{w:Ç}{g:Í}{zs:I Ä}(h:Holds id w g 0 (zs.map (B .i64)).toArray):Holds (B .i64) w g 0 zs.toArray:=by
 intro j hj;have hj':j<zs.length:=by simpa using hj
 have:=h j (by simpa using hj');refine⟨this.1.trans ?_,this.2⟩;rw[getElem!_pos _ j (by simpa using hj'),getElem!_pos _ j hj];simp
theorem jnC(zs:I Ä):(zs.map (encT (.int .i64))).flatten=zs.map (B .i64):=by
 induction zs with
 |nil=>rfl
 |cons z zs ih=>simp only[Ñ,Ã,ih];rfl
variable{P:ò}{ρ:Go.Shelf.Ren}
theorem jvB(L:Go.Proofs.SlLaysM.n5 P ρ)(e:Í)(he:isM e=ô)(f:Í)(hf:f=ρ.f 5) :
  Con.OK P ⟨f,[.rl e (.list (.int .i64))],[.list (.int .i64)],⟨[],[.rl (.list (.int .i64))]⟩,[.list (.int .i64)],jqs⟩:=by
 subst hf;intro args R k r hk;unfold Con.C at hk;split at hk
 rotate_left
 .simp at hk
 rename_i h hu;rw[jg0 hu];clear hu
 obtain⟨ys,hys,hkr⟩:∃ys,jqs h=O ys/\k (jfa ⟨[],[.rl (.list (.int .i64))]⟩ [.list (.int .i64)] ys)=O r:=by
  cases hs:jqs h with
  |none=>simp only[hs,Ý]at hk;exact absurd hk smp_
  |some ys=>simp only[hs,j4]at hk;exact⟨ys,rfl,hk⟩
 clear hk;refine⟨?_,?_⟩
 .obtain⟨nm,hn,hfn⟩:=L.f5;exact⟨_,hfn,rfl,hn⟩
 intro w S vals hA hnd hS;have hA:All2 (jbJ S w) [.rl e ⟨.list (.int .i64),h⟩] vals:=hA
 obtain⟨u0,rfl⟩:∃u0,vals=[u0]:=by
  match vals,hA with
  |[u0],_=>exact⟨u0,rfl⟩
 obtain⟨⟨a',xs,hx,hrow0,hfree⟩,_⟩:=hA
 obtain⟨css,hrow,hall⟩:∃css,w.ownsRow 0 e a'.size u0 xs.length css.flatten/\All2 (λx c=>Rep S w a' x c) xs css:=by
  rcases hrow0 with⟨_,css,h1,h2⟩|⟨h1,_⟩
  .exact⟨css,h1,h2⟩
  .rw[he]at h1;simp at h1
 obtain⟨rfl,hx⟩:Ty.int .i64=a'/\HEq h xs:=by have h1:=congrArg TV.t hx;simp only[Ty.list.injEq]at h1;subst h1;refine⟨rfl,?_⟩;simp only[TV.mk.injEq,heq_eq_eq,true_and]at hx;rw[hx]
 obtain rfl:xs=h:=(eq_of_heq hx).symm;obtain rfl:=(jkS (a:= .int .i64) rfl).1 hall;have hfl:(ì (encT (.int .i64)) xs).flatten=ì (B .i64) xs:=jnC xs;rw[hfl]at hrow;unfold jqs at hys;cases hsm:ó (N xs) 4611686018427387904 with
 |false=>rw[hsm]at hys;simp at hys
 |true=>
 rw[hsm]at hys;simp only[j6,j5]at hys;have hsm:N xs<4611686018427387904:=Nat.le_of_ble_eq_true hsm;have hyl:ys.length=N xs:=by rw[<-hys];exact(isortI_perm xs).length_eq
 have hcall:Calls P (ρ.f 5) #[u0] w λe' w'=>e' = .returned (.tuple #[])/\(w'=w/\xs=[]\/∃gb cap cur n os,u0 = .slice (O ⟨gb,0,ë⟩) (N xs) cap/\w.heap[gb]? = O (.cells cur e (0,0))/\N xs<=cap/\cap<=maxLen/\cur.size=cap*1/\
   w'=grow (putRow id (Sort.ahead w n) gb 0 (ys.map (B .i64)).toArray) os):=by
  rcases hrow.2 with⟨rfl,hn⟩|⟨gb,cap,cur,rfl,_,hg,hcap,hmx,hcs,htk⟩
  .refine(U L ë 0 w).mono ?_
   rintro e' w' ⟨rfl,rfl⟩
   exact⟨rfl,Æ ⟨rfl,List.length_eq_zero_iff.1 hn⟩⟩
  .have hH:Holds (B .i64) w gb 0 (List.toArray xs):=jy9 (jp6 hg (by simpa[Ty.size]using htk));have hb:gb<w.heap.size:=(Array.getElem?_eq_some_iff.1 hg).1;refine(Z L gb 0 cap xs w hH hb hsm).mono ?_
   rintro e' w' ⟨rfl,n,os,rfl⟩
   rw[jp7,hys,jC8];exact⟨rfl,ï ⟨gb,cap,cur,n,os,rfl,hg,hcap,hmx,hcs,rfl⟩⟩
 refine hcall.mono ?_
 rintro e' w' ⟨rfl,hw⟩
 refine⟨_,hkr,_,S,[],rfl,?_⟩;rcases hw with⟨rfl,rfl⟩|⟨gb,cap,cur,n,os,rfl,hg,hcap,hmx,hcs,rfl⟩
 .have hys:ys=[]:=List.length_eq_zero_iff.1 (by simpa using hyl);subst hys;refine⟨rfl,trivial,by simp[j7U],by simp[j7U],?_,j3m.refl _ _,λg o h=>Æ h,hS,λg _ _=>rfl,X _,rfl,rfl,rfl,by intro n s hm;simp[jfa,rvsF]at hm,by intro m hm;simp[jfa,rvsF]at hm⟩;exact⟨⟨.int .i64,[],rfl,.inl ⟨he,[],hrow,trivial⟩,hfree⟩,rfl,trivial⟩
 .have hb:gb<w.heap.size:=(Array.getElem?_eq_some_iff.1 hg).1;have hFs:(ys.map (B .i64)).toArray.size=N xs:=by simp[hyl]
  obtain⟨cur',hg',hcs',htk'⟩:=jvz (w:=Sort.ahead w n) (F:=(ys.map (B .i64)).toArray) hg (by rw[hFs,hcs];omega);have hsp:(putRow id (Sort.ahead w n) gb 0 (ys.map (B .i64)).toArray).heap.size=w.heap.size:=smp_
  have hother:∀k,k<w.heap.size->k≠gb->(grow (putRow id (Sort.ahead w n) gb 0 (ys.map (B .i64)).toArray) os).heap[k]? = w.heap[k]? := λk hk hne=>
   (jhB (by rw[hsp];exact hk)).trans (jmH hne)
  have hgrow:w.heap.size<=(grow (putRow id (Sort.ahead w n) gb 0 (ys.map (B .i64)).toArray) os).heap.size:=by show w.heap.size<=((putRow id (Sort.ahead w n) gb 0 (ys.map (B .i64)).toArray).heap++os).size;rw[Ü,hsp];omega
  have hfr:∀o,¬S gb o:=hfree gb rfl;refine⟨rfl,trivial,by simp[j7U],by simp[j7U],?_,?_,λg o h=>Æ h,λg o h=>Ø (hS g o h) hgrow,?_,hgrow,rfl,rfl,rfl,by intro n s hm;simp[jfa,rvsF]at hm,by intro m hm;simp[jfa,rvsF]at hm⟩
  .refine⟨⟨.int .i64,ys,rfl,.inl ⟨he,ys.map (encT (.int .i64)),⟨?_,ï ⟨gb,cap,cur',?_,M _,?_,?_,hmx,?_,?_⟩⟩,(jkS (a:= .int .i64) rfl).2 rfl⟩,hfree⟩,rfl,trivial⟩
   .rw[jnC];simp[Ty.size]
   .rw[hyl]
   .exact(jhB (by rw[hsp];exact hb)).trans hg'
   .rw[hyl];exact hcap
   .rw[hcs',hcs];rfl
   .rw[jnC,hyl,show N xs*(Ty.int .i64).size=(ys.map (B .i64)).toArray.size by rw[hFs];simp[Ty.size],htk']
  .intro g' o hS';refine⟨hS',?_⟩;have hne:g'≠gb:=λhe=>hfr o (he▸hS');exact World.cell?_of_block (hother g' (hS g' o hS') hne)
  .intro g' hg1 hg2;refine hother g' hg1 λhe=>hg2 ?_;subst he;simp[jjA,jti,argF,j1O,j8L,blk,ofHL]
open Go.Sort Go.Maps Go.Shelf
variable{P:ò}{ρ ρ' ρ'':Ren}
abbrev relD:É->ö (DataW Unit×I MemPlace):=λ_=>O (.lit (.bool E),[])
theorem js0(w:Ç)(o:Obj){k:Í}(hk:k<w.heap.size):(w.alloc o).heap[k]? = w.heap[k]? := by
 show (w.heap.push o)[k]? = _;rw[Array.getElem?_push,if_neg omg_]
theorem jya{w:Ç}{g:Í}{es:ß MapEntry}{clock:Í}{ks:I Ä}{k:TypeId}(hk:P.underlying k=O (.int .i64))(hh:w.heap[g]? = O (.map es clock))(hst:MapKept.Stamped es clock)
  (hks:es.toList.map (·.key)=ks.map (B .i64))(hr:∀x∈ks, -9223372036854775808<=x/\x<=9223372036854775807)(hl:ks.length<=1000000) :
  ∃D:DataW Unit,w.ownsMap P k relD g es.size D/\ks.Perm (intKeys D)/\Maps.size D=ks.length:=by
 have hkey:∀x∈es.toList,∃z,x.key = .int .i64 z/\keyOf P k x.key=O (.int .i64 z):=by intro x hx;have:x.key∈es.toList.map (·.key):=List.mem_map.2 ⟨x,hx,rfl⟩;rw[hks]at this;obtain⟨z,hz,he⟩:=List.mem_map.1 this;refine⟨z,he.symm,?_⟩;rw[<-he];exact keyOf_int_mk hk (by have:=hr z hz;simp[Lit.wf,show IntKind.i64.min = -9223372036854775808 by decide,show IntKind.i64.max=9223372036854775807 by decide];omega)
 have hlen:es.size=ks.length:=by have:=congrArg N hks;simpa using this
 refine⟨_,⟨es,clock,hh,⟨by rw[hlen];simp[maxLen];omega,hst,λx hx=>?_⟩,X _,rfl⟩,?_,?_⟩
 .obtain⟨z,_,hz⟩:=hkey x hx;exact⟨(.int .i64 z,.lit (.bool E)),by simp[è,hz]⟩
 .have e:(es.toList.map (Â P k relD)).map (λp=>intOf p.1)=ks:=by
   have:∀(l:I MapEntry)(ks:I Ä),(∀x∈l,∃z,x.key = .int .i64 z/\keyOf P k x.key=O (.int .i64 z))->l.map (·.key)=ks.map (B .i64)->(l.map (Â P k relD)).map (λp=>intOf p.1)=ks:=by
    intro l;induction l with
    |nil=>intro ks _ h;cases ks<;>simp_all
    |cons x r ih=>
     intro ks hx h;cases ks with
     |nil=>simp at h
     |cons z q=>
      simp only[Ñ,List.cons.injEq]at h ⊢;obtain⟨z',h1,h2⟩:=hx x smp_;refine⟨?_,ih q (λy hy=>hx y (by simp[hy])) h.2⟩;rw[h.1]at h1;have:z=z':=by simpa using h1
      subst this;simp[Â,è,h2,intOf]
   exact this _ _ hkey hks
  show ks.Perm (((es.toList.map (Â P k relD)).foldr DataW.insert []).map λp=>intOf p.1);exact(e▸((WideShapes.sorted_perm _).map (λp:Lit×DataW Unit=>intOf p.1)).symm)
 .show ((es.toList.map (Â P k relD)).foldr DataW.insert []).length=ks.length;rw[length_sorted];simp[hlen]
theorem jvC(LK:Go.Proofs.SlLaysZI.n7 P ρ)(LS:Go.Proofs.SlLaysZI.n6 P ρ')(LM:Go.Proofs.SlLaysM.n5 P ρ''){fK fS e:Í}(hK:ρ.f 7=fK)(hS:ρ'.f 6=fS)(he:ρ'.t 26=e)(hm:ρ''.f 5=ρ'.f 9):jv3 P fK fS e:=by
 subst hK;subst hS;subst he;refine⟨?_,?_,?_⟩
 .obtain⟨nm,hn,hfn⟩:=LK.f7;exact⟨_,hfn,rfl,hn⟩
 .obtain⟨nm,hn,hfn⟩:=LS.f6;exact⟨_,hfn,rfl,hn⟩
 intro w g es clock ks hh hst hks hr hl;obtain⟨D,hown,hperm,hsz⟩:=jya (P:=P) LK.t26 hh hst hks hr hl;have hbl:=hown.lt;have cK:=callsIn_wide.1 (ê LK Fence.wide 5 trivial rfl (O g) w);refine cK.mono ?_
 rintro r w1 ⟨rfl,rfl⟩
 refine⟨_,rfl,⟨λk hk=>js0 w _ hk,smp_,rfl,rfl,rfl⟩,?_⟩
 have hseq:=á (ρ:=ρ) { LK with } Fence.wide 2 trivial rfl omg_ w.heap.size g es.size D (w.alloc (.cells #[.map (O g)] (ρ.t 23))) smp_ smp_ (by
  obtain⟨es,clock,hb,Ft,hs,hD⟩:=hown;exact⟨es,clock,(js0 w _ hbl).trans hb,Ft,hs,hD⟩)
 have hsorts:È P ρ' Fence.wide 4:=by unfold È;rw[<-hm];exact⟨λblk off cap ss W hH hblk hsz=>callsIn_wide.2 (Z LM blk off cap ss W hH hblk hsz),λp cap W=>callsIn_wide.2 (U LM p cap W)⟩
 have cS:=callsIn_wide.1 (ã LS Fence.wide 5 trivial trivial trivial trivial rfl omg_ hsorts (hm▸LM.f5.enters rfl) (ρ.f 10) #[.pointer (O ⟨w.heap.size,0,ë⟩)] trivial (LK.f10.enters rfl) _ _ (by rw[hsz];simp[maxLen];omega) (by rw[hsz];omega) _ hseq);refine cS.mono ?_
 rintro r2 w2 ⟨v,ss,rfl,hS,hrow,hnil,hb⟩
 refine⟨v,rfl,?_,⟨hb.block,hb.size,hb.os,hb.tape,hb.output⟩⟩;have hp:ss.Perm ks:=hS.trans hperm.symm;rw[<-jp7 ks,<-mergeSort_of_perm_i hp,<-hp.length_eq];exact hrow
end Go.Lft
