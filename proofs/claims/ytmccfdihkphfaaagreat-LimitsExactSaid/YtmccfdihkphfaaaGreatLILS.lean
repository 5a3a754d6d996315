/- slices.SortFunc: the kit's contract of it as a contract on plain data. -/
import Derived.Test.YtmccfdihkphfaaaGreatLILD
import Derived.Shelf.SlSortCmp.NoneTotal
import Derived.Shelf.SortM.Plain
import Derived.Shelf.SortM.SortNone
open Go.Proofs renaming ltOf->p,sortWorldK->M
open Go.Value renaming int->A
open Bool renaming true->B,false->ã
open Array renaming getElem?_toList->D,getElem?_eq_getElem->E,getElem?_modify->À,getElem?_mapIdx->Á,length_toList->Æ,extract_size->È,size_append->Ð
open _root_ renaming List->G,Int->Z,Nat->Ñ,Array->Ö
open Go.Lib renaming bitLen->H
open Nat renaming zero_le->I,le_refl->O,eq_zero_or_pos->É,lt_of_lt_of_le->Ë,zero_add->Í,sub_zero->Ú,blt->â
open List renaming length->J,getElem?_eq_none->K,flatten_cons->W,getElem?_take_of_lt->X,ext_getElem?->Î,length_map->Ô,map_cons->Ø,map_map->Ü,map->Ý
open Option renaming map_some->N,some->U,bind_none->Ò,none->á
open Or renaming inl->Y,inr->ß
open List.Perm renaming refl->Â,eq_of_pairwise->Ù,swap->æ
open Go renaming Value->Ä,World->Å
set_option linter.unusedVariables false
namespace Go.Lft
open Go.Sort
def Ty.scal:Ty->Bool
 |.int _|.bool|.str|.unit=>B
 |.wrap a=>a.scal
 |.pair a b=>a.scal&&b.scal
 |.list _=>ã
 |.arr _ _=>ã
def encT:(t:Ty)->t.den->G Ä
 |.int k,n=>[.int k n]
 |.bool,b=>[.bool b]
 |.str,s=>[.string s]
 |.unit,_=>[]
 |.wrap a,v=>encT a v
 |.pair a b,v=>encT a v.1++encT b v.2
 |.list _,_=>[]
 |.arr _ _,_=>[]
def j5O:(t:Ty)->t.den->Bool
 |.int _,n=>decide (-1152921504606846976<=(n:Z))&&decide ((n:Z)<=1152921504606846976)
 |.bool,_=>B
 |.str,_=>B
 |.unit,_=>B
 |.wrap a,v=>j5O a v
 |.pair a b,v=>j5O a v.1&&j5O b v.2
 |.list _,_=>B
 |.arr _ _,_=>B
theorem jhf:∀t:Ty,j5O t t.dflt=B
 |.int _=>by simp[j5O,Ty.dflt]
 |.bool=>rfl
 |.str=>rfl
 |.unit=>rfl
 |.wrap a=>jhf a
 |.pair a b=>by simp[j5O,Ty.dflt,jhf a,jhf b]
 |.list _=>rfl
 |.arr _ _=>rfl
theorem jgs{S:j0d}{w:Å}:∀(t:Ty)(v:t.den)(cs:G Ä),t.scal=B->(Rep S w t v cs↔cs=encT t v)
 |.int _,_,_,_=>Iff.rfl
 |.bool,_,_,_=>Iff.rfl
 |.str,_,_,_=>Iff.rfl
 |.unit,_,_,_=>Iff.rfl
 |.wrap a,v,cs,h=>jgs a v cs h
 |.pair a b,v,cs,h=>by
  simp only[Ty.scal,Bool.and_eq_true]at h;constructor
  .rintro⟨c1,c2,rfl,h1,h2⟩
   rw[(jgs a _ _ h.1).1 h1,(jgs b _ _ h.2).1 h2];rfl
  .rintro rfl
   exact⟨_,_,rfl,(jgs a _ _ h.1).2 rfl,(jgs b _ _ h.2).2 rfl⟩
 |.list _,_,_,h=>by simp[Ty.scal]at h
 |.arr _ _,_,_,h=>by simp[Ty.scal]at h
theorem js3(t:Ty)(v:t.den)(h:t.scal=B):(encT t v).length=t.size:=
 Rep.length (S:=λ_ _=>False) (w:=default) t v _ ((jgs t v _ h).2 rfl)
theorem jBZ(t:Ty)(v:t.den)(h:t.scal=B):∀u∈encT t v,u.oneCell'=true:=
 Rep.one (S:=λ_ _=>False) (w:=default) t v _ ((jgs t v _ h).2 rfl)
abbrev Sml(a:Ty):Type:={ x:a.den // j5O a x=B }
instance(a:Ty):Inhabited (Sml a):=⟨⟨a.dflt,jhf a⟩⟩
def smlA{a:Ty}:(xs:G a.den)->xs.all (j5O a)=B->G (Sml a)
 |[],_=>[]
 |x::xs,h=>⟨x,by simp at h;exact h.1⟩::smlA xs (by simp at h ⊢;exact h.2)
theorem jlm{a:Ty}:∀(xs:G a.den)(h:xs.all (j5O a)=B),(smlA xs h).map (·.1)=xs
 |[],_=>rfl
 |x::xs,h=>by simp[smlA,jlm xs]
theorem jzm{a:Ty}(xs:G a.den)(h:xs.all (j5O a)=B):(smlA xs h).length=xs.length:=by
 rw[<-Ô (f:=(·.1)),jlm]
noncomputable def joQ(a:Ty)(cf:a.den->a.den->Z)(xs:G a.den):Option (G a.den):=
 if h:xs.all (j5O a)=B/\xs.length<4611686018427387904 then
  U ((pdq (p λ(x y:Sml a)=>cf x.1 y.1) (smlA xs h.1).toArray 0 (smlA xs h.1).toArray.size (H (smlA xs h.1).toArray.size) B B).toList.map (·.1))
 else á
theorem joR{a:Ty}{cf:a.den->a.den->Z}(hO:SWO (p λ(x y:Sml a)=>cf x.1 y.1)){xs:G a.den}(h:∀x∈xs,j5O a x=B)(hl:xs.length<4611686018427387904) :
  ∃ys,joQ a cf xs=U ys/\ys.Perm xs/\ys.Pairwise (λx y=>¬cf y x<0):=by
 have h1:xs.all (j5O a)=true:=List.all_eq_true.2 h;unfold joQ;rw[dif_pos ⟨h1,hl⟩];refine⟨_,rfl,?_,?_⟩
 .have hp:=(pdq_sorts (p λ(x y:Sml a)=>cf x.1 y.1) hO (smlA xs h1).toArray 0 (smlA xs h1).toArray.size (H (smlA xs h1).toArray.size) B B (I _) (O _) (Y rfl)).1;obtain⟨hs,_,hp⟩:=hp;generalize pdq (p λ(x y:Sml a)=>cf x.1 y.1) (smlA xs h1).toArray 0 (smlA xs h1).toArray.size (H (smlA xs h1).toArray.size) B B=d' at *;rw[<-hs]at hp;rw[È,hs,È]at hp;have:=hp.map (·.1);rwa[show (smlA xs h1).toArray.toList=smlA xs h1 from rfl,jlm]at this
 .have hp:=(pdq_sorts (p λ(x y:Sml a)=>cf x.1 y.1) hO (smlA xs h1).toArray 0 (smlA xs h1).toArray.size (H (smlA xs h1).toArray.size) B B (I _) (O _) (Y rfl));obtain⟨⟨hs,_,_⟩,hp⟩:=hp;generalize pdq (p λ(x y:Sml a)=>cf x.1 y.1) (smlA xs h1).toArray 0 (smlA xs h1).toArray.size (H (smlA xs h1).toArray.size) B B=d' at *;rw[List.pairwise_map,List.pairwise_iff_getElem];intro i j hi hj hij;have hi':i<d'.size:=by simpa using hi
  have hj':j<d'.size:=by simpa using hj
  have:=hp i j (I _) hij omg_;rw[getElem!_pos d' j hj',getElem!_pos d' i hi']at this;simpa[p]using this
theorem jtx{m:Ñ}:∀{css:G (G Ä)},(∀c∈css,c.length=m)->∀t,t<css.length*m->css.flatten[t]? = ((css[t/m]?).getD [])[t%m]?
 |[],_,t,ht=>by simp at ht
 |c::css,h,t,ht=>by
  have hc:c.length=m:=h c smp_
  have m0:0<m:=by
   rcases É m with h0|h0
   .subst h0;simp at ht
   .exact h0
  by_cases hlt:t<m
  .rw[W,List.getElem?_append_left omg_,Nat.div_eq_of_lt hlt,Nat.mod_eq_of_lt hlt];simp
  .have h':∀c∈css,c.length=m:=λc hc=>h c (by simp[hc]);have ht':t-m<css.length*m:=by simp only[List.length_cons,Nat.succ_mul]at ht;omega
   rw[W,List.getElem?_append_right omg_,hc,jtx h' (t-m) ht'];have e1:t=t-m+m:=omg_;have e2:t/m=(t-m)/m+1:=(congrArg (· / m) e1).trans (Nat.add_div_right _ m0);have e3:t%m=(t-m)%m:=(congrArg (· % m) e1).trans (Nat.add_mod_right _ _);rw[e2,e3,List.getElem?_cons_succ]
theorem jwP{α:Type}(enc:α->G Ä):∀xs:G α,All2 (λx c=>c=enc x) xs (xs.map enc)
 |[]=>trivial
 |x::xs=>⟨rfl,jwP enc xs⟩
theorem jnW{α:Type}[Inhabited α](enc:α->G Ä)(k:Ñ)(hk:∀x,(enc x).length=k)(d:Ö α):(flatK enc k d).toList=(d.toList.map enc).flatten:=by
 have hl:(d.toList.map enc).flatten.length=d.size*k:=by have:=All2.flatten_length (R:=λx c=>c=enc x) (n:=k) (λx c h=>by rw[h,hk]) (xs:=d.toList) (css:=d.toList.map enc) (jwP enc _);simpa using this
 refine Î λt=>?_;by_cases ht:t<d.size*k
 .rw[jtx (m:=k) (by simpa using λx _=>hk x) t (by simpa using ht)]
  have k0:0<k:=by
   rcases É k with h0|h0
   .subst h0;simp at ht
   .exact h0
  have hd:t/k<d.size:=Nat.div_lt_of_lt_mul (by rw[Nat.mul_comm];exact ht);have hm:t%k<k:=Nat.mod_lt _ k0;have:=get_flatK enc k d t ht;rw[getElem!_pos _ t (by rw[size_flatK];exact ht)]at this;rw[D,E (by rw[size_flatK];exact ht),this,getElem!_pos d _ hd];simp only[List.getElem?_map,D,E hd,N,Option.getD_some];rw[getElem!_pos _ _ (by rw[hk];exact hm),List.getElem?_eq_getElem (by rw[hk];exact hm)]
 .rw[K (by rw[Æ,size_flatK];omega),K omg_]
theorem jqy{w:Å}{g:Ñ}{cur F:Ö Ä}{e:Ñ}(hg:w.heap[g]? = U (.cells cur e (0,0)))(ht:cur.toList.take F.size=F.toList):Holds id w g 0 F:=by
 intro j hj
 have h1:cur[j]? = U F[j]:=by
  have:(cur.toList.take F.size)[j]? = F.toList[j]? := by rw[ht]
  rw[X hj,D,D,E hj]at this;exact this
 refine⟨?_,?_⟩
 .simp only[World.cell?,hg,Í];rw[getElem!_pos F j hj];simpa using h1
 .simp[World.frozen?,hg]
theorem jwQ{w:Å}{g:Ñ}{cur F:Ö Ä}{e:Ñ}(hg:w.heap[g]? = U (.cells cur e (0,0)))(hF:F.size<=cur.size) :
  ∃cur',(putRow id w g 0 F).heap[g]? = U (.cells cur' e (0,0))/\cur'.size=cur.size/\cur'.toList.take F.size=F.toList:=by
 refine⟨putCells id 0 F cur,?_,?_,?_⟩
 .unfold putRow mapBlock;simp only[À,if_true,hg,N,onCells]
 .simp[putCells]
 .refine Î λt=>?_;by_cases ht:t<F.size
  .rw[X ht,D,D];simp only[putCells,Á];rw[E (show t<cur.size by omega),E ht];simp only[N,I,true_and,Í,ht,if_true,Ú,id];rw[getElem!_pos F t ht]
  .rw[List.getElem?_take_eq_none omg_,K (by simpa using ht)]
theorem jnX{w:Å}{g k:Ñ}{F:Ö Ä}(h:k≠g):(putRow id w g 0 F).heap[k]? = w.heap[k]? := by
 unfold putRow mapBlock;simp only[À,Ne.symm h,if_false]
theorem jiY{w:Å}{os:Ö Obj}{k:Ñ}(h:k<w.heap.size):(grow w os).heap[k]? = w.heap[k]? := by
 simp only[grow];exact Array.getElem?_append_left h
theorem jmc{a:Ty}{S:j0d}{w:Å}(ha:a.scal=B):∀{xs:G a.den}{css:G (G Ä)},All2 (λx c=>Rep S w a x c) xs css↔css=xs.map (encT a)
 |[],[]=>by simp[All2]
 |x::xs,c::css=>by
  simp only[All2,Ø,List.cons.injEq];exact and_congr (jgs a x c ha) (jmc ha)
 |[],_::_=>by simp[All2]
 |_::_,[]=>by simp[All2]
variable{P:Program}{ρ:Go.Shelf.Ren}
theorem joS(L:Go.Proofs.SlLaysF0.n6 P ρ)(a:Ty)(ha:a.scal=B)(e:Ñ)(he:isM e=ã)(aE:∀w,(isAgg (ρ.t 24)).run P w = .ok B w)(zE:∀w,(Go.sizeOf (ρ.t 24)).run P w = .ok a.size w)(cf:a.den->a.den->Z)(g:Ñ)
  (eg:∀args w,(callFunc g args).run P w = .ok (.enter g args) w)
  (hcmp:∀(x y:a.den)(w:Å),j5O a x=B->j5O a y=B->Calls P g #[.agg (encT a x).toArray,.agg (encT a y).toArray] w λe w'=>e = .returned (.int .i64 (cf x y))/\∃q os',w'=grow (w.drewN q) os')
  (hO:SWO (p λ(x y:Sml a)=>cf x.1 y.1))(f:Ñ)(hf:f=ρ.f 6) :
  Con.OK P ⟨f,[.rl e (.list a),.clo g []],[.list a],⟨[],[.rl (.list a)]⟩,[.list a],joQ a cf⟩:=by
 subst hf;intro args R k r hk;unfold Con.C at hk;split at hk
 rotate_left
 .simp at hk
 rename_i h hu;rw[jhb hu];clear hu
 obtain⟨ys,hys,hkr⟩:∃ys,joQ a cf h=U ys/\k (jib ⟨[],[.rl (.list a)]⟩ [.list a] ys)=U r:=by
  cases hs:joQ a cf h with
  |none=>simp only[hs,Ò]at hk;exact absurd hk smp_
  |some ys=>simp only[hs,j4]at hk;exact⟨ys,rfl,hk⟩
 clear hk;refine⟨?_,?_⟩
 .obtain⟨nm,hn,hfn⟩:=L.f6;exact⟨_,hfn,rfl,hn⟩
 intro w S vals hA hnd hS;have hA:All2 (jcN S w) [.rl e ⟨.list a,h⟩,.clo g []] vals:=hA
 obtain⟨u0,u1,rfl⟩:∃u0 u1,vals=[u0,u1]:=by
  match vals,hA with
  |[u0,u1],_=>exact⟨u0,u1,rfl⟩
 obtain⟨⟨a',xs,hx,hrow0,hfree⟩,⟨cv,rfl,hcv⟩,_⟩:=hA
 obtain⟨css,hrow,hall⟩:∃css,w.ownsRow 0 e a'.size u0 xs.length css.flatten/\All2 (λx c=>Rep S w a' x c) xs css:=by
  rcases hrow0 with⟨_,css,h1,h2⟩|⟨h1,_⟩
  .exact⟨css,h1,h2⟩
  .rw[he]at h1;simp at h1
 obtain⟨rfl,hx⟩:a=a'/\HEq h xs:=by have h1:=congrArg TV.t hx;simp only[Ty.list.injEq]at h1;subst h1;refine⟨rfl,?_⟩;simp only[TV.mk.injEq,heq_eq_eq,true_and]at hx;rw[hx]
 obtain rfl:xs=h:=(eq_of_heq hx).symm
 have hcv0:cv = #[]:=by
  match hh:cv.toList,hcv with
  |[],_=>exact Array.toList_eq_nil_iff.1 hh
 subst hcv0;obtain rfl:=(jmc ha).1 hall;unfold joQ at hys;split at hys
 rotate_left
 .simp at hys
 rename_i hsm;have hval:=jlm xs hsm.1;have hlen:=jzm xs hsm.1;generalize smlA xs hsm.1=sm at hys hval hlen;have hpp:=(pdq_sorts (p λ(x y:Sml a)=>cf x.1 y.1) hO sm.toArray 0 sm.toArray.size (H sm.toArray.size) B B (I _) (O _) (Y rfl)).1.1
 have hcall:Calls P (ρ.f 6) #[u0,.func (.func g) #[] #[]] w λe' w'=>e' = .returned (.tuple #[])/\(w'=w/\xs=[]\/∃gb cap cur n os,u0 = .slice (U ⟨gb,0,á⟩) xs.length cap/\w.heap[gb]? = U (.cells cur e (0,0))/\xs.length<=cap/\cap<=maxLen/\cur.size=cap*a.size/\
   w'=M (λ(x:Sml a)=>encT a x.1) a.size w gb 0 n (pdq (p λ(x y:Sml a)=>cf x.1 y.1) sm.toArray 0 sm.toArray.size (H sm.toArray.size) B B) os):=by
  rcases hrow.2 with⟨rfl,hn⟩|⟨gb,cap,cur,rfl,_,hg,hcap,hmx,hcs,htk⟩
  .refine(Go.Proofs.AnyF.slices_SortFunc_none L á 0 (.func (.func g) #[] #[]) w).mono ?_
   rintro e' w' ⟨rfl,rfl⟩
   exact⟨rfl,Y ⟨rfl,List.length_eq_zero_iff.1 hn⟩⟩
  .have hsz:sm.toArray.size=xs.length:=by simpa using hlen
   have hfl:=jnW (λ(x:Sml a)=>encT a x.1) a.size (λx=>js3 a x.1 ha) sm.toArray;have hfl2:(flatK (λ(x:Sml a)=>encT a x.1) a.size sm.toArray).toList=(xs.map (encT a)).flatten:=by rw[hfl,<-hval,Ü];rfl
   have hH:HoldsK (λ(x:Sml a)=>encT a x.1) a.size w gb 0 sm.toArray:=jqy hg (by rw[size_flatK,hsz,hfl2];exact htk);have hb:gb<w.heap.size:=(Array.getElem?_eq_some_iff.1 hg).1
   have:=Go.Proofs.AnyQ.slices_SortFunc_eq L a.size aE zE (λ(x:Sml a)=>encT a x.1) (λx=>js3 a x.1 ha) (λx=>jBZ a x.1 ha) (λx y=>cf x.1 y.1) hO g #[] gb 0 cap sm.toArray w eg
    (λm os dk _ x y=>hcmp x.1 y.1 _ x.2 y.2) hH hb omg_
   rw[hsz]at this ⊢;refine this.mono ?_
   rintro e' w' ⟨rfl,n,os,rfl⟩
   exact⟨rfl,ß ⟨gb,cap,cur,n,os,rfl,hg,hcap,hmx,hcs,rfl⟩⟩
 refine hcall.mono ?_
 rintro e' w' ⟨rfl,hw⟩
 refine⟨_,hkr,_,S,[],rfl,?_⟩;simp only[j5]at hys;rcases hw with⟨rfl,rfl⟩|⟨gb,cap,cur,n,os,rfl,hg,hcap,hmx,hcs,rfl⟩
 ·-- nothing to sort
  obtain rfl:sm=[]:=by simpa using hlen
  have hys:ys=[]:=by rw[<-hys];have:(pdq (p λ(x y:Sml a)=>cf x.1 y.1) (#[]:Ö (Sml a)) 0 0 (H 0) B B).size=0:=hpp;rw[List.map_eq_nil_iff];exact Array.toList_eq_nil_iff.2 (Array.size_eq_zero_iff.1 this)
  subst hys;refine⟨rfl,trivial,by simp[j8X],by simp[j8X],?_,j4d.refl _ _,λg o h=>Y h,hS,λg _ _=>rfl,O _,rfl,rfl,rfl,by intro n s hm;simp[jib,rvsF]at hm,by intro m hm;simp[jib,rvsF]at hm⟩;exact⟨⟨a,[],rfl,.inl ⟨he,[],hrow,trivial⟩,hfree⟩,rfl,trivial⟩
 .generalize pdq (p λ(x y:Sml a)=>cf x.1 y.1) sm.toArray 0 sm.toArray.size (H sm.toArray.size) B B=d' at hys hpp
  have hsz:sm.toArray.size=xs.length:=by simpa using hlen
  have hds:d'.size=xs.length:=by rw[hpp,hsz]
  have hfl:=jnW (λ(x:Sml a)=>encT a x.1) a.size (λx=>js3 a x.1 ha) d';have hfl2:(flatK (λ(x:Sml a)=>encT a x.1) a.size d').toList=(Ý (encT a) ys).flatten:=by rw[hfl,<-hys,Ü];rfl
  have hyl:ys.length=xs.length:=by rw[<-hys];simpa using hds
  have hb:gb<w.heap.size:=(Array.getElem?_eq_some_iff.1 hg).1;have hFs:(flatK (λ(x:Sml a)=>encT a x.1) a.size d').size=xs.length*a.size:=by rw[size_flatK,hds]
  obtain⟨cur',hg',hcs',htk'⟩:=jwQ (w:=Sort.ahead w n) (F:=flatK (λ(x:Sml a)=>encT a x.1) a.size d') hg (by rw[hFs,hcs];exact Nat.mul_le_mul_right _ hcap);have hsp:(putRow id (Sort.ahead w n) gb 0 (flatK (λ(x:Sml a)=>encT a x.1) a.size d')).heap.size=w.heap.size:=smp_
  have hother:∀k,k<w.heap.size->k≠gb->(M (λ(x:Sml a)=>encT a x.1) a.size w gb 0 n d' os).heap[k]? = w.heap[k]? := λk hk hne=>
   (jiY (by show k<(putRow id (Sort.ahead w n) gb 0 (flatK (λ(x:Sml a)=>encT a x.1) a.size d')).heap.size;rw[hsp];exact hk)).trans (jnX hne)
  have hgrow:w.heap.size<=(M (λ(x:Sml a)=>encT a x.1) a.size w gb 0 n d' os).heap.size:=by show w.heap.size<=((putRow id (Sort.ahead w n) gb 0 (flatK (λ(x:Sml a)=>encT a x.1) a.size d')).heap++os).size;rw[Ð,hsp];omega
  have hfr:∀o,¬S gb o:=hfree gb rfl;refine⟨rfl,trivial,by simp[j8X],by simp[j8X],?_,?_,λg o h=>Y h,λg o h=>Ë (hS g o h) hgrow,?_,hgrow,rfl,rfl,rfl,by intro n s hm;simp[jib,rvsF]at hm,by intro m hm;simp[jib,rvsF]at hm⟩
  .refine⟨⟨a,ys,rfl,.inl ⟨he,ys.map (encT a),⟨?_,ß ⟨gb,cap,cur',?_,I _,?_,?_,hmx,?_,?_⟩⟩,(jmc ha).2 rfl⟩,hfree⟩,rfl,trivial⟩
   .rw[<-hfl2,Æ,hFs,hyl]
   .rw[hyl]
   .exact(jiY (by show gb<(putRow id (Sort.ahead w n) gb 0 (flatK (λ(x:Sml a)=>encT a x.1) a.size d')).heap.size;rw[hsp];exact hb)).trans hg'
   .rw[hyl];exact hcap
   .rw[hcs',hcs]
   .rw[hyl,<-hFs,htk',hfl2]
  .intro g' o hS';refine⟨hS',?_⟩;have hne:g'≠gb:=λhe=>hfr o (he▸hS');exact World.cell?_of_block (hother g' (hS g' o hS') hne)
  .intro g' hg1 hg2;refine hother g' hg1 λhe=>hg2 ?_;subst he;simp[jl2,juQ,argF,j2b,j9F,blk,ofHL,APat.n]
theorem joT{α:Type}(key:α->Z)(hk:∀x, -1152921504606846976<=key x/\key x<=1152921504606846976)(cf:α->α->Z)(h:∀x y,cf x y=w64 (key x-key y)):SWO (p cf):=by
 have e:∀x y,p cf x y=decide (key x<key y):=by intro x y;have h1:=hk x;have h2:=hk y;have:w64 (key x-key y)=key x-key y:=j24 omg_ omg_;simp only[p,h,this];congr 1;exact propext ⟨λh=>omg_,λh=>omg_⟩
 refine⟨λx=>?_,λx y z=>?_,λx y z=>?_⟩
 .rw[e];simp
 .rw[e,e,e];simp only[decide_eq_true_eq];omega
 .rw[e,e,e];simp only[decide_eq_false_iff_not];omega
open Go.Sort
def js4(xs:G Z):Option (G Z):=cond (â xs.length 4611686018427387904) (U (jpC xs)) á
theorem jmd(x:Z):∀l:G Z,(insI x l).Perm (x::l)
 |[]=>Â _
 |y::ys=>by
  unfold insI;cases decide (x<=y) with
  |true=>exact Â _
  |false=>exact((jmd x ys).cons y).trans (æ x y ys)
theorem jfh:∀l:G Z,(jpC l).Perm l
 |[]=>Â _
 |x::xs=>(jmd x _).trans ((jfh xs).cons x)
theorem jwR(x:Z):∀l:G Z,l.Pairwise (· <= ·)->(insI x l).Pairwise (· <= ·)
 |[],_=>List.pairwise_singleton _ _
 |y::ys,h=>by
  have hc:=List.pairwise_cons.1 h;unfold insI;cases hd:decide (x<=y) with
  |true=>
   have hd:=of_decide_eq_true hd;refine List.pairwise_cons.2 ⟨λz hz=>?_,h⟩;rcases List.mem_cons.1 hz with rfl|hz
   .exact hd
   .have:=hc.1 z hz;omega
  |false=>
   have hd:=of_decide_eq_false hd;refine List.pairwise_cons.2 ⟨λz hz=>?_,jwR x ys hc.2⟩;rcases List.mem_cons.1 ((jmd x ys).mem_iff.1 hz) with rfl|hz
   .omega
   .exact hc.1 z hz
theorem jme:∀l:G Z,(jpC l).Pairwise (· <= ·)
 |[]=>List.Pairwise.nil
 |x::xs=>jwR x _ (jme xs)
theorem jwS(xs:G Z):(xs.mergeSort λx y=>decide (x<=y))=jpC xs:=by
 refine Ù (le:=(· <= ·)) (λa b _ _ h1 h2=>Int.le_antisymm h1 h2) ?_ (jme xs) ((List.mergeSort_perm _ _).trans (jfh xs).symm);have:=List.pairwise_mergeSort (le:=λx y:Z=>decide (x<=y)) (λa b c h1 h2=>by simp at h1 h2 ⊢;omega) (λa b=>sqo_) xs;exact this.imp (λh=>by simpa using h)
theorem jzn{xs:G Z}(h:xs.length<4611686018427387904):∃ys,js4 xs=U ys/\ys.Perm xs/\ys.Pairwise (· <= ·):=by
 unfold js4;rw[show â xs.length 4611686018427387904=B from Nat.ble_eq_true_of_le h];exact⟨_,rfl,jfh xs,jme xs⟩
theorem jDC(w:Å)(g:Ñ)(zs:G Z):putRow (A .i64) w g 0 zs.toArray=putRow id w g 0 (zs.map (A .i64)).toArray:=by
 have:putCells (A .i64) 0 zs.toArray=putCells id 0 (zs.map (A .i64)).toArray:=by
  funext c
  unfold putCells;refine Array.ext_getElem? λk=>?_;simp only[Á,I,true_and,Í,Ú,List.size_toArray,Ô,id];cases c[k]? with
  |none=>rfl
  |some x=>
   simp only[N];by_cases hk:k<zs.length
   .rw[if_pos hk,if_pos hk,getElem!_pos _ k (by simpa using hk),getElem!_pos _ k (by simpa using hk)];simp
   .rw[if_neg hk,if_neg hk]
 unfold putRow;rw[this]
theorem jzo{w:Å}{g:Ñ}{zs:G Z}(h:Holds id w g 0 (zs.map (A .i64)).toArray):Holds (A .i64) w g 0 zs.toArray:=by
 intro j hj;have hj':j<zs.length:=by simpa using hj
 have:=h j (by simpa using hj');refine⟨this.1.trans ?_,this.2⟩;rw[getElem!_pos _ j (by simpa using hj'),getElem!_pos _ j hj];simp
theorem joU(zs:G Z):(zs.map (encT (.int .i64))).flatten=zs.map (A .i64):=by
 induction zs with
 |nil=>rfl
 |cons z zs ih=>simp only[Ø,W,ih];rfl
variable{P:Program}{ρ:Go.Shelf.Ren}
theorem jwT(L:Go.Proofs.SlLaysM.n5 P ρ)(e:Ñ)(he:isM e=ã)(f:Ñ)(hf:f=ρ.f 5) :
  Con.OK P ⟨f,[.rl e (.list (.int .i64))],[.list (.int .i64)],⟨[],[.rl (.list (.int .i64))]⟩,[.list (.int .i64)],js4⟩:=by
 subst hf;intro args R k r hk;unfold Con.C at hk;split at hk
 rotate_left
 .simp at hk
 rename_i h hu;rw[jhb hu];clear hu
 obtain⟨ys,hys,hkr⟩:∃ys,js4 h=U ys/\k (jib ⟨[],[.rl (.list (.int .i64))]⟩ [.list (.int .i64)] ys)=U r:=by
  cases hs:js4 h with
  |none=>simp only[hs,Ò]at hk;exact absurd hk smp_
  |some ys=>simp only[hs,j4]at hk;exact⟨ys,rfl,hk⟩
 clear hk;refine⟨?_,?_⟩
 .obtain⟨nm,hn,hfn⟩:=L.f5;exact⟨_,hfn,rfl,hn⟩
 intro w S vals hA hnd hS;have hA:All2 (jcN S w) [.rl e ⟨.list (.int .i64),h⟩] vals:=hA
 obtain⟨u0,rfl⟩:∃u0,vals=[u0]:=by
  match vals,hA with
  |[u0],_=>exact⟨u0,rfl⟩
 obtain⟨⟨a',xs,hx,hrow0,hfree⟩,_⟩:=hA
 obtain⟨css,hrow,hall⟩:∃css,w.ownsRow 0 e a'.size u0 xs.length css.flatten/\All2 (λx c=>Rep S w a' x c) xs css:=by
  rcases hrow0 with⟨_,css,h1,h2⟩|⟨h1,_⟩
  .exact⟨css,h1,h2⟩
  .rw[he]at h1;simp at h1
 obtain⟨rfl,hx⟩:Ty.int .i64=a'/\HEq h xs:=by have h1:=congrArg TV.t hx;simp only[Ty.list.injEq]at h1;subst h1;refine⟨rfl,?_⟩;simp only[TV.mk.injEq,heq_eq_eq,true_and]at hx;rw[hx]
 obtain rfl:xs=h:=(eq_of_heq hx).symm;obtain rfl:=(jmc (a:= .int .i64) rfl).1 hall;have hfl:(Ý (encT (.int .i64)) xs).flatten=Ý (A .i64) xs:=joU xs;rw[hfl]at hrow;unfold js4 at hys;cases hsm:â (J xs) 4611686018427387904 with
 |false=>rw[hsm]at hys;simp at hys
 |true=>
 rw[hsm]at hys;simp only[j6,j5]at hys;have hsm:J xs<4611686018427387904:=Nat.le_of_ble_eq_true hsm;have hyl:ys.length=J xs:=by rw[<-hys];exact(jfh xs).length_eq
 have hcall:Calls P (ρ.f 5) #[u0] w λe' w'=>e' = .returned (.tuple #[])/\(w'=w/\xs=[]\/∃gb cap cur n os,u0 = .slice (U ⟨gb,0,á⟩) (J xs) cap/\w.heap[gb]? = U (.cells cur e (0,0))/\J xs<=cap/\cap<=maxLen/\cur.size=cap*1/\
   w'=grow (putRow id (Sort.ahead w n) gb 0 (ys.map (A .i64)).toArray) os):=by
  rcases hrow.2 with⟨rfl,hn⟩|⟨gb,cap,cur,rfl,_,hg,hcap,hmx,hcs,htk⟩
  .refine(Go.Proofs.AnyM.slices_Sort_int_none L á 0 w).mono ?_
   rintro e' w' ⟨rfl,rfl⟩
   exact⟨rfl,Y ⟨rfl,List.length_eq_zero_iff.1 hn⟩⟩
  .have hH:Holds (A .i64) w gb 0 (List.toArray xs):=jzo (jqy hg (by simpa[Ty.size]using htk));have hb:gb<w.heap.size:=(Array.getElem?_eq_some_iff.1 hg).1;refine(Go.Proofs.AnyM.slices_Sort_int L gb 0 cap xs w hH hb hsm).mono ?_
   rintro e' w' ⟨rfl,n,os,rfl⟩
   rw[jwS,hys,jDC];exact⟨rfl,ß ⟨gb,cap,cur,n,os,rfl,hg,hcap,hmx,hcs,rfl⟩⟩
 refine hcall.mono ?_
 rintro e' w' ⟨rfl,hw⟩
 refine⟨_,hkr,_,S,[],rfl,?_⟩;rcases hw with⟨rfl,rfl⟩|⟨gb,cap,cur,n,os,rfl,hg,hcap,hmx,hcs,rfl⟩
 .have hys:ys=[]:=List.length_eq_zero_iff.1 (by simpa using hyl);subst hys;refine⟨rfl,trivial,by simp[j8X],by simp[j8X],?_,j4d.refl _ _,λg o h=>Y h,hS,λg _ _=>rfl,O _,rfl,rfl,rfl,by intro n s hm;simp[jib,rvsF]at hm,by intro m hm;simp[jib,rvsF]at hm⟩;exact⟨⟨.int .i64,[],rfl,.inl ⟨he,[],hrow,trivial⟩,hfree⟩,rfl,trivial⟩
 .have hb:gb<w.heap.size:=(Array.getElem?_eq_some_iff.1 hg).1;have hFs:(ys.map (A .i64)).toArray.size=J xs:=by simp[hyl]
  obtain⟨cur',hg',hcs',htk'⟩:=jwQ (w:=Sort.ahead w n) (F:=(ys.map (A .i64)).toArray) hg (by rw[hFs,hcs];omega);have hsp:(putRow id (Sort.ahead w n) gb 0 (ys.map (A .i64)).toArray).heap.size=w.heap.size:=smp_
  have hother:∀k,k<w.heap.size->k≠gb->(grow (putRow id (Sort.ahead w n) gb 0 (ys.map (A .i64)).toArray) os).heap[k]? = w.heap[k]? := λk hk hne=>
   (jiY (by rw[hsp];exact hk)).trans (jnX hne)
  have hgrow:w.heap.size<=(grow (putRow id (Sort.ahead w n) gb 0 (ys.map (A .i64)).toArray) os).heap.size:=by show w.heap.size<=((putRow id (Sort.ahead w n) gb 0 (ys.map (A .i64)).toArray).heap++os).size;rw[Ð,hsp];omega
  have hfr:∀o,¬S gb o:=hfree gb rfl;refine⟨rfl,trivial,by simp[j8X],by simp[j8X],?_,?_,λg o h=>Y h,λg o h=>Ë (hS g o h) hgrow,?_,hgrow,rfl,rfl,rfl,by intro n s hm;simp[jib,rvsF]at hm,by intro m hm;simp[jib,rvsF]at hm⟩
  .refine⟨⟨.int .i64,ys,rfl,.inl ⟨he,ys.map (encT (.int .i64)),⟨?_,ß ⟨gb,cap,cur',?_,I _,?_,?_,hmx,?_,?_⟩⟩,(jmc (a:= .int .i64) rfl).2 rfl⟩,hfree⟩,rfl,trivial⟩
   .rw[joU];simp[Ty.size]
   .rw[hyl]
   .exact(jiY (by rw[hsp];exact hb)).trans hg'
   .rw[hyl];exact hcap
   .rw[hcs',hcs];rfl
   .rw[joU,hyl,show J xs*(Ty.int .i64).size=(ys.map (A .i64)).toArray.size by rw[hFs];simp[Ty.size],htk']
  .intro g' o hS';refine⟨hS',?_⟩;have hne:g'≠gb:=λhe=>hfr o (he▸hS');exact World.cell?_of_block (hother g' (hS g' o hS') hne)
  .intro g' hg1 hg2;refine hother g' hg1 λhe=>hg2 ?_;subst he;simp[jl2,juQ,argF,j2b,j9F,blk,ofHL]
end Go.Lft
