/- AJ.SortFunc: the kit's tP of it as a tP on plain data. -/
import Derived.Test.YtmccfdihkphfaaaGreatCELD
import Derived.Shelf.SlSortCmp.NoneTotal
import Derived.Shelf.SortM.Plain
import Derived.Shelf.SortM.SortNone
open Go.Proofs renaming ltOf->p,sortWorldK->H
open Go.Value renaming int->A
open Bool renaming true->B,false->Ô
open _root_ renaming List->D,Int->M,Nat->Å,Array->É
open Go.Lib renaming bitLen->E
open List renaming length->G,getElem?_take_of_lt->J,map_map->Í,map->Î
open Option renaming some->I,bind_none->Æ,none->Ò
open Or renaming inl->K,inr->Ð
open Array renaming getElem?_modify->N,getElem?_mapIdx->O,extract_size->À,size_append->Ä
open List.Perm renaming refl->U,eq_of_pairwise->Ê,swap->Ö
open Go renaming Value->X,World->Y
set_option linter.unusedVariables false
namespace Go.Lft
open Go.Sort
def Ty.scal:Ty->Bool
 |.int _|.bool|.str|.unit=>B
 |.wrap a=>a.scal
 |.pair a b=>a.scal&&b.scal
 |.list _=>Ô
 |.arr _ _=>Ô
def encT:(t:Ty)->t.den->D X
 |.int k,n=>[.int k n]
 |.bool,b=>[.bool b]
 |.str,s=>[.string s]
 |.unit,_=>[]
 |.wrap a,v=>encT a v
 |.pair a b,v=>encT a v.1++encT b v.2
 |.list _,_=>[]
 |.arr _ _,_=>[]
def iY:(t:Ty)->t.den->Bool
 |.int _,n=>decide (-1152921504606846976<=(n:M))&&decide ((n:M)<=1152921504606846976)
 |.bool,_=>B
 |.str,_=>B
 |.unit,_=>B
 |.wrap a,v=>iY a v
 |.pair a b,v=>iY a v.1&&iY b v.2
 |.list _,_=>B
 |.arr _ _,_=>B
theorem Jd:∀t:Ty,iY t t.dflt=B
 |.int _=>by simp[iY,Ty.dflt]
 |.bool=>rfl
 |.str=>rfl
 |.unit=>rfl
 |.wrap a=>Jd a
 |.pair a b=>by simp[iY,Ty.dflt,Jd a,Jd b]
 |.list _=>rfl
 |.arr _ _=>rfl
theorem yw{S:aX}{w:Y}:∀(t:Ty)(v:t.den)(cs:D X),t.scal=B->(Rep S w t v cs↔cs=encT t v)
 |.int _,_,_,_=>Iff.rfl
 |.bool,_,_,_=>Iff.rfl
 |.str,_,_,_=>Iff.rfl
 |.unit,_,_,_=>Iff.rfl
 |.wrap a,v,cs,h=>yw a v cs h
 |.pair a b,v,cs,h=>by
  simp only[Ty.scal,jc]at h;constructor
  .rintro⟨c1,c2,rfl,h1,h2⟩
   rw[(yw a _ _ h.1).1 h1,(yw b _ _ h.2).1 h2];rfl
  .rintro rfl
   exact⟨_,_,rfl,(yw a _ _ h.1).2 rfl,(yw b _ _ h.2).2 rfl⟩
 |.list _,_,_,h=>by simp[Ty.scal]at h
 |.arr _ _,_,_,h=>by simp[Ty.scal]at h
theorem OQ(t:Ty)(v:t.den)(h:t.scal=B):(encT t v).length=t.size:=
 Rep.length (S:=λ_ _=>False) (w:=default) t v _ ((yw t v _ h).2 rfl)
theorem jGX(t:Ty)(v:t.den)(h:t.scal=B):∀u∈encT t v,u.oneCell'=true:=
 Rep.one (S:=λ_ _=>False) (w:=default) t v _ ((yw t v _ h).2 rfl)
abbrev Sml(a:Ty):Type:={ x:a.den // iY a x=B }
instance(a:Ty):Inhabited (Sml a):=⟨⟨a.dflt,Jd a⟩⟩
def smlA{a:Ty}:(xs:D a.den)->xs.all (iY a)=B->D (Sml a)
 |[],_=>[]
 |x::xs,h=>⟨x,by simp at h;exact h.1⟩::smlA xs (by simp at h ⊢;exact h.2)
theorem Jf{a:Ty}:∀(xs:D a.den)(h:xs.all (iY a)=B),(smlA xs h).map (·.1)=xs
 |[],_=>rfl
 |x::xs,h=>by simp[smlA,Jf xs]
theorem jEn{a:Ty}(xs:D a.den)(h:xs.all (iY a)=B):(smlA xs h).length=xs.length:=by
 rw[<-ki (f:=(·.1)),Jf]
noncomputable def yx(a:Ty)(cf:a.den->a.den->M)(xs:D a.den):Option (D a.den):=
 if h:xs.all (iY a)=B/\xs.length<4611686018427387904 then
  I ((pdq (p λ(x y:Sml a)=>cf x.1 y.1) (smlA xs h.1).toArray 0 (smlA xs h.1).toArray.size (E (smlA xs h.1).toArray.size) B B).toList.map (·.1))
 else Ò
theorem Zz{a:Ty}{cf:a.den->a.den->M}(hO:SWO (p λ(x y:Sml a)=>cf x.1 y.1)){xs:D a.den}(h:∀x∈xs,iY a x=B)(hl:xs.length<4611686018427387904) :
  ∃ys,yx a cf xs=I ys/\ys.Perm xs/\ys.Pairwise (λx y=>¬cf y x<0):=by
 have h1:xs.all (iY a)=true:=jw.2 h;unfold yx;rw[dif_pos ⟨h1,hl⟩];refine⟨_,rfl,?_,?_⟩
 .have hp:=(pdq_sorts (p λ(x y:Sml a)=>cf x.1 y.1) hO (smlA xs h1).toArray 0 (smlA xs h1).toArray.size (E (smlA xs h1).toArray.size) B B (jy _) (jh _) (K rfl)).1;obtain⟨hs,_,hp⟩:=hp;generalize pdq (p λ(x y:Sml a)=>cf x.1 y.1) (smlA xs h1).toArray 0 (smlA xs h1).toArray.size (E (smlA xs h1).toArray.size) B B=d' at *;rw[<-hs]at hp;rw[À,hs,À]at hp;have:=hp.map (·.1);rwa[show (smlA xs h1).toArray.toList=smlA xs h1 from rfl,Jf]at this
 .have hp:=(pdq_sorts (p λ(x y:Sml a)=>cf x.1 y.1) hO (smlA xs h1).toArray 0 (smlA xs h1).toArray.size (E (smlA xs h1).toArray.size) B B (jy _) (jh _) (K rfl));obtain⟨⟨hs,_,_⟩,hp⟩:=hp;generalize pdq (p λ(x y:Sml a)=>cf x.1 y.1) (smlA xs h1).toArray 0 (smlA xs h1).toArray.size (E (smlA xs h1).toArray.size) B B=d' at *;rw[List.pairwise_map,ky];intro i j hi hj dT;have bG:i<d'.size:=by simpa using hi
  have jQ:j<d'.size:=by simpa using hj
  have:=hp i j (jy _) dT aa;rw[getElem!_pos d' j jQ,getElem!_pos d' i bG]at this;simpa[p]using this
theorem ZA{m:Å}:∀{css:D (D X)},(∀c∈css,c.length=m)->∀t,t<css.length*m->css.flatten[t]? = ((css[t/m]?).getD [])[t%m]?
 |[],_,t,ht=>by simp at ht
 |c::css,h,t,ht=>by
  have hc:c.length=m:=h c ae
  have m0:0<m:=by
   rcases vv m with h0|h0
   .subst h0;simp at ht
   .exact h0
  by_cases ao:t<m
  .rw[kq,ko aa,Nat.div_eq_of_lt ao,Nat.mod_eq_of_lt ao];simp
  .have h':∀c∈css,c.length=m:=λc hc=>h c (by simp[hc]);have Ci:t-m<css.length*m:=by simp only[jf,vd]at ht;omega
   rw[kq,kj aa,hc,ZA h' (t-m) Ci];have e1:t=t-m+m:=aa;have e2:t/m=(t-m)/m+1:=(jp (· / m) e1).trans (Nat.add_div_right _ m0);have e3:t%m=(t-m)%m:=(jp (· % m) e1).trans (Nat.add_mod_right _ _);rw[e2,e3,List.getElem?_cons_succ]
theorem ZB{α:Type}(enc:α->D X):∀xs:D α,All2 (λx c=>c=enc x) xs (xs.map enc)
 |[]=>trivial
 |x::xs=>⟨rfl,ZB enc xs⟩
theorem ZC{α:Type}[Inhabited α](enc:α->D X)(k:Å)(hk:∀x,(enc x).length=k)(d:É α):(flatK enc k d).toList=(d.toList.map enc).flatten:=by
 have hl:(d.toList.map enc).flatten.length=d.size*k:=by have:=All2.flatten_length (R:=λx c=>c=enc x) (n:=k) (λx c h=>by rw[h,hk]) (xs:=d.toList) (css:=d.toList.map enc) (ZB enc _);simpa using this
 refine zw λt=>?_;by_cases ht:t<d.size*k
 .rw[ZA (m:=k) (by simpa using λx _=>hk x) t (by simpa using ht)]
  have k0:0<k:=by
   rcases vv k with h0|h0
   .subst h0;simp at ht
   .exact h0
  have hd:t/k<d.size:=Nat.div_lt_of_lt_mul (by rw[Nat.mul_comm];exact ht);have hm:t%k<k:=Nat.mod_lt _ k0;have:=get_flatK enc k d t ht;rw[getElem!_pos _ t (by rw[size_flatK];exact ht)]at this;rw[q7,ju (by rw[size_flatK];exact ht),this,getElem!_pos d _ hd];simp only[q8,q7,ju hd,kb,kp];rw[getElem!_pos _ _ (by rw[hk];exact hm),jn (by rw[hk];exact hm)]
 .rw[qj (by rw[qh,size_flatK];omega),qj aa]
theorem ZD{w:Y}{g:Å}{cur F:É X}{e:Å}(hg:w.heap[g]? = I (.cells cur e (0,0)))(ht:cur.toList.take F.size=F.toList):Holds id w g 0 F:=by
 intro j hj
 have h1:cur[j]? = I F[j]:=by
  have:(cur.toList.take F.size)[j]? = F.toList[j]? := by rw[ht]
  rw[J hj,q7,q7,ju hj]at this;exact this
 refine⟨?_,?_⟩
 .simp only[World.cell?,hg,ku];rw[getElem!_pos F j hj];simpa using h1
 .simp[World.frozen?,hg]
theorem ZE{w:Y}{g:Å}{cur F:É X}{e:Å}(hg:w.heap[g]? = I (.cells cur e (0,0)))(hF:F.size<=cur.size) :
  ∃jR,(putRow id w g 0 F).heap[g]? = I (.cells jR e (0,0))/\jR.size=cur.size/\jR.toList.take F.size=F.toList:=by
 refine⟨putCells id 0 F cur,?_,?_,?_⟩
 .unfold putRow mapBlock;simp only[N,if_true,hg,kb,onCells]
 .simp[putCells]
 .refine zw λt=>?_;by_cases ht:t<F.size
  .rw[J ht,q7,q7];simp only[putCells,O];rw[ju (show t<cur.size by omega),ju ht];simp only[kb,jy,kc,ku,ht,if_true,Nat.sub_zero,id];rw[getElem!_pos F t ht]
  .rw[List.getElem?_take_eq_none aa,qj (by simpa using ht)]
theorem ZG{w:Y}{g k:Å}{F:É X}(h:k≠g):(putRow id w g 0 F).heap[k]? = w.heap[k]? := by
 unfold putRow mapBlock;simp only[N,Ne.symm h,zv]
theorem Jg{w:Y}{os:É Obj}{k:Å}(h:k<w.heap.size):(grow w os).heap[k]? = w.heap[k]? := by
 simp only[grow];exact Array.getElem?_append_left h
theorem FQ{a:Ty}{S:aX}{w:Y}(ha:a.scal=B):∀{xs:D a.den}{css:D (D X)},All2 (λx c=>Rep S w a x c) xs css↔css=xs.map (encT a)
 |[],[]=>by simp[All2]
 |x::xs,c::css=>by
  simp only[All2,qc,vr];exact and_congr (yw a x c ha) (FQ ha)
 |[],_::_=>by simp[All2]
 |_::_,[]=>by simp[All2]
variable{P:Program}{ρ:Go.Shelf.Ren}
theorem ZH(L:Go.Proofs.SlLaysF0.n6 P ρ)(a:Ty)(ha:a.scal=B)(e:Å)(he:isM e=Ô)(aE:∀w,(isAgg (ρ.t 24)).run P w = .ok B w)(zE:∀w,(Go.sizeOf (ρ.t 24)).run P w = .ok a.size w)(cf:a.den->a.den->M)(g:Å)
  (eg:∀args w,(callFunc g args).run P w = .ok (.enter g args) w)
  (OR:∀(x y:a.den)(w:Y),iY a x=B->iY a y=B->Calls P g #[.agg (encT a x).toArray,.agg (encT a y).toArray] w λe w'=>e = .returned (.int .i64 (cf x y))/\∃q rT,w'=grow (w.drewN q) rT)
  (hO:SWO (p λ(x y:Sml a)=>cf x.1 y.1))(f:Å)(hf:f=ρ.f 6) :
  Con.OK P ⟨f,[.rl e (.list a),.clo g []],[.list a],⟨[],[.rl (.list a)]⟩,[.list a],yx a cf⟩:=by
 subst hf;intro args R k r hk;unfold Con.C at hk;split at hk
 rotate_left
 .simp at hk
 rename_i h hu;rw[IY hu];clear hu
 obtain⟨ys,iK,OS⟩:∃ys,yx a cf h=I ys/\k (o5 ⟨[],[.rl (.list a)]⟩ [.list a] ys)=I r:=by
  cases hs:yx a cf h with
  |none=>simp only[hs,Æ]at hk;exact absurd hk ae
  |some ys=>simp only[hs,j4]at hk;exact⟨ys,rfl,hk⟩
 clear hk;refine⟨?_,?_⟩
 .obtain⟨nm,hn,tc⟩:=L.f6;exact⟨_,tc,rfl,hn⟩
 intro w S vals hA ew hS;have hA:All2 (oO S w) [.rl e ⟨.list a,h⟩,.clo g []] vals:=hA
 obtain⟨u0,u1,rfl⟩:∃u0 u1,vals=[u0,u1]:=by
  match vals,hA with
  |[u0,u1],_=>exact⟨u0,u1,rfl⟩
 obtain⟨⟨a',xs,hx,jY,bA⟩,⟨cv,rfl,mG⟩,_⟩:=hA
 obtain⟨css,cd,aD⟩:∃css,w.ownsRow 0 e a'.size u0 xs.length css.flatten/\All2 (λx c=>Rep S w a' x c) xs css:=by
  rcases jY with⟨_,css,h1,h2⟩|⟨h1,_⟩
  .exact⟨css,h1,h2⟩
  .rw[he]at h1;simp at h1
 obtain⟨rfl,hx⟩:a=a'/\HEq h xs:=by have h1:=jp TV.t hx;simp only[Ty.list.injEq]at h1;subst h1;refine⟨rfl,?_⟩;simp only[TV.mk.injEq,heq_eq_eq,kc]at hx;rw[hx]
 obtain rfl:xs=h:=(eq_of_heq hx).symm
 have OT:cv = #[]:=by
  match hh:cv.toList,mG with
  |[],_=>exact zi.1 hh
 subst OT;obtain rfl:=(FQ ha).1 aD;unfold yx at iK;split at iK
 rotate_left
 .simp at iK
 rename_i pd;have fq:=Jf xs pd.1;have hlen:=jEn xs pd.1;generalize smlA xs pd.1=sm at iK fq hlen;have xI:=(pdq_sorts (p λ(x y:Sml a)=>cf x.1 y.1) hO sm.toArray 0 sm.toArray.size (E sm.toArray.size) B B (jy _) (jh _) (K rfl)).1.1
 have tQ:Calls P (ρ.f 6) #[u0,.func (.func g) #[] #[]] w λe' w'=>e' = .returned (.tuple #[])/\(w'=w/\xs=[]\/∃gb cap cur n os,u0 = .slice (I ⟨gb,0,Ò⟩) xs.length cap/\w.heap[gb]? = I (.cells cur e (0,0))/\xs.length<=cap/\cap<=maxLen/\cur.size=cap*a.size/\
   w'=H (λ(x:Sml a)=>encT a x.1) a.size w gb 0 n (pdq (p λ(x y:Sml a)=>cf x.1 y.1) sm.toArray 0 sm.toArray.size (E sm.toArray.size) B B) os):=by
  rcases cd.2 with⟨rfl,hn⟩|⟨gb,cap,cur,rfl,_,hg,dt,oK,dm,qQ⟩
  .refine(Go.Proofs.AnyF.slices_SortFunc_none L Ò 0 (.func (.func g) #[] #[]) w).mono ?_
   rintro e' w' ⟨rfl,rfl⟩
   exact⟨rfl,K ⟨rfl,List.length_eq_zero_iff.1 hn⟩⟩
  .have cO:sm.toArray.size=xs.length:=by simpa using hlen
   have fE:=ZC (λ(x:Sml a)=>encT a x.1) a.size (λx=>OQ a x.1 ha) sm.toArray;have wG:(flatK (λ(x:Sml a)=>encT a x.1) a.size sm.toArray).toList=(xs.map (encT a)).flatten:=by rw[fE,<-fq,Í];rfl
   have hH:HoldsK (λ(x:Sml a)=>encT a x.1) a.size w gb 0 sm.toArray:=ZD hg (by rw[size_flatK,cO,wG];exact qQ);have hb:gb<w.heap.size:=(jq.1 hg).1
   have:=Go.Proofs.AnyQ.slices_SortFunc_eq L a.size aE zE (λ(x:Sml a)=>encT a x.1) (λx=>OQ a x.1 ha) (λx=>jGX a x.1 ha) (λx y=>cf x.1 y.1) hO g #[] gb 0 cap sm.toArray w eg
    (λm os dk _ x y=>OR x.1 y.1 _ x.2 y.2) hH hb aa
   rw[cO]at this ⊢;refine this.mono ?_
   rintro e' w' ⟨rfl,n,os,rfl⟩
   exact⟨rfl,Ð ⟨gb,cap,cur,n,os,rfl,hg,dt,oK,dm,rfl⟩⟩
 refine tQ.mono ?_
 rintro e' w' ⟨rfl,hw⟩
 refine⟨_,OS,_,S,[],rfl,?_⟩;simp only[j5]at iK;rcases hw with⟨rfl,rfl⟩|⟨gb,cap,cur,n,os,rfl,hg,dt,oK,dm,rfl⟩
 ·-- nothing to sort
  obtain rfl:sm=[]:=by simpa using hlen
  have iK:ys=[]:=by rw[<-iK];have:(pdq (p λ(x y:Sml a)=>cf x.1 y.1) (#[]:É (Sml a)) 0 0 (E 0) B B).size=0:=xI;rw[List.map_eq_nil_iff];exact zi.2 (Array.size_eq_zero_iff.1 this)
  subst iK;refine⟨rfl,trivial,by simp[gC],by simp[gC],?_,dI.refl _ _,λg o h=>K h,hS,λg _ _=>rfl,jh _,rfl,rfl,rfl,by intro n s hm;simp[o5,rvsF]at hm,by intro m hm;simp[o5,rvsF]at hm⟩;exact⟨⟨a,[],rfl,.inl ⟨he,[],cd,trivial⟩,bA⟩,rfl,trivial⟩
 .generalize pdq (p λ(x y:Sml a)=>cf x.1 y.1) sm.toArray 0 sm.toArray.size (E sm.toArray.size) B B=d' at iK xI
  have cO:sm.toArray.size=xs.length:=by simpa using hlen
  have x9:d'.size=xs.length:=by rw[xI,cO]
  have fE:=ZC (λ(x:Sml a)=>encT a x.1) a.size (λx=>OQ a x.1 ha) d';have wG:(flatK (λ(x:Sml a)=>encT a x.1) a.size d').toList=(Î (encT a) ys).flatten:=by rw[fE,<-iK,Í];rfl
  have qL:ys.length=xs.length:=by rw[<-iK];simpa using x9
  have hb:gb<w.heap.size:=(jq.1 hg).1;have CZ:(flatK (λ(x:Sml a)=>encT a x.1) a.size d').size=xs.length*a.size:=by rw[size_flatK,x9]
  obtain⟨jR,aP,oZ,AK⟩:=ZE (w:=Sort.ahead w n) (F:=flatK (λ(x:Sml a)=>encT a x.1) a.size d') hg (by rw[CZ,dm];exact k5 _ dt);have dx:(putRow id (Sort.ahead w n) gb 0 (flatK (λ(x:Sml a)=>encT a x.1) a.size d')).heap.size=w.heap.size:=ae
  have jZ:∀k,k<w.heap.size->k≠gb->(H (λ(x:Sml a)=>encT a x.1) a.size w gb 0 n d' os).heap[k]? = w.heap[k]? := λk hk bD=>
   (Jg (by show k<(putRow id (Sort.ahead w n) gb 0 (flatK (λ(x:Sml a)=>encT a x.1) a.size d')).heap.size;rw[dx];exact hk)).trans (ZG bD)
  have fM:w.heap.size<=(H (λ(x:Sml a)=>encT a x.1) a.size w gb 0 n d' os).heap.size:=by show w.heap.size<=((putRow id (Sort.ahead w n) gb 0 (flatK (λ(x:Sml a)=>encT a x.1) a.size d')).heap++os).size;rw[Ä,dx];omega
  have gY:∀o,¬S gb o:=bA gb rfl;refine⟨rfl,trivial,by simp[gC],by simp[gC],?_,?_,λg o h=>K h,λg o h=>qd (hS g o h) fM,?_,fM,rfl,rfl,rfl,by intro n s hm;simp[o5,rvsF]at hm,by intro m hm;simp[o5,rvsF]at hm⟩
  .refine⟨⟨a,ys,rfl,.inl ⟨he,ys.map (encT a),⟨?_,Ð ⟨gb,cap,jR,?_,jy _,?_,?_,oK,?_,?_⟩⟩,(FQ ha).2 rfl⟩,bA⟩,rfl,trivial⟩
   .rw[<-wG,qh,CZ,qL]
   .rw[qL]
   .exact(Jg (by show gb<(putRow id (Sort.ahead w n) gb 0 (flatK (λ(x:Sml a)=>encT a x.1) a.size d')).heap.size;rw[dx];exact hb)).trans aP
   .rw[qL];exact dt
   .rw[oZ,dm]
   .rw[qL,<-CZ,AK,wG]
  .intro g' o tA;refine⟨tA,?_⟩;have bD:g'≠gb:=λhe=>gY o (he▸tA);exact World.cell?_of_block (jZ g' (hS g' o tA) bD)
  .intro g' uE kP;refine jZ g' uE λhe=>kP ?_;subst he;simp[tJ,CX,argF,ei,mb,blk,ofHL,APat.n]
theorem Jh{α:Type}(key:α->M)(hk:∀x, -1152921504606846976<=key x/\key x<=1152921504606846976)(cf:α->α->M)(h:∀x y,cf x y=w64 (key x-key y)):SWO (p cf):=by
 have e:∀x y,p cf x y=decide (key x<key y):=by intro x y;have h1:=hk x;have h2:=hk y;have:w64 (key x-key y)=key x-key y:=gh aa aa;simp only[p,h,this];congr 1;exact propext ⟨λh=>aa,λh=>aa⟩
 refine⟨λx=>?_,λx y z=>?_,λx y z=>?_⟩
 .rw[e];simp
 .rw[e,e,e];simp only[jl];omega
 .rw[e,e,e];simp only[ka];omega
open Go.Sort
def AL(xs:D M):Option (D M):=cond (Nat.blt xs.length 4611686018427387904) (I (sy xs)) Ò
theorem OU(x:M):∀l:D M,(insI x l).Perm (x::l)
 |[]=>U _
 |y::ys=>by
  unfold insI;cases decide (x<=y) with
  |true=>exact U _
  |false=>exact((OU x ys).cons y).trans (Ö x y ys)
theorem Ji:∀l:D M,(sy l).Perm l
 |[]=>U _
 |x::xs=>(OU x _).trans ((Ji xs).cons x)
theorem ZI(x:M):∀l:D M,l.Pairwise (· <= ·)->(insI x l).Pairwise (· <= ·)
 |[],_=>qb _ _
 |y::ys,h=>by
  have hc:=List.pairwise_cons.1 h;unfold insI;cases hd:decide (x<=y) with
  |true=>
   have hd:=kv hd;refine List.pairwise_cons.2 ⟨λz hz=>?_,h⟩;rcases jb.1 hz with rfl|hz
   .exact hd
   .have:=hc.1 z hz;omega
  |false=>
   have hd:=of_decide_eq_false hd;refine List.pairwise_cons.2 ⟨λz hz=>?_,ZI x ys hc.2⟩;rcases jb.1 ((OU x ys).mem_iff.1 hz) with rfl|hz
   .omega
   .exact hc.1 z hz
theorem OV:∀l:D M,(sy l).Pairwise (· <= ·)
 |[]=>List.Pairwise.nil
 |x::xs=>ZI x _ (OV xs)
theorem jC3(xs:D M):(xs.mergeSort λx y=>decide (x<=y))=sy xs:=by
 refine Ê (le:=(· <= ·)) (λa b _ _ h1 h2=>Int.le_antisymm h1 h2) ?_ (OV xs) ((List.mergeSort_perm _ _).trans (Ji xs).symm);have:=List.pairwise_mergeSort (le:=λx y:M=>decide (x<=y)) (λa b c h1 h2=>by simp at h1 h2 ⊢;omega) (λa b=>aj) xs;exact this.imp (λh=>by simpa using h)
theorem jEo{xs:D M}(h:xs.length<4611686018427387904):∃ys,AL xs=I ys/\ys.Perm xs/\ys.Pairwise (· <= ·):=by
 unfold AL;rw[show Nat.blt xs.length 4611686018427387904=B from Nat.ble_eq_true_of_le h];exact⟨_,rfl,Ji xs,OV xs⟩
theorem jIx(w:Y)(g:Å)(zs:D M):putRow (A .i64) w g 0 zs.toArray=putRow id w g 0 (zs.map (A .i64)).toArray:=by
 have:putCells (A .i64) 0 zs.toArray=putCells id 0 (zs.map (A .i64)).toArray:=by
  funext c
  unfold putCells;refine Array.ext_getElem? λk=>?_;simp only[O,jy,kc,ku,Nat.sub_zero,List.size_toArray,ki,id];cases c[k]? with
  |none=>rfl
  |some x=>
   simp only[kb];by_cases hk:k<zs.length
   .rw[if_pos hk,if_pos hk,getElem!_pos _ k (by simpa using hk),getElem!_pos _ k (by simpa using hk)];simp
   .rw[if_neg hk,if_neg hk]
 unfold putRow;rw[this]
theorem jEp{w:Y}{g:Å}{zs:D M}(h:Holds id w g 0 (zs.map (A .i64)).toArray):Holds (A .i64) w g 0 zs.toArray:=by
 intro j hj;have jQ:j<zs.length:=by simpa using hj
 have:=h j (by simpa using jQ);refine⟨this.1.trans ?_,this.2⟩;rw[getElem!_pos _ j (by simpa using jQ),getElem!_pos _ j hj];simp
theorem OW(zs:D M):(zs.map (encT (.int .i64))).flatten=zs.map (A .i64):=by
 induction zs with
 |nil=>rfl
 |cons z zs ih=>simp only[qc,kq,ih];rfl
variable{P:Program}{ρ:Go.Shelf.Ren}
theorem jC4(L:Go.Proofs.SlLaysM.n5 P ρ)(e:Å)(he:isM e=Ô)(f:Å)(hf:f=ρ.f 5) :
  Con.OK P ⟨f,[.rl e (.list (.int .i64))],[.list (.int .i64)],⟨[],[.rl (.list (.int .i64))]⟩,[.list (.int .i64)],AL⟩:=by
 subst hf;intro args R k r hk;unfold Con.C at hk;split at hk
 rotate_left
 .simp at hk
 rename_i h hu;rw[IY hu];clear hu
 obtain⟨ys,iK,OS⟩:∃ys,AL h=I ys/\k (o5 ⟨[],[.rl (.list (.int .i64))]⟩ [.list (.int .i64)] ys)=I r:=by
  cases hs:AL h with
  |none=>simp only[hs,Æ]at hk;exact absurd hk ae
  |some ys=>simp only[hs,j4]at hk;exact⟨ys,rfl,hk⟩
 clear hk;refine⟨?_,?_⟩
 .obtain⟨nm,hn,tc⟩:=L.f5;exact⟨_,tc,rfl,hn⟩
 intro w S vals hA ew hS;have hA:All2 (oO S w) [.rl e ⟨.list (.int .i64),h⟩] vals:=hA
 obtain⟨u0,rfl⟩:∃u0,vals=[u0]:=by
  match vals,hA with
  |[u0],_=>exact⟨u0,rfl⟩
 obtain⟨⟨a',xs,hx,jY,bA⟩,_⟩:=hA
 obtain⟨css,cd,aD⟩:∃css,w.ownsRow 0 e a'.size u0 xs.length css.flatten/\All2 (λx c=>Rep S w a' x c) xs css:=by
  rcases jY with⟨_,css,h1,h2⟩|⟨h1,_⟩
  .exact⟨css,h1,h2⟩
  .rw[he]at h1;simp at h1
 obtain⟨rfl,hx⟩:Ty.int .i64=a'/\HEq h xs:=by have h1:=jp TV.t hx;simp only[Ty.list.injEq]at h1;subst h1;refine⟨rfl,?_⟩;simp only[TV.mk.injEq,heq_eq_eq,kc]at hx;rw[hx]
 obtain rfl:xs=h:=(eq_of_heq hx).symm;obtain rfl:=(FQ (a:= .int .i64) rfl).1 aD;have fE:(Î (encT (.int .i64)) xs).flatten=Î (A .i64) xs:=OW xs;rw[fE]at cd;unfold AL at iK;cases pd:Nat.blt (G xs) 4611686018427387904 with
 |false=>rw[pd]at iK;simp at iK
 |true=>
 rw[pd]at iK;simp only[j6,j5]at iK;have pd:G xs<4611686018427387904:=zt pd;have qL:ys.length=G xs:=by rw[<-iK];exact(Ji xs).length_eq
 have tQ:Calls P (ρ.f 5) #[u0] w λe' w'=>e' = .returned (.tuple #[])/\(w'=w/\xs=[]\/∃gb cap cur n os,u0 = .slice (I ⟨gb,0,Ò⟩) (G xs) cap/\w.heap[gb]? = I (.cells cur e (0,0))/\G xs<=cap/\cap<=maxLen/\cur.size=cap*1/\
   w'=grow (putRow id (Sort.ahead w n) gb 0 (ys.map (A .i64)).toArray) os):=by
  rcases cd.2 with⟨rfl,hn⟩|⟨gb,cap,cur,rfl,_,hg,dt,oK,dm,qQ⟩
  .refine(Go.Proofs.AnyM.slices_Sort_int_none L Ò 0 w).mono ?_
   rintro e' w' ⟨rfl,rfl⟩
   exact⟨rfl,K ⟨rfl,List.length_eq_zero_iff.1 hn⟩⟩
  .have hH:Holds (A .i64) w gb 0 (List.toArray xs):=jEp (ZD hg (by simpa[Ty.size]using qQ));have hb:gb<w.heap.size:=(jq.1 hg).1;refine(Go.Proofs.AnyM.slices_Sort_int L gb 0 cap xs w hH hb pd).mono ?_
   rintro e' w' ⟨rfl,n,os,rfl⟩
   rw[jC3,iK,jIx];exact⟨rfl,Ð ⟨gb,cap,cur,n,os,rfl,hg,dt,oK,dm,rfl⟩⟩
 refine tQ.mono ?_
 rintro e' w' ⟨rfl,hw⟩
 refine⟨_,OS,_,S,[],rfl,?_⟩;rcases hw with⟨rfl,rfl⟩|⟨gb,cap,cur,n,os,rfl,hg,dt,oK,dm,rfl⟩
 .have iK:ys=[]:=List.length_eq_zero_iff.1 (by simpa using qL);subst iK;refine⟨rfl,trivial,by simp[gC],by simp[gC],?_,dI.refl _ _,λg o h=>K h,hS,λg _ _=>rfl,jh _,rfl,rfl,rfl,by intro n s hm;simp[o5,rvsF]at hm,by intro m hm;simp[o5,rvsF]at hm⟩;exact⟨⟨.int .i64,[],rfl,.inl ⟨he,[],cd,trivial⟩,bA⟩,rfl,trivial⟩
 .have hb:gb<w.heap.size:=(jq.1 hg).1;have CZ:(ys.map (A .i64)).toArray.size=G xs:=by simp[qL]
  obtain⟨jR,aP,oZ,AK⟩:=ZE (w:=Sort.ahead w n) (F:=(ys.map (A .i64)).toArray) hg (by rw[CZ,dm];omega);have dx:(putRow id (Sort.ahead w n) gb 0 (ys.map (A .i64)).toArray).heap.size=w.heap.size:=ae
  have jZ:∀k,k<w.heap.size->k≠gb->(grow (putRow id (Sort.ahead w n) gb 0 (ys.map (A .i64)).toArray) os).heap[k]? = w.heap[k]? := λk hk bD=>
   (Jg (by rw[dx];exact hk)).trans (ZG bD)
  have fM:w.heap.size<=(grow (putRow id (Sort.ahead w n) gb 0 (ys.map (A .i64)).toArray) os).heap.size:=by show w.heap.size<=((putRow id (Sort.ahead w n) gb 0 (ys.map (A .i64)).toArray).heap++os).size;rw[Ä,dx];omega
  have gY:∀o,¬S gb o:=bA gb rfl;refine⟨rfl,trivial,by simp[gC],by simp[gC],?_,?_,λg o h=>K h,λg o h=>qd (hS g o h) fM,?_,fM,rfl,rfl,rfl,by intro n s hm;simp[o5,rvsF]at hm,by intro m hm;simp[o5,rvsF]at hm⟩
  .refine⟨⟨.int .i64,ys,rfl,.inl ⟨he,ys.map (encT (.int .i64)),⟨?_,Ð ⟨gb,cap,jR,?_,jy _,?_,?_,oK,?_,?_⟩⟩,(FQ (a:= .int .i64) rfl).2 rfl⟩,bA⟩,rfl,trivial⟩
   .rw[OW];simp[Ty.size]
   .rw[qL]
   .exact(Jg (by rw[dx];exact hb)).trans aP
   .rw[qL];exact dt
   .rw[oZ,dm];rfl
   .rw[OW,qL,show G xs*(Ty.int .i64).size=(ys.map (A .i64)).toArray.size by rw[CZ];simp[Ty.size],AK]
  .intro g' o tA;refine⟨tA,?_⟩;have bD:g'≠gb:=λhe=>gY o (he▸tA);exact World.cell?_of_block (jZ g' (hS g' o tA) bD)
  .intro g' uE kP;refine jZ g' uE λhe=>kP ?_;subst he;simp[tJ,CX,argF,ei,mb,blk,ofHL]
end Go.Lft
