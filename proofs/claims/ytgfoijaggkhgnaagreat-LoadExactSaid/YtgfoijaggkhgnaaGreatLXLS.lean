/- AJ.SortFunc: the kit's tD of it as a tD on plain data. -/
import Derived.Test.YtgfoijaggkhgnaaGreatLXLD
import Derived.Shelf.SlSortCmp.NoneTotal
import Derived.Shelf.SortM.Plain
import Derived.Shelf.SortM.SortNone
import Derived.Shelf.SlIterI.Sorted
import Derived.Shelf.Spec.SlicesGrow
open Go.Proofs renaming ltOf->A,sortWorldK->X
open Go.Value renaming int->B
open Go.Builtin renaming zeroCells->E
open Bool renaming true->H,false->ì
open _root_ renaming List->I,Int->À,Nat->Å,Array->Ö,Option->î
open Option renaming some->J,bind_none->Ó,none->Ù
open Go.Lib renaming bitLen->M
open List renaming length->N,map_map->à,map->ä
open Go.Proofs.AnyM renaming slices_Sort_int_none->O,slices_Sort_int->U
open Go.WideElems renaming rg->Y,rd->á
open Go renaming Value->Z,World->Á,Program->Ü
open Array renaming size_append->Â,getElem?_modify->Æ,getElem?_mapIdx->Ç,getElem?_push->Ë,extract_size->Î
open Or renaming inl->Ã,inr->ç
open Go.Proofs.AnyZI renaming SortsIn->Ä,keys_gives->Ú,sorted_in->Ý,keys_in->ã
open List.Perm renaming refl->È,eq_of_pairwise->Þ,swap->ð
open Nat renaming eq_zero_or_pos->Ï,sub_zero->Ñ,blt->ê
set_option linter.unusedVariables false
namespace Go.Lft
open Go.Sort
def Ty.scal:Ty->Bool
 |.int _|.bool|.str|.unit=>H
 |.wrap a=>a.scal
 |.pair a b=>a.scal&&b.scal
 |.list _=>ì
 |.arr _ _=>ì
def encT:(t:Ty)->t.den->I Z
 |.int k,n=>[.int k n]
 |.bool,b=>[.bool b]
 |.str,s=>[.string s]
 |.unit,_=>[]
 |.wrap a,v=>encT a v
 |.pair a b,v=>encT a v.1++encT b v.2
 |.list _,_=>[]
 |.arr _ _,_=>[]
def jB:(t:Ty)->t.den->Bool
 |.int _,n=>decide (-1152921504606846976<=(n:À))&&decide ((n:À)<=1152921504606846976)
 |.bool,_=>H
 |.str,_=>H
 |.unit,_=>H
 |.wrap a,v=>jB a v
 |.pair a b,v=>jB a v.1&&jB b v.2
 |.list _,_=>H
 |.arr _ _,_=>H
theorem JC:∀t:Ty,jB t t.dflt=H
 |.int _=>by simp[jB,Ty.dflt]
 |.bool=>rfl
 |.str=>rfl
 |.unit=>rfl
 |.wrap a=>JC a
 |.pair a b=>by simp[jB,Ty.dflt,JC a,JC b]
 |.list _=>rfl
 |.arr _ _=>rfl
theorem xT{S:aU}{w:Á}:∀(t:Ty)(v:t.den)(cs:I Z),t.scal=H->(Rep S w t v cs↔cs=encT t v)
 |.int _,_,_,_=>Iff.rfl
 |.bool,_,_,_=>Iff.rfl
 |.str,_,_,_=>Iff.rfl
 |.unit,_,_,_=>Iff.rfl
 |.wrap a,v,cs,h=>xT a v cs h
 |.pair a b,v,cs,h=>by
  simp only[Ty.scal,jd]at h;constructor
  .rintro⟨c1,c2,rfl,h1,h2⟩
   rw[(xT a _ _ h.1).1 h1,(xT b _ _ h.2).1 h2];rfl
  .rintro rfl
   exact⟨_,_,rfl,(xT a _ _ h.1).2 rfl,(xT b _ _ h.2).2 rfl⟩
 |.list _,_,_,h=>by simp[Ty.scal]at h
 |.arr _ _,_,_,h=>by simp[Ty.scal]at h
theorem Pj(t:Ty)(v:t.den)(h:t.scal=H):(encT t v).length=t.size:=
 Rep.length (S:=λ_ _=>False) (w:=default) t v _ ((xT t v _ h).2 rfl)
theorem jFj(t:Ty)(v:t.den)(h:t.scal=H):∀u∈encT t v,u.oneCell'=true:=
 Rep.one (S:=λ_ _=>False) (w:=default) t v _ ((xT t v _ h).2 rfl)
abbrev Sml(a:Ty):Type:={ x:a.den // jB a x=H }
instance(a:Ty):Inhabited (Sml a):=⟨⟨a.dflt,JC a⟩⟩
def smlA{a:Ty}:(xs:I a.den)->xs.all (jB a)=H->I (Sml a)
 |[],_=>[]
 |x::xs,h=>⟨x,by simp at h;exact h.1⟩::smlA xs (by simp at h ⊢;exact h.2)
theorem JD{a:Ty}:∀(xs:I a.den)(h:xs.all (jB a)=H),(smlA xs h).map (·.1)=xs
 |[],_=>rfl
 |x::xs,h=>by simp[smlA,JD xs]
theorem jCJ{a:Ty}(xs:I a.den)(h:xs.all (jB a)=H):(smlA xs h).length=xs.length:=by
 rw[<-kj (f:=(·.1)),JD]
noncomputable def xU(a:Ty)(cf:a.den->a.den->À)(xs:I a.den):î (I a.den):=
 if h:xs.all (jB a)=H/\xs.length<4611686018427387904 then
  J ((pdq (A λ(x y:Sml a)=>cf x.1 y.1) (smlA xs h.1).toArray 0 (smlA xs h.1).toArray.size (M (smlA xs h.1).toArray.size) H H).toList.map (·.1))
 else Ù
theorem Yg{a:Ty}{cf:a.den->a.den->À}(hO:SWO (A λ(x y:Sml a)=>cf x.1 y.1)){xs:I a.den}(h:∀x∈xs,jB a x=H)(hl:xs.length<4611686018427387904) :
  ∃ys,xU a cf xs=J ys/\ys.Perm xs/\ys.Pairwise (λx y=>¬cf y x<0):=by
 have h1:xs.all (jB a)=true:=jz.2 h;unfold xU;rw[dif_pos ⟨h1,hl⟩];refine⟨_,rfl,?_,?_⟩
 .have hp:=(pdq_sorts (A λ(x y:Sml a)=>cf x.1 y.1) hO (smlA xs h1).toArray 0 (smlA xs h1).toArray.size (M (smlA xs h1).toArray.size) H H (kn _) (jv _) (Ã rfl)).1;obtain⟨hs,_,hp⟩:=hp;generalize pdq (A λ(x y:Sml a)=>cf x.1 y.1) (smlA xs h1).toArray 0 (smlA xs h1).toArray.size (M (smlA xs h1).toArray.size) H H=d' at *;rw[<-hs]at hp;rw[Î,hs,Î]at hp;have:=hp.map (·.1);rwa[show (smlA xs h1).toArray.toList=smlA xs h1 from rfl,JD]at this
 .have hp:=(pdq_sorts (A λ(x y:Sml a)=>cf x.1 y.1) hO (smlA xs h1).toArray 0 (smlA xs h1).toArray.size (M (smlA xs h1).toArray.size) H H (kn _) (jv _) (Ã rfl));obtain⟨⟨hs,_,_⟩,hp⟩:=hp;generalize pdq (A λ(x y:Sml a)=>cf x.1 y.1) (smlA xs h1).toArray 0 (smlA xs h1).toArray.size (M (smlA xs h1).toArray.size) H H=d' at *;rw[vf,q9];intro i j hi hj dS;have br:i<d'.size:=by simpa using hi
  have iX:j<d'.size:=by simpa using hj
  have:=hp i j (kn _) dS aa;rw[getElem!_pos d' j iX,getElem!_pos d' i br]at this;simpa[A]using this
theorem Yh{m:Å}:∀{css:I (I Z)},(∀c∈css,c.length=m)->∀t,t<css.length*m->css.flatten[t]? = ((css[t/m]?).getD [])[t%m]?
 |[],_,t,ht=>by simp at ht
 |c::css,h,t,ht=>by
  have hc:c.length=m:=h c ae
  have m0:0<m:=by
   rcases Ï m with h0|h0
   .subst h0;simp at ht
   .exact h0
  by_cases an:t<m
  .rw[qd,List.getElem?_append_left aa,Nat.div_eq_of_lt an,Nat.mod_eq_of_lt an];simp
  .have h':∀c∈css,c.length=m:=λc hc=>h c (by simp[hc]);have ui:t-m<css.length*m:=by simp only[jk,yo]at ht;omega
   rw[qd,ko aa,hc,Yh h' (t-m) ui];have e1:t=t-m+m:=aa;have e2:t/m=(t-m)/m+1:=(js (· / m) e1).trans (Nat.add_div_right _ m0);have e3:t%m=(t-m)%m:=(js (· % m) e1).trans (Nat.add_mod_right _ _);rw[e2,e3,yt]
theorem Yi{α:Type}(enc:α->I Z):∀xs:I α,All2 (λx c=>c=enc x) xs (xs.map enc)
 |[]=>trivial
 |x::xs=>⟨rfl,Yi enc xs⟩
theorem Yj{α:Type}[Inhabited α](enc:α->I Z)(k:Å)(hk:∀x,(enc x).length=k)(d:Ö α):(flatK enc k d).toList=(d.toList.map enc).flatten:=by
 have hl:(d.toList.map enc).flatten.length=d.size*k:=by have:=All2.flatten_length (R:=λx c=>c=enc x) (n:=k) (λx c h=>by rw[h,hk]) (xs:=d.toList) (css:=d.toList.map enc) (Yi enc _);simpa using this
 refine ve λt=>?_;by_cases ht:t<d.size*k
 .rw[Yh (m:=k) (by simpa using λx _=>hk x) t (by simpa using ht)]
  have k0:0<k:=by
   rcases Ï k with h0|h0
   .subst h0;simp at ht
   .exact h0
  have hd:t/k<d.size:=Nat.div_lt_of_lt_mul (by rw[Nat.mul_comm];exact ht);have hm:t%k<k:=Nat.mod_lt _ k0;have:=get_flatK enc k d t ht;rw[getElem!_pos _ t (by rw[size_flatK];exact ht)]at this;rw[qf,jx (by rw[size_flatK];exact ht),this,getElem!_pos d _ hd];simp only[qp,qf,jx hd,qa,v7];rw[getElem!_pos _ _ (by rw[hk];exact hm),jp (by rw[hk];exact hm)]
 .rw[qw (by rw[qm,size_flatK];omega),qw aa]
theorem Yk{w:Á}{g:Å}{cur F:Ö Z}{e:Å}(hg:w.heap[g]? = J (.cells cur e (0,0)))(ht:cur.toList.take F.size=F.toList):Holds id w g 0 F:=by
 intro j hj
 have h1:cur[j]? = J F[j]:=by
  have:(cur.toList.take F.size)[j]? = F.toList[j]? := by rw[ht]
  rw[y9 hj,qf,qf,jx hj]at this;exact this
 refine⟨?_,?_⟩
 .simp only[World.cell?,hg,ki];rw[getElem!_pos F j hj];simpa using h1
 .simp[World.frozen?,hg]
theorem Yl{w:Á}{g:Å}{cur F:Ö Z}{e:Å}(hg:w.heap[g]? = J (.cells cur e (0,0)))(hF:F.size<=cur.size) :
  ∃kR,(putRow id w g 0 F).heap[g]? = J (.cells kR e (0,0))/\kR.size=cur.size/\kR.toList.take F.size=F.toList:=by
 refine⟨putCells id 0 F cur,?_,?_,?_⟩
 .unfold putRow mapBlock;simp only[Æ,if_true,hg,qa,onCells]
 .simp[putCells]
 .refine ve λt=>?_;by_cases ht:t<F.size
  .rw[y9 ht,qf,qf];simp only[putCells,Ç];rw[jx (show t<cur.size by omega),jx ht];simp only[qa,kn,qr,ki,ht,if_true,Ñ,id];rw[getElem!_pos F t ht]
  .rw[List.getElem?_take_eq_none aa,qw (by simpa using ht)]
theorem Ym{w:Á}{g k:Å}{F:Ö Z}(h:k≠g):(putRow id w g 0 F).heap[k]? = w.heap[k]? := by
 unfold putRow mapBlock;simp only[Æ,Ne.symm h,za]
theorem JE{w:Á}{os:Ö Obj}{k:Å}(h:k<w.heap.size):(grow w os).heap[k]? = w.heap[k]? := by
 simp only[grow];exact Array.getElem?_append_left h
theorem Fx{a:Ty}{S:aU}{w:Á}(ha:a.scal=H):∀{xs:I a.den}{css:I (I Z)},All2 (λx c=>Rep S w a x c) xs css↔css=xs.map (encT a)
 |[],[]=>by simp[All2]
 |x::xs,c::css=>by
  simp only[All2,ke,List.cons.injEq];exact and_congr (xT a x c ha) (Fx ha)
 |[],_::_=>by simp[All2]
 |_::_,[]=>by simp[All2]
variable{P:Ü}{ρ:Go.Shelf.Ren}
theorem Yn(L:Go.Proofs.SlLaysF0.n6 P ρ)(a:Ty)(ha:a.scal=H)(e:Å)(he:isM e=ì)(aE:∀w,(isAgg (ρ.t 24)).run P w = .ok H w)(zE:∀w,(Go.sizeOf (ρ.t 24)).run P w = .ok a.size w)(cf:a.den->a.den->À)(g:Å)
  (eg:∀args w,(callFunc g args).run P w = .ok (.enter g args) w)
  (Pl:∀(x y:a.den)(w:Á),jB a x=H->jB a y=H->Calls P g #[.agg (encT a x).toArray,.agg (encT a y).toArray] w λe w'=>e = .returned (.int .i64 (cf x y))/\∃q rQ,w'=grow (w.drewN q) rQ)
  (hO:SWO (A λ(x y:Sml a)=>cf x.1 y.1))(f:Å)(hf:f=ρ.f 6) :
  Con.OK P ⟨f,[.rl e (.list a),.clo g []],[.list a],⟨[],[.rl (.list a)]⟩,[.list a],xU a cf⟩:=by
 subst hf;intro args R k r hk;unfold Con.C at hk;split at hk
 rotate_left
 .simp at hk
 rename_i h hu;rw[Jo hu];clear hu
 obtain⟨ys,iF,Pm⟩:∃ys,xU a cf h=J ys/\k (tx ⟨[],[.rl (.list a)]⟩ [.list a] ys)=J r:=by
  cases hs:xU a cf h with
  |none=>simp only[hs,Ó]at hk;exact absurd hk ae
  |some ys=>simp only[hs,j4]at hk;exact⟨ys,rfl,hk⟩
 clear hk;refine⟨?_,?_⟩
 .obtain⟨nm,hn,oL⟩:=L.f6;exact⟨_,oL,rfl,hn⟩
 intro w S vals hA fN hS;have hA:All2 (pM S w) [.rl e ⟨.list a,h⟩,.clo g []] vals:=hA
 obtain⟨u0,u1,rfl⟩:∃u0 u1,vals=[u0,u1]:=by
  match vals,hA with
  |[u0,u1],_=>exact⟨u0,u1,rfl⟩
 obtain⟨⟨a',xs,hx,jS,bu⟩,⟨cv,rfl,lI⟩,_⟩:=hA
 obtain⟨css,cI,aC⟩:∃css,w.ownsRow 0 e a'.size u0 xs.length css.flatten/\All2 (λx c=>Rep S w a' x c) xs css:=by
  rcases jS with⟨_,css,h1,h2⟩|⟨h1,_⟩
  .exact⟨css,h1,h2⟩
  .rw[he]at h1;simp at h1
 obtain⟨rfl,hx⟩:a=a'/\HEq h xs:=by have h1:=js TV.t hx;simp only[Ty.list.injEq]at h1;subst h1;refine⟨rfl,?_⟩;simp only[TV.mk.injEq,heq_eq_eq,qr]at hx;rw[hx]
 obtain rfl:xs=h:=(eq_of_heq hx).symm
 have Pn:cv = #[]:=by
  match hh:cv.toList,lI with
  |[],_=>exact vd.1 hh
 subst Pn;obtain rfl:=(Fx ha).1 aC;unfold xU at iF;split at iF
 rotate_left
 .simp at iF
 rename_i r6;have dJ:=JD xs r6.1;have hlen:=jCJ xs r6.1;generalize smlA xs r6.1=sm at iF dJ hlen;have xg:=(pdq_sorts (A λ(x y:Sml a)=>cf x.1 y.1) hO sm.toArray 0 sm.toArray.size (M sm.toArray.size) H H (kn _) (jv _) (Ã rfl)).1.1
 have tE:Calls P (ρ.f 6) #[u0,.func (.func g) #[] #[]] w λe' w'=>e' = .returned (.tuple #[])/\(w'=w/\xs=[]\/∃gb cap cur n os,u0 = .slice (J ⟨gb,0,Ù⟩) xs.length cap/\w.heap[gb]? = J (.cells cur e (0,0))/\xs.length<=cap/\cap<=maxLen/\cur.size=cap*a.size/\
   w'=X (λ(x:Sml a)=>encT a x.1) a.size w gb 0 n (pdq (A λ(x y:Sml a)=>cf x.1 y.1) sm.toArray 0 sm.toArray.size (M sm.toArray.size) H H) os):=by
  rcases cI.2 with⟨rfl,hn⟩|⟨gb,cap,cur,rfl,_,hg,dE,oG,dB,lJ⟩
  .refine(Go.Proofs.AnyF.slices_SortFunc_none L Ù 0 (.func (.func g) #[] #[]) w).mono ?_
   rintro e' w' ⟨rfl,rfl⟩
   exact⟨rfl,Ã ⟨rfl,qg.1 hn⟩⟩
  .have bU:sm.toArray.size=xs.length:=by simpa using hlen
   have fm:=Yj (λ(x:Sml a)=>encT a x.1) a.size (λx=>Pj a x.1 ha) sm.toArray;have wx:(flatK (λ(x:Sml a)=>encT a x.1) a.size sm.toArray).toList=(xs.map (encT a)).flatten:=by rw[fm,<-dJ,à];rfl
   have hH:HoldsK (λ(x:Sml a)=>encT a x.1) a.size w gb 0 sm.toArray:=Yk hg (by rw[size_flatK,bU,wx];exact lJ);have hb:gb<w.heap.size:=(ji.1 hg).1
   have:=Go.Proofs.AnyQ.slices_SortFunc_eq L a.size aE zE (λ(x:Sml a)=>encT a x.1) (λx=>Pj a x.1 ha) (λx=>jFj a x.1 ha) (λx y=>cf x.1 y.1) hO g #[] gb 0 cap sm.toArray w eg
    (λm os dk _ x y=>Pl x.1 y.1 _ x.2 y.2) hH hb aa
   rw[bU]at this ⊢;refine this.mono ?_
   rintro e' w' ⟨rfl,n,os,rfl⟩
   exact⟨rfl,ç ⟨gb,cap,cur,n,os,rfl,hg,dE,oG,dB,rfl⟩⟩
 refine tE.mono ?_
 rintro e' w' ⟨rfl,hw⟩
 refine⟨_,Pm,_,S,[],rfl,?_⟩;simp only[j5]at iF;rcases hw with⟨rfl,rfl⟩|⟨gb,cap,cur,n,os,rfl,hg,dE,oG,dB,rfl⟩
 ·-- nothing to sort
  obtain rfl:sm=[]:=by simpa using hlen
  have iF:ys=[]:=by rw[<-iF];have:(pdq (A λ(x y:Sml a)=>cf x.1 y.1) (#[]:Ö (Sml a)) 0 0 (M 0) H H).size=0:=xg;rw[List.map_eq_nil_iff];exact vd.2 (Array.size_eq_zero_iff.1 this)
  subst iF;refine⟨rfl,trivial,by simp[gZ],by simp[gZ],?_,ee.refl _ _,λg o h=>Ã h,hS,λg _ _=>rfl,jv _,rfl,rfl,rfl,by intro m hm;simp[tx,rvsF]at hm⟩;exact⟨⟨a,[],rfl,.inl ⟨he,[],cI,trivial⟩,bu⟩,rfl,trivial⟩
 .generalize pdq (A λ(x y:Sml a)=>cf x.1 y.1) sm.toArray 0 sm.toArray.size (M sm.toArray.size) H H=d' at iF xg
  have bU:sm.toArray.size=xs.length:=by simpa using hlen
  have xB:d'.size=xs.length:=by rw[xg,bU]
  have fm:=Yj (λ(x:Sml a)=>encT a x.1) a.size (λx=>Pj a x.1 ha) d';have wx:(flatK (λ(x:Sml a)=>encT a x.1) a.size d').toList=(ä (encT a) ys).flatten:=by rw[fm,<-iF,à];rfl
  have nU:ys.length=xs.length:=by rw[<-iF];simpa using xB
  have hb:gb<w.heap.size:=(ji.1 hg).1;have CQ:(flatK (λ(x:Sml a)=>encT a x.1) a.size d').size=xs.length*a.size:=by rw[size_flatK,xB]
  obtain⟨kR,az,o5,AK⟩:=Yl (w:=Sort.ahead w n) (F:=flatK (λ(x:Sml a)=>encT a x.1) a.size d') hg (by rw[CQ,dB];exact k9 _ dE);have dq:(putRow id (Sort.ahead w n) gb 0 (flatK (λ(x:Sml a)=>encT a x.1) a.size d')).heap.size=w.heap.size:=ae
  have jU:∀k,k<w.heap.size->k≠gb->(X (λ(x:Sml a)=>encT a x.1) a.size w gb 0 n d' os).heap[k]? = w.heap[k]? := λk hk bA=>
   (JE (by show k<(putRow id (Sort.ahead w n) gb 0 (flatK (λ(x:Sml a)=>encT a x.1) a.size d')).heap.size;rw[dq];exact hk)).trans (Ym bA)
  have fT:w.heap.size<=(X (λ(x:Sml a)=>encT a x.1) a.size w gb 0 n d' os).heap.size:=by show w.heap.size<=((putRow id (Sort.ahead w n) gb 0 (flatK (λ(x:Sml a)=>encT a x.1) a.size d')).heap++os).size;rw[Â,dq];omega
  have iN:∀o,¬S gb o:=bu gb rfl;refine⟨rfl,trivial,by simp[gZ],by simp[gZ],?_,?_,λg o h=>Ã h,λg o h=>zh (hS g o h) fT,?_,fT,rfl,rfl,rfl,by intro m hm;simp[tx,rvsF]at hm⟩
  .refine⟨⟨a,ys,rfl,.inl ⟨he,ys.map (encT a),⟨?_,ç ⟨gb,cap,kR,?_,kn _,?_,?_,oG,?_,?_⟩⟩,(Fx ha).2 rfl⟩,bu⟩,rfl,trivial⟩
   .rw[<-wx,qm,CQ,nU]
   .rw[nU]
   .exact(JE (by show gb<(putRow id (Sort.ahead w n) gb 0 (flatK (λ(x:Sml a)=>encT a x.1) a.size d')).heap.size;rw[dq];exact hb)).trans az
   .rw[nU];exact dE
   .rw[o5,dB]
   .rw[nU,<-CQ,AK,wx]
  .intro g' o wa;refine⟨wa,?_⟩;have bA:g'≠gb:=λhe=>iN o (he▸wa);exact World.cell?_of_block (jU g' (hS g' o wa) bA)
  .intro g' vB iY;refine jU g' vB λhe=>iY ?_;subst he;simp[rZ,CN,argF,eY,mi,blk,ofHL,APat.n]
theorem JF{α:Type}(key:α->À)(hk:∀x, -1152921504606846976<=key x/\key x<=1152921504606846976)(cf:α->α->À)(h:∀x y,cf x y=w64 (key x-key y)):SWO (A cf):=by
 have e:∀x y,A cf x y=decide (key x<key y):=by intro x y;have h1:=hk x;have h2:=hk y;have:w64 (key x-key y)=key x-key y:=iH aa aa;simp only[A,h,this];congr 1;exact propext ⟨λh=>aa,λh=>aa⟩
 refine⟨λx=>?_,λx y z=>?_,λx y z=>?_⟩
 .rw[e];simp
 .rw[e,e,e];simp only[jo];omega
 .rw[e,e,e];simp only[ku];omega
open Go.Sort
def AL(xs:I À):î (I À):=cond (ê xs.length 4611686018427387904) (J (ow xs)) Ù
theorem insI_perm(x:À):∀l:I À,(insI x l).Perm (x::l)
 |[]=>È _
 |y::ys=>by
  unfold insI;cases decide (x<=y) with
  |true=>exact È _
  |false=>exact((insI_perm x ys).cons y).trans (ð x y ys)
theorem isortI_perm:∀l:I À,(ow l).Perm l
 |[]=>È _
 |x::xs=>(insI_perm x _).trans ((isortI_perm xs).cons x)
theorem Yo(x:À):∀l:I À,l.Pairwise (· <= ·)->(insI x l).Pairwise (· <= ·)
 |[],_=>yu _ _
 |y::ys,h=>by
  have hc:=kb.1 h;unfold insI;cases hd:decide (x<=y) with
  |true=>
   have hd:=q7 hd;refine kb.2 ⟨λz hz=>?_,h⟩;rcases je.1 hz with rfl|hz
   .exact hd
   .have:=hc.1 z hz;omega
  |false=>
   have hd:=of_decide_eq_false hd;refine kb.2 ⟨λz hz=>?_,Yo x ys hc.2⟩;rcases je.1 ((insI_perm x ys).mem_iff.1 hz) with rfl|hz
   .omega
   .exact hc.1 z hz
theorem Po:∀l:I À,(ow l).Pairwise (· <= ·)
 |[]=>List.Pairwise.nil
 |x::xs=>Yo x _ (Po xs)
theorem Yp(xs:I À):(xs.mergeSort λx y=>decide (x<=y))=ow xs:=by
 refine Þ (le:=(· <= ·)) (λa b _ _ h1 h2=>Int.le_antisymm h1 h2) ?_ (Po xs) ((List.mergeSort_perm _ _).trans (isortI_perm xs).symm);have:=List.pairwise_mergeSort (le:=λx y:À=>decide (x<=y)) (λa b c h1 h2=>by simp at h1 h2 ⊢;omega) (λa b=>ax) xs;exact this.imp (λh=>by simpa using h)
theorem jCK{xs:I À}(h:xs.length<4611686018427387904):∃ys,AL xs=J ys/\ys.Perm xs/\ys.Pairwise (· <= ·):=by
 unfold AL;rw[show ê xs.length 4611686018427387904=H from Nat.ble_eq_true_of_le h];exact⟨_,rfl,isortI_perm xs,Po xs⟩
theorem jGA(w:Á)(g:Å)(zs:I À):putRow (B .i64) w g 0 zs.toArray=putRow id w g 0 (zs.map (B .i64)).toArray:=by
 have:putCells (B .i64) 0 zs.toArray=putCells id 0 (zs.map (B .i64)).toArray:=by
  funext c
  unfold putCells;refine Array.ext_getElem? λk=>?_;simp only[Ç,kn,qr,ki,Ñ,yb,kj,id];cases c[k]? with
  |none=>rfl
  |some x=>
   simp only[qa];by_cases hk:k<zs.length
   .rw[if_pos hk,if_pos hk,getElem!_pos _ k (by simpa using hk),getElem!_pos _ k (by simpa using hk)];simp
   .rw[if_neg hk,if_neg hk]
 unfold putRow;rw[this]
theorem jCL{w:Á}{g:Å}{zs:I À}(h:Holds id w g 0 (zs.map (B .i64)).toArray):Holds (B .i64) w g 0 zs.toArray:=by
 intro j hj;have iX:j<zs.length:=by simpa using hj
 have:=h j (by simpa using iX);refine⟨this.1.trans ?_,this.2⟩;rw[getElem!_pos _ j (by simpa using iX),getElem!_pos _ j hj];simp
theorem Pp(zs:I À):(zs.map (encT (.int .i64))).flatten=zs.map (B .i64):=by
 induction zs with
 |nil=>rfl
 |cons z zs ih=>simp only[ke,qd,ih];rfl
variable{P:Ü}{ρ:Go.Shelf.Ren}
theorem jAj(L:Go.Proofs.SlLaysM.n5 P ρ)(e:Å)(he:isM e=ì)(f:Å)(hf:f=ρ.f 5) :
  Con.OK P ⟨f,[.rl e (.list (.int .i64))],[.list (.int .i64)],⟨[],[.rl (.list (.int .i64))]⟩,[.list (.int .i64)],AL⟩:=by
 subst hf;intro args R k r hk;unfold Con.C at hk;split at hk
 rotate_left
 .simp at hk
 rename_i h hu;rw[Jo hu];clear hu
 obtain⟨ys,iF,Pm⟩:∃ys,AL h=J ys/\k (tx ⟨[],[.rl (.list (.int .i64))]⟩ [.list (.int .i64)] ys)=J r:=by
  cases hs:AL h with
  |none=>simp only[hs,Ó]at hk;exact absurd hk ae
  |some ys=>simp only[hs,j4]at hk;exact⟨ys,rfl,hk⟩
 clear hk;refine⟨?_,?_⟩
 .obtain⟨nm,hn,oL⟩:=L.f5;exact⟨_,oL,rfl,hn⟩
 intro w S vals hA fN hS;have hA:All2 (pM S w) [.rl e ⟨.list (.int .i64),h⟩] vals:=hA
 obtain⟨u0,rfl⟩:∃u0,vals=[u0]:=by
  match vals,hA with
  |[u0],_=>exact⟨u0,rfl⟩
 obtain⟨⟨a',xs,hx,jS,bu⟩,_⟩:=hA
 obtain⟨css,cI,aC⟩:∃css,w.ownsRow 0 e a'.size u0 xs.length css.flatten/\All2 (λx c=>Rep S w a' x c) xs css:=by
  rcases jS with⟨_,css,h1,h2⟩|⟨h1,_⟩
  .exact⟨css,h1,h2⟩
  .rw[he]at h1;simp at h1
 obtain⟨rfl,hx⟩:Ty.int .i64=a'/\HEq h xs:=by have h1:=js TV.t hx;simp only[Ty.list.injEq]at h1;subst h1;refine⟨rfl,?_⟩;simp only[TV.mk.injEq,heq_eq_eq,qr]at hx;rw[hx]
 obtain rfl:xs=h:=(eq_of_heq hx).symm;obtain rfl:=(Fx (a:= .int .i64) rfl).1 aC;have fm:(ä (encT (.int .i64)) xs).flatten=ä (B .i64) xs:=Pp xs;rw[fm]at cI;unfold AL at iF;cases r6:ê (N xs) 4611686018427387904 with
 |false=>rw[r6]at iF;simp at iF
 |true=>
 rw[r6]at iF;simp only[j6,j5]at iF;have r6:N xs<4611686018427387904:=qy r6;have nU:ys.length=N xs:=by rw[<-iF];exact(isortI_perm xs).length_eq
 have tE:Calls P (ρ.f 5) #[u0] w λe' w'=>e' = .returned (.tuple #[])/\(w'=w/\xs=[]\/∃gb cap cur n os,u0 = .slice (J ⟨gb,0,Ù⟩) (N xs) cap/\w.heap[gb]? = J (.cells cur e (0,0))/\N xs<=cap/\cap<=maxLen/\cur.size=cap*1/\
   w'=grow (putRow id (Sort.ahead w n) gb 0 (ys.map (B .i64)).toArray) os):=by
  rcases cI.2 with⟨rfl,hn⟩|⟨gb,cap,cur,rfl,_,hg,dE,oG,dB,lJ⟩
  .refine(O L Ù 0 w).mono ?_
   rintro e' w' ⟨rfl,rfl⟩
   exact⟨rfl,Ã ⟨rfl,qg.1 hn⟩⟩
  .have hH:Holds (B .i64) w gb 0 (List.toArray xs):=jCL (Yk hg (by simpa[Ty.size]using lJ));have hb:gb<w.heap.size:=(ji.1 hg).1;refine(U L gb 0 cap xs w hH hb r6).mono ?_
   rintro e' w' ⟨rfl,n,os,rfl⟩
   rw[Yp,iF,jGA];exact⟨rfl,ç ⟨gb,cap,cur,n,os,rfl,hg,dE,oG,dB,rfl⟩⟩
 refine tE.mono ?_
 rintro e' w' ⟨rfl,hw⟩
 refine⟨_,Pm,_,S,[],rfl,?_⟩;rcases hw with⟨rfl,rfl⟩|⟨gb,cap,cur,n,os,rfl,hg,dE,oG,dB,rfl⟩
 .have iF:ys=[]:=qg.1 (by simpa using nU);subst iF;refine⟨rfl,trivial,by simp[gZ],by simp[gZ],?_,ee.refl _ _,λg o h=>Ã h,hS,λg _ _=>rfl,jv _,rfl,rfl,rfl,by intro m hm;simp[tx,rvsF]at hm⟩;exact⟨⟨.int .i64,[],rfl,.inl ⟨he,[],cI,trivial⟩,bu⟩,rfl,trivial⟩
 .have hb:gb<w.heap.size:=(ji.1 hg).1;have CQ:(ys.map (B .i64)).toArray.size=N xs:=by simp[nU]
  obtain⟨kR,az,o5,AK⟩:=Yl (w:=Sort.ahead w n) (F:=(ys.map (B .i64)).toArray) hg (by rw[CQ,dB];omega);have dq:(putRow id (Sort.ahead w n) gb 0 (ys.map (B .i64)).toArray).heap.size=w.heap.size:=ae
  have jU:∀k,k<w.heap.size->k≠gb->(grow (putRow id (Sort.ahead w n) gb 0 (ys.map (B .i64)).toArray) os).heap[k]? = w.heap[k]? := λk hk bA=>
   (JE (by rw[dq];exact hk)).trans (Ym bA)
  have fT:w.heap.size<=(grow (putRow id (Sort.ahead w n) gb 0 (ys.map (B .i64)).toArray) os).heap.size:=by show w.heap.size<=((putRow id (Sort.ahead w n) gb 0 (ys.map (B .i64)).toArray).heap++os).size;rw[Â,dq];omega
  have iN:∀o,¬S gb o:=bu gb rfl;refine⟨rfl,trivial,by simp[gZ],by simp[gZ],?_,?_,λg o h=>Ã h,λg o h=>zh (hS g o h) fT,?_,fT,rfl,rfl,rfl,by intro m hm;simp[tx,rvsF]at hm⟩
  .refine⟨⟨.int .i64,ys,rfl,.inl ⟨he,ys.map (encT (.int .i64)),⟨?_,ç ⟨gb,cap,kR,?_,kn _,?_,?_,oG,?_,?_⟩⟩,(Fx (a:= .int .i64) rfl).2 rfl⟩,bu⟩,rfl,trivial⟩
   .rw[Pp];simp[Ty.size]
   .rw[nU]
   .exact(JE (by rw[dq];exact hb)).trans az
   .rw[nU];exact dE
   .rw[o5,dB];rfl
   .rw[Pp,nU,show N xs*(Ty.int .i64).size=(ys.map (B .i64)).toArray.size by rw[CQ];simp[Ty.size],AK]
  .intro g' o wa;refine⟨wa,?_⟩;have bA:g'≠gb:=λhe=>iN o (he▸wa);exact World.cell?_of_block (jU g' (hS g' o wa) bA)
  .intro g' vB iY;refine jU g' vB λhe=>iY ?_;subst he;simp[rZ,CN,argF,eY,mi,blk,ofHL]
open Go.Sort Go.Maps Go.Shelf
variable{P:Ü}{ρ ρ' ρ'':Ren}
abbrev tF:Z->î (DataW Unit×I MemPlace):=λ_=>J (.lit (.bool H),[])
theorem Yq(w:Á)(o:Obj){k:Å}(hk:k<w.heap.size):(w.alloc o).heap[k]? = w.heap[k]? := by
 show (w.heap.push o)[k]? = _;rw[Ë,if_neg aa]
theorem jCM{w:Á}{g:Å}{es:Ö MapEntry}{clock:Å}{ks:I À}{k:TypeId}(hk:P.underlying k=J (.int .i64))(hh:w.heap[g]? = J (.map es clock))(aQ:MapKept.Stamped es clock)
  (hks:es.toList.map (·.key)=ks.map (B .i64))(hr:∀x∈ks, -9223372036854775808<=x/\x<=9223372036854775807)(hl:ks.length<=1000000) :
  ∃D:DataW Unit,w.ownsMap P k tF g es.size D/\ks.Perm (intKeys D)/\Maps.size D=ks.length:=by
 have oY:∀x∈es.toList,∃z,x.key = .int .i64 z/\keyOf P k x.key=J (.int .i64 z):=by intro x hx;have:x.key∈es.toList.map (·.key):=jr.2 ⟨x,hx,rfl⟩;rw[hks]at this;obtain⟨z,hz,he⟩:=jr.1 this;refine⟨z,he.symm,?_⟩;rw[<-he];exact keyOf_int_mk hk (by have:=hr z hz;simp[Lit.wf,show IntKind.i64.min = -9223372036854775808 by decide,show IntKind.i64.max=9223372036854775807 by decide];omega)
 have hlen:es.size=ks.length:=by have:=js N hks;simpa using this
 refine⟨_,⟨es,clock,hh,⟨by rw[hlen];simp[maxLen];omega,aQ,λx hx=>?_⟩,jv _,rfl⟩,?_,?_⟩
 .obtain⟨z,_,hz⟩:=oY x hx;exact⟨(.int .i64 z,.lit (.bool H)),by simp[á,hz]⟩
 .have e:(es.toList.map (Y P k tF)).map (λp=>intOf p.1)=ks:=by
   have:∀(l:I MapEntry)(ks:I À),(∀x∈l,∃z,x.key = .int .i64 z/\keyOf P k x.key=J (.int .i64 z))->l.map (·.key)=ks.map (B .i64)->(l.map (Y P k tF)).map (λp=>intOf p.1)=ks:=by
    intro l;induction l with
    |nil=>intro ks _ h;cases ks<;>simp_all
    |cons x r ih=>
     intro ks hx h;cases ks with
     |nil=>simp at h
     |cons z q=>
      simp only[ke,List.cons.injEq]at h ⊢;obtain⟨z',h1,h2⟩:=hx x ae;refine⟨?_,ih q (λy hy=>hx y (by simp[hy])) h.2⟩;rw[h.1]at h1;have:z=z':=by simpa using h1
      subst this;simp[Y,á,h2,intOf]
   exact this _ _ oY hks
  show ks.Perm (((es.toList.map (Y P k tF)).foldr DataW.insert []).map λp=>intOf p.1);exact(e▸((WideShapes.sorted_perm _).map (λp:Lit×DataW Unit=>intOf p.1)).symm)
 .show ((es.toList.map (Y P k tF)).foldr DataW.insert []).length=ks.length;rw[length_sorted];simp[hlen]
theorem jAk(LK:Go.Proofs.SlLaysZI.n7 P ρ)(LS:Go.Proofs.SlLaysZI.n6 P ρ')(LM:Go.Proofs.SlLaysM.n5 P ρ''){fK fS e:Å}(hK:ρ.f 7=fK)(hS:ρ'.f 6=fS)(he:ρ'.t 26=e)(hm:ρ''.f 5=ρ'.f 9):NA P fK fS e:=by
 subst hK;subst hS;subst he;refine⟨?_,?_,?_⟩
 .obtain⟨nm,hn,oL⟩:=LK.f7;exact⟨_,oL,rfl,hn⟩
 .obtain⟨nm,hn,oL⟩:=LS.f6;exact⟨_,oL,rfl,hn⟩
 intro w g es clock ks hh aQ hks hr hl;obtain⟨D,aZ,Fy,bU⟩:=jCM (P:=P) LK.t26 hh aQ hks hr hl;have xj:=aZ.lt;have cK:=callsIn_wide.1 (ã LK Fence.wide 5 trivial rfl (J g) w);refine cK.mono ?_
 rintro r w1 ⟨rfl,rfl⟩
 refine⟨_,rfl,⟨λk hk=>Yq w _ hk,ae,rfl,rfl,rfl⟩,?_⟩
 have Pq:=Ú (ρ:=ρ) { LK with } Fence.wide 2 trivial rfl aa w.heap.size g es.size D (w.alloc (.cells #[.map (J g)] (ρ.t 23))) ae ae (by
  obtain⟨es,clock,hb,Ft,hs,hD⟩:=aZ;exact⟨es,clock,(Yq w _ xj).trans hb,Ft,hs,hD⟩)
 have AM:Ä P ρ' Fence.wide 4:=by unfold Ä;rw[<-hm];exact⟨λblk off cap ss W hH hblk bU=>callsIn_wide.2 (U LM blk off cap ss W hH hblk bU),λp cap W=>callsIn_wide.2 (O LM p cap W)⟩
 have cS:=callsIn_wide.1 (Ý LS Fence.wide 5 trivial trivial trivial trivial rfl aa AM (hm▸LM.f5.enters rfl) (ρ.f 10) #[.pointer (J ⟨w.heap.size,0,Ù⟩)] trivial (LK.f10.enters rfl) _ _ (by rw[bU];simp[maxLen];omega) (by rw[bU];omega) _ Pq);refine cS.mono ?_
 rintro r2 w2 ⟨v,ss,rfl,hS,cI,fF,hb⟩
 refine⟨v,rfl,?_,⟨hb.block,hb.size,hb.os,hb.tape,hb.output⟩⟩;have hp:ss.Perm ks:=hS.trans Fy.symm;rw[<-Yp ks,<-mergeSort_of_perm_i hp,<-hp.length_eq];exact cI
open Go.Shelf
variable{P:Ü}{ρ:Ren}
theorem Grew.refl(w:Á):Grew w w:=⟨λ_ _=>rfl,jv _,rfl,rfl,rfl⟩
theorem jAl(L:Go.Proofs.Lays8.n4 P ρ){f e sz bt:Å}(hf:ρ.f 4=f)(he:ρ.t 25=e)(hi:((P.info? e).map λi=>(i.zero.map λz=>z.cells.size,i.size,i.bytes))=J (J sz,sz,bt))(hs:0<sz)(hb:bt<=100000000) :
  NB P f e sz:=by
 subst hf;subst he;cases xf:P.info? (ρ.t 25) with
 |none=>rw[xf]at hi;simp at hi
 |some i0=>
 rw[xf]at hi;cases my:i0.zero with
 |none=>simp[my]at hi
 |some z=>
 simp only[qa,my,j5,j9]at hi;obtain⟨kE,Vx,vD⟩:=hi;subst Vx;subst vD;refine⟨?_,λw n h0 h1=>?_⟩
 .obtain⟨nm,hn,oL⟩:=L.f4;exact⟨_,oL,rfl,hn⟩
 obtain⟨m,rfl⟩:∃m:Å,n=(m:À):=⟨n.toNat,aa⟩;have fH:m<=1000000:=aa;by_cases hm:m=0
 .subst hm;refine(Go.Proofs.Any8.slices_Grow_room L Ù 0 0 0 w aa aa aa aa).mono ?_
  rintro r w' ⟨rfl,rfl⟩
  exact⟨_,rfl,⟨ae,.inl ⟨rfl,rfl⟩⟩,Grew.refl _⟩
 .have hbm:(0+m)*i0.bytes<=140737488355328:=by have:(0+m)*i0.bytes<=1000000*100000000:=qi aa hb;omega
  refine(Go.Proofs.Any8.slices_Grow_grow L i0 z xf my hs Ù 0 0 m [] w aa aa hbm aa ae (λ_=>rfl) (λa h=>by simp at h)).mono ?_
  rintro r w' ⟨rfl,rfl⟩
  have hG:=Go.grownCap_ge w (0+m) 0 (ρ.t 25);have hGm:=Go.grownCap_le_maxLen w (0+m) 0 (ρ.t 25) (by unfold maxLen;omega);generalize hGd:grownCap w (0+m) 0 (ρ.t 25)=G at *
  have eG:(w.drew.alloc (.cells (([]:I Z).toArray++E z.cells (0+m-0)++E z.cells (G-(0+m))) (ρ.t 25))).heap[w.heap.size]? =
    J (.cells (([]:I Z).toArray++E z.cells (0+m-0)++E z.cells (G-(0+m))) (ρ.t 25) (0,0)):=by
   show (w.heap.push _)[w.heap.size]? = _;rw[Array.getElem?_push_size]
  have bU:(([]:I Z).toArray++E z.cells (0+m-0)++E z.cells (G-(0+m))).size=G*i0.size:=by
   have hq:∀k,(E z.cells k).size=k*i0.size:=λk=>by simp[E,kE]
   simp only[Â,hq,yb,kx,ki,Ñ];rw[<-Nat.add_mul];congr 1;omega
  refine⟨_,rfl,⟨ae,.inr ⟨w.heap.size,G,_,rfl,jv _,eG,kn _,hGm,bU,ae⟩⟩,⟨λk hk=>?_,?_,rfl,rfl,rfl⟩⟩
  .show (w.heap.push _)[k]? = _;rw[Ë,if_neg aa]
  .show w.heap.size<=(w.heap.push _).size;simp
end Go.Lft
