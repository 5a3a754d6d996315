/- wN.SortFunc: the kit's pX of it as a pX on plain data. -/
import Derived.Test.YtpbnnhakjhalaaaGreatLWLD
import Derived.Shelf.SlSortCmp.NoneTotal
import Derived.Shelf.SortM.Plain
import Derived.Shelf.SortM.SortNone
import Derived.Shelf.SlIterI.Sorted
set_option linter.unusedVariables false
namespace Go.Lft
open Go.Sort
def Ty.scal:Ty->Bool
 |.int _|.bool|.str|.unit=>true
 |.wrap a=>a.scal
 |.pair a b=>a.scal&&b.scal
 |.list _=>false
 |.arr _ _=>false
def encT:(t:Ty)->t.den->List Value
 |.int k,n=>[.int k n]
 |.bool,b=>[.bool b]
 |.str,s=>[.string s]
 |.unit,_=>[]
 |.wrap a,v=>encT a v
 |.pair a b,v=>encT a v.1++encT b v.2
 |.list _,_=>[]
 |.arr _ _,_=>[]
def gG:(t:Ty)->t.den->Bool
 |.int _,n=>decide (-1152921504606846976<=(n:Int))&&decide ((n:Int)<=1152921504606846976)
 |.bool,_=>true
 |.str,_=>true
 |.unit,_=>true
 |.wrap a,v=>gG a v
 |.pair a b,v=>gG a v.1&&gG b v.2
 |.list _,_=>true
 |.arr _ _,_=>true
theorem ER:∀t:Ty,gG t t.dflt=true
 |.int _=>by simp[gG,Ty.dflt]
 |.bool=>rfl
 |.str=>rfl
 |.unit=>rfl
 |.wrap a=>ER a
 |.pair a b=>by simp[gG,Ty.dflt,ER a,ER b]
 |.list _=>rfl
 |.arr _ _=>rfl
theorem ur{S:aH}{w:World}:∀(t:Ty)(v:t.den)(cs:List Value),t.scal=true->(Rep S w t v cs↔cs=encT t v)
 |.int _,_,_,_=>Iff.rfl
 |.bool,_,_,_=>Iff.rfl
 |.str,_,_,_=>Iff.rfl
 |.unit,_,_,_=>Iff.rfl
 |.wrap a,v,cs,h=>ur a v cs h
 |.pair a b,v,cs,h=>by
  simp only[Ty.scal,ja]at h;constructor
  .rintro⟨c1,c2,rfl,h1,h2⟩
   rw[(ur a _ _ h.1).1 h1,(ur b _ _ h.2).1 h2];rfl
  .rintro rfl
   exact⟨_,_,rfl,(ur a _ _ h.1).2 rfl,(ur b _ _ h.2).2 rfl⟩
 |.list _,_,_,h=>by simp[Ty.scal]at h
 |.arr _ _,_,_,h=>by simp[Ty.scal]at h
theorem JM(t:Ty)(v:t.den)(h:t.scal=true):(encT t v).length=t.size:=
 Rep.length (S:=λ_ _=>False) (w:=default) t v _ ((ur t v _ h).2 rfl)
theorem jxg(t:Ty)(v:t.den)(h:t.scal=true):∀u∈encT t v,u.oneCell'=true:=
 Rep.one (S:=λ_ _=>False) (w:=default) t v _ ((ur t v _ h).2 rfl)
abbrev Sml(a:Ty):Type:={ x:a.den // gG a x=true }
instance(a:Ty):Inhabited (Sml a):=⟨⟨a.dflt,ER a⟩⟩
def smlA{a:Ty}:(xs:List a.den)->xs.all (gG a)=true->List (Sml a)
 |[],_=>[]
 |x::xs,h=>⟨x,by simp at h;exact h.1⟩::smlA xs (by simp at h ⊢;exact h.2)
theorem ES{a:Ty}:∀(xs:List a.den)(h:xs.all (gG a)=true),(smlA xs h).map (·.1)=xs
 |[],_=>rfl
 |x::xs,h=>by simp[smlA,ES xs]
theorem jvv{a:Ty}(xs:List a.den)(h:xs.all (gG a)=true):(smlA xs h).length=xs.length:=by
 rw[<-kb (f:=(·.1)),ES]
noncomputable def uu(a:Ty)(cf:a.den->a.den->Int)(xs:List a.den):Option (List a.den):=
 if h:xs.all (gG a)=true/\xs.length<4611686018427387904 then
  some ((pdq (Go.Proofs.ltOf λ(x y:Sml a)=>cf x.1 y.1) (smlA xs h.1).toArray 0 (smlA xs h.1).toArray.size (Lib.bitLen (smlA xs h.1).toArray.size) true true).toList.map (·.1))
 else none
theorem Rl{a:Ty}{cf:a.den->a.den->Int}(hO:SWO (Go.Proofs.ltOf λ(x y:Sml a)=>cf x.1 y.1)){xs:List a.den}(h:∀x∈xs,gG a x=true)(hl:xs.length<4611686018427387904) :
  ∃ys,uu a cf xs=some ys/\ys.Perm xs/\ys.Pairwise (λx y=>¬cf y x<0):=by
 have h1:xs.all (gG a)=true:=jp.2 h;unfold uu;rw[dif_pos ⟨h1,hl⟩];refine⟨_,rfl,?_,?_⟩
 .have hp:=(pdq_sorts (Go.Proofs.ltOf λ(x y:Sml a)=>cf x.1 y.1) hO (smlA xs h1).toArray 0 (smlA xs h1).toArray.size (Lib.bitLen (smlA xs h1).toArray.size) true true (k7 _) (jq _) (Or.inl rfl)).1;obtain⟨hs,_,hp⟩:=hp;generalize pdq (Go.Proofs.ltOf λ(x y:Sml a)=>cf x.1 y.1) (smlA xs h1).toArray 0 (smlA xs h1).toArray.size (Lib.bitLen (smlA xs h1).toArray.size) true true=d' at *;rw[<-hs]at hp;rw[Array.extract_size,hs,Array.extract_size]at hp;have:=hp.map (·.1);rwa[show (smlA xs h1).toArray.toList=smlA xs h1 from rfl,ES]at this
 .have hp:=(pdq_sorts (Go.Proofs.ltOf λ(x y:Sml a)=>cf x.1 y.1) hO (smlA xs h1).toArray 0 (smlA xs h1).toArray.size (Lib.bitLen (smlA xs h1).toArray.size) true true (k7 _) (jq _) (Or.inl rfl));obtain⟨⟨hs,_,_⟩,hp⟩:=hp;generalize pdq (Go.Proofs.ltOf λ(x y:Sml a)=>cf x.1 y.1) (smlA xs h1).toArray 0 (smlA xs h1).toArray.size (Lib.bitLen (smlA xs h1).toArray.size) true true=d' at *;rw[List.pairwise_map,q7];intro i j hi hj ec;have aX:i<d'.size:=by simpa using hi
  have gE:j<d'.size:=by simpa using hj
  have:=hp i j (k7 _) ec (by omega);rw[getElem!_pos d' j gE,getElem!_pos d' i aX]at this;simpa[Go.Proofs.ltOf]using this
theorem Rm{m:Nat}:∀{css:List (List Value)},(∀c∈css,c.length=m)->∀t,t<css.length*m->css.flatten[t]? = ((css[t/m]?).getD [])[t%m]?
 |[],_,t,ht=>by simp at ht
 |c::css,h,t,ht=>by
  have hc:c.length=m:=h c (by simp)
  have m0:0<m:=by
   rcases Nat.eq_zero_or_pos m with h0|h0
   .subst h0;simp at ht
   .exact h0
  by_cases au:t<m
  .rw[ke,List.getElem?_append_left (by omega),Nat.div_eq_of_lt au,Nat.mod_eq_of_lt au];simp
  .have h':∀c∈css,c.length=m:=λc hc=>h c (by simp[hc]);have qU:t-m<css.length*m:=by simp only[jo,va]at ht;omega
   rw[ke,k9 (by omega),hc,Rm h' (t-m) qU];have e1:t=t-m+m:=by omega
   have e2:t/m=(t-m)/m+1:=(jl (· / m) e1).trans (Nat.add_div_right _ m0);have e3:t%m=(t-m)%m:=(jl (· % m) e1).trans (Nat.add_mod_right _ _);rw[e2,e3,vi]
theorem Rn{α:Type}(enc:α->List Value):∀xs:List α,All2 (λx c=>c=enc x) xs (xs.map enc)
 |[]=>trivial
 |x::xs=>⟨rfl,Rn enc xs⟩
theorem Ro{α:Type}[Inhabited α](enc:α->List Value)(k:Nat)(hk:∀x,(enc x).length=k)(d:Array α):(flatK enc k d).toList=(d.toList.map enc).flatten:=by
 have hl:(d.toList.map enc).flatten.length=d.size*k:=by have:=All2.flatten_length (R:=λx c=>c=enc x) (n:=k) (λx c h=>by rw[h,hk]) (xs:=d.toList) (css:=d.toList.map enc) (Rn enc _);simpa using this
 refine vu λt=>?_;by_cases ht:t<d.size*k
 .rw[Rm (m:=k) (by simpa using λx _=>hk x) t (by simpa using ht)]
  have k0:0<k:=by
   rcases Nat.eq_zero_or_pos k with h0|h0
   .subst h0;simp at ht
   .exact h0
  have hd:t/k<d.size:=Nat.div_lt_of_lt_mul (by rw[Nat.mul_comm];exact ht);have hm:t%k<k:=Nat.mod_lt _ k0;have:=get_flatK enc k d t ht;rw[getElem!_pos _ t (by rw[size_flatK];exact ht)]at this;rw[qo,jr (by rw[size_flatK];exact ht),this,getElem!_pos d _ hd];simp only[qi,qo,jr hd,ki,zg];rw[getElem!_pos _ _ (by rw[hk];exact hm),jj (by rw[hk];exact hm)]
 .rw[qm (by rw[q9,size_flatK];omega),qm (by omega)]
theorem Rp{w:World}{g:Nat}{cur F:Array Value}{e:Nat}(hg:w.heap[g]? = some (.cells cur e (0,0)))(ht:cur.toList.take F.size=F.toList):Holds id w g 0 F:=by
 intro j hj
 have h1:cur[j]? = some F[j]:=by
  have:(cur.toList.take F.size)[j]? = F.toList[j]? := by rw[ht]
  rw[z7 hj,qo,qo,jr hj]at this;exact this
 refine⟨?_,?_⟩
 .simp only[World.cell?,hg,jz];rw[getElem!_pos F j hj];simpa using h1
 .simp[World.frozen?,hg]
theorem Rq{w:World}{g:Nat}{cur F:Array Value}{e:Nat}(hg:w.heap[g]? = some (.cells cur e (0,0)))(hF:F.size<=cur.size) :
  ∃gV,(putRow id w g 0 F).heap[g]? = some (.cells gV e (0,0))/\gV.size=cur.size/\gV.toList.take F.size=F.toList:=by
 refine⟨putCells id 0 F cur,?_,?_,?_⟩
 .unfold putRow mapBlock;simp only[Array.getElem?_modify,if_true,hg,ki,onCells]
 .simp[putCells]
 .refine vu λt=>?_;by_cases ht:t<F.size
  .rw[z7 ht,qo,qo];simp only[putCells,Array.getElem?_mapIdx];rw[jr (show t<cur.size by omega),jr ht];simp only[ki,k7,kp,jz,ht,if_true,Nat.sub_zero,id];rw[getElem!_pos F t ht]
  .rw[List.getElem?_take_eq_none (by omega),qm (by simpa using ht)]
theorem Rr{w:World}{g k:Nat}{F:Array Value}(h:k≠g):(putRow id w g 0 F).heap[k]? = w.heap[k]? := by
 unfold putRow mapBlock;simp only[Array.getElem?_modify,Ne.symm h,qs]
theorem ET{w:World}{os:Array Obj}{k:Nat}(h:k<w.heap.size):(grow w os).heap[k]? = w.heap[k]? := by
 simp only[grow];exact Array.getElem?_append_left h
theorem BF{a:Ty}{S:aH}{w:World}(ha:a.scal=true):∀{xs:List a.den}{css:List (List Value)},All2 (λx c=>Rep S w a x c) xs css↔css=xs.map (encT a)
 |[],[]=>by simp[All2]
 |x::xs,c::css=>by
  simp only[All2,ka,zt];exact and_congr (ur a x c ha) (BF ha)
 |[],_::_=>by simp[All2]
 |_::_,[]=>by simp[All2]
variable{P:Program}{ρ:Go.Shelf.Ren}
theorem Rs(L:Go.Proofs.SlLaysF0.n6 P ρ)(a:Ty)(ha:a.scal=true)(e:Nat)(he:isM e=false)(aE:∀w,(isAgg (ρ.t 24)).run P w = .ok true w)(zE:∀w,(Go.sizeOf (ρ.t 24)).run P w = .ok a.size w)(cf:a.den->a.den->Int)(g:Nat)
  (eg:∀args w,(callFunc g args).run P w = .ok (.enter g args) w)
  (JN:∀(x y:a.den)(w:World),gG a x=true->gG a y=true->Calls P g #[.agg (encT a x).toArray,.agg (encT a y).toArray] w λe w'=>e = .returned (.int .i64 (cf x y))/\∃q ov,w'=grow (w.drewN q) ov)
  (hO:SWO (Go.Proofs.ltOf λ(x y:Sml a)=>cf x.1 y.1))(f:Nat)(hf:f=ρ.f 6) :
  Con.OK P ⟨f,[.rl e (.list a),.clo g []],[.list a],⟨[],[.rl (.list a)]⟩,[.list a],uu a cf⟩:=by
 subst hf;intro args R k r hk;unfold Con.C at hk;split at hk
 rotate_left
 .simp at hk
 rename_i h hu;rw[EB hu];clear hu
 obtain⟨ys,gg,JO⟩:∃ys,uu a cf h=some ys/\k (mE ⟨[],[.rl (.list a)]⟩ [.list a] ys)=some r:=by
  cases hs:uu a cf h with
  |none=>simp only[hs,Option.bind_none]at hk;exact absurd hk (by simp)
  |some ys=>simp only[hs,j3]at hk;exact⟨ys,rfl,hk⟩
 clear hk;refine⟨?_,?_⟩
 .obtain⟨nm,hn,mn⟩:=L.f6;exact⟨_,mn,rfl,hn⟩
 intro w S vals hA dy hS;have hA:All2 (mm S w) [.rl e ⟨.list a,h⟩,.clo g []] vals:=hA
 obtain⟨u0,u1,rfl⟩:∃u0 u1,vals=[u0,u1]:=by
  match vals,hA with
  |[u0,u1],_=>exact⟨u0,u1,rfl⟩
 obtain⟨⟨a',xs,hx,kY,aR⟩,⟨cv,rfl,lP⟩,_⟩:=hA
 obtain⟨css,bQ,al⟩:∃css,w.ownsRow 0 e a'.size u0 xs.length css.flatten/\All2 (λx c=>Rep S w a' x c) xs css:=by
  rcases kY with⟨_,css,h1,h2⟩|⟨h1,_⟩
  .exact⟨css,h1,h2⟩
  .rw[he]at h1;simp at h1
 obtain⟨rfl,hx⟩:a=a'/\HEq h xs:=by have h1:=jl TV.t hx;simp only[Ty.list.injEq]at h1;subst h1;refine⟨rfl,?_⟩;simp only[TV.mk.injEq,heq_eq_eq,kp]at hx;rw[hx]
 obtain rfl:xs=h:=(eq_of_heq hx).symm
 have JP:cv = #[]:=by
  match hh:cv.toList,lP with
  |[],_=>exact zb.1 hh
 subst JP;obtain rfl:=(BF ha).1 al;unfold uu at gg;split at gg
 rotate_left
 .simp at gg
 rename_i oG;have eB:=ES xs oG.1;have hlen:=jvv xs oG.1;generalize smlA xs oG.1=sm at gg eB hlen;have qX:=(pdq_sorts (Go.Proofs.ltOf λ(x y:Sml a)=>cf x.1 y.1) hO sm.toArray 0 sm.toArray.size (Lib.bitLen sm.toArray.size) true true (k7 _) (jq _) (Or.inl rfl)).1.1
 have pY:Calls P (ρ.f 6) #[u0,.func (.func g) #[] #[]] w λe' w'=>e' = .returned (.tuple #[])/\(w'=w/\xs=[]\/∃gb cap cur n os,u0 = .slice (some ⟨gb,0,none⟩) xs.length cap/\w.heap[gb]? = some (.cells cur e (0,0))/\xs.length<=cap/\cap<=maxLen/\cur.size=cap*a.size/\
   w'=Go.Proofs.sortWorldK (λ(x:Sml a)=>encT a x.1) a.size w gb 0 n (pdq (Go.Proofs.ltOf λ(x y:Sml a)=>cf x.1 y.1) sm.toArray 0 sm.toArray.size (Lib.bitLen sm.toArray.size) true true) os):=by
  rcases bQ.2 with⟨rfl,hn⟩|⟨gb,cap,cur,rfl,_,hg,cJ,rY,dr,iS⟩
  .refine(Go.Proofs.AnyF.slices_SortFunc_none L none 0 (.func (.func g) #[] #[]) w).mono ?_
   rintro e' w' ⟨rfl,rfl⟩
   exact⟨rfl,Or.inl ⟨rfl,zd.1 hn⟩⟩
  .have bF:sm.toArray.size=xs.length:=by simpa using hlen
   have eZ:=Ro (λ(x:Sml a)=>encT a x.1) a.size (λx=>JM a x.1 ha) sm.toArray;have sE:(flatK (λ(x:Sml a)=>encT a x.1) a.size sm.toArray).toList=(xs.map (encT a)).flatten:=by rw[eZ,<-eB,vz];rfl
   have hH:HoldsK (λ(x:Sml a)=>encT a x.1) a.size w gb 0 sm.toArray:=Rp hg (by rw[size_flatK,bF,sE];exact iS);have hb:gb<w.heap.size:=(jf.1 hg).1
   have:=Go.Proofs.AnyQ.slices_SortFunc_eq L a.size aE zE (λ(x:Sml a)=>encT a x.1) (λx=>JM a x.1 ha) (λx=>jxg a x.1 ha) (λx y=>cf x.1 y.1) hO g #[] gb 0 cap sm.toArray w eg
    (λm os dk _ x y=>JN x.1 y.1 _ x.2 y.2) hH hb (by omega)
   rw[bF]at this ⊢;refine this.mono ?_
   rintro e' w' ⟨rfl,n,os,rfl⟩
   exact⟨rfl,Or.inr ⟨gb,cap,cur,n,os,rfl,hg,cJ,rY,dr,rfl⟩⟩
 refine pY.mono ?_
 rintro e' w' ⟨rfl,hw⟩
 refine⟨_,JO,_,S,[],rfl,?_⟩;simp only[j4]at gg;rcases hw with⟨rfl,rfl⟩|⟨gb,cap,cur,n,os,rfl,hg,cJ,rY,dr,rfl⟩
 ·-- nothing to sort
  obtain rfl:sm=[]:=by simpa using hlen
  have gg:ys=[]:=by rw[<-gg];have:(pdq (Go.Proofs.ltOf λ(x y:Sml a)=>cf x.1 y.1) (#[]:Array (Sml a)) 0 0 (Lib.bitLen 0) true true).size=0:=qX;rw[List.map_eq_nil_iff];exact zb.2 (Array.size_eq_zero_iff.1 this)
  subst gg;refine⟨rfl,trivial,by simp[fj],by simp[fj],?_,dn.refl _ _,λg o h=>Or.inl h,hS,λg _ _=>rfl,jq _,rfl,rfl,rfl,by intro n s hm;simp[mE,rvsF]at hm,by intro m hm;simp[mE,rvsF]at hm⟩;exact⟨⟨a,[],rfl,.inl ⟨he,[],bQ,trivial⟩,aR⟩,rfl,trivial⟩
 .generalize pdq (Go.Proofs.ltOf λ(x y:Sml a)=>cf x.1 y.1) sm.toArray 0 sm.toArray.size (Lib.bitLen sm.toArray.size) true true=d' at gg qX
  have bF:sm.toArray.size=xs.length:=by simpa using hlen
  have yc:d'.size=xs.length:=by rw[qX,bF]
  have eZ:=Ro (λ(x:Sml a)=>encT a x.1) a.size (λx=>JM a x.1 ha) d';have sE:(flatK (λ(x:Sml a)=>encT a x.1) a.size d').toList=(List.map (encT a) ys).flatten:=by rw[eZ,<-gg,vz];rfl
  have lN:ys.length=xs.length:=by rw[<-gg];simpa using yc
  have hb:gb<w.heap.size:=(jf.1 hg).1;have yp:(flatK (λ(x:Sml a)=>encT a x.1) a.size d').size=xs.length*a.size:=by rw[size_flatK,yc]
  obtain⟨gV,an,mD,wO⟩:=Rq (w:=Sort.ahead w n) (F:=flatK (λ(x:Sml a)=>encT a x.1) a.size d') hg (by rw[yp,dr];exact jv _ cJ);have cP:(putRow id (Sort.ahead w n) gb 0 (flatK (λ(x:Sml a)=>encT a x.1) a.size d')).heap.size=w.heap.size:=by simp
  have hP:∀k,k<w.heap.size->k≠gb->(Go.Proofs.sortWorldK (λ(x:Sml a)=>encT a x.1) a.size w gb 0 n d' os).heap[k]? = w.heap[k]? := λk hk aT=>
   (ET (by show k<(putRow id (Sort.ahead w n) gb 0 (flatK (λ(x:Sml a)=>encT a x.1) a.size d')).heap.size;rw[cP];exact hk)).trans (Rr aT)
  have ez:w.heap.size<=(Go.Proofs.sortWorldK (λ(x:Sml a)=>encT a x.1) a.size w gb 0 n d' os).heap.size:=by show w.heap.size<=((putRow id (Sort.ahead w n) gb 0 (flatK (λ(x:Sml a)=>encT a x.1) a.size d')).heap++os).size;rw[Array.size_append,cP];omega
  have gC:∀o,¬S gb o:=aR gb rfl;refine⟨rfl,trivial,by simp[fj],by simp[fj],?_,?_,λg o h=>Or.inl h,λg o h=>kr (hS g o h) ez,?_,ez,rfl,rfl,rfl,by intro n s hm;simp[mE,rvsF]at hm,by intro m hm;simp[mE,rvsF]at hm⟩
  .refine⟨⟨a,ys,rfl,.inl ⟨he,ys.map (encT a),⟨?_,Or.inr ⟨gb,cap,gV,?_,k7 _,?_,?_,rY,?_,?_⟩⟩,(BF ha).2 rfl⟩,aR⟩,rfl,trivial⟩
   .rw[<-sE,q9,yp,lN]
   .rw[lN]
   .exact(ET (by show gb<(putRow id (Sort.ahead w n) gb 0 (flatK (λ(x:Sml a)=>encT a x.1) a.size d')).heap.size;rw[cP];exact hb)).trans an
   .rw[lN];exact cJ
   .rw[mD,dr]
   .rw[lN,<-yp,wO,sE]
  .intro g' o sq;refine⟨sq,?_⟩;have aT:g'≠gb:=λhe=>gC o (he▸sq);exact World.cell?_of_block (hP g' (hS g' o sq) aT)
  .intro g' iA eu;refine hP g' iA λhe=>eu ?_;subst he;simp[oF,ym,argF,dZ,kN,blk,ofHL,APat.n]
theorem EU{α:Type}(key:α->Int)(hk:∀x, -1152921504606846976<=key x/\key x<=1152921504606846976)(cf:α->α->Int)(h:∀x y,cf x y=w64 (key x-key y)):SWO (Go.Proofs.ltOf cf):=by
 have e:∀x y,Go.Proofs.ltOf cf x y=decide (key x<key y):=by intro x y;have h1:=hk x;have h2:=hk y;have:w64 (key x-key y)=key x-key y:=ah (by omega) (by omega);simp only[Go.Proofs.ltOf,h,this];congr 1;exact propext ⟨λh=>by omega,λh=>by omega⟩
 refine⟨λx=>?_,λx y z=>?_,λx y z=>?_⟩
 .rw[e];simp
 .rw[e,e,e];simp only[jk];omega
 .rw[e,e,e];simp only[ko];omega
open Go.Sort
def wP(xs:List Int):Option (List Int):=cond (Nat.blt xs.length 4611686018427387904) (some (nX xs)) none
theorem insI_perm(x:Int):∀l:List Int,(insI x l).Perm (x::l)
 |[]=>List.Perm.refl _
 |y::ys=>by
  unfold insI;cases decide (x<=y) with
  |true=>exact List.Perm.refl _
  |false=>exact((insI_perm x ys).cons y).trans (List.Perm.swap x y ys)
theorem isortI_perm:∀l:List Int,(nX l).Perm l
 |[]=>List.Perm.refl _
 |x::xs=>(insI_perm x _).trans ((isortI_perm xs).cons x)
theorem Ru(x:Int):∀l:List Int,l.Pairwise (· <= ·)->(insI x l).Pairwise (· <= ·)
 |[],_=>List.pairwise_singleton _ _
 |y::ys,h=>by
  have hc:=qf.1 h;unfold insI;cases hd:decide (x<=y) with
  |true=>
   have hd:=qd hd;refine qf.2 ⟨λz hz=>?_,h⟩;rcases jd.1 hz with rfl|hz
   .exact hd
   .have:=hc.1 z hz;omega
  |false=>
   have hd:=of_decide_eq_false hd;refine qf.2 ⟨λz hz=>?_,Ru x ys hc.2⟩;rcases jd.1 ((insI_perm x ys).mem_iff.1 hz) with rfl|hz
   .omega
   .exact hc.1 z hz
theorem JQ:∀l:List Int,(nX l).Pairwise (· <= ·)
 |[]=>List.Pairwise.nil
 |x::xs=>Ru x _ (JQ xs)
theorem Rv(xs:List Int):(xs.mergeSort λx y=>decide (x<=y))=nX xs:=by
 refine List.Perm.eq_of_pairwise (le:=(· <= ·)) (λa b _ _ h1 h2=>Int.le_antisymm h1 h2) ?_ (JQ xs) ((List.mergeSort_perm _ _).trans (isortI_perm xs).symm);have:=List.pairwise_mergeSort (le:=λx y:Int=>decide (x<=y)) (λa b c h1 h2=>by simp at h1 h2 ⊢;omega) (λa b=>by simp;omega) xs;exact this.imp (λh=>by simpa using h)
theorem jvw{xs:List Int}(h:xs.length<4611686018427387904):∃ys,wP xs=some ys/\ys.Perm xs/\ys.Pairwise (· <= ·):=by
 unfold wP;rw[show Nat.blt xs.length 4611686018427387904=true from Nat.ble_eq_true_of_le h];exact⟨_,rfl,isortI_perm xs,JQ xs⟩
theorem jym(w:World)(g:Nat)(zs:List Int):putRow (Value.int .i64) w g 0 zs.toArray=putRow id w g 0 (zs.map (Value.int .i64)).toArray:=by
 have:putCells (Value.int .i64) 0 zs.toArray=putCells id 0 (zs.map (Value.int .i64)).toArray:=by
  funext c
  unfold putCells;refine Array.ext_getElem? λk=>?_;simp only[Array.getElem?_mapIdx,k7,kp,jz,Nat.sub_zero,zw,kb,id];cases c[k]? with
  |none=>rfl
  |some x=>
   simp only[ki];by_cases hk:k<zs.length
   .rw[if_pos hk,if_pos hk,getElem!_pos _ k (by simpa using hk),getElem!_pos _ k (by simpa using hk)];simp
   .rw[if_neg hk,if_neg hk]
 unfold putRow;rw[this]
theorem jvx{w:World}{g:Nat}{zs:List Int}(h:Holds id w g 0 (zs.map (Value.int .i64)).toArray):Holds (Value.int .i64) w g 0 zs.toArray:=by
 intro j hj;have gE:j<zs.length:=by simpa using hj
 have:=h j (by simpa using gE);refine⟨this.1.trans ?_,this.2⟩;rw[getElem!_pos _ j (by simpa using gE),getElem!_pos _ j hj];simp
theorem JR(zs:List Int):(zs.map (encT (.int .i64))).flatten=zs.map (Value.int .i64):=by
 induction zs with
 |nil=>rfl
 |cons z zs ih=>simp only[ka,ke,ih];rfl
variable{P:Program}{ρ:Go.Shelf.Ren}
theorem jtF(L:Go.Proofs.SlLaysM.n5 P ρ)(e:Nat)(he:isM e=false)(f:Nat)(hf:f=ρ.f 5) :
  Con.OK P ⟨f,[.rl e (.list (.int .i64))],[.list (.int .i64)],⟨[],[.rl (.list (.int .i64))]⟩,[.list (.int .i64)],wP⟩:=by
 subst hf;intro args R k r hk;unfold Con.C at hk;split at hk
 rotate_left
 .simp at hk
 rename_i h hu;rw[EB hu];clear hu
 obtain⟨ys,gg,JO⟩:∃ys,wP h=some ys/\k (mE ⟨[],[.rl (.list (.int .i64))]⟩ [.list (.int .i64)] ys)=some r:=by
  cases hs:wP h with
  |none=>simp only[hs,Option.bind_none]at hk;exact absurd hk (by simp)
  |some ys=>simp only[hs,j3]at hk;exact⟨ys,rfl,hk⟩
 clear hk;refine⟨?_,?_⟩
 .obtain⟨nm,hn,mn⟩:=L.f5;exact⟨_,mn,rfl,hn⟩
 intro w S vals hA dy hS;have hA:All2 (mm S w) [.rl e ⟨.list (.int .i64),h⟩] vals:=hA
 obtain⟨u0,rfl⟩:∃u0,vals=[u0]:=by
  match vals,hA with
  |[u0],_=>exact⟨u0,rfl⟩
 obtain⟨⟨a',xs,hx,kY,aR⟩,_⟩:=hA
 obtain⟨css,bQ,al⟩:∃css,w.ownsRow 0 e a'.size u0 xs.length css.flatten/\All2 (λx c=>Rep S w a' x c) xs css:=by
  rcases kY with⟨_,css,h1,h2⟩|⟨h1,_⟩
  .exact⟨css,h1,h2⟩
  .rw[he]at h1;simp at h1
 obtain⟨rfl,hx⟩:Ty.int .i64=a'/\HEq h xs:=by have h1:=jl TV.t hx;simp only[Ty.list.injEq]at h1;subst h1;refine⟨rfl,?_⟩;simp only[TV.mk.injEq,heq_eq_eq,kp]at hx;rw[hx]
 obtain rfl:xs=h:=(eq_of_heq hx).symm;obtain rfl:=(BF (a:= .int .i64) rfl).1 al;have eZ:(List.map (encT (.int .i64)) xs).flatten=List.map (Value.int .i64) xs:=JR xs;rw[eZ]at bQ;unfold wP at gg;cases oG:Nat.blt (List.length xs) 4611686018427387904 with
 |false=>rw[oG]at gg;simp at gg
 |true=>
 rw[oG]at gg;simp only[j5,j4]at gg;have oG:List.length xs<4611686018427387904:=zu oG;have lN:ys.length=List.length xs:=by rw[<-gg];exact(isortI_perm xs).length_eq
 have pY:Calls P (ρ.f 5) #[u0] w λe' w'=>e' = .returned (.tuple #[])/\(w'=w/\xs=[]\/∃gb cap cur n os,u0 = .slice (some ⟨gb,0,none⟩) (List.length xs) cap/\w.heap[gb]? = some (.cells cur e (0,0))/\List.length xs<=cap/\cap<=maxLen/\cur.size=cap*1/\
   w'=grow (putRow id (Sort.ahead w n) gb 0 (ys.map (Value.int .i64)).toArray) os):=by
  rcases bQ.2 with⟨rfl,hn⟩|⟨gb,cap,cur,rfl,_,hg,cJ,rY,dr,iS⟩
  .refine(Go.Proofs.AnyM.slices_Sort_int_none L none 0 w).mono ?_
   rintro e' w' ⟨rfl,rfl⟩
   exact⟨rfl,Or.inl ⟨rfl,zd.1 hn⟩⟩
  .have hH:Holds (Value.int .i64) w gb 0 (List.toArray xs):=jvx (Rp hg (by simpa[Ty.size]using iS));have hb:gb<w.heap.size:=(jf.1 hg).1;refine(Go.Proofs.AnyM.slices_Sort_int L gb 0 cap xs w hH hb oG).mono ?_
   rintro e' w' ⟨rfl,n,os,rfl⟩
   rw[Rv,gg,jym];exact⟨rfl,Or.inr ⟨gb,cap,cur,n,os,rfl,hg,cJ,rY,dr,rfl⟩⟩
 refine pY.mono ?_
 rintro e' w' ⟨rfl,hw⟩
 refine⟨_,JO,_,S,[],rfl,?_⟩;rcases hw with⟨rfl,rfl⟩|⟨gb,cap,cur,n,os,rfl,hg,cJ,rY,dr,rfl⟩
 .have gg:ys=[]:=zd.1 (by simpa using lN);subst gg;refine⟨rfl,trivial,by simp[fj],by simp[fj],?_,dn.refl _ _,λg o h=>Or.inl h,hS,λg _ _=>rfl,jq _,rfl,rfl,rfl,by intro n s hm;simp[mE,rvsF]at hm,by intro m hm;simp[mE,rvsF]at hm⟩;exact⟨⟨.int .i64,[],rfl,.inl ⟨he,[],bQ,trivial⟩,aR⟩,rfl,trivial⟩
 .have hb:gb<w.heap.size:=(jf.1 hg).1;have yp:(ys.map (Value.int .i64)).toArray.size=List.length xs:=by simp[lN]
  obtain⟨gV,an,mD,wO⟩:=Rq (w:=Sort.ahead w n) (F:=(ys.map (Value.int .i64)).toArray) hg (by rw[yp,dr];omega);have cP:(putRow id (Sort.ahead w n) gb 0 (ys.map (Value.int .i64)).toArray).heap.size=w.heap.size:=by simp
  have hP:∀k,k<w.heap.size->k≠gb->(grow (putRow id (Sort.ahead w n) gb 0 (ys.map (Value.int .i64)).toArray) os).heap[k]? = w.heap[k]? := λk hk aT=>
   (ET (by rw[cP];exact hk)).trans (Rr aT)
  have ez:w.heap.size<=(grow (putRow id (Sort.ahead w n) gb 0 (ys.map (Value.int .i64)).toArray) os).heap.size:=by show w.heap.size<=((putRow id (Sort.ahead w n) gb 0 (ys.map (Value.int .i64)).toArray).heap++os).size;rw[Array.size_append,cP];omega
  have gC:∀o,¬S gb o:=aR gb rfl;refine⟨rfl,trivial,by simp[fj],by simp[fj],?_,?_,λg o h=>Or.inl h,λg o h=>kr (hS g o h) ez,?_,ez,rfl,rfl,rfl,by intro n s hm;simp[mE,rvsF]at hm,by intro m hm;simp[mE,rvsF]at hm⟩
  .refine⟨⟨.int .i64,ys,rfl,.inl ⟨he,ys.map (encT (.int .i64)),⟨?_,Or.inr ⟨gb,cap,gV,?_,k7 _,?_,?_,rY,?_,?_⟩⟩,(BF (a:= .int .i64) rfl).2 rfl⟩,aR⟩,rfl,trivial⟩
   .rw[JR];simp[Ty.size]
   .rw[lN]
   .exact(ET (by rw[cP];exact hb)).trans an
   .rw[lN];exact cJ
   .rw[mD,dr];rfl
   .rw[JR,lN,show List.length xs*(Ty.int .i64).size=(ys.map (Value.int .i64)).toArray.size by rw[yp];simp[Ty.size],wO]
  .intro g' o sq;refine⟨sq,?_⟩;have aT:g'≠gb:=λhe=>gC o (he▸sq);exact World.cell?_of_block (hP g' (hS g' o sq) aT)
  .intro g' iA eu;refine hP g' iA λhe=>eu ?_;subst he;simp[oF,ym,argF,dZ,kN,blk,ofHL]
open Go.Sort Go.Maps Go.Shelf
variable{P:Program}{ρ ρ' ρ'':Ren}
abbrev pZ:Value->Option (DataW Unit×List MemPlace):=λ_=>some (.lit (.bool true),[])
theorem Rw(w:World)(o:Obj){k:Nat}(hk:k<w.heap.size):(w.alloc o).heap[k]? = w.heap[k]? := by
 show (w.heap.push o)[k]? = _;rw[Array.getElem?_push,if_neg (by omega)]
theorem jvy{w:World}{g:Nat}{es:Array MapEntry}{clock:Nat}{ks:List Int}{k:TypeId}(hk:P.underlying k=some (.int .i64))(hh:w.heap[g]? = some (.map es clock))(aA:MapKept.Stamped es clock)
  (hks:es.toList.map (·.key)=ks.map (Value.int .i64))(hr:∀x∈ks, -9223372036854775808<=x/\x<=9223372036854775807)(hl:ks.length<=1000000) :
  ∃D:DataW Unit,w.ownsMap P k pZ g es.size D/\ks.Perm (intKeys D)/\Maps.size D=ks.length:=by
 have BG:∀x∈es.toList,∃z,x.key = .int .i64 z/\keyOf P k x.key=some (.int .i64 z):=by intro x hx;have:x.key∈es.toList.map (·.key):=jx.2 ⟨x,hx,rfl⟩;rw[hks]at this;obtain⟨z,hz,he⟩:=jx.1 this;refine⟨z,he.symm,?_⟩;rw[<-he];exact keyOf_int_mk hk (by have:=hr z hz;simp[Lit.wf,show IntKind.i64.min = -9223372036854775808 by decide,show IntKind.i64.max=9223372036854775807 by decide];omega)
 have hlen:es.size=ks.length:=by have:=jl List.length hks;simpa using this
 refine⟨_,⟨es,clock,hh,⟨by rw[hlen];simp[maxLen];omega,aA,λx hx=>?_⟩,jq _,rfl⟩,?_,?_⟩
 .obtain⟨z,_,hz⟩:=BG x hx;exact⟨(.int .i64 z,.lit (.bool true)),by simp[WideElems.rd,hz]⟩
 .have e:(es.toList.map (WideElems.rg P k pZ)).map (λp=>intOf p.1)=ks:=by
   have:∀(l:List MapEntry)(ks:List Int),(∀x∈l,∃z,x.key = .int .i64 z/\keyOf P k x.key=some (.int .i64 z))->l.map (·.key)=ks.map (Value.int .i64)->(l.map (WideElems.rg P k pZ)).map (λp=>intOf p.1)=ks:=by
    intro l;induction l with
    |nil=>intro ks _ h;cases ks<;>simp_all
    |cons x r ih=>
     intro ks hx h;cases ks with
     |nil=>simp at h
     |cons z q=>
      simp only[ka,zt]at h ⊢;obtain⟨z',h1,h2⟩:=hx x (by simp);refine⟨?_,ih q (λy hy=>hx y (by simp[hy])) h.2⟩;rw[h.1]at h1;have:z=z':=by simpa using h1
      subst this;simp[WideElems.rg,WideElems.rd,h2,intOf]
   exact this _ _ BG hks
  show ks.Perm (((es.toList.map (WideElems.rg P k pZ)).foldr DataW.insert []).map λp=>intOf p.1);exact(e▸((WideShapes.sorted_perm _).map (λp:Lit×DataW Unit=>intOf p.1)).symm)
 .show ((es.toList.map (WideElems.rg P k pZ)).foldr DataW.insert []).length=ks.length;rw[length_sorted];simp[hlen]
theorem jtG(LK:Go.Proofs.SlLaysZI.n7 P ρ)(LS:Go.Proofs.SlLaysZI.n6 P ρ')(LM:Go.Proofs.SlLaysM.n5 P ρ''){fK fS e:Nat}(hK:ρ.f 7=fK)(hS:ρ'.f 6=fS)(he:ρ'.t 26=e)(hm:ρ''.f 5=ρ'.f 9):Ij P fK fS e:=by
 subst hK;subst hS;subst he;refine⟨?_,?_,?_⟩
 .obtain⟨nm,hn,mn⟩:=LK.f7;exact⟨_,mn,rfl,hn⟩
 .obtain⟨nm,hn,mn⟩:=LS.f6;exact⟨_,mn,rfl,hn⟩
 intro w g es clock ks hh aA hks hr hl;obtain⟨D,aJ,BH,bF⟩:=jvy (P:=P) LK.t26 hh aA hks hr hl;have r8:=aJ.lt;have cK:=callsIn_wide.1 (Go.Proofs.AnyZI.keys_in LK Fence.wide 5 trivial rfl (some g) w);refine cK.mono ?_
 rintro r w1 ⟨rfl,rfl⟩
 refine⟨_,rfl,⟨λk hk=>Rw w _ hk,by simp,rfl,rfl,rfl⟩,?_⟩
 have JS:=Go.Proofs.AnyZI.keys_gives (ρ:=ρ) { LK with } Fence.wide 2 trivial rfl (by omega) w.heap.size g es.size D (w.alloc (.cells #[.map (some g)] (ρ.t 23))) (by simp) (by simp) (by
  obtain⟨es,clock,hb,Ft,hs,hD⟩:=aJ;exact⟨es,clock,(Rw w _ r8).trans hb,Ft,hs,hD⟩)
 have wQ:Go.Proofs.AnyZI.SortsIn P ρ' Fence.wide 4:=by unfold Go.Proofs.AnyZI.SortsIn;rw[<-hm];exact⟨λblk off cap ss W hH hblk bF=>callsIn_wide.2 (Go.Proofs.AnyM.slices_Sort_int LM blk off cap ss W hH hblk bF),λp cap W=>callsIn_wide.2 (Go.Proofs.AnyM.slices_Sort_int_none LM p cap W)⟩
 have cS:=callsIn_wide.1 (Go.Proofs.AnyZI.sorted_in LS Fence.wide 5 trivial trivial trivial trivial rfl (by omega) wQ (hm▸LM.f5.enters rfl) (ρ.f 10) #[.pointer (some ⟨w.heap.size,0,none⟩)] trivial (LK.f10.enters rfl) _ _ (by rw[bF];simp[maxLen];omega) (by rw[bF];omega) _ JS);refine cS.mono ?_
 rintro r2 w2 ⟨v,ss,rfl,hS,bQ,eM,hb⟩
 refine⟨v,rfl,?_,⟨hb.block,hb.size,hb.os,hb.tape,hb.output⟩⟩;have hp:ss.Perm ks:=hS.trans BH.symm;rw[<-Rv ks,<-mergeSort_of_perm_i hp,<-hp.length_eq];exact bQ
end Go.Lft
