/- eU 3: span.Merge: the wj form of any KW. -/
import Derived.Test.YtbpjdcbbmibehaaGreatWEPA
import Derived.Test.YtbpjdcbbmibehaaGreatWEFns
import Derived.Test.YtbpjdcbbmibehaaGreatWEPC
open Go Go.Lft
namespace Go.Proofs.Pw
abbrev SL:=List (Int×Int)
def dI(x:Int)(l:SL):Prop:=∃s∈l,s.1<=x/\x<s.2
def ed(p:Int):SL->Prop
 |[]=>True
 |x::r=>p<x.1/\x.1<x.2/\ed x.2 r
def Sml(l:SL):Prop:=∀s∈l, -1000000000000<=s.1/\s.1<=1000000000000 /\ -1000000000000<=s.2/\s.2<=1000000000000
theorem iB{x:Int}:¬dI x []:=by rintro⟨s,hs,_⟩;simp at hs
theorem eF{x:Int}{s:Int×Int}{l:SL}:dI x (s::l)↔(s.1<=x/\x<s.2)\/dI x l:=by
 constructor
 .rintro⟨u,hu,h⟩
  rcases jf.1 hu with rfl|hu
  .exact Or.inl h
  .exact Or.inr ⟨u,hu,h⟩
 .rintro (h|⟨u,hu,h⟩)
  .exact⟨s,by simp,h⟩
  .exact⟨u,by simp[hu],h⟩
theorem uB{x:Int}{l r:SL}:dI x (l++r)↔dI x l\/dI x r:=by
 constructor
 .rintro⟨u,hu,h⟩
  rcases jp.1 hu with hu|hu
  .exact Or.inl ⟨u,hu,h⟩
  .exact Or.inr ⟨u,hu,h⟩
 .rintro (⟨u,hu,h⟩|⟨u,hu,h⟩)
  .exact⟨u,by simp[hu],h⟩
  .exact⟨u,by simp[hu],h⟩
def nE(s:Int×Int):Bool:= !(decide (s.2<=s.1))
theorem KX{l:SL}(hl:l.length<=10000000):∀(n i:Nat),i+n=l.length->(∀s∈l.take i,nE s=true)->
  (∃j:Nat,xn (l.length:Int) (i:Int) l=some (.inl ((j:Int),l))/\j<l.length/\(∀s∈l.take j,nE s=true)/\nE (l.getD j (0,0))=false)\/
  (xn (l.length:Int) (i:Int) l=some (.inr l)/\∀s∈l,nE s=true)
 |0,i,hi,h=>by
  rw[JH];simp only[j0q];rw[aw (by omega),j7,bC];rw[List.take_of_length_le (by omega)]at h;exact Or.inr ⟨rfl,h⟩
 |n+1,i,hi,h=>by
  rw[JH];simp only[j0q,j3T];rw[ao (show (i:Int)<(l.length:Int) by omega),bT (by omega) (by omega),an (x:=(i:Int)+1) (by omega) (by omega)];simp only[j6,j8,j4];have ak:i<l.length:=by omega
  cases hc:decide ((l.getD i ((0:Int),(0:Int))).2<=(l.getD i ((0:Int),(0:Int))).1) with
  |true=>simp only[j6,bC];exact Or.inl ⟨i,rfl,ak,h,by simp only[nE];rw[hc];rfl⟩
  |false=>
   simp only[j7,bF];refine KX hl n (i+1) (by omega) λs hs=>?_;rw[List.take_add_one]at hs;rcases jp.1 hs with hs|hs
   .exact h s hs
   .have cU:l.getD i ((0:Int),(0:Int))=l[i]:=by simp[ak]
    rw[cU]at hc;rw[jq ak]at hs;simp at hs;subst hs;simp only[nE];rw[hc];rfl
theorem Fw{l:SL}(hl:l.length<=10000000):∀(n i j:Nat)(b:SL),j+n=l.length->i<=j->b.length=l.length->b.drop j=l.drop j->b.take i=(l.take j).filter nE->
  ∃(k:Nat)(b':SL),zT (i:Int) (j:Int) b=some ((k:Int),b')/\b'.length=l.length/\k<=l.length/\b'.take k=l.filter nE
 |0,i,j,b,hj,cg,hb,hd,ht=>by
  rw[JI];simp only[j0o,show Int.ofNat (List.length b)=(b.length:Int) from rfl];rw[aw (by omega),j7,bC];rw[List.take_of_length_le (l:=l) (by omega)]at ht;exact⟨i,b,rfl,hb,by omega,ht⟩
 |n+1,i,j,b,hj,cg,hb,hd,ht=>by
  have ak:j<l.length:=by omega
  have wM:b.getD j ((0:Int),(0:Int))=l[j]:=by
   have:b[j]? = l[j]? := by
    have h:=kc (λx=>x[0]?) hd;simpa[List.getElem?_drop]using h
   rw[jz,this,jq ak];rfl
  have eh:b.drop (j+1)=l.drop (j+1):=by have:=kc (List.drop 1) hd;simpa[List.drop_drop]using this
  have tJ:l.take (j+1)=l.take j++[l[j]]:=by rw[List.take_add_one,jq ak];rfl
  rw[JI];simp only[j0o,j3T,show Int.ofNat (List.length b)=(b.length:Int) from rfl];rw[ao (show (j:Int)<(b.length:Int) by omega),bT (by omega) (by omega),bT (by omega) (by omega),an (x:=(j:Int)+1) (by omega) (by omega),an (x:=(i:Int)+1) (by omega) (by omega)];simp only[j6,j8,j4,wM];cases hc:decide (l[j].2<=l[j].1) with
  |true=>simp only[ju,j7,bF];refine Fw hl n i (j+1) b (by omega) (by omega) hb eh ?_;rw[tJ,List.filter_append,ht];simp[nE,hc]
  |false=>
   simp only[qc,j6,bF];refine Fw hl n (i+1) (j+1) _ (by omega) (by omega) (by simpa using hb) ?_ ?_
   .rw[List.drop_set_of_lt (by omega)];exact eh
   .have vc:i<b.length:=by omega
    rw[List.take_add_one,List.take_set_of_le (jr _),List.getElem?_set_self vc,ht,tJ,List.filter_append];simp[nE,hc]
theorem UO{l:SL}(hl:l.length<=10000000):∃n m,j0H l=some (n,m)/\m.take n.toNat=l.filter nE:=by
 simp only[j0H,j13,show Int.ofNat (List.length l)=(l.length:Int) from rfl];rcases KX hl l.length 0 (by omega) (by simp) with⟨j,e,hj,h1,h2⟩|⟨e,h⟩
 .rw[show ((0:Nat):Int)=0 from rfl]at e;rw[e];simp only[j4,Qv];rw[nC (by omega),an (x:=(j:Int)+1) (by omega) (by omega)];have cU:l.getD j ((0:Int),(0:Int))=l[j]:=by simp[hj]
  rw[cU]at h2
  obtain⟨k,b,e2,hb,hk,ht⟩:=Fw hl (l.length-(j+1)) j (j+1) l (by omega) (by omega) rfl rfl (by
   rw[List.take_add_one,jq hj,List.filter_append,List.filter_eq_self.2 h1];simp[h2])
  rw[show ((j:Int)+1)=((j+1:Nat):Int) from rfl,e2];simp only[j7,j4,show Int.ofNat (List.length b)=(b.length:Int) from rfl,j8];rw[ao (show (0:Int)<=(k:Int) by omega),ao (show (k:Int)<=(b.length:Int) by omega)];simp only[Bool.and_self,j6,Bool.true_and];rw[ao (by simp;omega),j6];refine⟨_,_,rfl,?_⟩;simp only[show (Int.ofNat k).toNat=k from rfl];rw[List.take_append_of_le_length (by simp;omega),zk,Nat.min_self,ht]
 .rw[show ((0:Nat):Int)=0 from rfl]at e;rw[e];simp only[j4,ub,ze,j6];refine⟨_,_,rfl,?_⟩;simp only[show (Int.ofNat l.length).toNat=l.length from rfl];rw[List.take_of_length_le (jr _),List.filter_eq_self.2 h]
def gP(e:Int×Int):SL->SL
 |[]=>[e]
 |s::r=>if s.1<=e.2 then gP (e.1,if s.2>e.2 then s.2 else e.2) r else e::gP s r
def mg:SL->SL
 |[]=>[]
 |s::r=>gP s r
theorem Fx{L:SL}(hL:L.length<=10000000):∀(n i:Nat)(A:SL)(e:Int×Int),i+n=L.length->A.length<i->
  xo (L.length:Int) (i:Int) (A++[e]) L=some (A++gP e (L.drop i))
 |0,i,A,e,hi,hA=>by
  rw[D2];simp only[j1z];rw[aw (by omega),j7,bC,jd (by omega)];rfl
 |n+1,i,A,e,hi,hA=>by
  have ak:i<L.length:=by omega
  have cU:L.getD i ((0:Int),(0:Int))=L[i]:=by simp[ak]
  have hle:(A++[e]).length=A.length+1:=by simp
  have la:(A++[e]).getD A.length ((0:Int),(0:Int))=e:=by simp
  rw[D2,je ak];simp only[j1z,gP,show Int.ofNat (List.length (A++[e]))=((A.length:Int)+1) from by rw[hle];rfl]
  rw[ao (show (i:Int)<(L.length:Int) by omega),bT (by omega) (by omega),ao (show (A.length:Int)+1>0 by omega),an (x:=(A.length:Int)+1-1) (by omega) (by omega),an (x:=(i:Int)+1) (by omega) (by omega),
   bT (by omega) (by rw[hle];omega),show ((A.length:Int)+1-1).toNat=A.length by omega]
  simp only[j6,j8,cU,la];by_cases hc:L[i].1<=e.2
  .rw[ao hc,if_pos hc];simp only[j6,bF]
   rw[show (A++[e]).set A.length (e.1,if L[i].2>e.2 then L[i].2 else e.2)=A++[(e.1,if L[i].2>e.2 then L[i].2 else e.2)] by
    rw[List.set_append_right _ _ (jr _)];simp]
   exact Fx hL n (i+1) A _ (by omega) (by omega)
  .rw[aw hc,if_neg hc,ao (by rw[hle];simp[bI];omega)];simp only[j7,j6,bF];have:=Fx hL n (i+1) (A++[e]) L[i] (by omega) (by rw[hle];omega);rw[show A++e::gP L[i] (L.drop (i+1))=A++[e]++gP L[i] (L.drop (i+1)) by simp];exact this
theorem UP{L:SL}(hL:L.length<=10000000):xo (L.length:Int) 0 [] L=some (mg L):=by
 rw[D2];simp only[j1z];cases L with
 |nil=>rw[aw (by simp),j7,bC];rfl
 |cons s r=>rw[ao (show (0:Int)<((s::r).length:Int) by simp only[jm];omega),bT (by omega) (by simp only[jm];omega)];simp only[j6,show Int.ofNat (List.length ([]:SL))=0 from rfl];rw[aw (show¬((0:Int)>0) by omega),j7,ao (by simp[bI]),an (x:=(0:Int)+1) (by omega) (by omega)];simp only[j6,bF];have:=Fx hL r.length 1 [] s (by simp;omega) (by simp);simpa[mg]using this
def xI:SL->Prop
 |[]=>True
 |s::r=>(∀u∈r,s.1<=u.1)/\xI r
theorem Fy:∀{r:SL}{e:Int×Int}{p:Int},p<e.1->e.1<e.2->(∀s∈r,nE s=true)->xI r->ed p (gP e r)
 |[],e,p,h1,h2,_,_=>⟨h1,h2,trivial⟩
 |s::r,e,p,h1,h2,h3,h4=>by
  simp only[gP];have hs:s.1<s.2:=by have:=h3 s (by simp);simp[nE]at this;omega
  split
  .exact Fy (by exact h1) (by dsimp only;split<;>omega) (λu hu=>h3 u (by simp[hu])) h4.2
  .exact⟨h1,h2,Fy (by omega) hs (λu hu=>h3 u (by simp[hu])) h4.2⟩
theorem Fz{x:Int}:∀{r:SL}{e:Int×Int},(∀s∈r,e.1<=s.1)->(∀s∈r,nE s=true)->xI r->(dI x (gP e r)↔(e.1<=x/\x<e.2)\/dI x r)
 |[],e,_,_,_=>by simp[gP,dI]
 |s::r,e,h1,h3,h4=>by
  have hs:s.1<s.2:=by have:=h3 s (by simp);simp[nE]at this;omega
  have he:e.1<=s.1:=h1 s (by simp);simp only[gP];split
  .rw[Fz (e:=(e.1,if s.2>e.2 then s.2 else e.2)) (λu hu=>h1 u (by simp[hu])) (λu hu=>h3 u (by simp[hu])) h4.2,eF];dsimp only;constructor
   .rintro (⟨a,b⟩|h)
    .split at b
     .by_cases hx:x<e.2
      .exact Or.inl ⟨a,hx⟩
      .exact Or.inr (Or.inl ⟨by omega,b⟩)
     .exact Or.inl ⟨a,b⟩
    .exact Or.inr (Or.inr h)
   .rintro (⟨a,b⟩|⟨a,b⟩|h)
    .exact Or.inl ⟨a,by split<;>omega⟩
    .exact Or.inl ⟨by omega,by split<;>omega⟩
    .exact Or.inr h
  .rw[eF,Fz h4.1 (λu hu=>h3 u (by simp[hu])) h4.2,eF]
theorem FA:∀(r:SL)(e:Int×Int),(gP e r).length<=r.length+1
 |[],e=>by simp[gP]
 |s::r,e=>by
  simp only[gP];split
  .have:=FA r (e.1,if s.2>e.2 then s.2 else e.2);simp only[jm];omega
  .have:=FA r s;simp only[jm];omega
theorem FB{lo hi:Int}:∀{r:SL}{e:Int×Int},(lo<=e.1/\e.2<=hi)->(∀s∈r,lo<=s.1/\s.2<=hi)->∀u∈gP e r,lo<=u.1/\u.2<=hi
 |[],e,h1,h2=>by simp only[gP];intro u hu;simp at hu;subst hu;exact h1
 |s::r,e,h1,h2=>by
  have hs:=h2 s (by simp);simp only[gP];split
  .exact FB ⟨h1.1,by dsimp only;split<;>omega⟩ (λu hu=>h2 u (by simp[hu]))
  .intro u hu;rcases jf.1 hu with rfl|hu
   .exact h1
   .exact FB hs (λu hu=>h2 u (by simp[hu])) u hu
theorem UQ{L:SL}(h:L.Pairwise (λx y=>¬w64 (y.1-x.1)<0))(hb:Sml L):xI L:=by
 induction L with
 |nil=>trivial
 |cons s r ih=>rw[List.pairwise_cons]at h;refine⟨λu hu=>?_,ih h.2 (λv hv=>hb v (by simp[hv]))⟩;have h1:=h.1 u hu;have h2:=hb s (by simp);have h3:=hb u (by simp[hu]);rw[an (x:=u.1-s.1) (by omega) (by omega)]at h1;omega
theorem UR:Go.Sort.SWO (Go.Proofs.ltOf λ(x y:Go.Lft.Sml (.pair (.int .i64) (.int .i64)))=>(j3c x.1 y.1).getD 0):=by
 refine Jh (λx=>x.1.1) (λx=>?_) _ λx y=>rfl;have:=x.2;simp only[gd,jb,jg]at this;exact this.1
theorem US{l:SL}(hl:l.length<=10000000)(hb:Sml l):∃L,j0y l=some L/\L.Perm l/\xI L:=by
 obtain⟨L,e,hp,hs⟩:=QC (a:= .pair (.int .i64) (.int .i64)) (cf:=λx y=>(j3c x y).getD 0) UR (xs:=l) (λx hx=>by
  have:=hb x hx;simp only[gd,jb,jg];refine⟨⟨?_,?_⟩,⟨?_,?_⟩⟩
  .exact Int.le_trans (by decide) this.1
  .exact Int.le_trans this.2.1 (by decide)
  .exact Int.le_trans (by decide) this.2.2.1
  .exact Int.le_trans this.2.2.2 (by decide)) (by show List.length l<_;omega)
 exact⟨L,e,hp,UQ hs λs hm=>hb s (hp.mem_iff.1 hm)⟩
theorem UT{l:SL}(hl:l.length<=10000000)(hb:Sml l){lo hi:Int}(eQ:∀s∈l,s.1<s.2->lo<=s.1/\s.2<=hi) :
  ∃out,j8n l=some out/\ed (lo-1) out/\(∀x,dI x out↔dI x l)/\out.length<=l.length/\∀u∈out,lo<=u.1/\u.2<=hi:=by
 obtain⟨n,m,e1,ht⟩:=UO hl;have dV:(l.filter nE).length<=l.length:=List.length_filter_le _ _;obtain⟨L,e2,hp,hs⟩:=US (l:=l.filter nE) (by omega) (λs h=>hb s (List.mem_filter.1 h).1);have hLl:L.length=(l.filter nE).length:=hp.length_eq;have uC:∀s,s∈L↔s∈l/\nE s=true:=λs=>hp.mem_iff.trans List.mem_filter
 have KY:∀x,dI x L↔dI x l:=by
  intro x;constructor
  .rintro⟨s,h,h2⟩;exact⟨s,((uC s).1 h).1,h2⟩
  .rintro⟨s,h,h2⟩;exact⟨s,(uC s).2 ⟨h,by simp only[nE];rw[aw (by omega)];rfl⟩,h2⟩
 have aB:∀s∈L,s.1<s.2:=λs h=>by have:=((uC s).1 h).2;simp[nE]at this;omega
 refine⟨mg L,?_,?_⟩
 .simp only[j8n,j1r];rw[ao (by simp[bI];omega)];simp only[j6,j4,kj,e1,ht,e2,show Int.ofNat (List.length L)=(L.length:Int) from rfl,UP (L:=L) (by omega)]
 .cases L with
  |nil=>refine⟨trivial,λx=>KY x,by simp[mg],by simp[mg]⟩
  |cons s r=>
   have h0:=eQ s ((uC s).1 (by simp)).1 (aB s (by simp));have hr:∀u∈r,nE u=true:=λu hu=>((uC u).1 (by simp[hu])).2;refine⟨Fy (by omega) (aB s (by simp)) hr hs.2,λx=>?_,?_,?_⟩
   .rw[<-KY x,eF];exact Fz hs.1 hr hs.2
   .have:=FA r s;simp only[mg,jm]at *;omega
   .exact FB h0 λu hu=>eQ u ((uC u).1 (by simp[hu])).1 (aB u (by simp[hu]))
def lv(o:Int)(l:bd)(a b:Int)(k:Nat):Nat->List (Int×(Int×Int))
 |0=>[]
 |n+1=>if aH l (k+1)<b then (a,(aH l (k+1),du o l k))::lv o l (aH l (k+1)) b (k+1) n else [(a,(b,du o l k))]
section
variable{o:Int}{l:bd}(h:jB o l)
include h
theorem KZ{b:Int}(hb:b<=8589934592):∀(n k:Nat)(a:Int)(acc:List (Int×(Int×Int))),k+n=l.length+1->k<=l.length->aH l k<=a->a<aH l (k+1)->a<b->acc.length<=k->
  zR a b o l acc=some (acc++lv o l a b k n)
 |0,k,a,acc,hn,hk,_,_,_,_=>by omega
 |n+1,k,a,acc,hn,hk,h1,h2,eS,ha=>by
  have hlen:=h.len;rw[zS];simp only[j0C,show Int.ofNat (List.length l)=(l.length:Int) from rfl,lv];rw[ao eS];simp only[j6,J8 h hk h1 h2,J9 h hk,j4];by_cases iy:k<l.length
  .have hf:aH l (k+1)=(l.getD k ((0:Int),(0:Int))).1:=mO iy;rw[ao (show (k:Int)<(l.length:Int) by omega),bT (by omega) (by omega)];simp only[j6,j8,<-hf];rw[ao (by simp[bI];omega),j6,bF];by_cases hc:aH l (k+1)<b
   .rw[if_pos hc,if_pos hc];have:=KZ hb n (k+1) (aH l (k+1)) (acc++[(a,(aH l (k+1),du o l k))]) (by omega) (by omega) (by omega) (h.frm_lt (by omega)) hc (by simp;omega);rw[jj]at this;exact this
   .rw[if_neg hc,if_neg hc];rw[zS];simp only[j0C];rw[aw (by omega),j7,bC]
  .have aY:k=l.length:=by omega
   have hf:aH l (k+1)=8589934593:=by rw[aY];exact uA
   rw[if_neg (show¬aH l (k+1)<b by omega),aw (by omega),j7,ao (by simp[bI];omega),j6,bF];rw[zS];simp only[j0C];rw[aw (by omega),j7,bC]
omit h in
theorem K0:∀(n k:Nat)(a b:Int),(lv o l a b k n).length<=n
 |0,k,a,b=>by simp[lv]
 |n+1,k,a,b=>by
  simp only[lv];split
  .have:=K0 n (k+1) (aH l (k+1)) b;simp;omega
  .simp
theorem K1{b:Int}:∀(n k:Nat)(a:Int),k+n=l.length+1->aH l k<=a->a<aH l (k+1)->a<b->
  ∀p∈lv o l a b k n,a<=p.1/\p.1<p.2.1/\p.2.1<=b/\∃i,k<=i/\i<=l.length/\p.2.2=du o l i/\aH l i<=p.1/\p.2.1<=aH l (i+1)
 |0,k,a,hn,h1,h2,eS,p,hp=>by simp[lv]at hp
 |n+1,k,a,hn,h1,h2,eS,p,hp=>by
  simp only[lv]at hp;split at hp
  .rename_i hc;rcases jf.1 hp with rfl|hp
   .exact⟨ql _,h2,by dsimp only;omega,k,jr _,by omega,rfl,h1,ql _⟩
   .cases n with
    |zero=>simp[lv]at hp
    |succ n=>
    obtain⟨a1,a2,a3,i,i1,i2,i3⟩:=K1 (n+1) (k+1) (aH l (k+1)) (by omega) (ql _) (h.frm_lt (by omega)) hc p hp;exact⟨by omega,a2,a3,i,by omega,i2,i3⟩
  .rename_i hc;simp at hp;subst hp;exact⟨ql _,eS,ql _,k,jr _,by omega,rfl,h1,by dsimp only;omega⟩
theorem K2{b:Int}(hb:b<=8589934592):∀(n k:Nat)(a:Int),k+n=l.length+1->k<=l.length->aH l k<=a->a<aH l (k+1)->a<b->
  ∀x,a<=x->x<b->∃p∈lv o l a b k n,p.1<=x/\x<p.2.1
 |0,k,a,hn,hk,h1,h2,eS,x,hx,my=>by omega
 |n+1,k,a,hn,hk,h1,h2,eS,x,hx,my=>by
  simp only[lv];split
  .rename_i hc;by_cases ak:x<aH l (k+1)
   .exact⟨_,qu ..,hx,ak⟩
   .have iy:k+1<=l.length:=by
     rcases qk k l.length with h'|h'
     .exact h'
     .have:k=l.length:=by omega
      subst this;rw[uA]at hc;omega
    obtain⟨p,hp,uY⟩:=K2 hb n (k+1) (aH l (k+1)) (by omega) iy (ql _) (h.frm_lt iy) hc x (by omega) my;exact⟨p,by simp[hp],uY⟩
  .exact⟨_,qu ..,hx,my⟩
theorem UU{a b:Int}(ha:0<=a)(eS:a<=b)(hb:b<=8589934592):∃ps,j3b (o,l) a b=some ps/\ps.length<=l.length+1/\
  (∀p∈ps,a<=p.1/\p.1<p.2.1/\p.2.1<=b/\∃i,i<=l.length/\p.2.2=du o l i/\aH l i<=p.1/\p.2.1<=aH l (i+1))/\∀x,a<=x->x<b->∃p∈ps,p.1<=x/\x<p.2.1:=by
 simp only[j3b];rcases Int.lt_or_le a b with ak|la
 .obtain⟨k,hk,h1,h2⟩:=Fb h ha (by omega);have:=KZ h hb (l.length+1-k) k a [] (by omega) hk h1 h2 ak (by simp);rw[kj]at this;rw[this];refine⟨_,rfl,?_,λp hp=>?_,K2 h hb _ k a (by omega) hk h1 h2 ak⟩
  .have:=K0 (o:=o) (l:=l) (l.length+1-k) k a b;omega
  .obtain⟨a1,a2,a3,i,_,i2⟩:=K1 h _ k a (by omega) h1 h2 ak p hp;exact⟨a1,a2,a3,i,i2⟩
 .rw[zS];simp only[j0C];rw[aw (by omega),j7,bC];exact⟨[],rfl,by simp,by simp,λx h1 h2=>by omega⟩
end
def dS(f t st:Int)(v:Int×Int):Int×Int:=(if st+v.1>f then st+v.1 else f,if st+v.2<t then st+v.2 else t)
theorem xJ{s:Int}:∀{w:WL},hasB s w=true↔∃v∈w,v.1<=s/\s<v.2
 |[]=>by simp[hasB]
 |x::r=>by
  simp only[hasB,jf];cases hc:cond (decide (x.1<=s)) (decide (s<x.2)) false with
  |true=>
   simp only[j6,true_iff];refine⟨x,Or.inl rfl,?_⟩;by_cases h1:x.1<=s
   .rw[ao h1,j6]at hc;exact⟨h1,qe hc⟩
   .rw[aw h1,j7]at hc;simp at hc
  |false=>
   simp only[j7];rw[xJ (w:=r)];constructor
   .rintro⟨v,hv,h⟩;exact⟨v,Or.inr hv,h⟩
   .rintro⟨v,rfl|hv,h⟩
    .rw[ao h.1,ao h.2]at hc;simp at hc
    .exact⟨v,hv,h⟩
theorem K3{w:WL}(hw:eB 0 w)(hl:w.length<=14){st f t q:Int}(aj : -1000000<=st)(br:st<=8600000000)(a b:Int)(ps:List (Int×(Int×Int))):∀(n i:Nat)(acc:SL),i+n=w.length->acc.length+n<=1000000->
  zU w st a b w (w.length:Int) (i:Int) f t q acc ps=some (w,st,a,b,f,t,q,acc++(w.drop i).map (dS f t st),ps)
 |0,i,acc,hi,_=>by
  rw[JJ];simp only[j1J];rw[aw (by omega),j7,bC,jd (by omega)];simp
 |n+1,i,acc,hi,ha=>by
  have ak:i<w.length:=by omega
  have cU:w.getD i ((0:Int),(0:Int))=w[i]:=by simp[ak]
  have hg:=oY hw i ak;rw[cU]at hg;rw[JJ,je ak];simp only[j1J];rw[ao (show (i:Int)<(w.length:Int) by omega),bT (by omega) (by omega)];simp only[j6,j8,cU];rw[an (x:=(i:Int)+1) (by omega) (by omega),an (x:=st+w[i].1) (by omega) (by omega),an (x:=st+w[i].2) (by omega) (by omega),ao (by simp[bI];omega),j6,bF];have:=K3 hw hl aj br a b ps n (i+1) (acc++[dS f t st w[i]]) (by omega) (by simp;omega) (f:=f) (t:=t) (q:=q);rw[jj]at this;exact this
theorem UW{w:WL}(hw:eB 0 w)(hl:w.length<=14){f t q:Int}(hf:0<=f)(ht:t<=8589934592)(UX:f<t)(a b:Int)(ps:List (Int×(Int×Int))):∀(m:Nat)(st:Int)(acc:SL), -1000000<=st->t<=st+604800*m->acc.length+14*m<=900000->
  ∃E,zV w st a b f t q acc ps=some (w,a,b,acc++E,ps)/\E.length<=w.length*m/\(∀s∈E,f<=s.1/\s.2<=t/\s.1<=100000000000 /\ -100000000000<=s.2)/\
   ∀x,dI x E↔f<=x/\x<t/\st<=x/\hasB ((x-st)%604800) w=true:=by
 intro m;induction m with
 |zero=>intro st acc aj hm _;rw[JK];simp only[j1K];rw[aw (by omega),j7,bC];exact⟨[],by simp,by simp,by simp,λx=>⟨λh=>absurd h iB,λh=>by omega⟩⟩
 |succ m ih=>
  intro st acc aj hm fJ;rw[JK];simp only[j1K,show Int.ofNat (List.length w)=(w.length:Int) from rfl];by_cases ak:st<t
  .have h4:=K3 hw hl aj (by omega) a b ps w.length 0 acc (by omega) (by omega) (f:=f) (t:=t) (q:=q);rw[show ((0:Nat):Int)=0 from rfl,ka]at h4;rw[ao ak,j6,h4];simp only[j4];rw[an (x:=st+604800) (by omega) (by omega),bF];obtain⟨E,e,h1,h2,h3⟩:=ih (st+604800) (acc++w.map (dS f t st)) (by omega) (by omega) (by simp;omega);refine⟨w.map (dS f t st)++E,?_,?_,?_,λx=>?_⟩
   .rw[jj]at e;exact e
   .rw[jn,qf,Nat.mul_succ];omega
   .intro s hs;rcases jp.1 hs with hs|hs
    .obtain⟨v,hv,rfl⟩:=jy.1 hs;obtain⟨i,hi,rfl⟩:=List.getElem_of_mem hv;have hg:=oY hw i hi;rw[show w.getD i (0,0)=w[i] by simp[hi]]at hg;simp only[dS];refine⟨?_,?_,?_,?_⟩<;>split<;>omega
    .exact h2 s hs
   .rw[uB,h3 x];constructor
    .rintro (⟨s,hs,iW,my⟩|⟨a1,a2,a3,a4⟩)
     .obtain⟨v,hv,rfl⟩:=jy.1 hs;have eI:=hv;obtain⟨i,hi,rfl⟩:=List.getElem_of_mem hv;have hg:=oY hw i hi;rw[show w.getD i (0,0)=w[i] by simp[hi]]at hg;simp only[dS]at iW my;have b1:f<=x/\st+w[i].1<=x:=by split at iW<;>omega
      have b2:x<t/\x<st+w[i].2:=by split at my<;>omega
      refine⟨b1.1,b2.1,by omega,xJ.2 ⟨w[i],eI,?_,?_⟩⟩<;>omega
     .refine⟨a1,a2,by omega,?_⟩;rw[show (x-st)%604800=(x-(st+604800))%604800 by omega];exact a4
    .rintro⟨a1,a2,a3,a4⟩
     by_cases hx:st+604800<=x
     .refine Or.inr ⟨a1,a2,hx,?_⟩;rw[show (x-(st+604800))%604800=(x-st)%604800 by omega];exact a4
     .obtain⟨v,hv,c1,c2⟩:=xJ.1 a4;have e1:(x-st)%604800=x-st:=by omega
      rw[e1]at c1 c2;refine Or.inl ⟨dS f t st v,jy.2 ⟨v,hv,rfl⟩,?_,?_⟩<;>simp only[dS]<;>split<;>omega
  .rw[aw ak,j7,bC];exact⟨[],by simp,by simp,by simp,λx=>⟨λh=>absurd h iB,λh=>by omega⟩⟩
theorem K4{w:WL}(hw:eB 0 w)(hl:w.length<=14){ps:List (Int×(Int×Int))}{M:Nat}(hM:M<=60)(iz:ps.length<=30){lo hi:Int}(eQ:0<=lo)(eR:hi<=8589934592)
  (eJ:∀p∈ps,lo<=p.1/\p.1<p.2.1/\p.2.1<=hi /\ -64800<=p.2.2/\p.2.2<=64800/\p.2.1-p.1<=604800*M):∀(n i:Nat)(acc:SL),i+n=ps.length->acc.length<=854*i->
  ∃E,zW w (ps.length:Int) (i:Int) acc ps=some (acc++E)/\E.length<=w.length*(M+1)*n/\(∀s∈E,lo<=s.1/\s.2<=hi/\s.1<=100000000000 /\ -100000000000<=s.2)/\
   ∀x,dI x E↔∃p∈ps.drop i,p.1<=x/\x<p.2.1/\hasB ((x+p.2.2+259200)%604800) w=true
 |0,i,acc,hi,_=>by
  rw[JL];simp only[j1L];rw[aw (by omega),j7,bC,jd (by omega)];exact⟨[],by simp,by simp,by simp,λx=>⟨λh=>absurd h iB,λ⟨p,hp,_⟩=>by simp at hp⟩⟩
 |n+1,i,acc,hi,fJ=>by
  have ak:i<ps.length:=by omega
  have cU:ps.getD i ((0:Int),((0:Int),(0:Int)))=ps[i]:=by simp[ak]
  obtain⟨p1,p2,p3,p4,p5,p6⟩:=eJ ps[i] (qr ak);have FC:w.length*(M+1)<=854:=ko (Nat.mul_le_mul hl (show M+1<=61 by omega)) (by decide);rw[JL,je ak];simp only[j1L];rw[ao (show (i:Int)<(ps.length:Int) by omega),bT (by omega) (by omega)];simp only[j6,j8,cU];rw[an (x:=ps[i].1+ps[i].2.2) (by omega) (by omega),an (x:=ps[i].1+ps[i].2.2 - -259200) (by omega) (by omega),qQ (by omega)];rw[an (x:=ps[i].1+ps[i].2.2 - -259200-(ps[i].1+ps[i].2.2 - -259200)%604800) (by omega) (by omega)];rw[an (x:=ps[i].1+ps[i].2.2 - -259200-(ps[i].1+ps[i].2.2 - -259200)%604800 + -259200) (by omega) (by omega)];rw[an (x:=ps[i].1+ps[i].2.2 - -259200-(ps[i].1+ps[i].2.2 - -259200)%604800 + -259200-ps[i].2.2) (by omega) (by omega)];generalize aj:ps[i].1+ps[i].2.2 - -259200-(ps[i].1+ps[i].2.2 - -259200)%604800 + -259200-ps[i].2.2=st;obtain⟨E1,e1,l1,b1,m1⟩:=UW hw hl (f:=ps[i].1) (t:=ps[i].2.1) (q:=ps[i].2.2) (by omega) (by omega) p2 (ps.length:Int) (i:Int) ps (M+1) st acc (by omega) (by omega) (by omega);rw[e1];simp only[j4];rw[an (x:=(i:Int)+1) (by omega) (by omega),bF];obtain⟨E2,e2,l2,b2,m2⟩:=K4 hw hl hM iz eQ eR eJ n (i+1) (acc++E1) (by omega) (by simp;omega);refine⟨E1++E2,?_,?_,?_,λx=>?_⟩
  .rw[jj]at e2;exact e2
  .rw[jn,Nat.mul_succ];omega
  .intro s hs;rcases jp.1 hs with hs|hs
   .have:=b1 s hs;omega
   .exact b2 s hs
  .rw[uB,m1 x,m2 x];have key:∀x,ps[i].1<=x->(x-st)%604800=(x+ps[i].2.2+259200)%604800/\st<=x:=by intro x hx;omega
   constructor
   .rintro (⟨c1,c2,c3,c4⟩|⟨p,hp,h⟩)
    .exact⟨ps[i],qu ..,c1,c2,by rw[<-(key x c1).1];exact c4⟩
    .exact⟨p,qv _ hp,h⟩
   .rintro⟨p,hp,c1,c2,c3⟩
    rcases jf.1 hp with rfl|hp
    .exact Or.inl ⟨c1,c2,(key x c1).2,by rw[(key x c1).1];exact c3⟩
    .exact Or.inr ⟨p,hp,c1,c2,c3⟩
theorem UY{o:Int}{l:bd}(h:jB o l)(ie:l.length<=20){w:WL}(hw:eB 0 w)(hl:w.length<=14){M:Nat}(hM:M<=60){a b:Int}(ha:0<=a)(eS:a<=b)(hb:b<=8589934592)(hlen:b-a<=604800*M) :
  ∃out,j5N (o,l) w a b=some out/\ed (a-1) out/\(∀u∈out,a<=u.1/\u.2<=b)/\out.length<=w.length*(M+1)*(l.length+1)/\
   ∀k,k<=l.length->∀x,a<=x->x<b->aH l k<=x->x<aH l (k+1)->(dI x out↔hasB ((x+du o l k+259200)%604800) w=true):=by
 obtain⟨ps,e,pl,pm,pc⟩:=UU h ha eS hb
 obtain⟨E,e1,l1,b1,m1⟩:=K4 hw hl hM (ps:=ps) (by omega) (lo:=a) (hi:=b) ha hb (λp hp=>by
  obtain⟨h1,h2,h3,i,i1,i2,_⟩:=pm p hp;have:=h.of0 i i1;have:=h.of1 i i1;exact⟨h1,h2,h3,by omega,by omega,by omega⟩) ps.length 0 [] (by omega) (by simp)
 rw[show ((0:Nat):Int)=0 from rfl,kj]at e1;have FC:w.length*(M+1)<=854:=ko (Nat.mul_le_mul hl (show M+1<=61 by omega)) (by decide);have UZ:E.length<=w.length*(M+1)*(l.length+1):=ko l1 (Nat.mul_le_mul_left _ pl);have U0:E.length<=854*21:=ko UZ (Nat.mul_le_mul FC (by omega));obtain⟨out,e2,s1,s2,s3,s4⟩:=UT (l:=E) (by omega) (λs hs=>by have:=b1 s hs;omega) (lo:=a) (hi:=b) (λs hs _=>⟨(b1 s hs).1,(b1 s hs).2.1⟩);refine⟨out,?_,s1,s4,by omega,λk hk x iW my b9 dj=>?_⟩
 .simp only[j5N,e,j4,show Int.ofNat (List.length ps)=(ps.length:Int) from rfl,e1,e2]
 .rw[s2 x,m1 x,ka];constructor
  .rintro⟨p,hp,c1,c2,c3⟩
   obtain⟨h1,h2,h3,i,i1,i2,i3,i4⟩:=pm p hp;have:i=k:=KB h i1 hk (t:=x) (by omega) (by omega) b9 dj;subst this;rw[<-i2];exact c3
  .intro hx;obtain⟨p,hp,c1,c2⟩:=pc x iW my;obtain⟨h1,h2,h3,i,i1,i2,i3,i4⟩:=pm p hp;have:i=k:=KB h i1 hk (t:=x) (by omega) (by omega) b9 dj;subst this;exact⟨p,hp,c1,c2,by rw[i2];exact hx⟩
theorem U1{z:ByteArray×(Int×List aP)}{l:bd}(h:eO z l){t:Int}(h0:0<=t)(h1:t<=8589934592){k:Nat}(hk:k<=l.length)(b9:aH l k<=t)(dj:t<aH l (k+1)) :
  j1F z t=some ((t+du z.2.1 l k+259200)%604800,0):=by
 have o0:=h.2.of0 k hk;have o1:=h.2.of1 k hk;simp only[j1F,show j1Z (z.1,(z.2.1,z.2.2)) t=_ from Um h h0 h1 hk b9 dj,j4,jl,j7,j6T];rw[As _ (by omega)];simp only[j4];rw[an (x:=((t+du z.2.1 l k)/86400+3)%7*86400) (by omega) (by omega),an (by omega) (by omega)];congr 2;omega
theorem U2{o:Int}{rs:List aP}(hm:MZ o rs):(bX o (c9 (occs rs))).length<=4:=by
 have h1:=Av (c9 (occs rs)) o;have h2:(c9 (occs rs)).length=(occs rs).length:=by unfold c9;rw[List.length_reverse,xB];simp
 have:=hm.few;omega
theorem U3{o:Int}{rs:List aP}(hm:MZ o rs):(bX o (c9 (occs rs))).length<=20:=ko (U2 hm) (by omega)
theorem ed.weak{p q:Int}(hq:q<=p):∀{l:SL},ed p l->ed q l
 |[],_=>trivial
 |_::_,h=>⟨by have:=h.1;omega,h.2⟩
theorem ed.low{p x:Int}:∀{l:SL},ed p l->dI x l->p<x
 |[],_,h=>absurd h iB
 |s::r,h,hx=>by
  rcases eF.1 hx with hx|hx
  .have:=h.1;omega
  .have:=ed.low h.2.2 hx;have:=h.1;have:=h.2.1;omega
section
variable{B:SL}(hB:B.length<=10000000)
include hB
end
set_option linter.unusedSectionVars false
section
variable{l:SL}{p:Int}(h:ed p l)(hp : -1<=p)(hl:l.length<=4096)(hb:∀u∈l,u.2<=8589934592)
include h hp hl hb
end
set_option linter.unusedSectionVars false
def kT(p:Int):SL->Prop
 |[]=>True
 |x::r=>p<=x.1/\x.1<x.2/\kT x.2 r
theorem kT.weak{p q:Int}(hq:q<=p):∀{l:SL},kT p l->kT q l
 |[],_=>trivial
 |_::_,h=>⟨by have:=h.1;omega,h.2⟩
end Go.Proofs.Pw
