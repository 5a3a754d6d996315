/- eB 3: span.Merge: the wk form of any YM. -/
import Derived.Test.YtllkgjaoejhneaaGreatSEPA
import Derived.Test.YtllkgjaoejhneaaGreatSEFns
import Derived.Test.YtllkgjaoejhneaaGreatSEPB
open _root_ renaming Int->d,Nat->I,List->N
open List renaming length->z,take_of_length_le->D,filter_append->G
open Int renaming ofNat->B
open Or renaming inl->F,inr->H
open Option renaming some->J
open Go Go.Lft
namespace Go.Proofs.Pw
abbrev SL:=N (d×d)
def bG(x:d)(l:SL):Prop:=∃s∈l,s.1<=x/\x<s.2
def bX(p:d):SL->Prop
 |[]=>True
 |x::r=>p<x.1/\x.1<x.2/\bX x.2 r
def Sml(l:SL):Prop:=∀s∈l, -1000000000000<=s.1/\s.1<=1000000000000 /\ -1000000000000<=s.2/\s.2<=1000000000000
theorem fU{x:d}:¬bG x []:=by rintro⟨s,hs,_⟩;simp at hs
theorem fi{x:d}{s:d×d}{l:SL}:bG x (s::l)↔(s.1<=x/\x<s.2)\/bG x l:=by
 constructor
 .rintro⟨u,hu,h⟩
  rcases jl.1 hu with rfl|hu
  .exact F h
  .exact H ⟨u,hu,h⟩
 .rintro (h|⟨u,hu,h⟩)
  .exact⟨s,af,h⟩
  .exact⟨u,by simp[hu],h⟩
theorem wR{x:d}{l r:SL}:bG x (l++r)↔bG x l\/bG x r:=by
 constructor
 .rintro⟨u,hu,h⟩
  rcases js.1 hu with hu|hu
  .exact F ⟨u,hu,h⟩
  .exact H ⟨u,hu,h⟩
 .rintro (⟨u,hu,h⟩|⟨u,hu,h⟩)
  .exact⟨u,by simp[hu],h⟩
  .exact⟨u,by simp[hu],h⟩
def nE(s:d×d):Bool:= !(decide (s.2<=s.1))
theorem YN{l:SL}(hl:l.length<=10000000):∀(n i:I),i+n=l.length->(∀s∈l.take i,nE s=true)->
  (∃j:I,Ey (l.length:d) (i:d) l=J (.inl ((j:d),l))/\j<l.length/\(∀s∈l.take j,nE s=true)/\nE (l.getD j (0,0))=false)\/
  (Ey (l.length:d) (i:d) l=J (.inr l)/\∀s∈l,nE s=true)
 |0,i,hi,h=>by
  rw[Vs];simp only[j0u];rw[ak aa,jd,ba];rw[D aa]at h;exact H ⟨rfl,h⟩
 |n+1,i,hi,h=>by
  rw[Vs];simp only[j0u,j8z];rw[ah (show (i:d)<(l.length:d) by omega),bP,ar (x:=(i:d)+1)];simp only[jc,je,ja];have au:i<l.length:=aa;cases hc:decide ((l.getD i ((0:d),(0:d))).2<=(l.getD i ((0:d),(0:d))).1) with
  |true=>simp only[jc,ba];exact F ⟨i,rfl,au,h,by simp only[nE];rw[hc];rfl⟩
  |false=>
   simp only[jd,aV];refine YN hl n (i+1) aa λs hs=>?_;rw[yd]at hs;rcases js.1 hs with hs|hs
   .exact h s hs
   .have bm:l.getD i ((0:d),(0:d))=l[i]:=by simp[au]
    rw[bm]at hc;rw[kb au]at hs;simp at hs;subst hs;simp only[nE];rw[hc];rfl
theorem Qw{l:SL}(hl:l.length<=10000000):∀(n i j:I)(b:SL),j+n=l.length->i<=j->b.length=l.length->b.drop j=l.drop j->b.take i=(l.take j).filter nE->
  ∃(k:I)(b':SL),Hy (i:d) (j:d) b=J ((k:d),b')/\b'.length=l.length/\k<=l.length/\b'.take k=l.filter nE
 |0,i,j,b,hj,ee,hb,hd,ht=>by
  rw[Vt];simp only[j0s,show B (z b)=(b.length:d) from rfl];rw[ak aa,jd,ba];rw[D (l:=l) aa]at ht;exact⟨i,b,rfl,hb,aa,ht⟩
 |n+1,i,j,b,hj,ee,hb,hd,ht=>by
  have au:j<l.length:=aa
  have hbj:b.getD j ((0:d),(0:d))=l[j]:=by
   have:b[j]? = l[j]? := by
    have h:=kj (λx=>x[0]?) hd;simpa[List.getElem?_drop]using h
   rw[List.getD_eq_getElem?_getD,this,kb au];rfl
  have fW:b.drop (j+1)=l.drop (j+1):=by have:=kj (List.drop 1) hd;simpa[List.drop_drop]using this
  have Ba:l.take (j+1)=l.take j++[l[j]]:=by rw[yd,kb au];rfl
  rw[Vt];simp only[j0s,j8z,show B (z b)=(b.length:d) from rfl];rw[ah (show (j:d)<(b.length:d) by omega),bP,bP,ar (x:=(j:d)+1),ar (x:=(i:d)+1)];simp only[jc,je,ja,hbj];cases hc:decide (l[j].2<=l[j].1) with
  |true=>simp only[jk,jd,aV];refine Qw hl n i (j+1) b aa aa hb fW ?_;rw[Ba,G,ht];simp[nE,hc]
  |false=>
   simp only[jv,jc,aV];refine Qw hl n (i+1) (j+1) _ aa aa (by simpa using hb) ?_ ?_
   .rw[List.drop_set_of_lt aa];exact fW
   .have Kx:i<b.length:=aa;rw[yd,List.take_set_of_le (jy _),List.getElem?_set_self Kx,ht,Ba,G];simp[nE,hc]
theorem jwO{l:SL}(hl:l.length<=10000000):∃n m,j1u l=J (n,m)/\m.take n.toNat=l.filter nE:=by
 simp only[j1u,j2o,show B (z l)=(l.length:d) from rfl];rcases YN hl l.length 0 aa af with⟨j,e,hj,h1,h2⟩|⟨e,h⟩
 .rw[show ((0:I):d)=0 from rfl]at e;rw[e];simp only[ja,pR];rw[cU aa,ar (x:=(j:d)+1)];have bm:l.getD j ((0:d),(0:d))=l[j]:=by simp[hj]
  rw[bm]at h2
  obtain⟨k,b,e2,hb,hk,ht⟩:=Qw hl (l.length-(j+1)) j (j+1) l aa aa rfl rfl (by
   rw[yd,kb hj,G,List.filter_eq_self.2 h1];simp[h2])
  rw[show ((j:d)+1)=((j+1:I):d) from rfl,e2];simp only[jd,ja,show B (z b)=(b.length:d) from rfl,je];rw[ah (show (0:d)<=(k:d) by omega),ah (show (k:d)<=(b.length:d) by omega)];simp only[yq,jc,zw];rw[ah ay,jc];refine⟨_,_,rfl,?_⟩;simp only[show (B k).toNat=k from rfl];rw[List.take_append_of_le_length ay,List.take_take,Nat.min_self,ht]
 .rw[show ((0:I):d)=0 from rfl]at e;rw[e];simp only[ja,lN,ql,jc];refine⟨_,_,rfl,?_⟩;simp only[show (B l.length).toNat=l.length from rfl];rw[D (jy _),List.filter_eq_self.2 h]
def lQ(e:d×d):SL->SL
 |[]=>[e]
 |s::r=>if s.1<=e.2 then lQ (e.1,if s.2>e.2 then s.2 else e.2) r else e::lQ s r
def mg:SL->SL
 |[]=>[]
 |s::r=>lQ s r
theorem Qx{L:SL}(hL:L.length<=10000000):∀(n i:I)(A:SL)(e:d×d),i+n=L.length->A.length<i->
  Ez (L.length:d) (i:d) (A++[e]) L=J (A++lQ e (L.drop i))
 |0,i,A,e,hi,hA=>by
  rw[Ni];simp only[j3z];rw[ak aa,jd,ba,jj aa];rfl
 |n+1,i,A,e,hi,hA=>by
  have au:i<L.length:=aa;have bm:L.getD i ((0:d),(0:d))=L[i]:=by simp[au]
  have hle:(A++[e]).length=A.length+1:=af;have nh:(A++[e]).getD A.length ((0:d),(0:d))=e:=af;rw[Ni,jh au];simp only[j3z,lQ,show B (z (A++[e]))=((A.length:d)+1) from by rw[hle];rfl]
  rw[ah (show (i:d)<(L.length:d) by omega),bP,ah (show (A.length:d)+1>0 by omega),ar (x:=(A.length:d)+1-1),ar (x:=(i:d)+1),
   cb aa (by rw[hle];omega),show ((A.length:d)+1-1).toNat=A.length by omega]
  simp only[jc,je,bm,nh];by_cases hc:L[i].1<=e.2
  .rw[ah hc,if_pos hc];simp only[jc,aV]
   rw[show (A++[e]).set A.length (e.1,if L[i].2>e.2 then L[i].2 else e.2)=A++[(e.1,if L[i].2>e.2 then L[i].2 else e.2)] by
    rw[vz _ _ (jy _)];simp]
   exact Qx hL n (i+1) A _ aa aa
  .rw[ak hc,if_neg hc,ah (by rw[hle];simp[aF];omega)];simp only[jd,jc,aV];have:=Qx hL n (i+1) (A++[e]) L[i] aa (by rw[hle];omega);rw[show A++e::lQ L[i] (L.drop (i+1))=A++[e]++lQ L[i] (L.drop (i+1)) by simp];exact this
theorem jCO{L:SL}(hL:L.length<=10000000):Ez (L.length:d) 0 [] L=J (mg L):=by
 rw[Ni];simp only[j3z];cases L with
 |nil=>rw[ak af,jd,ba];rfl
 |cons s r=>rw[ah (show (0:d)<((s::r).length:d) by simp only[jq];omega),cb aa (by simp only[jq];omega)];simp only[jc,show B (z ([]:SL))=0 from rfl];rw[ak (show¬((0:d)>0) by omega),jd,ah (by simp[aF]),ar (x:=(0:d)+1)];simp only[jc,aV];have:=Qx hL r.length 1 [] s ay af;simpa[mg]using this
def Fv:SL->Prop
 |[]=>True
 |s::r=>(∀u∈r,s.1<=u.1)/\Fv r
theorem Qy:∀{r:SL}{e:d×d}{p:d},p<e.1->e.1<e.2->(∀s∈r,nE s=true)->Fv r->bX p (lQ e r)
 |[],e,p,h1,h2,_,_=>⟨h1,h2,trivial⟩
 |s::r,e,p,h1,h2,h3,h4=>by
  simp only[lQ];have hs:s.1<s.2:=by have:=h3 s af;simp[nE]at this;omega
  split
  .exact Qy (by exact h1) (by dsimp only;split<;>omega) (λu hu=>h3 u (by simp[hu])) h4.2
  .exact⟨h1,h2,Qy aa hs (λu hu=>h3 u (by simp[hu])) h4.2⟩
theorem Qz{x:d}:∀{r:SL}{e:d×d},(∀s∈r,e.1<=s.1)->(∀s∈r,nE s=true)->Fv r->(bG x (lQ e r)↔(e.1<=x/\x<e.2)\/bG x r)
 |[],e,_,_,_=>by simp[lQ,bG]
 |s::r,e,h1,h3,h4=>by
  have hs:s.1<s.2:=by have:=h3 s af;simp[nE]at this;omega
  have he:e.1<=s.1:=h1 s af;simp only[lQ];split
  .rw[Qz (e:=(e.1,if s.2>e.2 then s.2 else e.2)) (λu hu=>h1 u (by simp[hu])) (λu hu=>h3 u (by simp[hu])) h4.2,fi];dsimp only;constructor
   .rintro (⟨a,b⟩|h)
    .split at b
     .by_cases hx:x<e.2
      .exact F ⟨a,hx⟩
      .exact H (F ⟨aa,b⟩)
     .exact F ⟨a,b⟩
    .exact H (H h)
   .rintro (⟨a,b⟩|⟨a,b⟩|h)
    .exact F ⟨a,by split<;>omega⟩
    .exact F ⟨aa,by split<;>omega⟩
    .exact H h
  .rw[fi,Qz h4.1 (λu hu=>h3 u (by simp[hu])) h4.2,fi]
theorem QA:∀(r:SL)(e:d×d),(lQ e r).length<=r.length+1
 |[],e=>by simp[lQ]
 |s::r,e=>by
  simp only[lQ];split
  .have:=QA r (e.1,if s.2>e.2 then s.2 else e.2);simp only[jq];omega
  .have:=QA r s;simp only[jq];omega
theorem QB{lo hi:d}:∀{r:SL}{e:d×d},(lo<=e.1/\e.2<=hi)->(∀s∈r,lo<=s.1/\s.2<=hi)->∀u∈lQ e r,lo<=u.1/\u.2<=hi
 |[],e,h1,h2=>by simp only[lQ];intro u hu;simp at hu;subst hu;exact h1
 |s::r,e,h1,h2=>by
  have hs:=h2 s af;simp only[lQ];split
  .exact QB ⟨h1.1,by dsimp only;split<;>omega⟩ (λu hu=>h2 u (by simp[hu]))
  .intro u hu;rcases jl.1 hu with rfl|hu
   .exact h1
   .exact QB hs (λu hu=>h2 u (by simp[hu])) u hu
theorem jBW{L:SL}(h:L.Pairwise (λx y=>¬w64 (y.1-x.1)<0))(hb:Sml L):Fv L:=by
 induction L with
 |nil=>trivial
 |cons s r ih=>rw[qp]at h;refine⟨λu hu=>?_,ih h.2 (λv hv=>hb v (by simp[hv]))⟩;have h1:=h.1 u hu;have h2:=hb s af;have h3:=hb u (by simp[hu]);rw[ar (x:=u.1-s.1)]at h1;omega
theorem jyw:Go.Sort.SWO (Go.Proofs.ltOf λ(x y:Go.Lft.Sml (.pair (.int .i64) (.int .i64)))=>(j6W x.1 y.1).getD 0):=by
 refine Hh (λx=>x.1.1) (λx=>?_) _ λx y=>rfl;have:=x.2;simp only[iA,ji,jr]at this;exact this.1
theorem jAH{l:SL}(hl:l.length<=10000000)(hb:Sml l):∃L,j0W l=J L/\L.Perm l/\Fv L:=by
 obtain⟨L,e,hp,hs⟩:=Va (a:= .pair (.int .i64) (.int .i64)) (cf:=λx y=>(j6W x y).getD 0) jyw (xs:=l) (λx hx=>by
  have:=hb x hx;simp only[iA,ji,jr];refine⟨⟨?_,?_⟩,⟨?_,?_⟩⟩
  .exact z8 (by decide) this.1
  .exact z8 this.2.1 (by decide)
  .exact z8 (by decide) this.2.2.1
  .exact z8 this.2.2.2 (by decide)) (by show z l<_;omega)
 exact⟨L,e,hp,jBW hs λs hm=>hb s (hp.mem_iff.1 hm)⟩
theorem Jy{l:SL}(hl:l.length<=10000000)(hb:Sml l){lo hi:d}(iL:∀s∈l,s.1<s.2->lo<=s.1/\s.2<=hi) :
  ∃out,j9q l=J out/\bX (lo-1) out/\(∀x,bG x out↔bG x l)/\out.length<=l.length/\∀u∈out,lo<=u.1/\u.2<=hi:=by
 obtain⟨n,m,e1,ht⟩:=jwO hl;have fD:(l.filter nE).length<=l.length:=List.length_filter_le _ _;obtain⟨L,e2,hp,hs⟩:=jAH (l:=l.filter nE) aa (λs h=>hb s (yy.1 h).1);have hLl:L.length=(l.filter nE).length:=hp.length_eq;have Cg:∀s,s∈L↔s∈l/\nE s=true:=λs=>hp.mem_iff.trans yy
 have YO:∀x,bG x L↔bG x l:=by
  intro x;constructor
  .rintro⟨s,h,h2⟩;exact⟨s,((Cg s).1 h).1,h2⟩
  .rintro⟨s,h,h2⟩;exact⟨s,(Cg s).2 ⟨h,by simp only[nE];rw[ak aa];rfl⟩,h2⟩
 have br:∀s∈L,s.1<s.2:=λs h=>by have:=((Cg s).1 h).2;simp[nE]at this;omega
 refine⟨mg L,?_,?_⟩
 .simp only[j9q,j3b];rw[ah (by simp[aF];omega)];simp only[jc,ja,kc,e1,ht,e2,show B (z L)=(L.length:d) from rfl,jCO (L:=L) aa]
 .cases L with
  |nil=>refine⟨trivial,λx=>YO x,by simp[mg],by simp[mg]⟩
  |cons s r=>
   have h0:=iL s ((Cg s).1 af).1 (br s af);have hr:∀u∈r,nE u=true:=λu hu=>((Cg u).1 (by simp[hu])).2;refine⟨Qy aa (br s af) hr hs.2,λx=>?_,?_,?_⟩
   .rw[<-YO x,fi];exact Qz hs.1 hr hs.2
   .have:=QA r s;simp only[mg,jq]at *;omega
   .exact QB h0 λu hu=>iL u ((Cg u).1 (by simp[hu])).1 (br u (by simp[hu]))
def pW(o:d)(l:bg)(a b:d)(k:I):I->N (d×(d×d))
 |0=>[]
 |n+1=>if aS l (k+1)<b then (a,(aS l (k+1),bj o l k))::pW o l (aS l (k+1)) b (k+1) n else [(a,(b,bj o l k))]
section
variable{o:d}{l:bg}(h:iD o l)
include h
theorem YP{b:d}(hb:b<=8589934592):∀(n k:I)(a:d)(acc:N (d×(d×d))),k+n=l.length+1->k<=l.length->aS l k<=a->a<aS l (k+1)->a<b->acc.length<=k->
  BN a b o l acc=J (acc++pW o l a b k n)
 |0,k,a,acc,hn,hk,_,_,_,_=>aa
 |n+1,k,a,acc,hn,hk,h1,h2,cX,ha=>by
  have hlen:=h.len;rw[BO];simp only[j0y,show B (z l)=(l.length:d) from rfl,pW];rw[ah cX];simp only[jc,PY h hk h1 h2,PZ h hk,ja];by_cases iz:k<l.length
  .have hf:aS l (k+1)=(l.getD k ((0:d),(0:d))).1:=gE iz;rw[ah (show (k:d)<(l.length:d) by omega),bP];simp only[jc,je,<-hf];rw[ah (by simp[aF];omega),jc,aV];by_cases hc:aS l (k+1)<b
   .rw[if_pos hc,if_pos hc];have:=YP hb n (k+1) (aS l (k+1)) (acc++[(a,(aS l (k+1),bj o l k))]) aa aa aa (h.frm_lt aa) hc ay;rw[jo]at this;exact this
   .rw[if_neg hc,if_neg hc];rw[BO];simp only[j0y];rw[ak aa,jd,ba]
  .have bO:k=l.length:=aa;have hf:aS l (k+1)=8589934593:=by rw[bO];exact lE
   rw[if_neg (show¬aS l (k+1)<b by omega),ak aa,jd,ah (by simp[aF];omega),jc,aV];rw[BO];simp only[j0y];rw[ak aa,jd,ba]
omit h in
theorem YQ:∀(n k:I)(a b:d),(pW o l a b k n).length<=n
 |0,k,a,b=>by simp[pW]
 |n+1,k,a,b=>by
  simp only[pW];split
  .have:=YQ n (k+1) (aS l (k+1)) b;simp;omega
  .simp
theorem YR{b:d}:∀(n k:I)(a:d),k+n=l.length+1->aS l k<=a->a<aS l (k+1)->a<b->
  ∀p∈pW o l a b k n,a<=p.1/\p.1<p.2.1/\p.2.1<=b/\∃i,k<=i/\i<=l.length/\p.2.2=bj o l i/\aS l i<=p.1/\p.2.1<=aS l (i+1)
 |0,k,a,hn,h1,h2,cX,p,hp=>by simp[pW]at hp
 |n+1,k,a,hn,h1,h2,cX,p,hp=>by
  simp only[pW]at hp;split at hp
  .rename_i hc;rcases jl.1 hp with rfl|hp
   .exact⟨kx _,h2,by dsimp only;omega,k,jy _,aa,rfl,h1,kx _⟩
   .cases n with
    |zero=>simp[pW]at hp
    |succ n=>
    obtain⟨a1,a2,a3,i,i1,i2,i3⟩:=YR (n+1) (k+1) (aS l (k+1)) aa (kx _) (h.frm_lt aa) hc p hp;exact⟨aa,a2,a3,i,aa,i2,i3⟩
  .rename_i hc;simp at hp;subst hp;exact⟨kx _,cX,kx _,k,jy _,aa,rfl,h1,by dsimp only;omega⟩
theorem YS{b:d}(hb:b<=8589934592):∀(n k:I)(a:d),k+n=l.length+1->k<=l.length->aS l k<=a->a<aS l (k+1)->a<b->
  ∀x,a<=x->x<b->∃p∈pW o l a b k n,p.1<=x/\x<p.2.1
 |0,k,a,hn,hk,h1,h2,cX,x,hx,pX=>aa
 |n+1,k,a,hn,hk,h1,h2,cX,x,hx,pX=>by
  simp only[pW];split
  .rename_i hc;by_cases au:x<aS l (k+1)
   .exact⟨_,zk ..,hx,au⟩
   .have iz:k+1<=l.length:=by
     rcases qx k l.length with h'|h'
     .exact h'
     .have:k=l.length:=aa;subst this;rw[lE]at hc;omega
    obtain⟨p,hp,xn⟩:=YS hb n (k+1) (aS l (k+1)) aa iz (kx _) (h.frm_lt iz) hc x aa pX;exact⟨p,by simp[hp],xn⟩
  .exact⟨_,zk ..,hx,pX⟩
theorem YT{a b:d}(ha:0<=a)(cX:a<=b)(hb:b<=8589934592):∃ps,j1O (o,l) a b=J ps/\ps.length<=l.length+1/\
  (∀p∈ps,a<=p.1/\p.1<p.2.1/\p.2.1<=b/\∃i,i<=l.length/\p.2.2=bj o l i/\aS l i<=p.1/\p.2.1<=aS l (i+1))/\∀x,a<=x->x<b->∃p∈ps,p.1<=x/\x<p.2.1:=by
 simp only[j1O];rcases Int.lt_or_le a b with au|nh
 .obtain⟨k,hk,h1,h2⟩:=sT h ha aa;have:=YP h hb (l.length+1-k) k a [] aa hk h1 h2 au af;rw[kc]at this;rw[this];refine⟨_,rfl,?_,λp hp=>?_,YS h hb _ k a aa hk h1 h2 au⟩
  .have:=YQ (o:=o) (l:=l) (l.length+1-k) k a b;omega
  .obtain⟨a1,a2,a3,i,_,i2⟩:=YR h _ k a aa h1 h2 au p hp;exact⟨a1,a2,a3,i,i2⟩
 .rw[BO];simp only[j0y];rw[ak aa,jd,ba];exact⟨[],rfl,af,af,λx h1 h2=>aa⟩
end
def gx(f t st:d)(v:d×d):d×Int:=(if st+v.1>f then st+v.1 else f,if st+v.2<t then st+v.2 else t)
theorem Fw{s:d}:∀{w:WL},hasB s w=true↔∃v∈w,v.1<=s/\s<v.2
 |[]=>by simp[hasB]
 |x::r=>by
  simp only[hasB,jl];cases hc:cond (decide (x.1<=s)) (decide (s<x.2)) false with
  |true=>
   simp only[jc,true_iff];refine⟨x,F rfl,?_⟩;by_cases h1:x.1<=s
   .rw[ah h1,jc]at hc;exact⟨h1,qb hc⟩
   .rw[ak h1,jd]at hc;simp at hc
  |false=>
   simp only[jd];rw[Fw (w:=r)];constructor
   .rintro⟨v,hv,h⟩;exact⟨v,H hv,h⟩
   .rintro⟨v,rfl|hv,h⟩
    .rw[ah h.1,ah h.2]at hc;simp at hc
    .exact⟨v,hv,h⟩
theorem YU{w:WL}(hw:gF 0 w)(hl:w.length<=14){st f t q:d}(aO : -1000000<=st)(cW:st<=8600000000)(a b:d)(ps:N (d×(d×d))):∀(n i:I)(acc:SL),i+n=w.length->acc.length+n<=1000000->
  Hz w st a b w (w.length:d) (i:d) f t q acc ps=J (w,st,a,b,f,t,q,acc++(w.drop i).map (gx f t st),ps)
 |0,i,acc,hi,_=>by
  rw[Vu];simp only[j3O];rw[ak aa,jd,ba,jj aa];simp
 |n+1,i,acc,hi,ha=>by
  have au:i<w.length:=aa;have bm:w.getD i ((0:d),(0:d))=w[i]:=by simp[au]
  have hg:=zT hw i au;rw[bm]at hg;rw[Vu,jh au];simp only[j3O];rw[ah (show (i:d)<(w.length:d) by omega),bP];simp only[jc,je,bm];rw[ar (x:=(i:d)+1),ar (x:=st+w[i].1),ar (x:=st+w[i].2),ah (by simp[aF];omega),jc,aV];have:=YU hw hl aO cW a b ps n (i+1) (acc++[gx f t st w[i]]) aa ay (f:=f) (t:=t) (q:=q);rw[jo]at this;exact this
theorem jCP{w:WL}(hw:gF 0 w)(hl:w.length<=14){f t q:d}(hf:0<=f)(ht:t<=8589934592)(kC:f<t)(a b:d)(ps:N (d×(d×d))):∀(m:I)(st:d)(acc:SL), -1000000<=st->t<=st+604800*m->acc.length+14*m<=900000->
  ∃E,HA w st a b f t q acc ps=J (w,a,b,acc++E,ps)/\E.length<=w.length*m/\(∀s∈E,f<=s.1/\s.2<=t/\s.1<=100000000000 /\ -100000000000<=s.2)/\
   ∀x,bG x E↔f<=x/\x<t/\st<=x/\hasB ((x-st)%604800) w=true:=by
 intro m;induction m with
 |zero=>intro st acc aO hm _;rw[Vv];simp only[j3P];rw[ak aa,jd,ba];exact⟨[],af,af,af,λx=>⟨λh=>absurd h fU,λh=>aa⟩⟩
 |succ m ih=>
  intro st acc aO hm dI;rw[Vv];simp only[j3P,show B (z w)=(w.length:d) from rfl];by_cases au:st<t
  .have h4:=YU hw hl aO aa a b ps w.length 0 acc aa aa (f:=f) (t:=t) (q:=q);rw[show ((0:I):d)=0 from rfl,jt]at h4;rw[ah au,jc,h4];simp only[ja];rw[ar (x:=st+604800),aV];obtain⟨E,e,h1,h2,h3⟩:=ih (st+604800) (acc++w.map (gx f t st)) aa aa ay;refine⟨w.map (gx f t st)++E,?_,?_,?_,λx=>?_⟩
   .rw[jo]at e;exact e
   .rw[jn,ky,Nat.mul_succ];omega
   .intro s hs;rcases js.1 hs with hs|hs
    .obtain⟨v,hv,rfl⟩:=ki.1 hs;obtain⟨i,hi,rfl⟩:=yn hv;have hg:=zT hw i hi;rw[show w.getD i (0,0)=w[i] by simp[hi]]at hg;simp only[gx];refine⟨?_,?_,?_,?_⟩<;>split<;>omega
    .exact h2 s hs
   .rw[wR,h3 x];constructor
    .rintro (⟨s,hs,oM,pX⟩|⟨a1,a2,a3,a4⟩)
     .obtain⟨v,hv,rfl⟩:=ki.1 hs;have gn:=hv;obtain⟨i,hi,rfl⟩:=yn hv;have hg:=zT hw i hi;rw[show w.getD i (0,0)=w[i] by simp[hi]]at hg;simp only[gx]at oM pX;have b1:f<=x/\st+w[i].1<=x:=by split at oM<;>omega
      have b2:x<t/\x<st+w[i].2:=by split at pX<;>omega
      refine⟨b1.1,b2.1,aa,Fw.2 ⟨w[i],gn,?_,?_⟩⟩<;>omega
     .refine⟨a1,a2,aa,?_⟩;rw[show (x-st)%604800=(x-(st+604800))%604800 by omega];exact a4
    .rintro⟨a1,a2,a3,a4⟩
     by_cases hx:st+604800<=x
     .refine H ⟨a1,a2,hx,?_⟩;rw[show (x-(st+604800))%604800=(x-st)%604800 by omega];exact a4
     .obtain⟨v,hv,c1,c2⟩:=Fw.1 a4;have e1:(x-st)%604800=x-st:=aa;rw[e1]at c1 c2;refine F ⟨gx f t st v,ki.2 ⟨v,hv,rfl⟩,?_,?_⟩<;>simp only[gx]<;>split<;>omega
  .rw[ak au,jd,ba];exact⟨[],af,af,af,λx=>⟨λh=>absurd h fU,λh=>aa⟩⟩
theorem YV{w:WL}(hw:gF 0 w)(hl:w.length<=14){ps:N (d×(d×d))}{M:I}(hM:M<=60)(fp:ps.length<=30){lo hi:d}(iL:0<=lo)(iM:hi<=8589934592)
  (gU:∀p∈ps,lo<=p.1/\p.1<p.2.1/\p.2.1<=hi /\ -64800<=p.2.2/\p.2.2<=64800/\p.2.1-p.1<=604800*M):∀(n i:I)(acc:SL),i+n=ps.length->acc.length<=854*i->
  ∃E,HB w (ps.length:d) (i:d) acc ps=J (acc++E)/\E.length<=w.length*(M+1)*n/\(∀s∈E,lo<=s.1/\s.2<=hi/\s.1<=100000000000 /\ -100000000000<=s.2)/\
   ∀x,bG x E↔∃p∈ps.drop i,p.1<=x/\x<p.2.1/\hasB ((x+p.2.2+259200)%604800) w=true
 |0,i,acc,hi,_=>by
  rw[Vw];simp only[j3Q];rw[ak aa,jd,ba,jj aa];exact⟨[],af,af,af,λx=>⟨λh=>absurd h fU,λ⟨p,hp,_⟩=>by simp at hp⟩⟩
 |n+1,i,acc,hi,dI=>by
  have au:i<ps.length:=aa;have bm:ps.getD i ((0:d),((0:d),(0:d)))=ps[i]:=by simp[au]
  obtain⟨p1,p2,p3,p4,p5,p6⟩:=gU ps[i] (ju au);have YW:w.length*(M+1)<=854:=qc (z7 hl (show M+1<=61 by omega)) (by decide);rw[Vw,jh au];simp only[j3Q];rw[ah (show (i:d)<(ps.length:d) by omega),bP];simp only[jc,je,bm];rw[ar (x:=ps[i].1+ps[i].2.2),ar (x:=ps[i].1+ps[i].2.2 - -259200),zL aa];rw[ar (x:=ps[i].1+ps[i].2.2 - -259200-(ps[i].1+ps[i].2.2 - -259200)%604800)];rw[ar (x:=ps[i].1+ps[i].2.2 - -259200-(ps[i].1+ps[i].2.2 - -259200)%604800 + -259200)];rw[ar (x:=ps[i].1+ps[i].2.2 - -259200-(ps[i].1+ps[i].2.2 - -259200)%604800 + -259200-ps[i].2.2)];generalize aO:ps[i].1+ps[i].2.2 - -259200-(ps[i].1+ps[i].2.2 - -259200)%604800 + -259200-ps[i].2.2=st;obtain⟨E1,e1,l1,b1,m1⟩:=jCP hw hl (f:=ps[i].1) (t:=ps[i].2.1) (q:=ps[i].2.2) aa aa p2 (ps.length:d) (i:d) ps (M+1) st acc aa aa aa;rw[e1];simp only[ja];rw[ar (x:=(i:d)+1),aV];obtain⟨E2,e2,l2,b2,m2⟩:=YV hw hl hM fp iL iM gU n (i+1) (acc++E1) aa ay;refine⟨E1++E2,?_,?_,?_,λx=>?_⟩
  .rw[jo]at e2;exact e2
  .rw[jn,Nat.mul_succ];omega
  .intro s hs;rcases js.1 hs with hs|hs
   .have:=b1 s hs;omega
   .exact b2 s hs
  .rw[wR,m1 x,m2 x];have key:∀x,ps[i].1<=x->(x-st)%604800=(x+ps[i].2.2+259200)%604800/\st<=x:=by intro x hx;omega
   constructor
   .rintro (⟨c1,c2,c3,c4⟩|⟨p,hp,h⟩)
    .exact⟨ps[i],zk ..,c1,c2,by rw[<-(key x c1).1];exact c4⟩
    .exact⟨p,qv _ hp,h⟩
   .rintro⟨p,hp,c1,c2,c3⟩
    rcases jl.1 hp with rfl|hp
    .exact F ⟨c1,c2,(key x c1).2,by rw[(key x c1).1];exact c3⟩
    .exact H ⟨p,hp,c1,c2,c3⟩
theorem juw{o:d}{l:bg}(h:iD o l)(jK:l.length<=20){w:WL}(hw:gF 0 w)(hl:w.length<=14){M:I}(hM:M<=60){a b:d}(ha:0<=a)(cX:a<=b)(hb:b<=8589934592)(hlen:b-a<=604800*M) :
  ∃out,j5u (o,l) w a b=J out/\bX (a-1) out/\(∀u∈out,a<=u.1/\u.2<=b)/\out.length<=w.length*(M+1)*(l.length+1)/\
   ∀k,k<=l.length->∀x,a<=x->x<b->aS l k<=x->x<aS l (k+1)->(bG x out↔hasB ((x+bj o l k+259200)%604800) w=true):=by
 obtain⟨ps,e,pl,pm,pc⟩:=YT h ha cX hb
 obtain⟨E,e1,l1,b1,m1⟩:=YV hw hl hM (ps:=ps) aa (lo:=a) (hi:=b) ha hb (λp hp=>by
  obtain⟨h1,h2,h3,i,i1,i2,_⟩:=pm p hp;have:=h.of0 i i1;have:=h.of1 i i1;exact⟨h1,h2,h3,aa,aa,aa⟩) ps.length 0 [] aa af
 rw[show ((0:I):d)=0 from rfl,kc]at e1;have YW:w.length*(M+1)<=854:=qc (z7 hl (show M+1<=61 by omega)) (by decide);have YX:E.length<=w.length*(M+1)*(l.length+1):=qc l1 (Nat.mul_le_mul_left _ pl);have hEl2:E.length<=854*21:=qc YX (z7 YW aa);obtain⟨out,e2,s1,s2,s3,s4⟩:=Jy (l:=E) aa (λs hs=>by have:=b1 s hs;omega) (lo:=a) (hi:=b) (λs hs _=>⟨(b1 s hs).1,(b1 s hs).2.1⟩);refine⟨out,?_,s1,s4,aa,λk hk x oM pX dm eR=>?_⟩
 .simp only[j5u,e,ja,show B (z ps)=(ps.length:d) from rfl,e1,e2]
 .rw[s2 x,m1 x,jt];constructor
  .rintro⟨p,hp,c1,c2,c3⟩
   obtain⟨h1,h2,h3,i,i1,i2,i3,i4⟩:=pm p hp;have:i=k:=Jk h i1 hk (t:=x) aa aa dm eR;subst this;rw[<-i2];exact c3
  .intro hx;obtain⟨p,hp,c1,c2⟩:=pc x oM pX;obtain⟨h1,h2,h3,i,i1,i2,i3,i4⟩:=pm p hp;have:i=k:=Jk h i1 hk (t:=x) aa aa dm eR;subst this;exact⟨p,hp,c1,c2,by rw[i2];exact hx⟩
theorem zZ{o:d}{rs:N aH}(hm:MZ o rs):(cj o (dE (occs rs))).length<=4:=by
 have h1:=Ji (dE (occs rs)) o;have h2:(dE (occs rs)).length=(occs rs).length:=by unfold dE;rw[List.length_reverse,B7];simp
 have:=hm.few;omega
theorem jAI{o:d}{rs:N aH}(hm:MZ o rs):(cj o (dE (occs rs))).length<=20:=qc (zZ hm) aa
end Go.Proofs.Pw
