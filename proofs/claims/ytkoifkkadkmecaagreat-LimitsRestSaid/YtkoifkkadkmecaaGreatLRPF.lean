/- iq 11: Sk is on ue in a D_. -/
import Derived.Test.YtkoifkkadkmecaaGreatLRPD
import Derived.Test.YtkoifkkadkmecaaGreatLRPE
import Derived.Test.YtkoifkkadkmecaaGreatLRPA
import Derived.Test.YtkoifkkadkmecaaGreatLRFns
import Derived.Test.YtkoifkkadkmecaaGreatLRPB
open _root_ renaming Int->B,List->I,Nat->N
open List renaming length->D,take_of_length_le->G,getD_eq_getElem?_getD->H
open Int renaming ofNat->F
open Option renaming some->J
open Or renaming inl->O,inr->R
open ByteArray renaming empty->S
open Go Go.Lft
namespace Go.Proofs.Pw
def tb(z:bF):B×bI:=(z.2.1,cw z.2.1 (fk (occs z.2.2)))
theorem fY.ztab{z:bF}(h:fY z):tY z (tb z).2:=MZ.tab (o:=z.2.1) (rs:=z.2.2) h z.1
theorem fY.zdif{z:bF}(h:fY z):Sa z.2.1 (tb z).2:=RY _ _ _ (MZ.good h)
theorem fY.zref{z:bF}(h:fY z):tY z (tb z).2/\Z4 z (tb z).2/\Sa z.2.1 (tb z).2:=⟨h.ztab,MZ.r4 (o:=z.2.1) (rs:=z.2.2) h z.1,h.zdif⟩
theorem E_{zs:I bF}(h:∀z∈zs,fY z)(hl:zs.length<=100):∀(n i:N),i+n=zs.length->Fa zs (zs.length:B) (i:B) ((zs.take i).map tb)=J (zs.map tb)
 |0,i,hi=>by
  rw[XS];simp only[j5m];rw[ai omg_,j7,aP,G omg_]
 |n+1,i,hi=>by
  have aq:i<zs.length:=omg_;have aT:zs.getD i (S,((0:B),([]:I aN)))=zs[i]:=by simp[aq]
  have ht:=jHA (h zs[i] (jf aq)).ztab;have ih:=E_ h hl n (i+1) omg_;rw[ku,jm aq,zq]at ih;rw[XS];simp only[j5m];rw[ah omg_,bJ,aj (x:=(i:B)+1)];simp only[j6,j8,aT];rw[show joi (zs[i].1,(zs[i].2.1,zs[i].2.2))=_ from ht];simp only[j4];rw[ah (by simp[aG];omega),j6,aB];exact ih
theorem jES{zs:I bF}(h:∀z∈zs,fY z)(hl:zs.length<=100){ps:I cI}{cs:I aU}{ss:I cu}:jl1 (zs,(ps,(cs,ss)))=J ((zs,(ps,(cs,ss))),zs.map tb):=by
 have lp:=E_ h hl zs.length 0 omg_;simp only[jl1,jk0,show F zs.length=(zs.length:B) from rfl];rw[show Fa zs (zs.length:B) 0 []=_ from lp];rfl
theorem K7{zs:I bF}{i:B}(h0:0<=i)(h1:i<(zs.length:B)):List.getD (zs.map tb) i.toNat ((0:B),([]:bI))=tb (zs.getD i.toNat (S,((0:B),([]:I aN)))):=by
 have aq:i.toNat<zs.length:=omg_;simp[H,aq]
theorem fH{zs:I bF}(h:∀z∈zs,fY z){i:B}(h0:0<=i)(h1:i<(zs.length:B)):fY (zs.getD i.toNat (S,((0:B),([]:I aN)))):=by
 have aq:i.toNat<zs.length:=omg_;rw[H,jm aq];exact h _ (jf aq)
theorem jCr(a b:B):jfa a b=J (decide (a<b)):=by
 simp only[jfa,jdz,j4,jk,j7]
theorem Sl{ds:I B}(hs:ds.Pairwise (· < ·))(hl:ds.length<=64){x:B}:∀(n a b:N),b-a<=n->a<=b->b<=ds.length->(∀i,(hi:i<ds.length)->i<a->ds[i]<x)->(∀i,(hi:i<ds.length)->b<=i->x<=ds[i])->
  ∃k:N,Js ds x (ds.length:B) (a:B) (b:B)=J (ds,x,(ds.length:B),(k:B))/\k<=ds.length/\(∀i,(hi:i<ds.length)->i<k->ds[i]<x)/\∀i,(hi:i<ds.length)->k<=i->x<=ds[i]
 |n,a,b,hn,bt,hb,h1,h2=>by
  rw[jaJ];simp only[j1T];by_cases aq:a<b
  .have hm:IntKind.wrap .u64 ((a:B)+(b:B))=(a:B)+(b:B):=IntWalk.u64_in _ ⟨omg_,omg_⟩;have hd:Int.fdiv ((a:B)+(b:B)) 2=(((a+b)/2:N):B):=by rw[Int.fdiv_eq_ediv_of_nonneg _ omg_];omega
   have Cg:(a+b)/2<ds.length:=omg_;have aT:ds.getD ((a+b)/2) (0:B)=ds[(a+b)/2]:=by simp[Cg]
   rw[ah (show (a:B)<(b:B) by omega),aj (x:=(a:B)+(b:B)),hm,hd,aj (x:=(((a+b)/2:N):B)),bJ,aj (x:=(((a+b)/2:N):B)+1)];simp only[j6,j8,aT,jCr,j4];cases n with
   |zero=>omega
   |succ n=>
    by_cases hc:ds[(a+b)/2]<x
    .rw[ah hc,j6,aB];refine Sl hs hl n ((a+b)/2+1) b omg_ omg_ hb (λi hi mQ=>?_) h2;by_cases he:i=(a+b)/2
     .subst he;exact hc
     .exact Int.lt_trans (kg.1 hs i ((a+b)/2) hi Cg omg_) hc
    .rw[ai hc,j7,aB];refine Sl hs hl n a ((a+b)/2) omg_ omg_ omg_ h1 (λi hi mQ=>?_);by_cases he:i=(a+b)/2
     .subst he;exact Int.not_lt.1 hc
     .exact qb (Int.not_lt.1 hc) (vi (kg.1 hs ((a+b)/2) i Cg hi omg_))
  .have:a=b:=omg_;subst this;rw[ai omg_,j7,aP];exact⟨a,rfl,hb,h1,h2⟩
def okW(w:WL)(s:B):Bool:=cond (decide ((w.length:B)>0)) (hasB s w) true
section
variable{zs:I bF}{ps:I cI}{cs:I aU}{ss:I cu}(hz:∀z∈zs,fY z)
include hz
def uf(L:bP)(K:B):Int:=L.2.2.2.2.2.1.getD (Int.tmod K (L.2.2.2.2.2.1.length:B)).toNat 0
end
theorem ez.rt{nz np nc:N}{L:bP}(h:ez nz np nc L)(hd:L.2.2.1.1<=100000):Rt L:=
 ⟨h.d0,hd,h.c0,h.c1,h.u0,h.u1,h.e0,h.e1,λhn=>h.m0 (by rw[hn];rfl)⟩
theorem jGj{z:bF}(hz:fY z){t:B}(h0:0<=t)(h1:t<=8589934592):∃d s,j1n (tb z) t=J d/\j4X d=J s:=by
 have ht:=hz.ztab;obtain⟨j,hj,j1,j2⟩:=tT ht.2 h0 h1;have o0:=ht.2.of0 j hj;have o1:=ht.2.of1 j hj;obtain⟨s,hs⟩:∃s,j4X ((t+bu z.2.1 (tb z).2 j)/86400,(t+bu z.2.1 (tb z).2 j)%86400)=J s:=by simp only[j4X,_G,j4];exact⟨_,rfl⟩
 exact⟨_,s,CW ht.2 hj j1 j2,hs⟩
abbrev SL:=I (B×B)
def bq(x:B)(l:SL):Prop:=∃s∈l,s.1<=x/\x<s.2
def bB(p:B):SL->Prop
 |[]=>True
 |x::r=>p<x.1/\x.1<x.2/\bB x.2 r
def Sml(l:SL):Prop:=∀s∈l, -1000000000000<=s.1/\s.1<=1000000000000 /\ -1000000000000<=s.2/\s.2<=1000000000000
theorem fp{x:B}:¬bq x []:=by rintro⟨s,hs,_⟩;simp at hs
theorem du{x:B}{s:B×B}{l:SL}:bq x (s::l)↔(s.1<=x/\x<s.2)\/bq x l:=by
 constructor
 .rintro⟨u,hu,h⟩
  rcases je.1 hu with rfl|hu
  .exact O h
  .exact R ⟨u,hu,h⟩
 .rintro (h|⟨u,hu,h⟩)
  .exact⟨s,smp_,h⟩
  .exact⟨u,by simp[hu],h⟩
theorem wX{x:B}{l r:SL}:bq x (l++r)↔bq x l\/bq x r:=by
 constructor
 .rintro⟨u,hu,h⟩
  rcases jj.1 hu with hu|hu
  .exact O ⟨u,hu,h⟩
  .exact R ⟨u,hu,h⟩
 .rintro (⟨u,hu,h⟩|⟨u,hu,h⟩)
  .exact⟨u,by simp[hu],h⟩
  .exact⟨u,by simp[hu],h⟩
def nE(s:B×B):Bool:= !(decide (s.2<=s.1))
theorem F_{l:SL}(hl:l.length<=10000000):∀(n i:N),i+n=l.length->(∀s∈l.take i,nE s=true)->
  (∃j:N,Ff (l.length:B) (i:B) l=J (.inl ((j:B),l))/\j<l.length/\(∀s∈l.take j,nE s=true)/\nE (l.getD j (0,0))=false)\/
  (Ff (l.length:B) (i:B) l=J (.inr l)/\∀s∈l,nE s=true)
 |0,i,hi,h=>by
  rw[XZ];simp only[j0F];rw[ai omg_,j7,aP];rw[G omg_]at h;exact R ⟨rfl,h⟩
 |n+1,i,hi,h=>by
  rw[XZ];simp only[j0F,jaC];rw[ah (show (i:B)<(l.length:B) by omega),bJ,aj (x:=(i:B)+1)];simp only[j6,j8,j4];have aq:i<l.length:=omg_;cases hc:decide ((l.getD i ((0:B),(0:B))).2<=(l.getD i ((0:B),(0:B))).1) with
  |true=>simp only[j6,aP];exact O ⟨i,rfl,aq,h,by simp only[nE];rw[hc];rfl⟩
  |false=>
   simp only[j7,aB];refine F_ hl n (i+1) omg_ λs hs=>?_;rw[ku]at hs;rcases jj.1 hs with hs|hs
   .exact h s hs
   .have aT:l.getD i ((0:B),(0:B))=l[i]:=by simp[aq]
    rw[aT]at hc;rw[jm aq]at hs;simp at hs;subst hs;simp only[nE];rw[hc];rfl
theorem Sn{l:SL}(hl:l.length<=10000000):∀(n i j:N)(b:SL),j+n=l.length->i<=j->b.length=l.length->b.drop j=l.drop j->b.take i=(l.take j).filter nE->
  ∃(k:N)(b':SL),Jl (i:B) (j:B) b=J ((k:B),b')/\b'.length=l.length/\k<=l.length/\b'.take k=l.filter nE
 |0,i,j,b,hj,dP,hb,hd,ht=>by
  rw[X0];simp only[j0z,show F (D b)=(b.length:B) from rfl];rw[ai omg_,j7,aP];rw[G (l:=l) omg_]at ht;exact⟨i,b,rfl,hb,omg_,ht⟩
 |n+1,i,j,b,hj,dP,hb,hd,ht=>by
  have aq:j<l.length:=omg_
  have Sp:b.getD j ((0:B),(0:B))=l[j]:=by
   have:b[j]? = l[j]? := by
    have h:=jo (λx=>x[0]?) hd;simpa[List.getElem?_drop]using h
   rw[H,this,jm aq];rfl
  have gU:b.drop (j+1)=l.drop (j+1):=by have:=jo (List.drop 1) hd;simpa[List.drop_drop]using this
  have oY:l.take (j+1)=l.take j++[l[j]]:=by rw[ku,jm aq];rfl
  rw[X0];simp only[j0z,jaC,show F (D b)=(b.length:B) from rfl];rw[ah (show (j:B)<(b.length:B) by omega),bJ,bJ,aj (x:=(j:B)+1),aj (x:=(i:B)+1)];simp only[j6,j8,j4,Sp];cases hc:decide (l[j].2<=l[j].1) with
  |true=>simp only[jl,j7,aB];refine Sn hl n i (j+1) b omg_ omg_ hb gU ?_;rw[oY,vw,ht];simp[nE,hc]
  |false=>
   simp only[jv,j6,aB];refine Sn hl n (i+1) (j+1) _ omg_ omg_ (by simpa using hb) ?_ ?_
   .rw[List.drop_set_of_lt omg_];exact gU
   .have DJ:i<b.length:=omg_;rw[ku,List.take_set_of_le (jn _),yu DJ,ht,oY,vw];simp[nE,hc]
theorem jAl{l:SL}(hl:l.length<=10000000):∃n m,j1S l=J (n,m)/\m.take n.toNat=l.filter nE:=by
 simp only[j1S,j34,show F (D l)=(l.length:B) from rfl];rcases F_ hl l.length 0 omg_ smp_ with⟨j,e,hj,h1,h2⟩|⟨e,h⟩
 .rw[show ((0:N):B)=0 from rfl]at e;rw[e];simp only[j4,N0];rw[ca omg_,aj (x:=(j:B)+1)];have aT:l.getD j ((0:B),(0:B))=l[j]:=by simp[hj]
  rw[aT]at h2
  obtain⟨k,b,e2,hb,hk,ht⟩:=Sn hl (l.length-(j+1)) j (j+1) l omg_ omg_ rfl rfl (by
   rw[ku,jm hj,vw,List.filter_eq_self.2 h1];simp[h2])
  rw[show ((j:B)+1)=((j+1:N):B) from rfl,e2];simp only[j7,j4,show F (D b)=(b.length:B) from rfl,j8];rw[ah (show (0:B)<=(k:B) by omega),ah (show (k:B)<=(b.length:B) by omega)];simp only[zt,j6,ym];rw[ah sqo_,j6];refine⟨_,_,rfl,?_⟩;simp only[show (F k).toNat=k from rfl];rw[z6 sqo_,vp,Nat.min_self,ht]
 .rw[show ((0:N):B)=0 from rfl]at e;rw[e];simp only[j4,kV,qs,j6];refine⟨_,_,rfl,?_⟩;simp only[show (F l.length).toNat=l.length from rfl];rw[G (jn _),List.filter_eq_self.2 h]
def nh(e:B×B):SL->SL
 |[]=>[e]
 |s::r=>if s.1<=e.2 then nh (e.1,if s.2>e.2 then s.2 else e.2) r else e::nh s r
def mg:SL->SL
 |[]=>[]
 |s::r=>nh s r
theorem Sq{L:SL}(hL:L.length<=10000000):∀(n i:N)(A:SL)(e:B×B),i+n=L.length->A.length<i->
  Fg (L.length:B) (i:B) (A++[e]) L=J (A++nh e (L.drop i))
 |0,i,A,e,hi,hA=>by
  rw[OE];simp only[j4q];rw[ai omg_,j7,aP,jd omg_];rfl
 |n+1,i,A,e,hi,hA=>by
  have aq:i<L.length:=omg_;have aT:L.getD i ((0:B),(0:B))=L[i]:=by simp[aq]
  have hle:(A++[e]).length=A.length+1:=smp_;have qQ:(A++[e]).getD A.length ((0:B),(0:B))=e:=smp_;rw[OE,jb aq];simp only[j4q,nh,show F (D (A++[e]))=((A.length:B)+1) from by rw[hle];rfl]
  rw[ah (show (i:B)<(L.length:B) by omega),bJ,ah (show (A.length:B)+1>0 by omega),aj (x:=(A.length:B)+1-1),aj (x:=(i:B)+1),
   bA omg_ (by rw[hle];omega),show ((A.length:B)+1-1).toNat=A.length by omega]
  simp only[j6,j8,aT,qQ];by_cases hc:L[i].1<=e.2
  .rw[ah hc,if_pos hc];simp only[j6,aB]
   rw[show (A++[e]).set A.length (e.1,if L[i].2>e.2 then L[i].2 else e.2)=A++[(e.1,if L[i].2>e.2 then L[i].2 else e.2)] by
    rw[v6 _ _ (jn _)];simp]
   exact Sq hL n (i+1) A _ omg_ omg_
  .rw[ai hc,if_neg hc,ah (by rw[hle];simp[aG];omega)];simp only[j7,j6,aB];have:=Sq hL n (i+1) (A++[e]) L[i] omg_ (by rw[hle];omega);rw[show A++e::nh L[i] (L.drop (i+1))=A++[e]++nh L[i] (L.drop (i+1)) by simp];exact this
theorem jHN{L:SL}(hL:L.length<=10000000):Fg (L.length:B) 0 [] L=J (mg L):=by
 rw[OE];simp only[j4q];cases L with
 |nil=>rw[ai smp_,j7,aP];rfl
 |cons s r=>rw[ah (show (0:B)<((s::r).length:B) by simp only[ji];omega),bA omg_ (by simp only[ji];omega)];simp only[j6,show F (D ([]:SL))=0 from rfl];rw[ai (show¬((0:B)>0) by omega),j7,ah (by simp[aG]),aj (x:=(0:B)+1)];simp only[j6,aB];have:=Sq hL r.length 1 [] s sqo_ smp_;simpa[mg]using this
def G2:SL->Prop
 |[]=>True
 |s::r=>(∀u∈r,s.1<=u.1)/\G2 r
theorem Sr:∀{r:SL}{e:B×B}{p:B},p<e.1->e.1<e.2->(∀s∈r,nE s=true)->G2 r->bB p (nh e r)
 |[],e,p,h1,h2,_,_=>⟨h1,h2,trivial⟩
 |s::r,e,p,h1,h2,h3,h4=>by
  simp only[nh];have hs:s.1<s.2:=by have:=h3 s smp_;simp[nE]at this;omega
  split
  .exact Sr (by exact h1) (by dsimp only;split<;>omega) (λu hu=>h3 u (by simp[hu])) h4.2
  .exact⟨h1,h2,Sr omg_ hs (λu hu=>h3 u (by simp[hu])) h4.2⟩
theorem Su{x:B}:∀{r:SL}{e:B×B},(∀s∈r,e.1<=s.1)->(∀s∈r,nE s=true)->G2 r->(bq x (nh e r)↔(e.1<=x/\x<e.2)\/bq x r)
 |[],e,_,_,_=>by simp[nh,bq]
 |s::r,e,h1,h3,h4=>by
  have hs:s.1<s.2:=by have:=h3 s smp_;simp[nE]at this;omega
  have he:e.1<=s.1:=h1 s smp_;simp only[nh];split
  .rw[Su (e:=(e.1,if s.2>e.2 then s.2 else e.2)) (λu hu=>h1 u (by simp[hu])) (λu hu=>h3 u (by simp[hu])) h4.2,du];dsimp only;constructor
   .rintro (⟨a,b⟩|h)
    .split at b
     .by_cases hx:x<e.2
      .exact O ⟨a,hx⟩
      .exact R (O ⟨omg_,b⟩)
     .exact O ⟨a,b⟩
    .exact R (R h)
   .rintro (⟨a,b⟩|⟨a,b⟩|h)
    .exact O ⟨a,by split<;>omega⟩
    .exact O ⟨omg_,by split<;>omega⟩
    .exact R h
  .rw[du,Su h4.1 (λu hu=>h3 u (by simp[hu])) h4.2,du]
theorem Sv:∀(r:SL)(e:B×B),(nh e r).length<=r.length+1
 |[],e=>by simp[nh]
 |s::r,e=>by
  simp only[nh];split
  .have:=Sv r (e.1,if s.2>e.2 then s.2 else e.2);simp only[ji];omega
  .have:=Sv r s;simp only[ji];omega
theorem Sw{lo hi:B}:∀{r:SL}{e:B×B},(lo<=e.1/\e.2<=hi)->(∀s∈r,lo<=s.1/\s.2<=hi)->∀u∈nh e r,lo<=u.1/\u.2<=hi
 |[],e,h1,h2=>by simp only[nh];intro u hu;simp at hu;subst hu;exact h1
 |s::r,e,h1,h2=>by
  have hs:=h2 s smp_;simp only[nh];split
  .exact Sw ⟨h1.1,by dsimp only;split<;>omega⟩ (λu hu=>h2 u (by simp[hu]))
  .intro u hu;rcases je.1 hu with rfl|hu
   .exact h1
   .exact Sw hs (λu hu=>h2 u (by simp[hu])) u hu
theorem jGk{L:SL}(h:L.Pairwise (λx y=>¬w64 (y.1-x.1)<0))(hb:Sml L):G2 L:=by
 induction L with
 |nil=>trivial
 |cons s r ih=>rw[jt]at h;refine⟨λu hu=>?_,ih h.2 (λv hv=>hb v (by simp[hv]))⟩;have h1:=h.1 u hu;have h2:=hb s smp_;have h3:=hb u (by simp[hu]);rw[aj (x:=u.1-s.1)]at h1;omega
theorem jCs:Go.Sort.SWO (Go.Proofs.ltOf λ(x y:Go.Lft.Sml (.pair (.int .i64) (.int .i64)))=>(j8U x.1 y.1).getD 0):=by
 refine I3 (λx=>x.1.1) (λx=>?_) _ λx y=>rfl;have:=x.2;simp only[gZ,jg,js]at this;exact this.1
theorem jEV{l:SL}(hl:l.length<=10000000)(hb:Sml l):∃L,j1e l=J L/\L.Perm l/\G2 L:=by
 obtain⟨L,e,hp,hs⟩:=Ov (a:= .pair (.int .i64) (.int .i64)) (cf:=λx y=>(j8U x y).getD 0) jCs (xs:=l) (λx hx=>by
  have:=hb x hx;simp only[gZ,jg,js];refine⟨⟨?_,?_⟩,⟨?_,?_⟩⟩
  .exact qb (by decide) this.1
  .exact qb this.2.1 (by decide)
  .exact qb (by decide) this.2.2.1
  .exact qb this.2.2.2 (by decide)) (by show D l<_;omega)
 exact⟨L,e,hp,jGk hs λs hm=>hb s (hp.mem_iff.1 hm)⟩
theorem C4{l:SL}(hl:l.length<=10000000)(hb:Sml l){lo hi:B}(iP:∀s∈l,s.1<s.2->lo<=s.1/\s.2<=hi) :
  ∃out,j8V l=J out/\bB (lo-1) out/\(∀x,bq x out↔bq x l)/\out.length<=l.length/\∀u∈out,lo<=u.1/\u.2<=hi:=by
 obtain⟨n,m,e1,ht⟩:=jAl hl;have fh:(l.filter nE).length<=l.length:=qo _ _;obtain⟨L,e2,hp,hs⟩:=jEV (l:=l.filter nE) omg_ (λs h=>hb s (kz.1 h).1);have hLl:L.length=(l.filter nE).length:=hp.length_eq;have C5:∀s,s∈L↔s∈l/\nE s=true:=λs=>hp.mem_iff.trans kz
 have G_:∀x,bq x L↔bq x l:=by
  intro x;constructor
  .rintro⟨s,h,h2⟩;exact⟨s,((C5 s).1 h).1,h2⟩
  .rintro⟨s,h,h2⟩;exact⟨s,(C5 s).2 ⟨h,by simp only[nE];rw[ai omg_];rfl⟩,h2⟩
 have bz:∀s∈L,s.1<s.2:=λs h=>by have:=((C5 s).1 h).2;simp[nE]at this;omega
 refine⟨mg L,?_,?_⟩
 .simp only[j8V,j43];rw[ah (by simp[aG];omega)];simp only[j6,j4,jp,e1,ht,e2,show F (D L)=(L.length:B) from rfl,jHN (L:=L) omg_]
 .cases L with
  |nil=>refine⟨trivial,λx=>G_ x,by simp[mg],by simp[mg]⟩
  |cons s r=>
   have h0:=iP s ((C5 s).1 smp_).1 (bz s smp_);have hr:∀u∈r,nE u=true:=λu hu=>((C5 u).1 (by simp[hu])).2;refine⟨Sr omg_ (bz s smp_) hr hs.2,λx=>?_,?_,?_⟩
   .rw[<-G_ x,du];exact Su hs.1 hr hs.2
   .have:=Sv r s;simp only[mg,ji]at *;omega
   .exact Sw h0 λu hu=>iP u ((C5 u).1 (by simp[hu])).1 (bz u (by simp[hu]))
def sq(o:B)(l:bI)(a b:B)(k:N):N->I (B×(B×B))
 |0=>[]
 |n+1=>if aR l (k+1)<b then (a,(aR l (k+1),bu o l k))::sq o l (aR l (k+1)) b (k+1) n else [(a,(b,bu o l k))]
section
variable{o:B}{l:bI}(h:iU o l)
include h
theorem H_{b:B}(hb:b<=8589934592):∀(n k:N)(a:B)(acc:I (B×(B×B))),k+n=l.length+1->k<=l.length->aR l k<=a->a<aR l (k+1)->a<b->acc.length<=k->
  CE a b o l acc=J (acc++sq o l a b k n)
 |0,k,a,acc,hn,hk,_,_,_,_=>omg_
 |n+1,k,a,acc,hn,hk,h1,h2,bt,ha=>by
  have hlen:=h.len;rw[CF];simp only[j0S,show F (D l)=(l.length:B) from rfl,sq];rw[ah bt];simp only[j6,RF h hk h1 h2,RG h hk,j4];by_cases iv:k<l.length
  .have hf:aR l (k+1)=(l.getD k ((0:B),(0:B))).1:=kG iv;rw[ah (show (k:B)<(l.length:B) by omega),bJ];simp only[j6,j8,<-hf];rw[ah (by simp[aG];omega),j6,aB];by_cases hc:aR l (k+1)<b
   .rw[if_pos hc,if_pos hc];have:=H_ hb n (k+1) (aR l (k+1)) (acc++[(a,(aR l (k+1),bu o l k))]) omg_ omg_ omg_ (h.frm_lt omg_) hc sqo_;rw[jh]at this;exact this
   .rw[if_neg hc,if_neg hc];rw[CF];simp only[j0S];rw[ai omg_,j7,aP]
  .have cD:k=l.length:=omg_;have hf:aR l (k+1)=8589934593:=by rw[cD];exact nP
   rw[if_neg (show¬aR l (k+1)<b by omega),ai omg_,j7,ah (by simp[aG];omega),j6,aB];rw[CF];simp only[j0S];rw[ai omg_,j7,aP]
omit h in
theorem I_:∀(n k:N)(a b:B),(sq o l a b k n).length<=n
 |0,k,a,b=>by simp[sq]
 |n+1,k,a,b=>by
  simp only[sq];split
  .have:=I_ n (k+1) (aR l (k+1)) b;simp;omega
  .simp
theorem J_{b:B}:∀(n k:N)(a:B),k+n=l.length+1->aR l k<=a->a<aR l (k+1)->a<b->
  ∀p∈sq o l a b k n,a<=p.1/\p.1<p.2.1/\p.2.1<=b/\∃i,k<=i/\i<=l.length/\p.2.2=bu o l i/\aR l i<=p.1/\p.2.1<=aR l (i+1)
 |0,k,a,hn,h1,h2,bt,p,hp=>by simp[sq]at hp
 |n+1,k,a,hn,h1,h2,bt,p,hp=>by
  simp only[sq]at hp;split at hp
  .rename_i hc;rcases je.1 hp with rfl|hp
   .exact⟨jy _,h2,by dsimp only;omega,k,jn _,omg_,rfl,h1,jy _⟩
   .cases n with
    |zero=>simp[sq]at hp
    |succ n=>
    obtain⟨a1,a2,a3,i,i1,i2,i3⟩:=J_ (n+1) (k+1) (aR l (k+1)) omg_ (jy _) (h.frm_lt omg_) hc p hp;exact⟨omg_,a2,a3,i,omg_,i2,i3⟩
  .rename_i hc;simp at hp;subst hp;exact⟨jy _,bt,jy _,k,jn _,omg_,rfl,h1,by dsimp only;omega⟩
theorem K_{b:B}(hb:b<=8589934592):∀(n k:N)(a:B),k+n=l.length+1->k<=l.length->aR l k<=a->a<aR l (k+1)->a<b->
  ∀x,a<=x->x<b->∃p∈sq o l a b k n,p.1<=x/\x<p.2.1
 |0,k,a,hn,hk,h1,h2,bt,x,hx,ry=>omg_
 |n+1,k,a,hn,hk,h1,h2,bt,x,hx,ry=>by
  simp only[sq];split
  .rename_i hc;by_cases aq:x<aR l (k+1)
   .exact⟨_,zd ..,hx,aq⟩
   .have iv:k+1<=l.length:=by
     rcases qy k l.length with h'|h'
     .exact h'
     .have:k=l.length:=omg_;subst this;rw[nP]at hc;omega
    obtain⟨p,hp,xw⟩:=K_ hb n (k+1) (aR l (k+1)) omg_ iv (jy _) (h.frm_lt iv) hc x omg_ ry;exact⟨p,by simp[hp],xw⟩
  .exact⟨_,zd ..,hx,ry⟩
theorem L_{a b:B}(ha:0<=a)(bt:a<=b)(hb:b<=8589934592):∃ps,j2k (o,l) a b=J ps/\ps.length<=l.length+1/\
  (∀p∈ps,a<=p.1/\p.1<p.2.1/\p.2.1<=b/\∃i,i<=l.length/\p.2.2=bu o l i/\aR l i<=p.1/\p.2.1<=aR l (i+1))/\∀x,a<=x->x<b->∃p∈ps,p.1<=x/\x<p.2.1:=by
 simp only[j2k];rcases Int.lt_or_le a b with aq|qQ
 .obtain⟨k,hk,h1,h2⟩:=tT h ha omg_;have:=H_ h hb (l.length+1-k) k a [] omg_ hk h1 h2 aq smp_;rw[jp]at this;rw[this];refine⟨_,rfl,?_,λp hp=>?_,K_ h hb _ k a omg_ hk h1 h2 aq⟩
  .have:=I_ (o:=o) (l:=l) (l.length+1-k) k a b;omega
  .obtain⟨a1,a2,a3,i,_,i2⟩:=J_ h _ k a omg_ h1 h2 aq p hp;exact⟨a1,a2,a3,i,i2⟩
 .rw[CF];simp only[j0S];rw[ai omg_,j7,aP];exact⟨[],rfl,smp_,smp_,λx h1 h2=>omg_⟩
end
def gQ(f t st:B)(v:B×B):B×Int:=(if st+v.1>f then st+v.1 else f,if st+v.2<t then st+v.2 else t)
theorem G3{s:B}:∀{w:WL},hasB s w=true↔∃v∈w,v.1<=s/\s<v.2
 |[]=>by simp[hasB]
 |x::r=>by
  simp only[hasB,je];cases hc:cond (decide (x.1<=s)) (decide (s<x.2)) false with
  |true=>
   simp only[j6,true_iff];refine⟨x,O rfl,?_⟩;by_cases h1:x.1<=s
   .rw[ah h1,j6]at hc;exact⟨h1,q8 hc⟩
   .rw[ai h1,j7]at hc;simp at hc
  |false=>
   simp only[j7];rw[G3 (w:=r)];constructor
   .rintro⟨v,hv,h⟩;exact⟨v,R hv,h⟩
   .rintro⟨v,rfl|hv,h⟩
    .rw[ah h.1,ah h.2]at hc;simp at hc
    .exact⟨v,hv,h⟩
theorem M_{w:WL}(hw:gj 0 w)(hl:w.length<=14){st f t q:B}(aQ : -1000000<=st)(dp:st<=8600000000)(a b:B)(ps:I (B×(B×B))):∀(n i:N)(acc:SL),i+n=w.length->acc.length+n<=1000000->
  Jm w st a b w (w.length:B) (i:B) f t q acc ps=J (w,st,a,b,f,t,q,acc++(w.drop i).map (gQ f t st),ps)
 |0,i,acc,hi,_=>by
  rw[X1];simp only[j4J];rw[ai omg_,j7,aP,jd omg_];simp
 |n+1,i,acc,hi,ha=>by
  have aq:i<w.length:=omg_;have aT:w.getD i ((0:B),(0:B))=w[i]:=by simp[aq]
  have hg:=yU hw i aq;rw[aT]at hg;rw[X1,jb aq];simp only[j4J];rw[ah (show (i:B)<(w.length:B) by omega),bJ];simp only[j6,j8,aT];rw[aj (x:=(i:B)+1),aj (x:=st+w[i].1),aj (x:=st+w[i].2),ah (by simp[aG];omega),j6,aB];have:=M_ hw hl aQ dp a b ps n (i+1) (acc++[gQ f t st w[i]]) omg_ sqo_ (f:=f) (t:=t) (q:=q);rw[jh]at this;exact this
theorem jHO{w:WL}(hw:gj 0 w)(hl:w.length<=14){f t q:B}(hf:0<=f)(ht:t<=8589934592)(jP:f<t)(a b:B)(ps:I (B×(B×B))):∀(m:N)(st:B)(acc:SL), -1000000<=st->t<=st+604800*m->acc.length+14*m<=900000->
  ∃E,Jn w st a b f t q acc ps=J (w,a,b,acc++E,ps)/\E.length<=w.length*m/\(∀s∈E,f<=s.1/\s.2<=t/\s.1<=100000000000 /\ -100000000000<=s.2)/\
   ∀x,bq x E↔f<=x/\x<t/\st<=x/\hasB ((x-st)%604800) w=true:=by
 intro m;induction m with
 |zero=>intro st acc aQ hm _;rw[X2];simp only[j4K];rw[ai omg_,j7,aP];exact⟨[],smp_,smp_,smp_,λx=>⟨λh=>absurd h fp,λh=>omg_⟩⟩
 |succ m ih=>
  intro st acc aQ hm dQ;rw[X2];simp only[j4K,show F (D w)=(w.length:B) from rfl];by_cases aq:st<t
  .have h4:=M_ hw hl aQ omg_ a b ps w.length 0 acc omg_ omg_ (f:=f) (t:=t) (q:=q);rw[show ((0:N):B)=0 from rfl,jr]at h4;rw[ah aq,j6,h4];simp only[j4];rw[aj (x:=st+604800),aB];obtain⟨E,e,h1,h2,h3⟩:=ih (st+604800) (acc++w.map (gQ f t st)) omg_ omg_ sqo_;refine⟨w.map (gQ f t st)++E,?_,?_,?_,λx=>?_⟩
   .rw[jh]at e;exact e
   .rw[jc,ke,yi];omega
   .intro s hs;rcases jj.1 hs with hs|hs
    .obtain⟨v,hv,rfl⟩:=jz.1 hs;obtain⟨i,hi,rfl⟩:=qa hv;have hg:=yU hw i hi;rw[show w.getD i (0,0)=w[i] by simp[hi]]at hg;simp only[gQ];refine⟨?_,?_,?_,?_⟩<;>split<;>omega
    .exact h2 s hs
   .rw[wX,h3 x];constructor
    .rintro (⟨s,hs,qT,ry⟩|⟨a1,a2,a3,a4⟩)
     .obtain⟨v,hv,rfl⟩:=jz.1 hs;have h9:=hv;obtain⟨i,hi,rfl⟩:=qa hv;have hg:=yU hw i hi;rw[show w.getD i (0,0)=w[i] by simp[hi]]at hg;simp only[gQ]at qT ry;have b1:f<=x/\st+w[i].1<=x:=by split at qT<;>omega
      have b2:x<t/\x<st+w[i].2:=by split at ry<;>omega
      refine⟨b1.1,b2.1,omg_,G3.2 ⟨w[i],h9,?_,?_⟩⟩<;>omega
     .refine⟨a1,a2,omg_,?_⟩;rw[show (x-st)%604800=(x-(st+604800))%604800 by omega];exact a4
    .rintro⟨a1,a2,a3,a4⟩
     by_cases hx:st+604800<=x
     .refine R ⟨a1,a2,hx,?_⟩;rw[show (x-(st+604800))%604800=(x-st)%604800 by omega];exact a4
     .obtain⟨v,hv,c1,c2⟩:=G3.1 a4;have e1:(x-st)%604800=x-st:=omg_;rw[e1]at c1 c2;refine O ⟨gQ f t st v,jz.2 ⟨v,hv,rfl⟩,?_,?_⟩<;>simp only[gQ]<;>split<;>omega
  .rw[ai aq,j7,aP];exact⟨[],smp_,smp_,smp_,λx=>⟨λh=>absurd h fp,λh=>omg_⟩⟩
theorem N_{w:WL}(hw:gj 0 w)(hl:w.length<=14){ps:I (B×(B×B))}{M:N}(hM:M<=60)(gr:ps.length<=30){lo hi:B}(iP:0<=lo)(ir:hi<=8589934592)
  (jD:∀p∈ps,lo<=p.1/\p.1<p.2.1/\p.2.1<=hi /\ -64800<=p.2.2/\p.2.2<=64800/\p.2.1-p.1<=604800*M):∀(n i:N)(acc:SL),i+n=ps.length->acc.length<=854*i->
  ∃E,Jo w (ps.length:B) (i:B) acc ps=J (acc++E)/\E.length<=w.length*(M+1)*n/\(∀s∈E,lo<=s.1/\s.2<=hi/\s.1<=100000000000 /\ -100000000000<=s.2)/\
   ∀x,bq x E↔∃p∈ps.drop i,p.1<=x/\x<p.2.1/\hasB ((x+p.2.2+259200)%604800) w=true
 |0,i,acc,hi,_=>by
  rw[X3];simp only[j4L];rw[ai omg_,j7,aP,jd omg_];exact⟨[],smp_,smp_,smp_,λx=>⟨λh=>absurd h fp,λ⟨p,hp,_⟩=>by simp at hp⟩⟩
 |n+1,i,acc,hi,dQ=>by
  have aq:i<ps.length:=omg_;have aT:ps.getD i ((0:B),((0:B),(0:B)))=ps[i]:=by simp[aq]
  obtain⟨p1,p2,p3,p4,p5,p6⟩:=jD ps[i] (jf aq);have O_:w.length*(M+1)<=854:=qi (ql hl (show M+1<=61 by omega)) (by decide);rw[X3,jb aq];simp only[j4L];rw[ah (show (i:B)<(ps.length:B) by omega),bJ];simp only[j6,j8,aT];rw[aj (x:=ps[i].1+ps[i].2.2),aj (x:=ps[i].1+ps[i].2.2 - -259200),yS omg_];rw[aj (x:=ps[i].1+ps[i].2.2 - -259200-(ps[i].1+ps[i].2.2 - -259200)%604800)];rw[aj (x:=ps[i].1+ps[i].2.2 - -259200-(ps[i].1+ps[i].2.2 - -259200)%604800 + -259200)];rw[aj (x:=ps[i].1+ps[i].2.2 - -259200-(ps[i].1+ps[i].2.2 - -259200)%604800 + -259200-ps[i].2.2)];generalize aQ:ps[i].1+ps[i].2.2 - -259200-(ps[i].1+ps[i].2.2 - -259200)%604800 + -259200-ps[i].2.2=st;obtain⟨E1,e1,l1,b1,m1⟩:=jHO hw hl (f:=ps[i].1) (t:=ps[i].2.1) (q:=ps[i].2.2) omg_ omg_ p2 (ps.length:B) (i:B) ps (M+1) st acc omg_ omg_ omg_;rw[e1];simp only[j4];rw[aj (x:=(i:B)+1),aB];obtain⟨E2,e2,l2,b2,m2⟩:=N_ hw hl hM gr iP ir jD n (i+1) (acc++E1) omg_ sqo_;refine⟨E1++E2,?_,?_,?_,λx=>?_⟩
  .rw[jh]at e2;exact e2
  .rw[jc,yi];omega
  .intro s hs;rcases jj.1 hs with hs|hs
   .have:=b1 s hs;omega
   .exact b2 s hs
  .rw[wX,m1 x,m2 x];have key:∀x,ps[i].1<=x->(x-st)%604800=(x+ps[i].2.2+259200)%604800/\st<=x:=by intro x hx;omega
   constructor
   .rintro (⟨c1,c2,c3,c4⟩|⟨p,hp,h⟩)
    .exact⟨ps[i],zd ..,c1,c2,by rw[<-(key x c1).1];exact c4⟩
    .exact⟨p,qx _ hp,h⟩
   .rintro⟨p,hp,c1,c2,c3⟩
    rcases je.1 hp with rfl|hp
    .exact O ⟨c1,c2,(key x c1).2,by rw[(key x c1).1];exact c3⟩
    .exact R ⟨p,hp,c1,c2,c3⟩
theorem Sz{o:B}{l:bI}(h:iU o l)(fm:l.length<=20){w:WL}(hw:gj 0 w)(hl:w.length<=14){M:N}(hM:M<=60){a b:B}(ha:0<=a)(bt:a<=b)(hb:b<=8589934592)(hlen:b-a<=604800*M) :
  ∃out,j2d (o,l) w a b=J out/\bB (a-1) out/\(∀u∈out,a<=u.1/\u.2<=b)/\out.length<=w.length*(M+1)*(l.length+1)/\
   ∀k,k<=l.length->∀x,a<=x->x<b->aR l k<=x->x<aR l (k+1)->(bq x out↔hasB ((x+bu o l k+259200)%604800) w=true):=by
 obtain⟨ps,e,pl,pm,pc⟩:=L_ h ha bt hb
 obtain⟨E,e1,l1,b1,m1⟩:=N_ hw hl hM (ps:=ps) omg_ (lo:=a) (hi:=b) ha hb (λp hp=>by
  obtain⟨h1,h2,h3,i,i1,i2,_⟩:=pm p hp;have:=h.of0 i i1;have:=h.of1 i i1;exact⟨h1,h2,h3,omg_,omg_,omg_⟩) ps.length 0 [] omg_ smp_
 rw[show ((0:N):B)=0 from rfl,jp]at e1;have O_:w.length*(M+1)<=854:=qi (ql hl (show M+1<=61 by omega)) (by decide);have P_:E.length<=w.length*(M+1)*(l.length+1):=qi l1 (vj _ pl);have hEl2:E.length<=854*21:=qi P_ (ql O_ omg_);obtain⟨out,e2,s1,s2,s3,s4⟩:=C4 (l:=E) omg_ (λs hs=>by have:=b1 s hs;omega) (lo:=a) (hi:=b) (λs hs _=>⟨(b1 s hs).1,(b1 s hs).2.1⟩);refine⟨out,?_,s1,s4,omg_,λk hk x qT ry dE gy=>?_⟩
 .simp only[j2d,e,j4,show F (D ps)=(ps.length:B) from rfl,e1,e2]
 .rw[s2 x,m1 x,jr];constructor
  .rintro⟨p,hp,c1,c2,c3⟩
   obtain⟨h1,h2,h3,i,i1,i2,i3,i4⟩:=pm p hp;have:i=k:=KW h i1 hk (t:=x) omg_ omg_ dE gy;subst this;rw[<-i2];exact c3
  .intro hx;obtain⟨p,hp,c1,c2⟩:=pc x qT ry;obtain⟨h1,h2,h3,i,i1,i2,i3,i4⟩:=pm p hp;have:i=k:=KW h i1 hk (t:=x) omg_ omg_ dE gy;subst this;exact⟨p,hp,c1,c2,by rw[i2];exact hx⟩
theorem wY{o:B}{rs:I aN}(hm:MZ o rs):(cw o (fk (occs rs))).length<=4:=by
 have h1:=KV (fk (occs rs)) o;have h2:(fk (occs rs)).length=(occs rs).length:=by unfold fk;rw[List.length_reverse,GG];simp
 have:=hm.few;omega
theorem jEW{o:B}{rs:I aN}(hm:MZ o rs):(cw o (fk (occs rs))).length<=20:=qi (wY hm) omg_
end Go.Proofs.Pw
