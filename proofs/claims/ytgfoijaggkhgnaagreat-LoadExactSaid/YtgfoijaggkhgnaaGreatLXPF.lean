/- mB 11: Tv is on tQ in a Ρ. -/
import Derived.Test.YtgfoijaggkhgnaaGreatLXPA
import Derived.Test.YtgfoijaggkhgnaaGreatLXPD
import Derived.Test.YtgfoijaggkhgnaaGreatLXPE
import Derived.Test.YtgfoijaggkhgnaaGreatLXFns
import Derived.Test.YtgfoijaggkhgnaaGreatLXPB
open _root_ renaming Int->B,List->I,Nat->N
open List renaming length->D,take_of_length_le->G,getD_eq_getElem?_getD->H
open Int renaming ofNat->F
open Option renaming some->J
open Or renaming inl->O,inr->R
open ByteArray renaming empty->S
open Go Go.Lft
namespace Go.Proofs.Pw
def tb(z:bF):B×bC:=(z.2.1,cJ z.2.1 (fv (occs z.2.2)))
theorem gx.ztab{z:bF}(h:gx z):tL z (tb z).2:=MZ.tab (o:=z.2.1) (rs:=z.2.2) h z.1
theorem gx.zdif{z:bF}(h:gx z):Tm z.2.1 (tb z).2:=S9 _ _ _ (MZ.good h)
theorem gx.zref{z:bF}(h:gx z):tL z (tb z).2/\Z4 z (tb z).2/\Tm z.2.1 (tb z).2:=⟨h.ztab,MZ.r4 (o:=z.2.1) (rs:=z.2.2) h z.1,h.zdif⟩
theorem Τ{zs:I bF}(h:∀z∈zs,gx z)(hl:zs.length<=100):∀(n i:N),i+n=zs.length->FW zs (zs.length:B) (i:B) ((zs.take i).map tb)=J (zs.map tb)
 |0,i,hi=>by
  rw[YZ];simp only[j4t];rw[aj aa,j7,aS,G aa]
 |n+1,i,hi=>by
  have an:i<zs.length:=aa;have aR:zs.getD i (S,((0:B),([]:I aL)))=zs[i]:=by simp[an]
  have ht:=n_ (h zs[i] (jg an)).ztab;have ih:=Τ h hl n (i+1) aa;rw[q8,jp an,qc]at ih;rw[YZ];simp only[j4t];rw[ah aa,bD,al (x:=(i:B)+1)];simp only[j6,j8,aR];rw[show jjH (zs[i].1,(zs[i].2.1,zs[i].2.2))=_ from ht];simp only[j4];rw[ah (by simp[aM];omega),j6,aH];exact ih
theorem jFB{zs:I bF}(h:∀z∈zs,gx z)(hl:zs.length<=100){ps:I cR}{cs:I aV}{ss:I cW}:jkJ (zs,(ps,(cs,ss)))=J ((zs,(ps,(cs,ss))),zs.map tb):=by
 have lp:=Τ h hl zs.length 0 aa;simp only[jkJ,jjI,show F zs.length=(zs.length:B) from rfl];rw[show FW zs (zs.length:B) 0 []=_ from lp];rfl
theorem Tw{zs:I bF}{i:B}(h0:0<=i)(h1:i<(zs.length:B)):List.getD (zs.map tb) i.toNat ((0:B),([]:bC))=tb (zs.getD i.toNat (S,((0:B),([]:I aL)))):=by
 have an:i.toNat<zs.length:=aa;simp[H,an]
theorem gR{zs:I bF}(h:∀z∈zs,gx z){i:B}(h0:0<=i)(h1:i<(zs.length:B)):gx (zs.getD i.toNat (S,((0:B),([]:I aL)))):=by
 have an:i.toNat<zs.length:=aa;rw[H,jp an];exact h _ (jg an)
theorem jD5(a b:B):jen a b=J (decide (a<b)):=by
 simp only[jen,jcA,j4,jh,j7]
theorem Tx{ds:I B}(hs:ds.Pairwise (· < ·))(hl:ds.length<=64){x:B}:∀(n a b:N),b-a<=n->a<=b->b<=ds.length->(∀i,(hi:i<ds.length)->i<a->ds[i]<x)->(∀i,(hi:i<ds.length)->b<=i->x<=ds[i])->
  ∃k:N,Kg ds x (ds.length:B) (a:B) (b:B)=J (ds,x,(ds.length:B),(k:B))/\k<=ds.length/\(∀i,(hi:i<ds.length)->i<k->ds[i]<x)/\∀i,(hi:i<ds.length)->k<=i->x<=ds[i]
 |n,a,b,hn,cb,hb,h1,h2=>by
  rw[ja0];simp only[j1n];by_cases an:a<b
  .have hm:IntKind.wrap .u64 ((a:B)+(b:B))=(a:B)+(b:B):=IntWalk.u64_in _ ⟨aa,aa⟩;have hd:Int.fdiv ((a:B)+(b:B)) 2=(((a+b)/2:N):B):=by rw[Int.fdiv_eq_ediv_of_nonneg _ aa];omega
   have zX:(a+b)/2<ds.length:=aa;have aR:ds.getD ((a+b)/2) (0:B)=ds[(a+b)/2]:=by simp[zX]
   rw[ah (show (a:B)<(b:B) by omega),al (x:=(a:B)+(b:B)),hm,hd,al (x:=(((a+b)/2:N):B)),bD,al (x:=(((a+b)/2:N):B)+1)];simp only[j6,j8,aR,jD5,j4];cases n with
   |zero=>omega
   |succ n=>
    by_cases hc:ds[(a+b)/2]<x
    .rw[ah hc,j6,aH];refine Tx hs hl n ((a+b)/2+1) b aa aa hb (λi hi uL=>?_) h2;by_cases he:i=(a+b)/2
     .subst he;exact hc
     .exact Int.lt_trans (q9.1 hs i ((a+b)/2) hi zX aa) hc
    .rw[aj hc,j7,aH];refine Tx hs hl n a ((a+b)/2) aa aa aa h1 (λi hi uL=>?_);by_cases he:i=(a+b)/2
     .subst he;exact Int.not_lt.1 hc
     .exact zb (Int.not_lt.1 hc) (Int.le_of_lt (q9.1 hs ((a+b)/2) i zX hi aa))
  .have:a=b:=aa;subst this;rw[aj aa,j7,aS];exact⟨a,rfl,hb,h1,h2⟩
def okW(w:WL)(s:B):Bool:=cond (decide ((w.length:B)>0)) (hasB s w) true
section
variable{zs:I bF}{ps:I cR}{cs:I aV}{ss:I cW}(hz:∀z∈zs,gx z)
include hz
def tR(L:bZ)(K:B):Int:=L.2.2.2.2.2.1.getD (Int.tmod K (L.2.2.2.2.2.1.length:B)).toNat 0
end
theorem fh.rt{nz np nc:N}{L:bZ}(h:fh nz np nc L)(hd:L.2.2.1.1<=100000):Rt L:=
 ⟨h.d0,hd,h.c0,h.c1,h.u0,h.u1,h.e0,h.e1,λhn=>h.m0 (by rw[hn];rfl)⟩
theorem jGX{z:bF}(hz:gx z){t:B}(h0:0<=t)(h1:t<=8589934592):∃d s,j1y (tb z) t=J d/\C9 d=J s:=by
 have ht:=hz.ztab;obtain⟨j,hj,j1,j2⟩:=pX ht.2 h0 h1;have o0:=ht.2.of0 j hj;have o1:=ht.2.of1 j hj;obtain⟨s,hs⟩:∃s,C9 ((t+bk z.2.1 (tb z).2 j)/86400,(t+bk z.2.1 (tb z).2 j)%86400)=J s:=by simp only[C9,i_,j4];exact⟨_,rfl⟩
 exact⟨_,s,Da ht.2 hj j1 j2,hs⟩
abbrev SL:=I (B×B)
def bJ(x:B)(l:SL):Prop:=∃s∈l,s.1<=x/\x<s.2
def ca(p:B):SL->Prop
 |[]=>True
 |x::r=>p<x.1/\x.1<x.2/\ca x.2 r
def Sml(l:SL):Prop:=∀s∈l, -1000000000000<=s.1/\s.1<=1000000000000 /\ -1000000000000<=s.2/\s.2<=1000000000000
theorem fP{x:B}:¬bJ x []:=by rintro⟨s,hs,_⟩;simp at hs
theorem dI{x:B}{s:B×B}{l:SL}:bJ x (s::l)↔(s.1<=x/\x<s.2)\/bJ x l:=by
 constructor
 .rintro⟨u,hu,h⟩
  rcases je.1 hu with rfl|hu
  .exact O h
  .exact R ⟨u,hu,h⟩
 .rintro (h|⟨u,hu,h⟩)
  .exact⟨s,ae,h⟩
  .exact⟨u,by simp[hu],h⟩
theorem yD{x:B}{l r:SL}:bJ x (l++r)↔bJ x l\/bJ x r:=by
 constructor
 .rintro⟨u,hu,h⟩
  rcases jn.1 hu with hu|hu
  .exact O ⟨u,hu,h⟩
  .exact R ⟨u,hu,h⟩
 .rintro (⟨u,hu,h⟩|⟨u,hu,h⟩)
  .exact⟨u,by simp[hu],h⟩
  .exact⟨u,by simp[hu],h⟩
def nE(s:B×B):Bool:= !(decide (s.2<=s.1))
theorem Υ{l:SL}(hl:l.length<=10000000):∀(n i:N),i+n=l.length->(∀s∈l.take i,nE s=true)->
  (∃j:N,F0 (l.length:B) (i:B) l=J (.inl ((j:B),l))/\j<l.length/\(∀s∈l.take j,nE s=true)/\nE (l.getD j (0,0))=false)\/
  (F0 (l.length:B) (i:B) l=J (.inr l)/\∀s∈l,nE s=true)
 |0,i,hi,h=>by
  rw[Y5];simp only[j0t];rw[aj aa,j7,aS];rw[G aa]at h;exact R ⟨rfl,h⟩
 |n+1,i,hi,h=>by
  rw[Y5];simp only[j0t,j9T];rw[ah (show (i:B)<(l.length:B) by omega),bD,al (x:=(i:B)+1)];simp only[j6,j8,j4];have an:i<l.length:=aa;cases hc:decide ((l.getD i ((0:B),(0:B))).2<=(l.getD i ((0:B),(0:B))).1) with
  |true=>simp only[j6,aS];exact O ⟨i,rfl,an,h,by simp only[nE];rw[hc];rfl⟩
  |false=>
   simp only[j7,aH];refine Υ hl n (i+1) aa λs hs=>?_;rw[q8]at hs;rcases jn.1 hs with hs|hs
   .exact h s hs
   .have aR:l.getD i ((0:B),(0:B))=l[i]:=by simp[an]
    rw[aR]at hc;rw[jp an]at hs;simp at hs;subst hs;simp only[nE];rw[hc];rfl
theorem Tz{l:SL}(hl:l.length<=10000000):∀(n i j:N)(b:SL),j+n=l.length->i<=j->b.length=l.length->b.drop j=l.drop j->b.take i=(l.take j).filter nE->
  ∃(k:N)(b':SL),J8 (i:B) (j:B) b=J ((k:B),b')/\b'.length=l.length/\k<=l.length/\b'.take k=l.filter nE
 |0,i,j,b,hj,dS,hb,hd,ht=>by
  rw[Y6];simp only[j0r,show F (D b)=(b.length:B) from rfl];rw[aj aa,j7,aS];rw[G (l:=l) aa]at ht;exact⟨i,b,rfl,hb,aa,ht⟩
 |n+1,i,j,b,hj,dS,hb,hd,ht=>by
  have an:j<l.length:=aa
  have Ay:b.getD j ((0:B),(0:B))=l[j]:=by
   have:b[j]? = l[j]? := by
    have h:=js (λx=>x[0]?) hd;simpa[List.getElem?_drop]using h
   rw[H,this,jp an];rfl
  have gU:b.drop (j+1)=l.drop (j+1):=by have:=js (List.drop 1) hd;simpa[List.drop_drop]using this
  have lJ:l.take (j+1)=l.take j++[l[j]]:=by rw[q8,jp an];rfl
  rw[Y6];simp only[j0r,j9T,show F (D b)=(b.length:B) from rfl];rw[ah (show (j:B)<(b.length:B) by omega),bD,bD,al (x:=(j:B)+1),al (x:=(i:B)+1)];simp only[j6,j8,j4,Ay];cases hc:decide (l[j].2<=l[j].1) with
  |true=>simp only[jl,j7,aH];refine Tz hl n i (j+1) b aa aa hb gU ?_;rw[lJ,yf,ht];simp[nE,hc]
  |false=>
   simp only[ka,j6,aH];refine Tz hl n (i+1) (j+1) _ aa aa (by simpa using hb) ?_ ?_
   .rw[List.drop_set_of_lt aa];exact gU
   .have vD:i<b.length:=aa;rw[q8,List.take_set_of_le (jv _),List.getElem?_set_self vD,ht,lJ,yf];simp[nE,hc]
theorem jAV{l:SL}(hl:l.length<=10000000):∃n m,j1m l=J (n,m)/\m.take n.toNat=l.filter nE:=by
 simp only[j1m,j2o,show F (D l)=(l.length:B) from rfl];rcases Υ hl l.length 0 aa ae with⟨j,e,hj,h1,h2⟩|⟨e,h⟩
 .rw[show ((0:N):B)=0 from rfl]at e;rw[e];simp only[j4,OP];rw[cj aa,al (x:=(j:B)+1)];have aR:l.getD j ((0:B),(0:B))=l[j]:=by simp[hj]
  rw[aR]at h2
  obtain⟨k,b,e2,hb,hk,ht⟩:=Tz hl (l.length-(j+1)) j (j+1) l aa aa rfl rfl (by
   rw[q8,jp hj,yf,List.filter_eq_self.2 h1];simp[h2])
  rw[show ((j:B)+1)=((j+1:N):B) from rfl,e2];simp only[j7,j4,show F (D b)=(b.length:B) from rfl,j8];rw[ah (show (0:B)<=(k:B) by omega),ah (show (k:B)<=(b.length:B) by omega)];simp only[vb,j6,Bool.true_and];rw[ah ax,j6];refine⟨_,_,rfl,?_⟩;simp only[show (F k).toNat=k from rfl];rw[qq ax,yk,Nat.min_self,ht]
 .rw[show ((0:N):B)=0 from rfl]at e;rw[e];simp only[j4,oc,kq,j6];refine⟨_,_,rfl,?_⟩;simp only[show (F l.length).toNat=l.length from rfl];rw[G (jv _),List.filter_eq_self.2 h]
def mT(e:B×B):SL->SL
 |[]=>[e]
 |s::r=>if s.1<=e.2 then mT (e.1,if s.2>e.2 then s.2 else e.2) r else e::mT s r
def mg:SL->SL
 |[]=>[]
 |s::r=>mT s r
theorem TA{L:SL}(hL:L.length<=10000000):∀(n i:N)(A:SL)(e:B×B),i+n=L.length->A.length<i->
  F1 (L.length:B) (i:B) (A++[e]) L=J (A++mT e (L.drop i))
 |0,i,A,e,hi,hA=>by
  rw[Pu];simp only[j3G];rw[aj aa,j7,aS,jc aa];rfl
 |n+1,i,A,e,hi,hA=>by
  have an:i<L.length:=aa;have aR:L.getD i ((0:B),(0:B))=L[i]:=by simp[an]
  have hle:(A++[e]).length=A.length+1:=ae;have rL:(A++[e]).getD A.length ((0:B),(0:B))=e:=ae;rw[Pu,jb an];simp only[j3G,mT,show F (D (A++[e]))=((A.length:B)+1) from by rw[hle];rfl]
  rw[ah (show (i:B)<(L.length:B) by omega),bD,ah (show (A.length:B)+1>0 by omega),al (x:=(A.length:B)+1-1),al (x:=(i:B)+1),
   bY aa (by rw[hle];omega),show ((A.length:B)+1-1).toNat=A.length by omega]
  simp only[j6,j8,aR,rL];by_cases hc:L[i].1<=e.2
  .rw[ah hc,if_pos hc];simp only[j6,aH]
   rw[show (A++[e]).set A.length (e.1,if L[i].2>e.2 then L[i].2 else e.2)=A++[(e.1,if L[i].2>e.2 then L[i].2 else e.2)] by
    rw[vp _ _ (jv _)];simp]
   exact TA hL n (i+1) A _ aa aa
  .rw[aj hc,if_neg hc,ah (by rw[hle];simp[aM];omega)];simp only[j7,j6,aH];have:=TA hL n (i+1) (A++[e]) L[i] aa (by rw[hle];omega);rw[show A++e::mT L[i] (L.drop (i+1))=A++[e]++mT L[i] (L.drop (i+1)) by simp];exact this
theorem jIk{L:SL}(hL:L.length<=10000000):F1 (L.length:B) 0 [] L=J (mg L):=by
 rw[Pu];simp only[j3G];cases L with
 |nil=>rw[aj ae,j7,aS];rfl
 |cons s r=>rw[ah (show (0:B)<((s::r).length:B) by simp only[jk];omega),bY aa (by simp only[jk];omega)];simp only[j6,show F (D ([]:SL))=0 from rfl];rw[aj (show¬((0:B)>0) by omega),j7,ah (by simp[aM]),al (x:=(0:B)+1)];simp only[j6,aH];have:=TA hL r.length 1 [] s ax ae;simpa[mg]using this
def HK:SL->Prop
 |[]=>True
 |s::r=>(∀u∈r,s.1<=u.1)/\HK r
theorem TB:∀{r:SL}{e:B×B}{p:B},p<e.1->e.1<e.2->(∀s∈r,nE s=true)->HK r->ca p (mT e r)
 |[],e,p,h1,h2,_,_=>⟨h1,h2,trivial⟩
 |s::r,e,p,h1,h2,h3,h4=>by
  simp only[mT];have hs:s.1<s.2:=by have:=h3 s ae;simp[nE]at this;omega
  split
  .exact TB (by exact h1) (by dsimp only;split<;>omega) (λu hu=>h3 u (by simp[hu])) h4.2
  .exact⟨h1,h2,TB aa hs (λu hu=>h3 u (by simp[hu])) h4.2⟩
theorem TC{x:B}:∀{r:SL}{e:B×B},(∀s∈r,e.1<=s.1)->(∀s∈r,nE s=true)->HK r->(bJ x (mT e r)↔(e.1<=x/\x<e.2)\/bJ x r)
 |[],e,_,_,_=>by simp[mT,bJ]
 |s::r,e,h1,h3,h4=>by
  have hs:s.1<s.2:=by have:=h3 s ae;simp[nE]at this;omega
  have he:e.1<=s.1:=h1 s ae;simp only[mT];split
  .rw[TC (e:=(e.1,if s.2>e.2 then s.2 else e.2)) (λu hu=>h1 u (by simp[hu])) (λu hu=>h3 u (by simp[hu])) h4.2,dI];dsimp only;constructor
   .rintro (⟨a,b⟩|h)
    .split at b
     .by_cases hx:x<e.2
      .exact O ⟨a,hx⟩
      .exact R (O ⟨aa,b⟩)
     .exact O ⟨a,b⟩
    .exact R (R h)
   .rintro (⟨a,b⟩|⟨a,b⟩|h)
    .exact O ⟨a,by split<;>omega⟩
    .exact O ⟨aa,by split<;>omega⟩
    .exact R h
  .rw[dI,TC h4.1 (λu hu=>h3 u (by simp[hu])) h4.2,dI]
theorem TD:∀(r:SL)(e:B×B),(mT e r).length<=r.length+1
 |[],e=>by simp[mT]
 |s::r,e=>by
  simp only[mT];split
  .have:=TD r (e.1,if s.2>e.2 then s.2 else e.2);simp only[jk];omega
  .have:=TD r s;simp only[jk];omega
theorem TE{lo hi:B}:∀{r:SL}{e:B×B},(lo<=e.1/\e.2<=hi)->(∀s∈r,lo<=s.1/\s.2<=hi)->∀u∈mT e r,lo<=u.1/\u.2<=hi
 |[],e,h1,h2=>by simp only[mT];intro u hu;simp at hu;subst hu;exact h1
 |s::r,e,h1,h2=>by
  have hs:=h2 s ae;simp only[mT];split
  .exact TE ⟨h1.1,by dsimp only;split<;>omega⟩ (λu hu=>h2 u (by simp[hu]))
  .intro u hu;rcases je.1 hu with rfl|hu
   .exact h1
   .exact TE hs (λu hu=>h2 u (by simp[hu])) u hu
theorem jGY{L:SL}(h:L.Pairwise (λx y=>¬w64 (y.1-x.1)<0))(hb:Sml L):HK L:=by
 induction L with
 |nil=>trivial
 |cons s r ih=>rw[kb]at h;refine⟨λu hu=>?_,ih h.2 (λv hv=>hb v (by simp[hv]))⟩;have h1:=h.1 u hu;have h2:=hb s ae;have h3:=hb u (by simp[hu]);rw[al (x:=u.1-s.1)]at h1;omega
theorem jD6:Go.Sort.SWO (Go.Proofs.ltOf λ(x y:Go.Lft.Sml (.pair (.int .i64) (.int .i64)))=>(j89 x.1 y.1).getD 0):=by
 refine JF (λx=>x.1.1) (λx=>?_) _ λx y=>rfl;have:=x.2;simp only[jB,jd,jo]at this;exact this.1
theorem jFE{l:SL}(hl:l.length<=10000000)(hb:Sml l):∃L,j0P l=J L/\L.Perm l/\HK L:=by
 obtain⟨L,e,hp,hs⟩:=Yg (a:= .pair (.int .i64) (.int .i64)) (cf:=λx y=>(j89 x y).getD 0) jD6 (xs:=l) (λx hx=>by
  have:=hb x hx;simp only[jB,jd,jo];refine⟨⟨?_,?_⟩,⟨?_,?_⟩⟩
  .exact zb (by decide) this.1
  .exact zb this.2.1 (by decide)
  .exact zb (by decide) this.2.2.1
  .exact zb this.2.2.2 (by decide)) (by show D l<_;omega)
 exact⟨L,e,hp,jGY hs λs hm=>hb s (hp.mem_iff.1 hm)⟩
theorem HM{l:SL}(hl:l.length<=10000000)(hb:Sml l){lo hi:B}(iW:∀s∈l,s.1<s.2->lo<=s.1/\s.2<=hi) :
  ∃out,j9y l=J out/\ca (lo-1) out/\(∀x,bJ x out↔bJ x l)/\out.length<=l.length/\∀u∈out,lo<=u.1/\u.2<=hi:=by
 obtain⟨n,m,e1,ht⟩:=jAV hl;have fm:(l.filter nE).length<=l.length:=vv _ _;obtain⟨L,e2,hp,hs⟩:=jFE (l:=l.filter nE) aa (λs h=>hb s (zf.1 h).1);have hLl:L.length=(l.filter nE).length:=hp.length_eq;have Dg:∀s,s∈L↔s∈l/\nE s=true:=λs=>hp.mem_iff.trans zf
 have Φ:∀x,bJ x L↔bJ x l:=by
  intro x;constructor
  .rintro⟨s,h,h2⟩;exact⟨s,((Dg s).1 h).1,h2⟩
  .rintro⟨s,h,h2⟩;exact⟨s,(Dg s).2 ⟨h,by simp only[nE];rw[aj aa];rfl⟩,h2⟩
 have bA:∀s∈L,s.1<s.2:=λs h=>by have:=((Dg s).1 h).2;simp[nE]at this;omega
 refine⟨mg L,?_,?_⟩
 .simp only[j9y,j3l];rw[ah (by simp[aM];omega)];simp only[j6,j4,jw,e1,ht,e2,show F (D L)=(L.length:B) from rfl,jIk (L:=L) aa]
 .cases L with
  |nil=>refine⟨trivial,λx=>Φ x,by simp[mg],by simp[mg]⟩
  |cons s r=>
   have h0:=iW s ((Dg s).1 ae).1 (bA s ae);have hr:∀u∈r,nE u=true:=λu hu=>((Dg u).1 (by simp[hu])).2;refine⟨TB aa (bA s ae) hr hs.2,λx=>?_,?_,?_⟩
   .rw[<-Φ x,dI];exact TC hs.1 hr hs.2
   .have:=TD r s;simp only[mg,jk]at *;omega
   .exact TE h0 λu hu=>iW u ((Dg u).1 (by simp[hu])).1 (bA u (by simp[hu]))
def r9(o:B)(l:bC)(a b:B)(k:N):N->I (B×(B×B))
 |0=>[]
 |n+1=>if aT l (k+1)<b then (a,(aT l (k+1),bk o l k))::r9 o l (aT l (k+1)) b (k+1) n else [(a,(b,bk o l k))]
section
variable{o:B}{l:bC}(h:iz o l)
include h
theorem Χ{b:B}(hb:b<=8589934592):∀(n k:N)(a:B)(acc:I (B×(B×B))),k+n=l.length+1->k<=l.length->aT l k<=a->a<aT l (k+1)->a<b->acc.length<=k->
  CT a b o l acc=J (acc++r9 o l a b k n)
 |0,k,a,acc,hn,hk,_,_,_,_=>aa
 |n+1,k,a,acc,hn,hk,h1,h2,cb,ha=>by
  have hlen:=h.len;rw[CU];simp only[j0y,show F (D l)=(l.length:B) from rfl,r9];rw[ah cb];simp only[j6,SH h hk h1 h2,SI h hk,j4];by_cases jA:k<l.length
  .have hf:aT l (k+1)=(l.getD k ((0:B),(0:B))).1:=kI jA;rw[ah (show (k:B)<(l.length:B) by omega),bD];simp only[j6,j8,<-hf];rw[ah (by simp[aM];omega),j6,aH];by_cases hc:aT l (k+1)<b
   .rw[if_pos hc,if_pos hc];have:=Χ hb n (k+1) (aT l (k+1)) (acc++[(a,(aT l (k+1),bk o l k))]) aa aa aa (h.frm_lt aa) hc ax;rw[jj]at this;exact this
   .rw[if_neg hc,if_neg hc];rw[CU];simp only[j0y];rw[aj aa,j7,aS]
  .have cH:k=l.length:=aa;have hf:aT l (k+1)=8589934593:=by rw[cH];exact nG
   rw[if_neg (show¬aT l (k+1)<b by omega),aj aa,j7,ah (by simp[aM];omega),j6,aH];rw[CU];simp only[j0y];rw[aj aa,j7,aS]
omit h in
theorem Ψ:∀(n k:N)(a b:B),(r9 o l a b k n).length<=n
 |0,k,a,b=>by simp[r9]
 |n+1,k,a,b=>by
  simp only[r9];split
  .have:=Ψ n (k+1) (aT l (k+1)) b;simp;omega
  .simp
theorem Ω{b:B}:∀(n k:N)(a:B),k+n=l.length+1->aT l k<=a->a<aT l (k+1)->a<b->
  ∀p∈r9 o l a b k n,a<=p.1/\p.1<p.2.1/\p.2.1<=b/\∃i,k<=i/\i<=l.length/\p.2.2=bk o l i/\aT l i<=p.1/\p.2.1<=aT l (i+1)
 |0,k,a,hn,h1,h2,cb,p,hp=>by simp[r9]at hp
 |n+1,k,a,hn,h1,h2,cb,p,hp=>by
  simp only[r9]at hp;split at hp
  .rename_i hc;rcases je.1 hp with rfl|hp
   .exact⟨k7 _,h2,by dsimp only;omega,k,jv _,aa,rfl,h1,k7 _⟩
   .cases n with
    |zero=>simp[r9]at hp
    |succ n=>
    obtain⟨a1,a2,a3,i,i1,i2,i3⟩:=Ω (n+1) (k+1) (aT l (k+1)) aa (k7 _) (h.frm_lt aa) hc p hp;exact⟨aa,a2,a3,i,aa,i2,i3⟩
  .rename_i hc;simp at hp;subst hp;exact⟨k7 _,cb,k7 _,k,jv _,aa,rfl,h1,by dsimp only;omega⟩
theorem δ{b:B}(hb:b<=8589934592):∀(n k:N)(a:B),k+n=l.length+1->k<=l.length->aT l k<=a->a<aT l (k+1)->a<b->
  ∀x,a<=x->x<b->∃p∈r9 o l a b k n,p.1<=x/\x<p.2.1
 |0,k,a,hn,hk,h1,h2,cb,x,hx,ob=>aa
 |n+1,k,a,hn,hk,h1,h2,cb,x,hx,ob=>by
  simp only[r9];split
  .rename_i hc;by_cases an:x<aT l (k+1)
   .exact⟨_,vr ..,hx,an⟩
   .have jA:k+1<=l.length:=by
     rcases zm k l.length with h'|h'
     .exact h'
     .have:k=l.length:=aa;subst this;rw[nG]at hc;omega
    obtain⟨p,hp,yY⟩:=δ hb n (k+1) (aT l (k+1)) aa jA (k7 _) (h.frm_lt jA) hc x aa ob;exact⟨p,by simp[hp],yY⟩
  .exact⟨_,vr ..,hx,ob⟩
theorem ε{a b:B}(ha:0<=a)(cb:a<=b)(hb:b<=8589934592):∃ps,j1P (o,l) a b=J ps/\ps.length<=l.length+1/\
  (∀p∈ps,a<=p.1/\p.1<p.2.1/\p.2.1<=b/\∃i,i<=l.length/\p.2.2=bk o l i/\aT l i<=p.1/\p.2.1<=aT l (i+1))/\∀x,a<=x->x<b->∃p∈ps,p.1<=x/\x<p.2.1:=by
 simp only[j1P];rcases Int.lt_or_le a b with an|rL
 .obtain⟨k,hk,h1,h2⟩:=pX h ha aa;have:=Χ h hb (l.length+1-k) k a [] aa hk h1 h2 an ae;rw[jw]at this;rw[this];refine⟨_,rfl,?_,λp hp=>?_,δ h hb _ k a aa hk h1 h2 an⟩
  .have:=Ψ (o:=o) (l:=l) (l.length+1-k) k a b;omega
  .obtain⟨a1,a2,a3,i,_,i2⟩:=Ω h _ k a aa h1 h2 an p hp;exact⟨a1,a2,a3,i,i2⟩
 .rw[CU];simp only[j0y];rw[aj aa,j7,aS];exact⟨[],rfl,ae,ae,λx h1 h2=>aa⟩
end
def gS(f t st:B)(v:B×B):B×Int:=(if st+v.1>f then st+v.1 else f,if st+v.2<t then st+v.2 else t)
theorem Bu{s:B}:∀{w:WL},hasB s w=true↔∃v∈w,v.1<=s/\s<v.2
 |[]=>by simp[hasB]
 |x::r=>by
  simp only[hasB,je];cases hc:cond (decide (x.1<=s)) (decide (s<x.2)) false with
  |true=>
   simp only[j6,true_iff];refine⟨x,O rfl,?_⟩;by_cases h1:x.1<=s
   .rw[ah h1,j6]at hc;exact⟨h1,q7 hc⟩
   .rw[aj h1,j7]at hc;simp at hc
  |false=>
   simp only[j7];rw[Bu (w:=r)];constructor
   .rintro⟨v,hv,h⟩;exact⟨v,R hv,h⟩
   .rintro⟨v,rfl|hv,h⟩
    .rw[ah h.1,ah h.2]at hc;simp at hc
    .exact⟨v,hv,h⟩
theorem ζ{w:WL}(hw:eN 0 w)(hl:w.length<=14){st f t q:B}(aQ : -1000000<=st)(cZ:st<=8600000000)(a b:B)(ps:I (B×(B×B))):∀(n i:N)(acc:SL),i+n=w.length->acc.length+n<=1000000->
  J9 w st a b w (w.length:B) (i:B) f t q acc ps=J (w,st,a,b,f,t,q,acc++(w.drop i).map (gS f t st),ps)
 |0,i,acc,hi,_=>by
  rw[Y7];simp only[j3Z];rw[aj aa,j7,aS,jc aa];simp
 |n+1,i,acc,hi,ha=>by
  have an:i<w.length:=aa;have aR:w.getD i ((0:B),(0:B))=w[i]:=by simp[an]
  have hg:=xZ hw i an;rw[aR]at hg;rw[Y7,jb an];simp only[j3Z];rw[ah (show (i:B)<(w.length:B) by omega),bD];simp only[j6,j8,aR];rw[al (x:=(i:B)+1),al (x:=st+w[i].1),al (x:=st+w[i].2),ah (by simp[aM];omega),j6,aH];have:=ζ hw hl aQ cZ a b ps n (i+1) (acc++[gS f t st w[i]]) aa ax (f:=f) (t:=t) (q:=q);rw[jj]at this;exact this
theorem jIl{w:WL}(hw:eN 0 w)(hl:w.length<=14){f t q:B}(hf:0<=f)(ht:t<=8589934592)(jV:f<t)(a b:B)(ps:I (B×(B×B))):∀(m:N)(st:B)(acc:SL), -1000000<=st->t<=st+604800*m->acc.length+14*m<=900000->
  ∃E,Ka w st a b f t q acc ps=J (w,a,b,acc++E,ps)/\E.length<=w.length*m/\(∀s∈E,f<=s.1/\s.2<=t/\s.1<=100000000000 /\ -100000000000<=s.2)/\
   ∀x,bJ x E↔f<=x/\x<t/\st<=x/\hasB ((x-st)%604800) w=true:=by
 intro m;induction m with
 |zero=>intro st acc aQ hm _;rw[Y8];simp only[j40];rw[aj aa,j7,aS];exact⟨[],ae,ae,ae,λx=>⟨λh=>absurd h fP,λh=>aa⟩⟩
 |succ m ih=>
  intro st acc aQ hm eM;rw[Y8];simp only[j40,show F (D w)=(w.length:B) from rfl];by_cases an:st<t
  .have h4:=ζ hw hl aQ aa a b ps w.length 0 acc aa aa (f:=f) (t:=t) (q:=q);rw[show ((0:N):B)=0 from rfl,jm]at h4;rw[ah an,j6,h4];simp only[j4];rw[al (x:=st+604800),aH];obtain⟨E,e,h1,h2,h3⟩:=ih (st+604800) (acc++w.map (gS f t st)) aa aa ax;refine⟨w.map (gS f t st)++E,?_,?_,?_,λx=>?_⟩
   .rw[jj]at e;exact e
   .rw[jf,kj,Nat.mul_succ];omega
   .intro s hs;rcases jn.1 hs with hs|hs
    .obtain⟨v,hv,rfl⟩:=jr.1 hs;obtain⟨i,hi,rfl⟩:=ye hv;have hg:=xZ hw i hi;rw[show w.getD i (0,0)=w[i] by simp[hi]]at hg;simp only[gS];refine⟨?_,?_,?_,?_⟩<;>split<;>omega
    .exact h2 s hs
   .rw[yD,h3 x];constructor
    .rintro (⟨s,hs,qO,ob⟩|⟨a1,a2,a3,a4⟩)
     .obtain⟨v,hv,rfl⟩:=jr.1 hs;have ig:=hv;obtain⟨i,hi,rfl⟩:=ye hv;have hg:=xZ hw i hi;rw[show w.getD i (0,0)=w[i] by simp[hi]]at hg;simp only[gS]at qO ob;have b1:f<=x/\st+w[i].1<=x:=by split at qO<;>omega
      have b2:x<t/\x<st+w[i].2:=by split at ob<;>omega
      refine⟨b1.1,b2.1,aa,Bu.2 ⟨w[i],ig,?_,?_⟩⟩<;>omega
     .refine⟨a1,a2,aa,?_⟩;rw[show (x-st)%604800=(x-(st+604800))%604800 by omega];exact a4
    .rintro⟨a1,a2,a3,a4⟩
     by_cases hx:st+604800<=x
     .refine R ⟨a1,a2,hx,?_⟩;rw[show (x-(st+604800))%604800=(x-st)%604800 by omega];exact a4
     .obtain⟨v,hv,c1,c2⟩:=Bu.1 a4;have e1:(x-st)%604800=x-st:=aa;rw[e1]at c1 c2;refine O ⟨gS f t st v,jr.2 ⟨v,hv,rfl⟩,?_,?_⟩<;>simp only[gS]<;>split<;>omega
  .rw[aj an,j7,aS];exact⟨[],ae,ae,ae,λx=>⟨λh=>absurd h fP,λh=>aa⟩⟩
theorem η{w:WL}(hw:eN 0 w)(hl:w.length<=14){ps:I (B×(B×B))}{M:N}(hM:M<=60)(lP:ps.length<=30){lo hi:B}(iW:0<=lo)(iE:hi<=8589934592)
  (gW:∀p∈ps,lo<=p.1/\p.1<p.2.1/\p.2.1<=hi /\ -64800<=p.2.2/\p.2.2<=64800/\p.2.1-p.1<=604800*M):∀(n i:N)(acc:SL),i+n=ps.length->acc.length<=854*i->
  ∃E,Kb w (ps.length:B) (i:B) acc ps=J (acc++E)/\E.length<=w.length*(M+1)*n/\(∀s∈E,lo<=s.1/\s.2<=hi/\s.1<=100000000000 /\ -100000000000<=s.2)/\
   ∀x,bJ x E↔∃p∈ps.drop i,p.1<=x/\x<p.2.1/\hasB ((x+p.2.2+259200)%604800) w=true
 |0,i,acc,hi,_=>by
  rw[Y9];simp only[j41];rw[aj aa,j7,aS,jc aa];exact⟨[],ae,ae,ae,λx=>⟨λh=>absurd h fP,λ⟨p,hp,_⟩=>by simp at hp⟩⟩
 |n+1,i,acc,hi,eM=>by
  have an:i<ps.length:=aa;have aR:ps.getD i ((0:B),((0:B),(0:B)))=ps[i]:=by simp[an]
  obtain⟨p1,p2,p3,p4,p5,p6⟩:=gW ps[i] (jg an);have θ:w.length*(M+1)<=854:=kr (qi hl (show M+1<=61 by omega)) (by decide);rw[Y9,jb an];simp only[j41];rw[ah (show (i:B)<(ps.length:B) by omega),bD];simp only[j6,j8,aR];rw[al (x:=ps[i].1+ps[i].2.2),al (x:=ps[i].1+ps[i].2.2 - -259200),uJ aa];rw[al (x:=ps[i].1+ps[i].2.2 - -259200-(ps[i].1+ps[i].2.2 - -259200)%604800)];rw[al (x:=ps[i].1+ps[i].2.2 - -259200-(ps[i].1+ps[i].2.2 - -259200)%604800 + -259200)];rw[al (x:=ps[i].1+ps[i].2.2 - -259200-(ps[i].1+ps[i].2.2 - -259200)%604800 + -259200-ps[i].2.2)];generalize aQ:ps[i].1+ps[i].2.2 - -259200-(ps[i].1+ps[i].2.2 - -259200)%604800 + -259200-ps[i].2.2=st;obtain⟨E1,e1,l1,b1,m1⟩:=jIl hw hl (f:=ps[i].1) (t:=ps[i].2.1) (q:=ps[i].2.2) aa aa p2 (ps.length:B) (i:B) ps (M+1) st acc aa aa aa;rw[e1];simp only[j4];rw[al (x:=(i:B)+1),aH];obtain⟨E2,e2,l2,b2,m2⟩:=η hw hl hM lP iW iE gW n (i+1) (acc++E1) aa ax;refine⟨E1++E2,?_,?_,?_,λx=>?_⟩
  .rw[jj]at e2;exact e2
  .rw[jf,Nat.mul_succ];omega
  .intro s hs;rcases jn.1 hs with hs|hs
   .have:=b1 s hs;omega
   .exact b2 s hs
  .rw[yD,m1 x,m2 x];have key:∀x,ps[i].1<=x->(x-st)%604800=(x+ps[i].2.2+259200)%604800/\st<=x:=by intro x hx;omega
   constructor
   .rintro (⟨c1,c2,c3,c4⟩|⟨p,hp,h⟩)
    .exact⟨ps[i],vr ..,c1,c2,by rw[<-(key x c1).1];exact c4⟩
    .exact⟨p,qt _ hp,h⟩
   .rintro⟨p,hp,c1,c2,c3⟩
    rcases je.1 hp with rfl|hp
    .exact O ⟨c1,c2,(key x c1).2,by rw[(key x c1).1];exact c3⟩
    .exact R ⟨p,hp,c1,c2,c3⟩
theorem HN{o:B}{l:bC}(h:iz o l)(fw:l.length<=20){w:WL}(hw:eN 0 w)(hl:w.length<=14){M:N}(hM:M<=60){a b:B}(ha:0<=a)(cb:a<=b)(hb:b<=8589934592)(hlen:b-a<=604800*M) :
  ∃out,j2j (o,l) w a b=J out/\ca (a-1) out/\(∀u∈out,a<=u.1/\u.2<=b)/\out.length<=w.length*(M+1)*(l.length+1)/\
   ∀k,k<=l.length->∀x,a<=x->x<b->aT l k<=x->x<aT l (k+1)->(bJ x out↔hasB ((x+bk o l k+259200)%604800) w=true):=by
 obtain⟨ps,e,pl,pm,pc⟩:=ε h ha cb hb
 obtain⟨E,e1,l1,b1,m1⟩:=η hw hl hM (ps:=ps) aa (lo:=a) (hi:=b) ha hb (λp hp=>by
  obtain⟨h1,h2,h3,i,i1,i2,_⟩:=pm p hp;have:=h.of0 i i1;have:=h.of1 i i1;exact⟨h1,h2,h3,aa,aa,aa⟩) ps.length 0 [] aa ae
 rw[show ((0:N):B)=0 from rfl,jw]at e1;have θ:w.length*(M+1)<=854:=kr (qi hl (show M+1<=61 by omega)) (by decide);have ι:E.length<=w.length*(M+1)*(l.length+1):=kr l1 (Nat.mul_le_mul_left _ pl);have hEl2:E.length<=854*21:=kr ι (qi θ aa);obtain⟨out,e2,s1,s2,s3,s4⟩:=HM (l:=E) aa (λs hs=>by have:=b1 s hs;omega) (lo:=a) (hi:=b) (λs hs _=>⟨(b1 s hs).1,(b1 s hs).2.1⟩);refine⟨out,?_,s1,s4,aa,λk hk x qO ob dW gi=>?_⟩
 .simp only[j2j,e,j4,show F (D ps)=(ps.length:B) from rfl,e1,e2]
 .rw[s2 x,m1 x,jm];constructor
  .rintro⟨p,hp,c1,c2,c3⟩
   obtain⟨h1,h2,h3,i,i1,i2,i3,i4⟩:=pm p hp;have:i=k:=Hw h i1 hk (t:=x) aa aa dW gi;subst this;rw[<-i2];exact c3
  .intro hx;obtain⟨p,hp,c1,c2⟩:=pc x qO ob;obtain⟨h1,h2,h3,i,i1,i2,i3,i4⟩:=pm p hp;have:i=k:=Hw h i1 hk (t:=x) aa aa dW gi;subst this;exact⟨p,hp,c1,c2,by rw[i2];exact hx⟩
theorem yE{o:B}{rs:I aL}(hm:MZ o rs):(cJ o (fv (occs rs))).length<=4:=by
 have h1:=Lk (fv (occs rs)) o;have h2:(fv (occs rs)).length=(occs rs).length:=by unfold fv;rw[List.length_reverse,Ho];simp
 have:=hm.few;omega
theorem ν{o:B}{rs:I aL}(hm:MZ o rs):(cJ o (fv (occs rs))).length<=20:=kr (yE hm) aa
end Go.Proofs.Pw
