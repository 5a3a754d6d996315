/- tJ 11: UX is on oa in a Eb. -/
import Derived.Test.YtaieocafhcjelaaGreatDPE
import Derived.Test.YtaieocafhcjelaaGreatDPA
import Derived.Test.YtaieocafhcjelaaGreatDFns
import Derived.Test.YtaieocafhcjelaaGreatDPC
open Go Go.Lft
namespace Go.Proofs.Pw
def tb(z:cg):Int×bR:=(z.2.1,eb z.2.1 (fH (occs z.2.2)))
theorem ni.ztab{z:cg}(h:ni z):tI z (tb z).2:=MZ.tab (o:=z.2.1) (rs:=z.2.2) h z.1
theorem UY{zs:List cg}(h:∀z∈zs,ni z)(hl:zs.length<=100):∀(n i:Nat),i+n=zs.length->xM zs (zs.length:Int) (i:Int) ((zs.take i).map tb)=some (zs.map tb)
 |0,i,hi=>by
  rw[RX];simp only[j30];rw[ak (by omega),j6,aW,List.take_of_length_le (by omega)]
 |n+1,i,hi=>by
  have an:i<zs.length:=by omega
  have bf:zs.getD i (ByteArray.empty,((0:Int),([]:List bj)))=zs[i]:=by simp[an]
  have ht:=jB5 (h zs[i] (jg an)).ztab;have ih:=UY h hl n (i+1) (by omega);rw[ko,ji an,zq]at ih;rw[RX];simp only[j30];rw[aj (by omega),aU (by omega) (by omega),ah (x:=(i:Int)+1) (by omega) (by omega)];simp only[j5,j7,bf];rw[show jgp (zs[i].1,(zs[i].2.1,zs[i].2.2))=_ from ht];simp only[j3];rw[aj (by simp[aS];omega),j5,aF];exact ih
theorem jyV{zs:List cg}(h:∀z∈zs,ni z)(hl:zs.length<=100){ps:List dP}{cs:List bk}{ss:List cM}:jcM (zs,(ps,(cs,ss)))=some ((zs,(ps,(cs,ss))),zs.map tb):=by
 have lp:=UY h hl zs.length 0 (by omega);simp only[jcM,jaZ,show Int.ofNat zs.length=(zs.length:Int) from rfl];rw[show xM zs (zs.length:Int) 0 []=_ from lp];rfl
theorem GY{zs:List cg}{i:Int}(h0:0<=i)(h1:i<(zs.length:Int)):List.getD (zs.map tb) i.toNat ((0:Int),([]:bR))=tb (zs.getD i.toNat (ByteArray.empty,((0:Int),([]:List bj)))):=by
 have an:i.toNat<zs.length:=by omega
 simp[List.getD_eq_getElem?_getD,an]
theorem jA{zs:List cg}(h:∀z∈zs,ni z){i:Int}(h0:0<=i)(h1:i<(zs.length:Int)):ni (zs.getD i.toNat (ByteArray.empty,((0:Int),([]:List bj)))):=by
 have an:i.toNat<zs.length:=by omega
 rw[List.getD_eq_getElem?_getD,ji an];exact h _ (jg an)
theorem jx6(a b:Int):jdQ a b=some (decide (a<b)):=by
 simp only[jdQ,jcq,j3,jp,j6]
theorem M5{ds:List Int}(hs:ds.Pairwise (· < ·))(hl:ds.length<=64){x:Int}:∀(n a b:Nat),b-a<=n->a<=b->b<=ds.length->(∀i,(hi:i<ds.length)->i<a->ds[i]<x)->(∀i,(hi:i<ds.length)->b<=i->x<=ds[i])->
  ∃k:Nat,AH ds x (ds.length:Int) (a:Int) (b:Int)=some (ds,x,(ds.length:Int),(k:Int))/\k<=ds.length/\(∀i,(hi:i<ds.length)->i<k->ds[i]<x)/\∀i,(hi:i<ds.length)->k<=i->x<=ds[i]
 |n,a,b,hn,bz,hb,h1,h2=>by
  rw[ja2];simp only[j2C];by_cases an:a<b
  .have hm:IntKind.wrap .u64 ((a:Int)+(b:Int))=(a:Int)+(b:Int):=IntWalk.u64_in _ ⟨by omega,by omega⟩;have hd:Int.fdiv ((a:Int)+(b:Int)) 2=(((a+b)/2:Nat):Int):=by rw[Int.fdiv_eq_ediv_of_nonneg _ (by omega)];omega
   have Fc:(a+b)/2<ds.length:=by omega
   have bf:ds.getD ((a+b)/2) (0:Int)=ds[(a+b)/2]:=by simp[Fc]
   rw[aj (show (a:Int)<(b:Int) by omega),ah (x:=(a:Int)+(b:Int)) (by omega) (by omega),hm,hd,ah (x:=(((a+b)/2:Nat):Int)) (by omega) (by omega),aU (by omega) (by omega),ah (x:=(((a+b)/2:Nat):Int)+1) (by omega) (by omega)];simp only[j5,j7,bf,jx6,j3];cases n with
   |zero=>omega
   |succ n=>
    by_cases hc:ds[(a+b)/2]<x
    .rw[aj hc,j5,aF];refine M5 hs hl n ((a+b)/2+1) b (by omega) (by omega) hb (λi hi hia=>?_) h2;by_cases he:i=(a+b)/2
     .subst he;exact hc
     .exact Int.lt_trans (kx.1 hs i ((a+b)/2) hi Fc (by omega)) hc
    .rw[ak hc,j6,aF];refine M5 hs hl n a ((a+b)/2) (by omega) (by omega) (by omega) h1 (λi hi hia=>?_);by_cases he:i=(a+b)/2
     .subst he;exact Int.not_lt.1 hc
     .exact q7 (Int.not_lt.1 hc) (vm (kx.1 hs ((a+b)/2) i Fc hi (by omega)))
  .have:a=b:=by omega
   subst this;rw[ak (by omega),j6,aW];exact⟨a,rfl,hb,h1,h2⟩
def okW(w:WL)(s:Int):Bool:=cond (decide ((w.length:Int)>0)) (hasB s w) true
section
variable{zs:List cg}{ps:List dP}{cs:List bk}{ss:List cM}(hz:∀z∈zs,ni z)
include hz
def qV(L:cb)(K:Int):Int:=L.2.2.2.2.2.1.getD (Int.tmod K (L.2.2.2.2.2.1.length:Int)).toNat 0
end
theorem fD.rt{nz np nc:Nat}{L:cb}(h:fD nz np nc L)(hd:L.2.2.1.1<=100000):Rt L:=
 ⟨h.d0,hd,h.c0,h.c1,h.u0,h.u1,h.e0,h.e1,λhn=>h.m0 (by rw[hn];rfl)⟩
theorem jAf{z:cg}(hz:ni z){t:Int}(h0:0<=t)(h1:t<=8589934592):∃d s,j1y (tb z) t=some d/\j5m d=some s:=by
 have ht:=hz.ztab;obtain⟨j,hj,j1,j2⟩:=DJ ht.2 h0 h1;have o0:=ht.2.of0 j hj;have o1:=ht.2.of1 j hj;obtain⟨s,hs⟩:∃s,j5m ((t+cG z.2.1 (tb z).2 j)/86400,(t+cG z.2.1 (tb z).2 j)%86400)=some s:=by simp only[j5m,TZ,j3];exact⟨_,rfl⟩
 exact⟨_,s,GH ht.2 hj j1 j2,hs⟩
abbrev SL:=List (Int×Int)
def br(x:Int)(l:SL):Prop:=∃s∈l,s.1<=x/\x<s.2
def bB(p:Int):SL->Prop
 |[]=>True
 |x::r=>p<x.1/\x.1<x.2/\bB x.2 r
def Sml(l:SL):Prop:=∀s∈l, -1000000000000<=s.1/\s.1<=1000000000000 /\ -1000000000000<=s.2/\s.2<=1000000000000
theorem gE{x:Int}:¬br x []:=by rintro⟨s,hs,_⟩;simp at hs
theorem eM{x:Int}{s:Int×Int}{l:SL}:br x (s::l)↔(s.1<=x/\x<s.2)\/br x l:=by
 constructor
 .rintro⟨u,hu,h⟩
  rcases je.1 hu with rfl|hu
  .exact Or.inl h
  .exact Or.inr ⟨u,hu,h⟩
 .rintro (h|⟨u,hu,h⟩)
  .exact⟨s,by simp,h⟩
  .exact⟨u,by simp[hu],h⟩
theorem Ec{x:Int}{l r:SL}:br x (l++r)↔br x l\/br x r:=by
 constructor
 .rintro⟨u,hu,h⟩
  rcases jn.1 hu with hu|hu
  .exact Or.inl ⟨u,hu,h⟩
  .exact Or.inr ⟨u,hu,h⟩
 .rintro (⟨u,hu,h⟩|⟨u,hu,h⟩)
  .exact⟨u,by simp[hu],h⟩
  .exact⟨u,by simp[hu],h⟩
def nE(s:Int×Int):Bool:= !(decide (s.2<=s.1))
theorem UZ{l:SL}(hl:l.length<=10000000):∀(n i:Nat),i+n=l.length->(∀s∈l.take i,nE s=true)->
  (∃j:Nat,xQ (l.length:Int) (i:Int) l=some (.inl ((j:Int),l))/\j<l.length/\(∀s∈l.take j,nE s=true)/\nE (l.getD j (0,0))=false)\/
  (xQ (l.length:Int) (i:Int) l=some (.inr l)/\∀s∈l,nE s=true)
 |0,i,hi,h=>by
  rw[R3];simp only[j1e];rw[ak (by omega),j6,aW];rw[List.take_of_length_le (by omega)]at h;exact Or.inr ⟨rfl,h⟩
 |n+1,i,hi,h=>by
  rw[R3];simp only[j1e,ja1];rw[aj (show (i:Int)<(l.length:Int) by omega),aU (by omega) (by omega),ah (x:=(i:Int)+1) (by omega) (by omega)];simp only[j5,j7,j3];have an:i<l.length:=by omega
  cases hc:decide ((l.getD i ((0:Int),(0:Int))).2<=(l.getD i ((0:Int),(0:Int))).1) with
  |true=>simp only[j5,aW];exact Or.inl ⟨i,rfl,an,h,by simp only[nE];rw[hc];rfl⟩
  |false=>
   simp only[j6,aF];refine UZ hl n (i+1) (by omega) λs hs=>?_;rw[ko]at hs;rcases jn.1 hs with hs|hs
   .exact h s hs
   .have bf:l.getD i ((0:Int),(0:Int))=l[i]:=by simp[an]
    rw[bf]at hc;rw[ji an]at hs;simp at hs;subst hs;simp only[nE];rw[hc];rfl
theorem M6{l:SL}(hl:l.length<=10000000):∀(n i j:Nat)(b:SL),j+n=l.length->i<=j->b.length=l.length->b.drop j=l.drop j->b.take i=(l.take j).filter nE->
  ∃(k:Nat)(b':SL),Az (i:Int) (j:Int) b=some ((k:Int),b')/\b'.length=l.length/\k<=l.length/\b'.take k=l.filter nE
 |0,i,j,b,hj,dG,hb,hd,ht=>by
  rw[R4];simp only[j17,show Int.ofNat (List.length b)=(b.length:Int) from rfl];rw[ak (by omega),j6,aW];rw[List.take_of_length_le (l:=l) (by omega)]at ht;exact⟨i,b,rfl,hb,by omega,ht⟩
 |n+1,i,j,b,hj,dG,hb,hd,ht=>by
  have an:j<l.length:=by omega
  have M7:b.getD j ((0:Int),(0:Int))=l[j]:=by
   have:b[j]? = l[j]? := by
    have h:=jh (λx=>x[0]?) hd;simpa[List.getElem?_drop]using h
   rw[List.getD_eq_getElem?_getD,this,ji an];rfl
  have fW:b.drop (j+1)=l.drop (j+1):=by have:=jh (List.drop 1) hd;simpa[List.drop_drop]using this
  have mj:l.take (j+1)=l.take j++[l[j]]:=by rw[ko,ji an];rfl
  rw[R4];simp only[j17,ja1,show Int.ofNat (List.length b)=(b.length:Int) from rfl];rw[aj (show (j:Int)<(b.length:Int) by omega),aU (by omega) (by omega),aU (by omega) (by omega),ah (x:=(j:Int)+1) (by omega) (by omega),ah (x:=(i:Int)+1) (by omega) (by omega)];simp only[j5,j7,j3,M7];cases hc:decide (l[j].2<=l[j].1) with
  |true=>simp only[jr,j6,aF];refine M6 hl n i (j+1) b (by omega) (by omega) hb fW ?_;rw[mj,zm,ht];simp[nE,hc]
  |false=>
   simp only[jy,j5,aF];refine M6 hl n (i+1) (j+1) _ (by omega) (by omega) (by simpa using hb) ?_ ?_
   .rw[List.drop_set_of_lt (by omega)];exact fW
   .have BZ:i<b.length:=by omega
    rw[ko,List.take_set_of_le (jj _),vj BZ,ht,mj,zm];simp[nE,hc]
theorem jvt{l:SL}(hl:l.length<=10000000):∃n m,j0X l=some (n,m)/\m.take n.toNat=l.filter nE:=by
 simp only[j0X,j1p,show Int.ofNat (List.length l)=(l.length:Int) from rfl];rcases UZ hl l.length 0 (by omega) (by simp) with⟨j,e,hj,h1,h2⟩|⟨e,h⟩
 .rw[show ((0:Nat):Int)=0 from rfl]at e;rw[e];simp only[j3,Re];rw[cJ (by omega),ah (x:=(j:Int)+1) (by omega) (by omega)];have bf:l.getD j ((0:Int),(0:Int))=l[j]:=by simp[hj]
  rw[bf]at h2
  obtain⟨k,b,e2,hb,hk,ht⟩:=M6 hl (l.length-(j+1)) j (j+1) l (by omega) (by omega) rfl rfl (by
   rw[ko,ji hj,zm,List.filter_eq_self.2 h1];simp[h2])
  rw[show ((j:Int)+1)=((j+1:Nat):Int) from rfl,e2];simp only[j6,j3,show Int.ofNat (List.length b)=(b.length:Int) from rfl,j7];rw[aj (show (0:Int)<=(k:Int) by omega),aj (show (k:Int)<=(b.length:Int) by omega)];simp only[Bool.and_self,j5,Bool.true_and];rw[aj (by simp;omega),j5];refine⟨_,_,rfl,?_⟩;simp only[show (Int.ofNat k).toNat=k from rfl];rw[zd (by simp;omega),zw,Nat.min_self,ht]
 .rw[show ((0:Nat):Int)=0 from rfl]at e;rw[e];simp only[j3,qA,beq_self_eq_true,j5];refine⟨_,_,rfl,?_⟩;simp only[show (Int.ofNat l.length).toNat=l.length from rfl];rw[List.take_of_length_le (jj _),List.filter_eq_self.2 h]
def jM(e:Int×Int):SL->SL
 |[]=>[e]
 |s::r=>if s.1<=e.2 then jM (e.1,if s.2>e.2 then s.2 else e.2) r else e::jM s r
def mg:SL->SL
 |[]=>[]
 |s::r=>jM s r
theorem M8{L:SL}(hL:L.length<=10000000):∀(n i:Nat)(A:SL)(e:Int×Int),i+n=L.length->A.length<i->
  xR (L.length:Int) (i:Int) (A++[e]) L=some (A++jM e (L.drop i))
 |0,i,A,e,hi,hA=>by
  rw[Kj];simp only[j4S];rw[ak (by omega),j6,aW,jf (by omega)];rfl
 |n+1,i,A,e,hi,hA=>by
  have an:i<L.length:=by omega
  have bf:L.getD i ((0:Int),(0:Int))=L[i]:=by simp[an]
  have hle:(A++[e]).length=A.length+1:=by simp
  have nG:(A++[e]).getD A.length ((0:Int),(0:Int))=e:=by simp
  rw[Kj,jc an];simp only[j4S,jM,show Int.ofNat (List.length (A++[e]))=((A.length:Int)+1) from by rw[hle];rfl]
  rw[aj (show (i:Int)<(L.length:Int) by omega),aU (by omega) (by omega),aj (show (A.length:Int)+1>0 by omega),ah (x:=(A.length:Int)+1-1) (by omega) (by omega),ah (x:=(i:Int)+1) (by omega) (by omega),
   aU (by omega) (by rw[hle];omega),show ((A.length:Int)+1-1).toNat=A.length by omega]
  simp only[j5,j7,bf,nG];by_cases hc:L[i].1<=e.2
  .rw[aj hc,if_pos hc];simp only[j5,aF]
   rw[show (A++[e]).set A.length (e.1,if L[i].2>e.2 then L[i].2 else e.2)=A++[(e.1,if L[i].2>e.2 then L[i].2 else e.2)] by
    rw[zo _ _ (jj _)];simp]
   exact M8 hL n (i+1) A _ (by omega) (by omega)
  .rw[ak hc,if_neg hc,aj (by rw[hle];simp[aS];omega)];simp only[j6,j5,aF];have:=M8 hL n (i+1) (A++[e]) L[i] (by omega) (by rw[hle];omega);rw[show A++e::jM L[i] (L.drop (i+1))=A++[e]++jM L[i] (L.drop (i+1)) by simp];exact this
theorem jBh{L:SL}(hL:L.length<=10000000):xR (L.length:Int) 0 [] L=some (mg L):=by
 rw[Kj];simp only[j4S];cases L with
 |nil=>rw[ak (by simp),j6,aW];rfl
 |cons s r=>rw[aj (show (0:Int)<((s::r).length:Int) by simp only[jl];omega),aU (by omega) (by simp only[jl];omega)];simp only[j5,show Int.ofNat (List.length ([]:SL))=0 from rfl];rw[ak (show¬((0:Int)>0) by omega),j6,aj (by simp[aS]),ah (x:=(0:Int)+1) (by omega) (by omega)];simp only[j5,aF];have:=M8 hL r.length 1 [] s (by simp;omega) (by simp);simpa[mg]using this
def Ed:SL->Prop
 |[]=>True
 |s::r=>(∀u∈r,s.1<=u.1)/\Ed r
theorem M9:∀{r:SL}{e:Int×Int}{p:Int},p<e.1->e.1<e.2->(∀s∈r,nE s=true)->Ed r->bB p (jM e r)
 |[],e,p,h1,h2,_,_=>⟨h1,h2,trivial⟩
 |s::r,e,p,h1,h2,h3,h4=>by
  simp only[jM];have hs:s.1<s.2:=by have:=h3 s (by simp);simp[nE]at this;omega
  split
  .exact M9 (by exact h1) (by dsimp only;split<;>omega) (λu hu=>h3 u (by simp[hu])) h4.2
  .exact⟨h1,h2,M9 (by omega) hs (λu hu=>h3 u (by simp[hu])) h4.2⟩
theorem Na{x:Int}:∀{r:SL}{e:Int×Int},(∀s∈r,e.1<=s.1)->(∀s∈r,nE s=true)->Ed r->(br x (jM e r)↔(e.1<=x/\x<e.2)\/br x r)
 |[],e,_,_,_=>by simp[jM,br]
 |s::r,e,h1,h3,h4=>by
  have hs:s.1<s.2:=by have:=h3 s (by simp);simp[nE]at this;omega
  have he:e.1<=s.1:=h1 s (by simp);simp only[jM];split
  .rw[Na (e:=(e.1,if s.2>e.2 then s.2 else e.2)) (λu hu=>h1 u (by simp[hu])) (λu hu=>h3 u (by simp[hu])) h4.2,eM];dsimp only;constructor
   .rintro (⟨a,b⟩|h)
    .split at b
     .by_cases hx:x<e.2
      .exact Or.inl ⟨a,hx⟩
      .exact Or.inr (Or.inl ⟨by omega,b⟩)
     .exact Or.inl ⟨a,b⟩
    .exact Or.inr (Or.inr h)
   .rintro (⟨a,b⟩|⟨a,b⟩|h)
    .exact Or.inl ⟨a,by split<;>omega⟩
    .exact Or.inl ⟨by omega,by split<;>omega⟩
    .exact Or.inr h
  .rw[eM,Na h4.1 (λu hu=>h3 u (by simp[hu])) h4.2,eM]
theorem Nb:∀(r:SL)(e:Int×Int),(jM e r).length<=r.length+1
 |[],e=>by simp[jM]
 |s::r,e=>by
  simp only[jM];split
  .have:=Nb r (e.1,if s.2>e.2 then s.2 else e.2);simp only[jl];omega
  .have:=Nb r s;simp only[jl];omega
theorem Nc{lo hi:Int}:∀{r:SL}{e:Int×Int},(lo<=e.1/\e.2<=hi)->(∀s∈r,lo<=s.1/\s.2<=hi)->∀u∈jM e r,lo<=u.1/\u.2<=hi
 |[],e,h1,h2=>by simp only[jM];intro u hu;simp at hu;subst hu;exact h1
 |s::r,e,h1,h2=>by
  have hs:=h2 s (by simp);simp only[jM];split
  .exact Nc ⟨h1.1,by dsimp only;split<;>omega⟩ (λu hu=>h2 u (by simp[hu]))
  .intro u hu;rcases je.1 hu with rfl|hu
   .exact h1
   .exact Nc hs (λu hu=>h2 u (by simp[hu])) u hu
theorem jAg{L:SL}(h:L.Pairwise (λx y=>¬w64 (y.1-x.1)<0))(hb:Sml L):Ed L:=by
 induction L with
 |nil=>trivial
 |cons s r ih=>rw[jx]at h;refine⟨λu hu=>?_,ih h.2 (λv hv=>hb v (by simp[hv]))⟩;have h1:=h.1 u hu;have h2:=hb s (by simp);have h3:=hb u (by simp[hu]);rw[ah (x:=u.1-s.1) (by omega) (by omega)]at h1;omega
theorem jx7:Go.Sort.SWO (Go.Proofs.ltOf λ(x y:Go.Lft.Sml (.pair (.int .i64) (.int .i64)))=>(j8s x.1 y.1).getD 0):=by
 refine F1 (λx=>x.1.1) (λx=>?_) _ λx y=>rfl;have:=x.2;simp only[fG,jb,jo]at this;exact this.1
theorem jyY{l:SL}(hl:l.length<=10000000)(hb:Sml l):∃L,j1P l=some L/\L.Perm l/\Ed L:=by
 obtain⟨L,e,hp,hs⟩:=J5 (a:= .pair (.int .i64) (.int .i64)) (cf:=λx y=>(j8s x y).getD 0) jx7 (xs:=l) (λx hx=>by
  have:=hb x hx;simp only[fG,jb,jo];refine⟨⟨?_,?_⟩,⟨?_,?_⟩⟩
  .exact q7 (by decide) this.1
  .exact q7 this.2.1 (by decide)
  .exact q7 (by decide) this.2.2.1
  .exact q7 this.2.2.2 (by decide)) (by show List.length l<_;omega)
 exact⟨L,e,hp,jAg hs λs hm=>hb s (hp.mem_iff.1 hm)⟩
theorem Bd{l:SL}(hl:l.length<=10000000)(hb:Sml l){lo hi:Int}(jJ:∀s∈l,s.1<s.2->lo<=s.1/\s.2<=hi) :
  ∃out,j63 l=some out/\bB (lo-1) out/\(∀x,br x out↔br x l)/\out.length<=l.length/\∀u∈out,lo<=u.1/\u.2<=hi:=by
 obtain⟨n,m,e1,ht⟩:=jvt hl;have eO:(l.filter nE).length<=l.length:=List.length_filter_le _ _;obtain⟨L,e2,hp,hs⟩:=jyY (l:=l.filter nE) (by omega) (λs h=>hb s (qq.1 h).1);have hLl:L.length=(l.filter nE).length:=hp.length_eq;have Be:∀s,s∈L↔s∈l/\nE s=true:=λs=>hp.mem_iff.trans qq
 have U0:∀x,br x L↔br x l:=by
  intro x;constructor
  .rintro⟨s,h,h2⟩;exact⟨s,((Be s).1 h).1,h2⟩
  .rintro⟨s,h,h2⟩;exact⟨s,(Be s).2 ⟨h,by simp only[nE];rw[ak (by omega)];rfl⟩,h2⟩
 have aZ:∀s∈L,s.1<s.2:=λs h=>by have:=((Be s).1 h).2;simp[nE]at this;omega
 refine⟨mg L,?_,?_⟩
 .simp only[j63,j4G];rw[aj (by simp[aS];omega)];simp only[j5,j3,jm,e1,ht,e2,show Int.ofNat (List.length L)=(L.length:Int) from rfl,jBh (L:=L) (by omega)]
 .cases L with
  |nil=>refine⟨trivial,λx=>U0 x,by simp[mg],by simp[mg]⟩
  |cons s r=>
   have h0:=jJ s ((Be s).1 (by simp)).1 (aZ s (by simp));have hr:∀u∈r,nE u=true:=λu hu=>((Be u).1 (by simp[hu])).2;refine⟨M9 (by omega) (aZ s (by simp)) hr hs.2,λx=>?_,?_,?_⟩
   .rw[<-U0 x,eM];exact Na hs.1 hr hs.2
   .have:=Nb r s;simp only[mg,jl]at *;omega
   .exact Nc h0 λu hu=>jJ u ((Be u).1 (by simp[hu])).1 (aZ u (by simp[hu]))
def oY(o:Int)(l:bR)(a b:Int)(k:Nat):Nat->List (Int×(Int×Int))
 |0=>[]
 |n+1=>if bn l (k+1)<b then (a,(bn l (k+1),cG o l k))::oY o l (bn l (k+1)) b (k+1) n else [(a,(b,cG o l k))]
section
variable{o:Int}{l:bR}(h:iY o l)
include h
theorem U3{b:Int}(hb:b<=8589934592):∀(n k:Nat)(a:Int)(acc:List (Int×(Int×Int))),k+n=l.length+1->k<=l.length->bn l k<=a->a<bn l (k+1)->a<b->acc.length<=k->
  vD a b o l acc=some (acc++oY o l a b k n)
 |0,k,a,acc,hn,hk,_,_,_,_=>by omega
 |n+1,k,a,acc,hn,hk,h1,h2,bz,ha=>by
  have hlen:=h.len;rw[Ay];simp only[j0H,show Int.ofNat (List.length l)=(l.length:Int) from rfl,oY];rw[aj bz];simp only[j5,Mq h hk h1 h2,Mr h hk,j3];by_cases iW:k<l.length
  .have hf:bn l (k+1)=(l.getD k ((0:Int),(0:Int))).1:=yr iW;rw[aj (show (k:Int)<(l.length:Int) by omega),aU (by omega) (by omega)];simp only[j5,j7,<-hf];rw[aj (by simp[aS];omega),j5,aF];by_cases hc:bn l (k+1)<b
   .rw[if_pos hc,if_pos hc];have:=U3 hb n (k+1) (bn l (k+1)) (acc++[(a,(bn l (k+1),cG o l k))]) (by omega) (by omega) (by omega) (h.frm_lt (by omega)) hc (by simp;omega);rw[jd]at this;exact this
   .rw[if_neg hc,if_neg hc];rw[Ay];simp only[j0H];rw[ak (by omega),j6,aW]
  .have bY:k=l.length:=by omega
   have hf:bn l (k+1)=8589934593:=by rw[bY];exact tG
   rw[if_neg (show¬bn l (k+1)<b by omega),ak (by omega),j6,aj (by simp[aS];omega),j5,aF];rw[Ay];simp only[j0H];rw[ak (by omega),j6,aW]
omit h in
theorem U4:∀(n k:Nat)(a b:Int),(oY o l a b k n).length<=n
 |0,k,a,b=>by simp[oY]
 |n+1,k,a,b=>by
  simp only[oY];split
  .have:=U4 n (k+1) (bn l (k+1)) b;simp;omega
  .simp
theorem U5{b:Int}:∀(n k:Nat)(a:Int),k+n=l.length+1->bn l k<=a->a<bn l (k+1)->a<b->
  ∀p∈oY o l a b k n,a<=p.1/\p.1<p.2.1/\p.2.1<=b/\∃i,k<=i/\i<=l.length/\p.2.2=cG o l i/\bn l i<=p.1/\p.2.1<=bn l (i+1)
 |0,k,a,hn,h1,h2,bz,p,hp=>by simp[oY]at hp
 |n+1,k,a,hn,h1,h2,bz,p,hp=>by
  simp only[oY]at hp;split at hp
  .rename_i hc;rcases je.1 hp with rfl|hp
   .exact⟨kg _,h2,by dsimp only;omega,k,jj _,by omega,rfl,h1,kg _⟩
   .cases n with
    |zero=>simp[oY]at hp
    |succ n=>
    obtain⟨a1,a2,a3,i,i1,i2,i3⟩:=U5 (n+1) (k+1) (bn l (k+1)) (by omega) (kg _) (h.frm_lt (by omega)) hc p hp;exact⟨by omega,a2,a3,i,by omega,i2,i3⟩
  .rename_i hc;simp at hp;subst hp;exact⟨kg _,bz,kg _,k,jj _,by omega,rfl,h1,by dsimp only;omega⟩
theorem U6{b:Int}(hb:b<=8589934592):∀(n k:Nat)(a:Int),k+n=l.length+1->k<=l.length->bn l k<=a->a<bn l (k+1)->a<b->
  ∀x,a<=x->x<b->∃p∈oY o l a b k n,p.1<=x/\x<p.2.1
 |0,k,a,hn,hk,h1,h2,bz,x,hx,ob=>by omega
 |n+1,k,a,hn,hk,h1,h2,bz,x,hx,ob=>by
  simp only[oY];split
  .rename_i hc;by_cases an:x<bn l (k+1)
   .exact⟨_,qt ..,hx,an⟩
   .have iW:k+1<=l.length:=by
     rcases qu k l.length with h'|h'
     .exact h'
     .have:k=l.length:=by omega
      subst this;rw[tG]at hc;omega
    obtain⟨p,hp,uj⟩:=U6 hb n (k+1) (bn l (k+1)) (by omega) iW (kg _) (h.frm_lt iW) hc x (by omega) ob;exact⟨p,by simp[hp],uj⟩
  .exact⟨_,qt ..,hx,ob⟩
theorem U7{a b:Int}(ha:0<=a)(bz:a<=b)(hb:b<=8589934592):∃ps,j1X (o,l) a b=some ps/\ps.length<=l.length+1/\
  (∀p∈ps,a<=p.1/\p.1<p.2.1/\p.2.1<=b/\∃i,i<=l.length/\p.2.2=cG o l i/\bn l i<=p.1/\p.2.1<=bn l (i+1))/\∀x,a<=x->x<b->∃p∈ps,p.1<=x/\x<p.2.1:=by
 simp only[j1X];rcases Int.lt_or_le a b with an|nG
 .obtain⟨k,hk,h1,h2⟩:=DJ h ha (by omega);have:=U3 h hb (l.length+1-k) k a [] (by omega) hk h1 h2 an (by simp);rw[jm]at this;rw[this];refine⟨_,rfl,?_,λp hp=>?_,U6 h hb _ k a (by omega) hk h1 h2 an⟩
  .have:=U4 (o:=o) (l:=l) (l.length+1-k) k a b;omega
  .obtain⟨a1,a2,a3,i,_,i2⟩:=U5 h _ k a (by omega) h1 h2 an p hp;exact⟨a1,a2,a3,i,i2⟩
 .rw[Ay];simp only[j0H];rw[ak (by omega),j6,aW];exact⟨[],rfl,by simp,by simp,λx h1 h2=>by omega⟩
end
def vP(f t st:Int)(v:Int×Int):Int×Int:=(if st+v.1>f then st+v.1 else f,if st+v.2<t then st+v.2 else t)
theorem Nd{s:Int}:∀{w:WL},hasB s w=true↔∃v∈w,v.1<=s/\s<v.2
 |[]=>by simp[hasB]
 |x::r=>by
  simp only[hasB,je];cases hc:cond (decide (x.1<=s)) (decide (s<x.2)) false with
  |true=>
   simp only[j5,true_iff];refine⟨x,Or.inl rfl,?_⟩;by_cases h1:x.1<=s
   .rw[aj h1,j5]at hc;exact⟨h1,kz hc⟩
   .rw[ak h1,j6]at hc;simp at hc
  |false=>
   simp only[j6];rw[Nd (w:=r)];constructor
   .rintro⟨v,hv,h⟩;exact⟨v,Or.inr hv,h⟩
   .rintro⟨v,rfl|hv,h⟩
    .rw[aj h.1,aj h.2]at hc;simp at hc
    .exact⟨v,hv,h⟩
theorem U8{w:WL}(hw:iJ 0 w)(hl:w.length<=14){st f t q:Int}(aB : -1000000<=st)(db:st<=8600000000)(a b:Int)(ps:List (Int×(Int×Int))):∀(n i:Nat)(acc:SL),i+n=w.length->acc.length+n<=1000000->
  AA w st a b w (w.length:Int) (i:Int) f t q acc ps=some (w,st,a,b,f,t,q,acc++(w.drop i).map (vP f t st),ps)
 |0,i,acc,hi,_=>by
  rw[R5];simp only[j59];rw[ak (by omega),j6,aW,jf (by omega)];simp
 |n+1,i,acc,hi,ha=>by
  have an:i<w.length:=by omega
  have bf:w.getD i ((0:Int),(0:Int))=w[i]:=by simp[an]
  have hg:=DZ hw i an;rw[bf]at hg;rw[R5,jc an];simp only[j59];rw[aj (show (i:Int)<(w.length:Int) by omega),aU (by omega) (by omega)];simp only[j5,j7,bf];rw[ah (x:=(i:Int)+1) (by omega) (by omega),ah (x:=st+w[i].1) (by omega) (by omega),ah (x:=st+w[i].2) (by omega) (by omega),aj (by simp[aS];omega),j5,aF];have:=U8 hw hl aB db a b ps n (i+1) (acc++[vP f t st w[i]]) (by omega) (by simp;omega) (f:=f) (t:=t) (q:=q);rw[jd]at this;exact this
theorem jBi{w:WL}(hw:iJ 0 w)(hl:w.length<=14){f t q:Int}(hf:0<=f)(ht:t<=8589934592)(ir:f<t)(a b:Int)(ps:List (Int×(Int×Int))):∀(m:Nat)(st:Int)(acc:SL), -1000000<=st->t<=st+604800*m->acc.length+14*m<=900000->
  ∃E,AB w st a b f t q acc ps=some (w,a,b,acc++E,ps)/\E.length<=w.length*m/\(∀s∈E,f<=s.1/\s.2<=t/\s.1<=100000000000 /\ -100000000000<=s.2)/\
   ∀x,br x E↔f<=x/\x<t/\st<=x/\hasB ((x-st)%604800) w=true:=by
 intro m;induction m with
 |zero=>intro st acc aB hm _;rw[R6];simp only[j2J];rw[ak (by omega),j6,aW];exact⟨[],by simp,by simp,by simp,λx=>⟨λh=>absurd h gE,λh=>by omega⟩⟩
 |succ m ih=>
  intro st acc aB hm fc;rw[R6];simp only[j2J,show Int.ofNat (List.length w)=(w.length:Int) from rfl];by_cases an:st<t
  .have h4:=U8 hw hl aB (by omega) a b ps w.length 0 acc (by omega) (by omega) (f:=f) (t:=t) (q:=q);rw[show ((0:Nat):Int)=0 from rfl,jw]at h4;rw[aj an,j5,h4];simp only[j3];rw[ah (x:=st+604800) (by omega) (by omega),aF];obtain⟨E,e,h1,h2,h3⟩:=ih (st+604800) (acc++w.map (vP f t st)) (by omega) (by omega) (by simp;omega);refine⟨w.map (vP f t st)++E,?_,?_,?_,λx=>?_⟩
   .rw[jd]at e;exact e
   .rw[ja,kn,Nat.mul_succ];omega
   .intro s hs;rcases jn.1 hs with hs|hs
    .obtain⟨v,hv,rfl⟩:=jt.1 hs;obtain⟨i,hi,rfl⟩:=qx hv;have hg:=DZ hw i hi;rw[show w.getD i (0,0)=w[i] by simp[hi]]at hg;simp only[vP];refine⟨?_,?_,?_,?_⟩<;>split<;>omega
    .exact h2 s hs
   .rw[Ec,h3 x];constructor
    .rintro (⟨s,hs,nK,ob⟩|⟨a1,a2,a3,a4⟩)
     .obtain⟨v,hv,rfl⟩:=jt.1 hs;have gw:=hv;obtain⟨i,hi,rfl⟩:=qx hv;have hg:=DZ hw i hi;rw[show w.getD i (0,0)=w[i] by simp[hi]]at hg;simp only[vP]at nK ob;have b1:f<=x/\st+w[i].1<=x:=by split at nK<;>omega
      have b2:x<t/\x<st+w[i].2:=by split at ob<;>omega
      refine⟨b1.1,b2.1,by omega,Nd.2 ⟨w[i],gw,?_,?_⟩⟩<;>omega
     .refine⟨a1,a2,by omega,?_⟩;rw[show (x-st)%604800=(x-(st+604800))%604800 by omega];exact a4
    .rintro⟨a1,a2,a3,a4⟩
     by_cases hx:st+604800<=x
     .refine Or.inr ⟨a1,a2,hx,?_⟩;rw[show (x-(st+604800))%604800=(x-st)%604800 by omega];exact a4
     .obtain⟨v,hv,c1,c2⟩:=Nd.1 a4;have e1:(x-st)%604800=x-st:=by omega
      rw[e1]at c1 c2;refine Or.inl ⟨vP f t st v,jt.2 ⟨v,hv,rfl⟩,?_,?_⟩<;>simp only[vP]<;>split<;>omega
  .rw[ak an,j6,aW];exact⟨[],by simp,by simp,by simp,λx=>⟨λh=>absurd h gE,λh=>by omega⟩⟩
theorem U9{w:WL}(hw:iJ 0 w)(hl:w.length<=14){ps:List (Int×(Int×Int))}{M:Nat}(hM:M<=60)(eY:ps.length<=30){lo hi:Int}(jJ:0<=lo)(lu:hi<=8589934592)
  (gC:∀p∈ps,lo<=p.1/\p.1<p.2.1/\p.2.1<=hi /\ -64800<=p.2.2/\p.2.2<=64800/\p.2.1-p.1<=604800*M):∀(n i:Nat)(acc:SL),i+n=ps.length->acc.length<=854*i->
  ∃E,AD w (ps.length:Int) (i:Int) acc ps=some (acc++E)/\E.length<=w.length*(M+1)*n/\(∀s∈E,lo<=s.1/\s.2<=hi/\s.1<=100000000000 /\ -100000000000<=s.2)/\
   ∀x,br x E↔∃p∈ps.drop i,p.1<=x/\x<p.2.1/\hasB ((x+p.2.2+259200)%604800) w=true
 |0,i,acc,hi,_=>by
  rw[R7];simp only[j2K];rw[ak (by omega),j6,aW,jf (by omega)];exact⟨[],by simp,by simp,by simp,λx=>⟨λh=>absurd h gE,λ⟨p,hp,_⟩=>by simp at hp⟩⟩
 |n+1,i,acc,hi,fc=>by
  have an:i<ps.length:=by omega
  have bf:ps.getD i ((0:Int),((0:Int),(0:Int)))=ps[i]:=by simp[an]
  obtain⟨p1,p2,p3,p4,p5,p6⟩:=gC ps[i] (jg an);have Va:w.length*(M+1)<=854:=qg (z6 hl (show M+1<=61 by omega)) (by decide);rw[R7,jc an];simp only[j2K];rw[aj (show (i:Int)<(ps.length:Int) by omega),aU (by omega) (by omega)];simp only[j5,j7,bf];rw[ah (x:=ps[i].1+ps[i].2.2) (by omega) (by omega),ah (x:=ps[i].1+ps[i].2.2 - -259200) (by omega) (by omega),DG (by omega)];rw[ah (x:=ps[i].1+ps[i].2.2 - -259200-(ps[i].1+ps[i].2.2 - -259200)%604800) (by omega) (by omega)];rw[ah (x:=ps[i].1+ps[i].2.2 - -259200-(ps[i].1+ps[i].2.2 - -259200)%604800 + -259200) (by omega) (by omega)];rw[ah (x:=ps[i].1+ps[i].2.2 - -259200-(ps[i].1+ps[i].2.2 - -259200)%604800 + -259200-ps[i].2.2) (by omega) (by omega)];generalize aB:ps[i].1+ps[i].2.2 - -259200-(ps[i].1+ps[i].2.2 - -259200)%604800 + -259200-ps[i].2.2=st;obtain⟨E1,e1,l1,b1,m1⟩:=jBi hw hl (f:=ps[i].1) (t:=ps[i].2.1) (q:=ps[i].2.2) (by omega) (by omega) p2 (ps.length:Int) (i:Int) ps (M+1) st acc (by omega) (by omega) (by omega);rw[e1];simp only[j3];rw[ah (x:=(i:Int)+1) (by omega) (by omega),aF];obtain⟨E2,e2,l2,b2,m2⟩:=U9 hw hl hM eY jJ lu gC n (i+1) (acc++E1) (by omega) (by simp;omega);refine⟨E1++E2,?_,?_,?_,λx=>?_⟩
  .rw[jd]at e2;exact e2
  .rw[ja,Nat.mul_succ];omega
  .intro s hs;rcases jn.1 hs with hs|hs
   .have:=b1 s hs;omega
   .exact b2 s hs
  .rw[Ec,m1 x,m2 x];have key:∀x,ps[i].1<=x->(x-st)%604800=(x+ps[i].2.2+259200)%604800/\st<=x:=by intro x hx;omega
   constructor
   .rintro (⟨c1,c2,c3,c4⟩|⟨p,hp,h⟩)
    .exact⟨ps[i],qt ..,c1,c2,by rw[<-(key x c1).1];exact c4⟩
    .exact⟨p,zu _ hp,h⟩
   .rintro⟨p,hp,c1,c2,c3⟩
    rcases je.1 hp with rfl|hp
    .exact Or.inl ⟨c1,c2,(key x c1).2,by rw[(key x c1).1];exact c3⟩
    .exact Or.inr ⟨p,hp,c1,c2,c3⟩
theorem Vb{o:Int}{l:bR}(h:iY o l)(gZ:l.length<=20){w:WL}(hw:iJ 0 w)(hl:w.length<=14){M:Nat}(hM:M<=60){a b:Int}(ha:0<=a)(bz:a<=b)(hb:b<=8589934592)(hlen:b-a<=604800*M) :
  ∃out,j2u (o,l) w a b=some out/\bB (a-1) out/\(∀u∈out,a<=u.1/\u.2<=b)/\out.length<=w.length*(M+1)*(l.length+1)/\
   ∀k,k<=l.length->∀x,a<=x->x<b->bn l k<=x->x<bn l (k+1)->(br x out↔hasB ((x+cG o l k+259200)%604800) w=true):=by
 obtain⟨ps,e,pl,pm,pc⟩:=U7 h ha bz hb
 obtain⟨E,e1,l1,b1,m1⟩:=U9 hw hl hM (ps:=ps) (by omega) (lo:=a) (hi:=b) ha hb (λp hp=>by
  obtain⟨h1,h2,h3,i,i1,i2,_⟩:=pm p hp;have:=h.of0 i i1;have:=h.of1 i i1;exact⟨h1,h2,h3,by omega,by omega,by omega⟩) ps.length 0 [] (by omega) (by simp)
 rw[show ((0:Nat):Int)=0 from rfl,jm]at e1;have Va:w.length*(M+1)<=854:=qg (z6 hl (show M+1<=61 by omega)) (by decide);have Vc:E.length<=w.length*(M+1)*(l.length+1):=qg l1 (Nat.mul_le_mul_left _ pl);have hEl2:E.length<=854*21:=qg Vc (z6 Va (by omega));obtain⟨out,e2,s1,s2,s3,s4⟩:=Bd (l:=E) (by omega) (λs hs=>by have:=b1 s hs;omega) (lo:=a) (hi:=b) (λs hs _=>⟨(b1 s hs).1,(b1 s hs).2.1⟩);refine⟨out,?_,s1,s4,by omega,λk hk x nK ob dz gl=>?_⟩
 .simp only[j2u,e,j3,show Int.ofNat (List.length ps)=(ps.length:Int) from rfl,e1,e2]
 .rw[s2 x,m1 x,jw];constructor
  .rintro⟨p,hp,c1,c2,c3⟩
   obtain⟨h1,h2,h3,i,i1,i2,i3,i4⟩:=pm p hp;have:i=k:=GR h i1 hk (t:=x) (by omega) (by omega) dz gl;subst this;rw[<-i2];exact c3
  .intro hx;obtain⟨p,hp,c1,c2⟩:=pc x nK ob;obtain⟨h1,h2,h3,i,i1,i2,i3,i4⟩:=pm p hp;have:i=k:=GR h i1 hk (t:=x) (by omega) (by omega) dz gl;subst this;exact⟨p,hp,c1,c2,by rw[i2];exact hx⟩
theorem GZ{o:Int}{rs:List bj}(hm:MZ o rs):(eb o (fH (occs rs))).length<=4:=by
 have h1:=GQ (fH (occs rs)) o;have h2:(fH (occs rs)).length=(occs rs).length:=by unfold fH;rw[List.length_reverse,Mu];simp
 have:=hm.few;omega
theorem jyZ{o:Int}{rs:List bj}(hm:MZ o rs):(eb o (fH (occs rs))).length<=20:=qg (GZ hm) (by omega)
end Go.Proofs.Pw
