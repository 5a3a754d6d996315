/- tO 11: Vb is on oh in a Eo. -/
import Derived.Test.YtaieocafhcjelaaGreatEPE
import Derived.Test.YtaieocafhcjelaaGreatEPA
import Derived.Test.YtaieocafhcjelaaGreatEFns
import Derived.Test.YtaieocafhcjelaaGreatEPC
open Go Go.Lft
namespace Go.Proofs.Pw
def tb(z:bY):Int×bT:=(z.2.1,eh z.2.1 (fL (occs z.2.2)))
theorem nq.ztab{z:bY}(h:nq z):tN z (tb z).2:=MZ.tab (o:=z.2.1) (rs:=z.2.2) h z.1
theorem Vc{zs:List bY}(h:∀z∈zs,nq z)(hl:zs.length<=100):∀(n i:Nat),i+n=zs.length->xU zs (zs.length:Int) (i:Int) ((zs.take i).map tb)=some (zs.map tb)
 |0,i,hi=>by
  rw[Sc];simp only[j31];rw[al (by omega),j6,aW,List.take_of_length_le (by omega)]
 |n+1,i,hi=>by
  have aq:i<zs.length:=by omega
  have bh:zs.getD i (ByteArray.empty,((0:Int),([]:List bm)))=zs[i]:=by simp[aq]
  have ht:=jBn (h zs[i] (jh aq)).ztab;have ih:=Vc h hl n (i+1) (by omega);rw[ko,jj aq,zr]at ih;rw[Sc];simp only[j31];rw[aj (by omega),aX (by omega) (by omega),ai (x:=(i:Int)+1) (by omega) (by omega)];simp only[j5,j7,bh];rw[show jgy (zs[i].1,(zs[i].2.1,zs[i].2.2))=_ from ht];simp only[j3];rw[aj (by simp[aR];omega),j5,aJ];exact ih
theorem jz8{zs:List bY}(h:∀z∈zs,nq z)(hl:zs.length<=100){ps:List dB}{cs:List bf}{ss:List cA}:jcR (zs,(ps,(cs,ss)))=some ((zs,(ps,(cs,ss))),zs.map tb):=by
 have lp:=Vc h hl zs.length 0 (by omega);simp only[jcR,jb3,show Int.ofNat zs.length=(zs.length:Int) from rfl];rw[show xU zs (zs.length:Int) 0 []=_ from lp];rfl
theorem G5{zs:List bY}{i:Int}(h0:0<=i)(h1:i<(zs.length:Int)):List.getD (zs.map tb) i.toNat ((0:Int),([]:bT))=tb (zs.getD i.toNat (ByteArray.empty,((0:Int),([]:List bm)))):=by
 have aq:i.toNat<zs.length:=by omega
 simp[List.getD_eq_getElem?_getD,aq]
theorem jF{zs:List bY}(h:∀z∈zs,nq z){i:Int}(h0:0<=i)(h1:i<(zs.length:Int)):nq (zs.getD i.toNat (ByteArray.empty,((0:Int),([]:List bm)))):=by
 have aq:i.toNat<zs.length:=by omega
 rw[List.getD_eq_getElem?_getD,jj aq];exact h _ (jh aq)
theorem jxh(a b:Int):jdY a b=some (decide (a<b)):=by
 simp only[jdY,jcv,j3,jp,j6]
theorem Nj{ds:List Int}(hs:ds.Pairwise (· < ·))(hl:ds.length<=64){x:Int}:∀(n a b:Nat),b-a<=n->a<=b->b<=ds.length->(∀i,(hi:i<ds.length)->i<a->ds[i]<x)->(∀i,(hi:i<ds.length)->b<=i->x<=ds[i])->
  ∃k:Nat,AQ ds x (ds.length:Int) (a:Int) (b:Int)=some (ds,x,(ds.length:Int),(k:Int))/\k<=ds.length/\(∀i,(hi:i<ds.length)->i<k->ds[i]<x)/\∀i,(hi:i<ds.length)->k<=i->x<=ds[i]
 |n,a,b,hn,bR,hb,h1,h2=>by
  rw[ja5];simp only[j2E];by_cases aq:a<b
  .have hm:IntKind.wrap .u64 ((a:Int)+(b:Int))=(a:Int)+(b:Int):=IntWalk.u64_in _ ⟨by omega,by omega⟩;have hd:Int.fdiv ((a:Int)+(b:Int)) 2=(((a+b)/2:Nat):Int):=by rw[Int.fdiv_eq_ediv_of_nonneg _ (by omega)];omega
   have Fq:(a+b)/2<ds.length:=by omega
   have bh:ds.getD ((a+b)/2) (0:Int)=ds[(a+b)/2]:=by simp[Fq]
   rw[aj (show (a:Int)<(b:Int) by omega),ai (x:=(a:Int)+(b:Int)) (by omega) (by omega),hm,hd,ai (x:=(((a+b)/2:Nat):Int)) (by omega) (by omega),aX (by omega) (by omega),ai (x:=(((a+b)/2:Nat):Int)+1) (by omega) (by omega)];simp only[j5,j7,bh,jxh,j3];cases n with
   |zero=>omega
   |succ n=>
    by_cases hc:ds[(a+b)/2]<x
    .rw[aj hc,j5,aJ];refine Nj hs hl n ((a+b)/2+1) b (by omega) (by omega) hb (λi hi hia=>?_) h2;by_cases he:i=(a+b)/2
     .subst he;exact hc
     .exact Int.lt_trans (ky.1 hs i ((a+b)/2) hi Fq (by omega)) hc
    .rw[al hc,j6,aJ];refine Nj hs hl n a ((a+b)/2) (by omega) (by omega) (by omega) h1 (λi hi hia=>?_);by_cases he:i=(a+b)/2
     .subst he;exact Int.not_lt.1 hc
     .exact q9 (Int.not_lt.1 hc) (Int.le_of_lt (ky.1 hs ((a+b)/2) i Fq hi (by omega)))
  .have:a=b:=by omega
   subst this;rw[al (by omega),j6,aW];exact⟨a,rfl,hb,h1,h2⟩
def okW(w:WL)(s:Int):Bool:=cond (decide ((w.length:Int)>0)) (hasB s w) true
section
variable{zs:List bY}{ps:List dB}{cs:List bf}{ss:List cA}(hz:∀z∈zs,nq z)
include hz
def qX(L:cg)(K:Int):Int:=L.2.2.2.2.2.1.getD (Int.tmod K (L.2.2.2.2.2.1.length:Int)).toNat 0
end
theorem fI.rt{nz np nc:Nat}{L:cg}(h:fI nz np nc L)(hd:L.2.2.1.1<=100000):Rt L:=
 ⟨h.d0,hd,h.c0,h.c1,h.u0,h.u1,h.e0,h.e1,λhn=>h.m0 (by rw[hn];rfl)⟩
theorem jAv{z:bY}(hz:nq z){t:Int}(h0:0<=t)(h1:t<=8589934592):∃d s,j1B (tb z) t=some d/\j5l d=some s:=by
 have ht:=hz.ztab;obtain⟨j,hj,j1,j2⟩:=DW ht.2 h0 h1;have o0:=ht.2.of0 j hj;have o1:=ht.2.of1 j hj;obtain⟨s,hs⟩:∃s,j5l ((t+cI z.2.1 (tb z).2 j)/86400,(t+cI z.2.1 (tb z).2 j)%86400)=some s:=by simp only[j5l,Ub,j3];exact⟨_,rfl⟩
 exact⟨_,s,GP ht.2 hj j1 j2,hs⟩
abbrev SL:=List (Int×Int)
def bz(x:Int)(l:SL):Prop:=∃s∈l,s.1<=x/\x<s.2
def bK(p:Int):SL->Prop
 |[]=>True
 |x::r=>p<x.1/\x.1<x.2/\bK x.2 r
def Sml(l:SL):Prop:=∀s∈l, -1000000000000<=s.1/\s.1<=1000000000000 /\ -1000000000000<=s.2/\s.2<=1000000000000
theorem gJ{x:Int}:¬bz x []:=by rintro⟨s,hs,_⟩;simp at hs
theorem eY{x:Int}{s:Int×Int}{l:SL}:bz x (s::l)↔(s.1<=x/\x<s.2)\/bz x l:=by
 constructor
 .rintro⟨u,hu,h⟩
  rcases je.1 hu with rfl|hu
  .exact Or.inl h
  .exact Or.inr ⟨u,hu,h⟩
 .rintro (h|⟨u,hu,h⟩)
  .exact⟨s,by simp,h⟩
  .exact⟨u,by simp[hu],h⟩
theorem Ep{x:Int}{l r:SL}:bz x (l++r)↔bz x l\/bz x r:=by
 constructor
 .rintro⟨u,hu,h⟩
  rcases jn.1 hu with hu|hu
  .exact Or.inl ⟨u,hu,h⟩
  .exact Or.inr ⟨u,hu,h⟩
 .rintro (⟨u,hu,h⟩|⟨u,hu,h⟩)
  .exact⟨u,by simp[hu],h⟩
  .exact⟨u,by simp[hu],h⟩
def nE(s:Int×Int):Bool:= !(decide (s.2<=s.1))
theorem Vd{l:SL}(hl:l.length<=10000000):∀(n i:Nat),i+n=l.length->(∀s∈l.take i,nE s=true)->
  (∃j:Nat,xY (l.length:Int) (i:Int) l=some (.inl ((j:Int),l))/\j<l.length/\(∀s∈l.take j,nE s=true)/\nE (l.getD j (0,0))=false)\/
  (xY (l.length:Int) (i:Int) l=some (.inr l)/\∀s∈l,nE s=true)
 |0,i,hi,h=>by
  rw[Sj];simp only[j1h];rw[al (by omega),j6,aW];rw[List.take_of_length_le (by omega)]at h;exact Or.inr ⟨rfl,h⟩
 |n+1,i,hi,h=>by
  rw[Sj];simp only[j1h,ja4];rw[aj (show (i:Int)<(l.length:Int) by omega),aX (by omega) (by omega),ai (x:=(i:Int)+1) (by omega) (by omega)];simp only[j5,j7,j3];have aq:i<l.length:=by omega
  cases hc:decide ((l.getD i ((0:Int),(0:Int))).2<=(l.getD i ((0:Int),(0:Int))).1) with
  |true=>simp only[j5,aW];exact Or.inl ⟨i,rfl,aq,h,by simp only[nE];rw[hc];rfl⟩
  |false=>
   simp only[j6,aJ];refine Vd hl n (i+1) (by omega) λs hs=>?_;rw[ko]at hs;rcases jn.1 hs with hs|hs
   .exact h s hs
   .have bh:l.getD i ((0:Int),(0:Int))=l[i]:=by simp[aq]
    rw[bh]at hc;rw[jj aq]at hs;simp at hs;subst hs;simp only[nE];rw[hc];rfl
theorem Nk{l:SL}(hl:l.length<=10000000):∀(n i j:Nat)(b:SL),j+n=l.length->i<=j->b.length=l.length->b.drop j=l.drop j->b.take i=(l.take j).filter nE->
  ∃(k:Nat)(b':SL),AJ (i:Int) (j:Int) b=some ((k:Int),b')/\b'.length=l.length/\k<=l.length/\b'.take k=l.filter nE
 |0,i,j,b,hj,dK,hb,hd,ht=>by
  rw[Sk];simp only[j19,show Int.ofNat (List.length b)=(b.length:Int) from rfl];rw[al (by omega),j6,aW];rw[List.take_of_length_le (l:=l) (by omega)]at ht;exact⟨i,b,rfl,hb,by omega,ht⟩
 |n+1,i,j,b,hj,dK,hb,hd,ht=>by
  have aq:j<l.length:=by omega
  have Nl:b.getD j ((0:Int),(0:Int))=l[j]:=by
   have:b[j]? = l[j]? := by
    have h:=ji (λx=>x[0]?) hd;simpa[List.getElem?_drop]using h
   rw[List.getD_eq_getElem?_getD,this,jj aq];rfl
  have gf:b.drop (j+1)=l.drop (j+1):=by have:=ji (List.drop 1) hd;simpa[List.drop_drop]using this
  have mo:l.take (j+1)=l.take j++[l[j]]:=by rw[ko,jj aq];rfl
  rw[Sk];simp only[j19,ja4,show Int.ofNat (List.length b)=(b.length:Int) from rfl];rw[aj (show (j:Int)<(b.length:Int) by omega),aX (by omega) (by omega),aX (by omega) (by omega),ai (x:=(j:Int)+1) (by omega) (by omega),ai (x:=(i:Int)+1) (by omega) (by omega)];simp only[j5,j7,j3,Nl];cases hc:decide (l[j].2<=l[j].1) with
  |true=>simp only[jq,j6,aJ];refine Nk hl n i (j+1) b (by omega) (by omega) hb gf ?_;rw[mo,zb,ht];simp[nE,hc]
  |false=>
   simp only[k7,j5,aJ];refine Nk hl n (i+1) (j+1) _ (by omega) (by omega) (by simpa using hb) ?_ ?_
   .rw[List.drop_set_of_lt (by omega)];exact gf
   .have B8:i<b.length:=by omega
    rw[ko,List.take_set_of_le (jg _),vq B8,ht,mo,zb];simp[nE,hc]
theorem jvC{l:SL}(hl:l.length<=10000000):∃n m,j0X l=some (n,m)/\m.take n.toNat=l.filter nE:=by
 simp only[j0X,j1s,show Int.ofNat (List.length l)=(l.length:Int) from rfl];rcases Vd hl l.length 0 (by omega) (by simp) with⟨j,e,hj,h1,h2⟩|⟨e,h⟩
 .rw[show ((0:Nat):Int)=0 from rfl]at e;rw[e];simp only[j3,Rw];rw[cP (by omega),ai (x:=(j:Int)+1) (by omega) (by omega)];have bh:l.getD j ((0:Int),(0:Int))=l[j]:=by simp[hj]
  rw[bh]at h2
  obtain⟨k,b,e2,hb,hk,ht⟩:=Nk hl (l.length-(j+1)) j (j+1) l (by omega) (by omega) rfl rfl (by
   rw[ko,jj hj,zb,vg.2 h1];simp[h2])
  rw[show ((j:Int)+1)=((j+1:Nat):Int) from rfl,e2];simp only[j6,j3,show Int.ofNat (List.length b)=(b.length:Int) from rfl,j7];rw[aj (show (0:Int)<=(k:Int) by omega),aj (show (k:Int)<=(b.length:Int) by omega)];simp only[vi,j5,Bool.true_and];rw[aj (by simp;omega),j5];refine⟨_,_,rfl,?_⟩;simp only[show (Int.ofNat k).toNat=k from rfl];rw[zf (by simp;omega),v6,Nat.min_self,ht]
 .rw[show ((0:Nat):Int)=0 from rfl]at e;rw[e];simp only[j3,nV,vb,j5];refine⟨_,_,rfl,?_⟩;simp only[show (Int.ofNat l.length).toNat=l.length from rfl];rw[List.take_of_length_le (jg _),vg.2 h]
def jR(e:Int×Int):SL->SL
 |[]=>[e]
 |s::r=>if s.1<=e.2 then jR (e.1,if s.2>e.2 then s.2 else e.2) r else e::jR s r
def mg:SL->SL
 |[]=>[]
 |s::r=>jR s r
theorem Nn{L:SL}(hL:L.length<=10000000):∀(n i:Nat)(A:SL)(e:Int×Int),i+n=L.length->A.length<i->
  xZ (L.length:Int) (i:Int) (A++[e]) L=some (A++jR e (L.drop i))
 |0,i,A,e,hi,hA=>by
  rw[Kq];simp only[j4S];rw[al (by omega),j6,aW,jf (by omega)];rfl
 |n+1,i,A,e,hi,hA=>by
  have aq:i<L.length:=by omega
  have bh:L.getD i ((0:Int),(0:Int))=L[i]:=by simp[aq]
  have hle:(A++[e]).length=A.length+1:=by simp
  have nK:(A++[e]).getD A.length ((0:Int),(0:Int))=e:=by simp
  rw[Kq,jc aq];simp only[j4S,jR,show Int.ofNat (List.length (A++[e]))=((A.length:Int)+1) from by rw[hle];rfl]
  rw[aj (show (i:Int)<(L.length:Int) by omega),aX (by omega) (by omega),aj (show (A.length:Int)+1>0 by omega),ai (x:=(A.length:Int)+1-1) (by omega) (by omega),ai (x:=(i:Int)+1) (by omega) (by omega),
   aX (by omega) (by rw[hle];omega),show ((A.length:Int)+1-1).toNat=A.length by omega]
  simp only[j5,j7,bh,nK];by_cases hc:L[i].1<=e.2
  .rw[aj hc,if_pos hc];simp only[j5,aJ]
   rw[show (A++[e]).set A.length (e.1,if L[i].2>e.2 then L[i].2 else e.2)=A++[(e.1,if L[i].2>e.2 then L[i].2 else e.2)] by
    rw[zp _ _ (jg _)];simp]
   exact Nn hL n (i+1) A _ (by omega) (by omega)
  .rw[al hc,if_neg hc,aj (by rw[hle];simp[aR];omega)];simp only[j6,j5,aJ];have:=Nn hL n (i+1) (A++[e]) L[i] (by omega) (by rw[hle];omega);rw[show A++e::jR L[i] (L.drop (i+1))=A++[e]++jR L[i] (L.drop (i+1)) by simp];exact this
theorem jBz{L:SL}(hL:L.length<=10000000):xZ (L.length:Int) 0 [] L=some (mg L):=by
 rw[Kq];simp only[j4S];cases L with
 |nil=>rw[al (by simp),j6,aW];rfl
 |cons s r=>rw[aj (show (0:Int)<((s::r).length:Int) by simp only[jk];omega),aX (by omega) (by simp only[jk];omega)];simp only[j5,show Int.ofNat (List.length ([]:SL))=0 from rfl];rw[al (show¬((0:Int)>0) by omega),j6,aj (by simp[aR]),ai (x:=(0:Int)+1) (by omega) (by omega)];simp only[j5,aJ];have:=Nn hL r.length 1 [] s (by simp;omega) (by simp);simpa[mg]using this
def Er:SL->Prop
 |[]=>True
 |s::r=>(∀u∈r,s.1<=u.1)/\Er r
theorem Np:∀{r:SL}{e:Int×Int}{p:Int},p<e.1->e.1<e.2->(∀s∈r,nE s=true)->Er r->bK p (jR e r)
 |[],e,p,h1,h2,_,_=>⟨h1,h2,trivial⟩
 |s::r,e,p,h1,h2,h3,h4=>by
  simp only[jR];have hs:s.1<s.2:=by have:=h3 s (by simp);simp[nE]at this;omega
  split
  .exact Np (by exact h1) (by dsimp only;split<;>omega) (λu hu=>h3 u (by simp[hu])) h4.2
  .exact⟨h1,h2,Np (by omega) hs (λu hu=>h3 u (by simp[hu])) h4.2⟩
theorem Nq{x:Int}:∀{r:SL}{e:Int×Int},(∀s∈r,e.1<=s.1)->(∀s∈r,nE s=true)->Er r->(bz x (jR e r)↔(e.1<=x/\x<e.2)\/bz x r)
 |[],e,_,_,_=>by simp[jR,bz]
 |s::r,e,h1,h3,h4=>by
  have hs:s.1<s.2:=by have:=h3 s (by simp);simp[nE]at this;omega
  have he:e.1<=s.1:=h1 s (by simp);simp only[jR];split
  .rw[Nq (e:=(e.1,if s.2>e.2 then s.2 else e.2)) (λu hu=>h1 u (by simp[hu])) (λu hu=>h3 u (by simp[hu])) h4.2,eY];dsimp only;constructor
   .rintro (⟨a,b⟩|h)
    .split at b
     .by_cases hx:x<e.2
      .exact Or.inl ⟨a,hx⟩
      .exact Or.inr (Or.inl ⟨by omega,b⟩)
     .exact Or.inl ⟨a,b⟩
    .exact Or.inr (Or.inr h)
   .rintro (⟨a,b⟩|⟨a,b⟩|h)
    .exact Or.inl ⟨a,by split<;>omega⟩
    .exact Or.inl ⟨by omega,by split<;>omega⟩
    .exact Or.inr h
  .rw[eY,Nq h4.1 (λu hu=>h3 u (by simp[hu])) h4.2,eY]
theorem Nr:∀(r:SL)(e:Int×Int),(jR e r).length<=r.length+1
 |[],e=>by simp[jR]
 |s::r,e=>by
  simp only[jR];split
  .have:=Nr r (e.1,if s.2>e.2 then s.2 else e.2);simp only[jk];omega
  .have:=Nr r s;simp only[jk];omega
theorem Ns{lo hi:Int}:∀{r:SL}{e:Int×Int},(lo<=e.1/\e.2<=hi)->(∀s∈r,lo<=s.1/\s.2<=hi)->∀u∈jR e r,lo<=u.1/\u.2<=hi
 |[],e,h1,h2=>by simp only[jR];intro u hu;simp at hu;subst hu;exact h1
 |s::r,e,h1,h2=>by
  have hs:=h2 s (by simp);simp only[jR];split
  .exact Ns ⟨h1.1,by dsimp only;split<;>omega⟩ (λu hu=>h2 u (by simp[hu]))
  .intro u hu;rcases je.1 hu with rfl|hu
   .exact h1
   .exact Ns hs (λu hu=>h2 u (by simp[hu])) u hu
theorem jAw{L:SL}(h:L.Pairwise (λx y=>¬w64 (y.1-x.1)<0))(hb:Sml L):Er L:=by
 induction L with
 |nil=>trivial
 |cons s r ih=>rw[js]at h;refine⟨λu hu=>?_,ih h.2 (λv hv=>hb v (by simp[hv]))⟩;have h1:=h.1 u hu;have h2:=hb s (by simp);have h3:=hb u (by simp[hu]);rw[ai (x:=u.1-s.1) (by omega) (by omega)]at h1;omega
theorem jxi:Go.Sort.SWO (Go.Proofs.ltOf λ(x y:Go.Lft.Sml (.pair (.int .i64) (.int .i64)))=>(j8x x.1 y.1).getD 0):=by
 refine Gd (λx=>x.1.1) (λx=>?_) _ λx y=>rfl;have:=x.2;simp only[fK,jb,jo]at this;exact this.1
theorem jzb{l:SL}(hl:l.length<=10000000)(hb:Sml l):∃L,j1R l=some L/\L.Perm l/\Er L:=by
 obtain⟨L,e,hp,hs⟩:=Kd (a:= .pair (.int .i64) (.int .i64)) (cf:=λx y=>(j8x x y).getD 0) jxi (xs:=l) (λx hx=>by
  have:=hb x hx;simp only[fK,jb,jo];refine⟨⟨?_,?_⟩,⟨?_,?_⟩⟩
  .exact q9 (by decide) this.1
  .exact q9 this.2.1 (by decide)
  .exact q9 (by decide) this.2.2.1
  .exact q9 this.2.2.2 (by decide)) (by show List.length l<_;omega)
 exact⟨L,e,hp,jAw hs λs hm=>hb s (hp.mem_iff.1 hm)⟩
theorem Bl{l:SL}(hl:l.length<=10000000)(hb:Sml l){lo hi:Int}(jO:∀s∈l,s.1<s.2->lo<=s.1/\s.2<=hi) :
  ∃out,j61 l=some out/\bK (lo-1) out/\(∀x,bz x out↔bz x l)/\out.length<=l.length/\∀u∈out,lo<=u.1/\u.2<=hi:=by
 obtain⟨n,m,e1,ht⟩:=jvC hl;have fa:(l.filter nE).length<=l.length:=qt _ _;obtain⟨L,e2,hp,hs⟩:=jzb (l:=l.filter nE) (by omega) (λs h=>hb s (qq.1 h).1);have hLl:L.length=(l.filter nE).length:=hp.length_eq;have Bm:∀s,s∈L↔s∈l/\nE s=true:=λs=>hp.mem_iff.trans qq
 have Ve:∀x,bz x L↔bz x l:=by
  intro x;constructor
  .rintro⟨s,h,h2⟩;exact⟨s,((Bm s).1 h).1,h2⟩
  .rintro⟨s,h,h2⟩;exact⟨s,(Bm s).2 ⟨h,by simp only[nE];rw[al (by omega)];rfl⟩,h2⟩
 have ba:∀s∈L,s.1<s.2:=λs h=>by have:=((Bm s).1 h).2;simp[nE]at this;omega
 refine⟨mg L,?_,?_⟩
 .simp only[j61,j4E];rw[aj (by simp[aR];omega)];simp only[j5,j3,jl,e1,ht,e2,show Int.ofNat (List.length L)=(L.length:Int) from rfl,jBz (L:=L) (by omega)]
 .cases L with
  |nil=>refine⟨trivial,λx=>Ve x,by simp[mg],by simp[mg]⟩
  |cons s r=>
   have h0:=jO s ((Bm s).1 (by simp)).1 (ba s (by simp));have hr:∀u∈r,nE u=true:=λu hu=>((Bm u).1 (by simp[hu])).2;refine⟨Np (by omega) (ba s (by simp)) hr hs.2,λx=>?_,?_,?_⟩
   .rw[<-Ve x,eY];exact Nq hs.1 hr hs.2
   .have:=Nr r s;simp only[mg,jk]at *;omega
   .exact Ns h0 λu hu=>jO u ((Bm u).1 (by simp[hu])).1 (ba u (by simp[hu]))
def o9(o:Int)(l:bT)(a b:Int)(k:Nat):Nat->List (Int×(Int×Int))
 |0=>[]
 |n+1=>if bn l (k+1)<b then (a,(bn l (k+1),cI o l k))::o9 o l (bn l (k+1)) b (k+1) n else [(a,(b,cI o l k))]
section
variable{o:Int}{l:bT}(h:jD o l)
include h
theorem Vf{b:Int}(hb:b<=8589934592):∀(n k:Nat)(a:Int)(acc:List (Int×(Int×Int))),k+n=l.length+1->k<=l.length->bn l k<=a->a<bn l (k+1)->a<b->acc.length<=k->
  vJ a b o l acc=some (acc++o9 o l a b k n)
 |0,k,a,acc,hn,hk,_,_,_,_=>by omega
 |n+1,k,a,acc,hn,hk,h1,h2,bR,ha=>by
  have hlen:=h.len;rw[AH];simp only[j0H,show Int.ofNat (List.length l)=(l.length:Int) from rfl,o9];rw[aj bR];simp only[j5,MD h hk h1 h2,ME h hk,j3];by_cases jB:k<l.length
  .have hf:bn l (k+1)=(l.getD k ((0:Int),(0:Int))).1:=yB jB;rw[aj (show (k:Int)<(l.length:Int) by omega),aX (by omega) (by omega)];simp only[j5,j7,<-hf];rw[aj (by simp[aR];omega),j5,aJ];by_cases hc:bn l (k+1)<b
   .rw[if_pos hc,if_pos hc];have:=Vf hb n (k+1) (bn l (k+1)) (acc++[(a,(bn l (k+1),cI o l k))]) (by omega) (by omega) (by omega) (h.frm_lt (by omega)) hc (by simp;omega);rw[jd]at this;exact this
   .rw[if_neg hc,if_neg hc];rw[AH];simp only[j0H];rw[al (by omega),j6,aW]
  .have ca:k=l.length:=by omega
   have hf:bn l (k+1)=8589934593:=by rw[ca];exact tL
   rw[if_neg (show¬bn l (k+1)<b by omega),al (by omega),j6,aj (by simp[aR];omega),j5,aJ];rw[AH];simp only[j0H];rw[al (by omega),j6,aW]
omit h in
theorem Vg:∀(n k:Nat)(a b:Int),(o9 o l a b k n).length<=n
 |0,k,a,b=>by simp[o9]
 |n+1,k,a,b=>by
  simp only[o9];split
  .have:=Vg n (k+1) (bn l (k+1)) b;simp;omega
  .simp
theorem Vh{b:Int}:∀(n k:Nat)(a:Int),k+n=l.length+1->bn l k<=a->a<bn l (k+1)->a<b->
  ∀p∈o9 o l a b k n,a<=p.1/\p.1<p.2.1/\p.2.1<=b/\∃i,k<=i/\i<=l.length/\p.2.2=cI o l i/\bn l i<=p.1/\p.2.1<=bn l (i+1)
 |0,k,a,hn,h1,h2,bR,p,hp=>by simp[o9]at hp
 |n+1,k,a,hn,h1,h2,bR,p,hp=>by
  simp only[o9]at hp;split at hp
  .rename_i hc;rcases je.1 hp with rfl|hp
   .exact⟨kg _,h2,by dsimp only;omega,k,jg _,by omega,rfl,h1,kg _⟩
   .cases n with
    |zero=>simp[o9]at hp
    |succ n=>
    obtain⟨a1,a2,a3,i,i1,i2,i3⟩:=Vh (n+1) (k+1) (bn l (k+1)) (by omega) (kg _) (h.frm_lt (by omega)) hc p hp;exact⟨by omega,a2,a3,i,by omega,i2,i3⟩
  .rename_i hc;simp at hp;subst hp;exact⟨kg _,bR,kg _,k,jg _,by omega,rfl,h1,by dsimp only;omega⟩
theorem Vi{b:Int}(hb:b<=8589934592):∀(n k:Nat)(a:Int),k+n=l.length+1->k<=l.length->bn l k<=a->a<bn l (k+1)->a<b->
  ∀x,a<=x->x<b->∃p∈o9 o l a b k n,p.1<=x/\x<p.2.1
 |0,k,a,hn,hk,h1,h2,bR,x,hx,om=>by omega
 |n+1,k,a,hn,hk,h1,h2,bR,x,hx,om=>by
  simp only[o9];split
  .rename_i hc;by_cases aq:x<bn l (k+1)
   .exact⟨_,qu ..,hx,aq⟩
   .have jB:k+1<=l.length:=by
     rcases qv k l.length with h'|h'
     .exact h'
     .have:k=l.length:=by omega
      subst this;rw[tL]at hc;omega
    obtain⟨p,hp,uq⟩:=Vi hb n (k+1) (bn l (k+1)) (by omega) jB (kg _) (h.frm_lt jB) hc x (by omega) om;exact⟨p,by simp[hp],uq⟩
  .exact⟨_,qu ..,hx,om⟩
theorem Vj{a b:Int}(ha:0<=a)(bR:a<=b)(hb:b<=8589934592):∃ps,j1Z (o,l) a b=some ps/\ps.length<=l.length+1/\
  (∀p∈ps,a<=p.1/\p.1<p.2.1/\p.2.1<=b/\∃i,i<=l.length/\p.2.2=cI o l i/\bn l i<=p.1/\p.2.1<=bn l (i+1))/\∀x,a<=x->x<b->∃p∈ps,p.1<=x/\x<p.2.1:=by
 simp only[j1Z];rcases Int.lt_or_le a b with aq|nK
 .obtain⟨k,hk,h1,h2⟩:=DW h ha (by omega);have:=Vf h hb (l.length+1-k) k a [] (by omega) hk h1 h2 aq (by simp);rw[jl]at this;rw[this];refine⟨_,rfl,?_,λp hp=>?_,Vi h hb _ k a (by omega) hk h1 h2 aq⟩
  .have:=Vg (o:=o) (l:=l) (l.length+1-k) k a b;omega
  .obtain⟨a1,a2,a3,i,_,i2⟩:=Vh h _ k a (by omega) h1 h2 aq p hp;exact⟨a1,a2,a3,i,i2⟩
 .rw[AH];simp only[j0H];rw[al (by omega),j6,aW];exact⟨[],rfl,by simp,by simp,λx h1 h2=>by omega⟩
end
def vW(f t st:Int)(v:Int×Int):Int×Int:=(if st+v.1>f then st+v.1 else f,if st+v.2<t then st+v.2 else t)
theorem Nt{s:Int}:∀{w:WL},hasB s w=true↔∃v∈w,v.1<=s/\s<v.2
 |[]=>by simp[hasB]
 |x::r=>by
  simp only[hasB,je];cases hc:cond (decide (x.1<=s)) (decide (s<x.2)) false with
  |true=>
   simp only[j5,true_iff];refine⟨x,Or.inl rfl,?_⟩;by_cases h1:x.1<=s
   .rw[aj h1,j5]at hc;exact⟨h1,q8 hc⟩
   .rw[al h1,j6]at hc;simp at hc
  |false=>
   simp only[j6];rw[Nt (w:=r)];constructor
   .rintro⟨v,hv,h⟩;exact⟨v,Or.inr hv,h⟩
   .rintro⟨v,rfl|hv,h⟩
    .rw[aj h.1,aj h.2]at hc;simp at hc
    .exact⟨v,hv,h⟩
theorem Vk{w:WL}(hw:iP 0 w)(hl:w.length<=14){st f t q:Int}(aC : -1000000<=st)(db:st<=8600000000)(a b:Int)(ps:List (Int×(Int×Int))):∀(n i:Nat)(acc:SL),i+n=w.length->acc.length+n<=1000000->
  AK w st a b w (w.length:Int) (i:Int) f t q acc ps=some (w,st,a,b,f,t,q,acc++(w.drop i).map (vW f t st),ps)
 |0,i,acc,hi,_=>by
  rw[Sl];simp only[j59];rw[al (by omega),j6,aW,jf (by omega)];simp
 |n+1,i,acc,hi,ha=>by
  have aq:i<w.length:=by omega
  have bh:w.getD i ((0:Int),(0:Int))=w[i]:=by simp[aq]
  have hg:=Ec hw i aq;rw[bh]at hg;rw[Sl,jc aq];simp only[j59];rw[aj (show (i:Int)<(w.length:Int) by omega),aX (by omega) (by omega)];simp only[j5,j7,bh];rw[ai (x:=(i:Int)+1) (by omega) (by omega),ai (x:=st+w[i].1) (by omega) (by omega),ai (x:=st+w[i].2) (by omega) (by omega),aj (by simp[aR];omega),j5,aJ];have:=Vk hw hl aC db a b ps n (i+1) (acc++[vW f t st w[i]]) (by omega) (by simp;omega) (f:=f) (t:=t) (q:=q);rw[jd]at this;exact this
theorem jBA{w:WL}(hw:iP 0 w)(hl:w.length<=14){f t q:Int}(hf:0<=f)(ht:t<=8589934592)(iy:f<t)(a b:Int)(ps:List (Int×(Int×Int))):∀(m:Nat)(st:Int)(acc:SL), -1000000<=st->t<=st+604800*m->acc.length+14*m<=900000->
  ∃E,AL w st a b f t q acc ps=some (w,a,b,acc++E,ps)/\E.length<=w.length*m/\(∀s∈E,f<=s.1/\s.2<=t/\s.1<=100000000000 /\ -100000000000<=s.2)/\
   ∀x,bz x E↔f<=x/\x<t/\st<=x/\hasB ((x-st)%604800) w=true:=by
 intro m;induction m with
 |zero=>intro st acc aC hm _;rw[Sn];simp only[j2K];rw[al (by omega),j6,aW];exact⟨[],by simp,by simp,by simp,λx=>⟨λh=>absurd h gJ,λh=>by omega⟩⟩
 |succ m ih=>
  intro st acc aC hm eT;rw[Sn];simp only[j2K,show Int.ofNat (List.length w)=(w.length:Int) from rfl];by_cases aq:st<t
  .have h4:=Vk hw hl aC (by omega) a b ps w.length 0 acc (by omega) (by omega) (f:=f) (t:=t) (q:=q);rw[show ((0:Nat):Int)=0 from rfl,jv]at h4;rw[aj aq,j5,h4];simp only[j3];rw[ai (x:=st+604800) (by omega) (by omega),aJ];obtain⟨E,e,h1,h2,h3⟩:=ih (st+604800) (acc++w.map (vW f t st)) (by omega) (by omega) (by simp;omega);refine⟨w.map (vW f t st)++E,?_,?_,?_,λx=>?_⟩
   .rw[jd]at e;exact e
   .rw[ja,kb,vv];omega
   .intro s hs;rcases jn.1 hs with hs|hs
    .obtain⟨v,hv,rfl⟩:=ju.1 hs;obtain⟨i,hi,rfl⟩:=qz hv;have hg:=Ec hw i hi;rw[show w.getD i (0,0)=w[i] by simp[hi]]at hg;simp only[vW];refine⟨?_,?_,?_,?_⟩<;>split<;>omega
    .exact h2 s hs
   .rw[Ep,h3 x];constructor
    .rintro (⟨s,hs,nP,om⟩|⟨a1,a2,a3,a4⟩)
     .obtain⟨v,hv,rfl⟩:=ju.1 hs;have gC:=hv;obtain⟨i,hi,rfl⟩:=qz hv;have hg:=Ec hw i hi;rw[show w.getD i (0,0)=w[i] by simp[hi]]at hg;simp only[vW]at nP om;have b1:f<=x/\st+w[i].1<=x:=by split at nP<;>omega
      have b2:x<t/\x<st+w[i].2:=by split at om<;>omega
      refine⟨b1.1,b2.1,by omega,Nt.2 ⟨w[i],gC,?_,?_⟩⟩<;>omega
     .refine⟨a1,a2,by omega,?_⟩;rw[show (x-st)%604800=(x-(st+604800))%604800 by omega];exact a4
    .rintro⟨a1,a2,a3,a4⟩
     by_cases hx:st+604800<=x
     .refine Or.inr ⟨a1,a2,hx,?_⟩;rw[show (x-(st+604800))%604800=(x-st)%604800 by omega];exact a4
     .obtain⟨v,hv,c1,c2⟩:=Nt.1 a4;have e1:(x-st)%604800=x-st:=by omega
      rw[e1]at c1 c2;refine Or.inl ⟨vW f t st v,ju.2 ⟨v,hv,rfl⟩,?_,?_⟩<;>simp only[vW]<;>split<;>omega
  .rw[al aq,j6,aW];exact⟨[],by simp,by simp,by simp,λx=>⟨λh=>absurd h gJ,λh=>by omega⟩⟩
theorem Vl{w:WL}(hw:iP 0 w)(hl:w.length<=14){ps:List (Int×(Int×Int))}{M:Nat}(hM:M<=60)(fv:ps.length<=30){lo hi:Int}(jO:0<=lo)(lF:hi<=8589934592)
  (gG:∀p∈ps,lo<=p.1/\p.1<p.2.1/\p.2.1<=hi /\ -64800<=p.2.2/\p.2.2<=64800/\p.2.1-p.1<=604800*M):∀(n i:Nat)(acc:SL),i+n=ps.length->acc.length<=854*i->
  ∃E,AM w (ps.length:Int) (i:Int) acc ps=some (acc++E)/\E.length<=w.length*(M+1)*n/\(∀s∈E,lo<=s.1/\s.2<=hi/\s.1<=100000000000 /\ -100000000000<=s.2)/\
   ∀x,bz x E↔∃p∈ps.drop i,p.1<=x/\x<p.2.1/\hasB ((x+p.2.2+259200)%604800) w=true
 |0,i,acc,hi,_=>by
  rw[Sp];simp only[j2L];rw[al (by omega),j6,aW,jf (by omega)];exact⟨[],by simp,by simp,by simp,λx=>⟨λh=>absurd h gJ,λ⟨p,hp,_⟩=>by simp at hp⟩⟩
 |n+1,i,acc,hi,eT=>by
  have aq:i<ps.length:=by omega
  have bh:ps.getD i ((0:Int),((0:Int),(0:Int)))=ps[i]:=by simp[aq]
  obtain⟨p1,p2,p3,p4,p5,p6⟩:=gG ps[i] (jh aq);have Vm:w.length*(M+1)<=854:=qg (qw hl (show M+1<=61 by omega)) (by decide);rw[Sp,jc aq];simp only[j2L];rw[aj (show (i:Int)<(ps.length:Int) by omega),aX (by omega) (by omega)];simp only[j5,j7,bh];rw[ai (x:=ps[i].1+ps[i].2.2) (by omega) (by omega),ai (x:=ps[i].1+ps[i].2.2 - -259200) (by omega) (by omega),GO (by omega)];rw[ai (x:=ps[i].1+ps[i].2.2 - -259200-(ps[i].1+ps[i].2.2 - -259200)%604800) (by omega) (by omega)];rw[ai (x:=ps[i].1+ps[i].2.2 - -259200-(ps[i].1+ps[i].2.2 - -259200)%604800 + -259200) (by omega) (by omega)];rw[ai (x:=ps[i].1+ps[i].2.2 - -259200-(ps[i].1+ps[i].2.2 - -259200)%604800 + -259200-ps[i].2.2) (by omega) (by omega)];generalize aC:ps[i].1+ps[i].2.2 - -259200-(ps[i].1+ps[i].2.2 - -259200)%604800 + -259200-ps[i].2.2=st;obtain⟨E1,e1,l1,b1,m1⟩:=jBA hw hl (f:=ps[i].1) (t:=ps[i].2.1) (q:=ps[i].2.2) (by omega) (by omega) p2 (ps.length:Int) (i:Int) ps (M+1) st acc (by omega) (by omega) (by omega);rw[e1];simp only[j3];rw[ai (x:=(i:Int)+1) (by omega) (by omega),aJ];obtain⟨E2,e2,l2,b2,m2⟩:=Vl hw hl hM fv jO lF gG n (i+1) (acc++E1) (by omega) (by simp;omega);refine⟨E1++E2,?_,?_,?_,λx=>?_⟩
  .rw[jd]at e2;exact e2
  .rw[ja,vv];omega
  .intro s hs;rcases jn.1 hs with hs|hs
   .have:=b1 s hs;omega
   .exact b2 s hs
  .rw[Ep,m1 x,m2 x];have key:∀x,ps[i].1<=x->(x-st)%604800=(x+ps[i].2.2+259200)%604800/\st<=x:=by intro x hx;omega
   constructor
   .rintro (⟨c1,c2,c3,c4⟩|⟨p,hp,h⟩)
    .exact⟨ps[i],qu ..,c1,c2,by rw[<-(key x c1).1];exact c4⟩
    .exact⟨p,zv _ hp,h⟩
   .rintro⟨p,hp,c1,c2,c3⟩
    rcases je.1 hp with rfl|hp
    .exact Or.inl ⟨c1,c2,(key x c1).2,by rw[(key x c1).1];exact c3⟩
    .exact Or.inr ⟨p,hp,c1,c2,c3⟩
theorem Vn{o:Int}{l:bT}(h:jD o l)(ib:l.length<=20){w:WL}(hw:iP 0 w)(hl:w.length<=14){M:Nat}(hM:M<=60){a b:Int}(ha:0<=a)(bR:a<=b)(hb:b<=8589934592)(hlen:b-a<=604800*M) :
  ∃out,j2x (o,l) w a b=some out/\bK (a-1) out/\(∀u∈out,a<=u.1/\u.2<=b)/\out.length<=w.length*(M+1)*(l.length+1)/\
   ∀k,k<=l.length->∀x,a<=x->x<b->bn l k<=x->x<bn l (k+1)->(bz x out↔hasB ((x+cI o l k+259200)%604800) w=true):=by
 obtain⟨ps,e,pl,pm,pc⟩:=Vj h ha bR hb
 obtain⟨E,e1,l1,b1,m1⟩:=Vl hw hl hM (ps:=ps) (by omega) (lo:=a) (hi:=b) ha hb (λp hp=>by
  obtain⟨h1,h2,h3,i,i1,i2,_⟩:=pm p hp;have:=h.of0 i i1;have:=h.of1 i i1;exact⟨h1,h2,h3,by omega,by omega,by omega⟩) ps.length 0 [] (by omega) (by simp)
 rw[show ((0:Nat):Int)=0 from rfl,jl]at e1;have Vm:w.length*(M+1)<=854:=qg (qw hl (show M+1<=61 by omega)) (by decide);have Vo:E.length<=w.length*(M+1)*(l.length+1):=qg l1 (ve _ pl);have hEl2:E.length<=854*21:=qg Vo (qw Vm (by omega));obtain⟨out,e2,s1,s2,s3,s4⟩:=Bl (l:=E) (by omega) (λs hs=>by have:=b1 s hs;omega) (lo:=a) (hi:=b) (λs hs _=>⟨(b1 s hs).1,(b1 s hs).2.1⟩);refine⟨out,?_,s1,s4,by omega,λk hk x nP om dE gq=>?_⟩
 .simp only[j2x,e,j3,show Int.ofNat (List.length ps)=(ps.length:Int) from rfl,e1,e2]
 .rw[s2 x,m1 x,jv];constructor
  .rintro⟨p,hp,c1,c2,c3⟩
   obtain⟨h1,h2,h3,i,i1,i2,i3,i4⟩:=pm p hp;have:i=k:=GZ h i1 hk (t:=x) (by omega) (by omega) dE gq;subst this;rw[<-i2];exact c3
  .intro hx;obtain⟨p,hp,c1,c2⟩:=pc x nP om;obtain⟨h1,h2,h3,i,i1,i2,i3,i4⟩:=pm p hp;have:i=k:=GZ h i1 hk (t:=x) (by omega) (by omega) dE gq;subst this;exact⟨p,hp,c1,c2,by rw[i2];exact hx⟩
theorem G6{o:Int}{rs:List bm}(hm:MZ o rs):(eh o (fL (occs rs))).length<=4:=by
 have h1:=GY (fL (occs rs)) o;have h2:(fL (occs rs)).length=(occs rs).length:=by unfold fL;rw[List.length_reverse,MH];simp
 have:=hm.few;omega
theorem jzc{o:Int}{rs:List bm}(hm:MZ o rs):(eh o (fL (occs rs))).length<=20:=qg (G6 hm) (by omega)
end Go.Proofs.Pw
