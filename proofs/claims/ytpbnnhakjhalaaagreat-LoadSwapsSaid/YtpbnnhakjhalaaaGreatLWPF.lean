/- jR 11: UF is on nT in a Dj. -/
import Derived.Test.YtpbnnhakjhalaaaGreatLWPD
import Derived.Test.YtpbnnhakjhalaaaGreatLWPE
import Derived.Test.YtpbnnhakjhalaaaGreatLWPA
import Derived.Test.YtpbnnhakjhalaaaGreatLWFns
import Derived.Test.YtpbnnhakjhalaaaGreatLWPB
open Go Go.Lft
namespace Go.Proofs.Pw
def tb(z:bI):Int×bC:=(z.2.1,bP z.2.1 (eh (occs z.2.2)))
theorem kE.ztab{z:bI}(h:kE z):qD z (tb z).2:=MZ.tab (o:=z.2.1) (rs:=z.2.2) h z.1
theorem kE.zdif{z:bI}(h:kE z):M9 z.2.1 (tb z).2:=MT _ _ _ (MZ.good h)
theorem kE.zref{z:bI}(h:kE z):qD z (tb z).2/\Z4 z (tb z).2/\M9 z.2.1 (tb z).2:=⟨h.ztab,MZ.r4 (o:=z.2.1) (rs:=z.2.2) h z.1,h.zdif⟩
theorem UG{zs:List bI}(h:∀z∈zs,kE z)(hl:zs.length<=100):∀(n i:Nat),i+n=zs.length->Cg zs (zs.length:Int) (i:Int) ((zs.take i).map tb)=some (zs.map tb)
 |0,i,hi=>by
  rw[Sl];simp only[j3Q];rw[aj (by omega),j6,aY,List.take_of_length_le (by omega)]
 |n+1,i,hi=>by
  have au:i<zs.length:=by omega
  have bh:zs.getD i (ByteArray.empty,((0:Int),([]:List aU)))=zs[i]:=by simp[au]
  have ht:=TU (h zs[i] (jh au)).ztab;have ih:=UG h hl n (i+1) (by omega);rw[km,jj au,z8]at ih;rw[Sl];simp only[j3Q];rw[ag (by omega),aZ (by omega) (by omega),ah (x:=(i:Int)+1) (by omega) (by omega)];simp only[j5,j7,bh];rw[show jfx (zs[i].1,(zs[i].2.1,zs[i].2.2))=_ from ht];simp only[j3];rw[ag (by simp[aP];omega),j5,aQ];exact ih
theorem jxx{zs:List bI}(h:∀z∈zs,kE z)(hl:zs.length<=100){ps:List c9}{cs:List aW}{ss:List dA}:jgz (zs,(ps,(cs,ss)))=some ((zs,(ps,(cs,ss))),zs.map tb):=by
 have lp:=UG h hl zs.length 0 (by omega);simp only[jgz,jfy,show Int.ofNat zs.length=(zs.length:Int) from rfl];rw[show Cg zs (zs.length:Int) 0 []=_ from lp];rfl
theorem Ng{zs:List bI}{i:Int}(h0:0<=i)(h1:i<(zs.length:Int)):List.getD (zs.map tb) i.toNat ((0:Int),([]:bC))=tb (zs.getD i.toNat (ByteArray.empty,((0:Int),([]:List aU)))):=by
 have au:i.toNat<zs.length:=by omega
 simp[List.getD_eq_getElem?_getD,au]
theorem lE{zs:List bI}(h:∀z∈zs,kE z){i:Int}(h0:0<=i)(h1:i<(zs.length:Int)):kE (zs.getD i.toNat (ByteArray.empty,((0:Int),([]:List aU)))):=by
 have au:i.toNat<zs.length:=by omega
 rw[List.getD_eq_getElem?_getD,jj au];exact h _ (jh au)
theorem jvS(a b:Int):jbx a b=some (decide (a<b)):=by
 simp only[jbx,ja3,j3,ji,j6]
theorem Nh{ds:List Int}(hs:ds.Pairwise (· < ·))(hl:ds.length<=64){x:Int}:∀(n a b:Nat),b-a<=n->a<=b->b<=ds.length->(∀i,(hi:i<ds.length)->i<a->ds[i]<x)->(∀i,(hi:i<ds.length)->b<=i->x<=ds[i])->
  ∃k:Nat,Fy ds x (ds.length:Int) (a:Int) (b:Int)=some (ds,x,(ds.length:Int),(k:Int))/\k<=ds.length/\(∀i,(hi:i<ds.length)->i<k->ds[i]<x)/\∀i,(hi:i<ds.length)->k<=i->x<=ds[i]
 |n,a,b,hn,cG,hb,h1,h2=>by
  rw[j85];simp only[j1c];by_cases au:a<b
  .have hm:IntKind.wrap .u64 ((a:Int)+(b:Int))=(a:Int)+(b:Int):=IntWalk.u64_in _ ⟨by omega,by omega⟩;have hd:Int.fdiv ((a:Int)+(b:Int)) 2=(((a+b)/2:Nat):Int):=by rw[Int.fdiv_eq_ediv_of_nonneg _ (by omega)];omega
   have As:(a+b)/2<ds.length:=by omega
   have bh:ds.getD ((a+b)/2) (0:Int)=ds[(a+b)/2]:=by simp[As]
   rw[ag (show (a:Int)<(b:Int) by omega),ah (x:=(a:Int)+(b:Int)) (by omega) (by omega),hm,hd,ah (x:=(((a+b)/2:Nat):Int)) (by omega) (by omega),aZ (by omega) (by omega),ah (x:=(((a+b)/2:Nat):Int)+1) (by omega) (by omega)];simp only[j5,j7,bh,jvS,j3];cases n with
   |zero=>omega
   |succ n=>
    by_cases hc:ds[(a+b)/2]<x
    .rw[ag hc,j5,aQ];refine Nh hs hl n ((a+b)/2+1) b (by omega) (by omega) hb (λi hi hia=>?_) h2;by_cases he:i=(a+b)/2
     .subst he;exact hc
     .exact Int.lt_trans (q7.1 hs i ((a+b)/2) hi As (by omega)) hc
    .rw[aj hc,j6,aQ];refine Nh hs hl n a ((a+b)/2) (by omega) (by omega) (by omega) h1 (λi hi hia=>?_);by_cases he:i=(a+b)/2
     .subst he;exact Int.not_lt.1 hc
     .exact qh (Int.not_lt.1 hc) (Int.le_of_lt (q7.1 hs ((a+b)/2) i As hi (by omega)))
  .have:a=b:=by omega
   subst this;rw[aj (by omega),j6,aY];exact⟨a,rfl,hb,h1,h2⟩
def okW(w:WL)(s:Int):Bool:=cond (decide ((w.length:Int)>0)) (hasB s w) true
section
variable{zs:List bI}{ps:List c9}{cs:List aW}{ss:List dA}(hz:∀z∈zs,kE z)
include hz
def qG(L:bM)(K:Int):Int:=L.2.2.2.2.2.1.getD (Int.tmod K (L.2.2.2.2.2.1.length:Int)).toNat 0
end
theorem eX.rt{nz np nc:Nat}{L:bM}(h:eX nz np nc L)(hd:L.2.2.1.1<=100000):Rt L:=
 ⟨h.d0,hd,h.c0,h.c1,h.u0,h.u1,h.e0,h.e1,λhn=>h.m0 (by rw[hn];rfl)⟩
theorem jyM{z:bI}(hz:kE z){t:Int}(h0:0<=t)(h1:t<=8589934592):∃d s,j1P (tb z) t=some d/\j5s d=some s:=by
 have ht:=hz.ztab;obtain⟨j,hj,j1,j2⟩:=CX ht.2 h0 h1;have o0:=ht.2.of0 j hj;have o1:=ht.2.of1 j hj;obtain⟨s,hs⟩:∃s,j5s ((t+cp z.2.1 (tb z).2 j)/86400,(t+cp z.2.1 (tb z).2 j)%86400)=some s:=by simp only[j5s,TN,j3];exact⟨_,rfl⟩
 exact⟨_,s,F0 ht.2 hj j1 j2,hs⟩
abbrev SL:=List (Int×Int)
def bJ(x:Int)(l:SL):Prop:=∃s∈l,s.1<=x/\x<s.2
def ca(p:Int):SL->Prop
 |[]=>True
 |x::r=>p<x.1/\x.1<x.2/\ca x.2 r
def Sml(l:SL):Prop:=∀s∈l, -1000000000000<=s.1/\s.1<=1000000000000 /\ -1000000000000<=s.2/\s.2<=1000000000000
theorem gO{x:Int}:¬bJ x []:=by rintro⟨s,hs,_⟩;simp at hs
theorem eY{x:Int}{s:Int×Int}{l:SL}:bJ x (s::l)↔(s.1<=x/\x<s.2)\/bJ x l:=by
 constructor
 .rintro⟨u,hu,h⟩
  rcases jd.1 hu with rfl|hu
  .exact Or.inl h
  .exact Or.inr ⟨u,hu,h⟩
 .rintro (h|⟨u,hu,h⟩)
  .exact⟨s,by simp,h⟩
  .exact⟨u,by simp[hu],h⟩
theorem Gg{x:Int}{l r:SL}:bJ x (l++r)↔bJ x l\/bJ x r:=by
 constructor
 .rintro⟨u,hu,h⟩
  rcases js.1 hu with hu|hu
  .exact Or.inl ⟨u,hu,h⟩
  .exact Or.inr ⟨u,hu,h⟩
 .rintro (⟨u,hu,h⟩|⟨u,hu,h⟩)
  .exact⟨u,by simp[hu],h⟩
  .exact⟨u,by simp[hu],h⟩
def nE(s:Int×Int):Bool:= !(decide (s.2<=s.1))
theorem UH{l:SL}(hl:l.length<=10000000):∀(n i:Nat),i+n=l.length->(∀s∈l.take i,nE s=true)->
  (∃j:Nat,Cl (l.length:Int) (i:Int) l=some (.inl ((j:Int),l))/\j<l.length/\(∀s∈l.take j,nE s=true)/\nE (l.getD j (0,0))=false)\/
  (Cl (l.length:Int) (i:Int) l=some (.inr l)/\∀s∈l,nE s=true)
 |0,i,hi,h=>by
  rw[Su];simp only[j0p];rw[aj (by omega),j6,aY];rw[List.take_of_length_le (by omega)]at h;exact Or.inr ⟨rfl,h⟩
 |n+1,i,hi,h=>by
  rw[Su];simp only[j0p,j7Y];rw[ag (show (i:Int)<(l.length:Int) by omega),aZ (by omega) (by omega),ah (x:=(i:Int)+1) (by omega) (by omega)];simp only[j5,j7,j3];have au:i<l.length:=by omega
  cases hc:decide ((l.getD i ((0:Int),(0:Int))).2<=(l.getD i ((0:Int),(0:Int))).1) with
  |true=>simp only[j5,aY];exact Or.inl ⟨i,rfl,au,h,by simp only[nE];rw[hc];rfl⟩
  |false=>
   simp only[j6,aQ];refine UH hl n (i+1) (by omega) λs hs=>?_;rw[km]at hs;rcases js.1 hs with hs|hs
   .exact h s hs
   .have bh:l.getD i ((0:Int),(0:Int))=l[i]:=by simp[au]
    rw[bh]at hc;rw[jj au]at hs;simp at hs;subst hs;simp only[nE];rw[hc];rfl
theorem Ni{l:SL}(hl:l.length<=10000000):∀(n i j:Nat)(b:SL),j+n=l.length->i<=j->b.length=l.length->b.drop j=l.drop j->b.take i=(l.take j).filter nE->
  ∃(k:Nat)(b':SL),Fp (i:Int) (j:Int) b=some ((k:Int),b')/\b'.length=l.length/\k<=l.length/\b'.take k=l.filter nE
 |0,i,j,b,hj,ec,hb,hd,ht=>by
  rw[Sv];simp only[j0m,show Int.ofNat (List.length b)=(b.length:Int) from rfl];rw[aj (by omega),j6,aY];rw[List.take_of_length_le (l:=l) (by omega)]at ht;exact⟨i,b,rfl,hb,by omega,ht⟩
 |n+1,i,j,b,hj,ec,hb,hd,ht=>by
  have au:j<l.length:=by omega
  have Nj:b.getD j ((0:Int),(0:Int))=l[j]:=by
   have:b[j]? = l[j]? := by
    have h:=jl (λx=>x[0]?) hd;simpa[List.getElem?_drop]using h
   rw[List.getD_eq_getElem?_getD,this,jj au];rfl
  have fJ:b.drop (j+1)=l.drop (j+1):=by have:=jl (List.drop 1) hd;simpa[List.drop_drop]using this
  have iS:l.take (j+1)=l.take j++[l[j]]:=by rw[km,jj au];rfl
  rw[Sv];simp only[j0m,j7Y,show Int.ofNat (List.length b)=(b.length:Int) from rfl];rw[ag (show (j:Int)<(b.length:Int) by omega),aZ (by omega) (by omega),aZ (by omega) (by omega),ah (x:=(j:Int)+1) (by omega) (by omega),ah (x:=(i:Int)+1) (by omega) (by omega)];simp only[j5,j7,j3,Nj];cases hc:decide (l[j].2<=l[j].1) with
  |true=>simp only[jn,j6,aQ];refine Ni hl n i (j+1) b (by omega) (by omega) hb fJ ?_;rw[iS,zp,ht];simp[nE,hc]
  |false=>
   simp only[k5,j5,aQ];refine Ni hl n (i+1) (j+1) _ (by omega) (by omega) (by simpa using hb) ?_ ?_
   .rw[List.drop_set_of_lt (by omega)];exact fJ
   .have zW:i<b.length:=by omega
    rw[km,List.take_set_of_le (jq _),List.getElem?_set_self zW,ht,iS,zp];simp[nE,hc]
theorem ju4{l:SL}(hl:l.length<=10000000):∃n m,j1b l=some (n,m)/\m.take n.toNat=l.filter nE:=by
 simp only[j1b,j24,show Int.ofNat (List.length l)=(l.length:Int) from rfl];rcases UH hl l.length 0 (by omega) (by simp) with⟨j,e,hj,h1,h2⟩|⟨e,h⟩
 .rw[show ((0:Nat):Int)=0 from rfl]at e;rw[e];simp only[j3,Jj];rw[cB (by omega),ah (x:=(j:Int)+1) (by omega) (by omega)];have bh:l.getD j ((0:Int),(0:Int))=l[j]:=by simp[hj]
  rw[bh]at h2
  obtain⟨k,b,e2,hb,hk,ht⟩:=Ni hl (l.length-(j+1)) j (j+1) l (by omega) (by omega) rfl rfl (by
   rw[km,jj hj,zp,List.filter_eq_self.2 h1];simp[h2])
  rw[show ((j:Int)+1)=((j+1:Nat):Int) from rfl,e2];simp only[j6,j3,show Int.ofNat (List.length b)=(b.length:Int) from rfl,j7];rw[ag (show (0:Int)<=(k:Int) by omega),ag (show (k:Int)<=(b.length:Int) by omega)];simp only[Bool.and_self,j5,Bool.true_and];rw[ag (by simp;omega),j5];refine⟨_,_,rfl,?_⟩;simp only[show (Int.ofNat k).toNat=k from rfl];rw[qp (by simp;omega),ze,Nat.min_self,ht]
 .rw[show ((0:Nat):Int)=0 from rfl]at e;rw[e];simp only[j3,lT,zj,j5];refine⟨_,_,rfl,?_⟩;simp only[show (Int.ofNat l.length).toNat=l.length from rfl];rw[List.take_of_length_le (jq _),List.filter_eq_self.2 h]
def kG(e:Int×Int):SL->SL
 |[]=>[e]
 |s::r=>if s.1<=e.2 then kG (e.1,if s.2>e.2 then s.2 else e.2) r else e::kG s r
def mg:SL->SL
 |[]=>[]
 |s::r=>kG s r
theorem Nk{L:SL}(hL:L.length<=10000000):∀(n i:Nat)(A:SL)(e:Int×Int),i+n=L.length->A.length<i->
  Cm (L.length:Int) (i:Int) (A++[e]) L=some (A++kG e (L.drop i))
 |0,i,A,e,hi,hA=>by
  rw[J4];simp only[j39];rw[aj (by omega),j6,aY,jc (by omega)];rfl
 |n+1,i,A,e,hi,hA=>by
  have au:i<L.length:=by omega
  have bh:L.getD i ((0:Int),(0:Int))=L[i]:=by simp[au]
  have hle:(A++[e]).length=A.length+1:=by simp
  have kL:(A++[e]).getD A.length ((0:Int),(0:Int))=e:=by simp
  rw[J4,jb au];simp only[j39,kG,show Int.ofNat (List.length (A++[e]))=((A.length:Int)+1) from by rw[hle];rfl]
  rw[ag (show (i:Int)<(L.length:Int) by omega),aZ (by omega) (by omega),ag (show (A.length:Int)+1>0 by omega),ah (x:=(A.length:Int)+1-1) (by omega) (by omega),ah (x:=(i:Int)+1) (by omega) (by omega),
   aZ (by omega) (by rw[hle];omega),show ((A.length:Int)+1-1).toNat=A.length by omega]
  simp only[j5,j7,bh,kL];by_cases hc:L[i].1<=e.2
  .rw[ag hc,if_pos hc];simp only[j5,aQ]
   rw[show (A++[e]).set A.length (e.1,if L[i].2>e.2 then L[i].2 else e.2)=A++[(e.1,if L[i].2>e.2 then L[i].2 else e.2)] by
    rw[zq _ _ (jq _)];simp]
   exact Nk hL n (i+1) A _ (by omega) (by omega)
  .rw[aj hc,if_neg hc,ag (by rw[hle];simp[aP];omega)];simp only[j6,j5,aQ];have:=Nk hL n (i+1) (A++[e]) L[i] (by omega) (by rw[hle];omega);rw[show A++e::kG L[i] (L.drop (i+1))=A++[e]++kG L[i] (L.drop (i+1)) by simp];exact this
theorem jzI{L:SL}(hL:L.length<=10000000):Cm (L.length:Int) 0 [] L=some (mg L):=by
 rw[J4];simp only[j39];cases L with
 |nil=>rw[aj (by simp),j6,aY];rfl
 |cons s r=>rw[ag (show (0:Int)<((s::r).length:Int) by simp only[jo];omega),aZ (by omega) (by simp only[jo];omega)];simp only[j5,show Int.ofNat (List.length ([]:SL))=0 from rfl];rw[aj (show¬((0:Int)>0) by omega),j6,ag (by simp[aP]),ah (x:=(0:Int)+1) (by omega) (by omega)];simp only[j5,aQ];have:=Nk hL r.length 1 [] s (by simp;omega) (by simp);simpa[mg]using this
def Dk:SL->Prop
 |[]=>True
 |s::r=>(∀u∈r,s.1<=u.1)/\Dk r
theorem Nl:∀{r:SL}{e:Int×Int}{p:Int},p<e.1->e.1<e.2->(∀s∈r,nE s=true)->Dk r->ca p (kG e r)
 |[],e,p,h1,h2,_,_=>⟨h1,h2,trivial⟩
 |s::r,e,p,h1,h2,h3,h4=>by
  simp only[kG];have hs:s.1<s.2:=by have:=h3 s (by simp);simp[nE]at this;omega
  split
  .exact Nl (by exact h1) (by dsimp only;split<;>omega) (λu hu=>h3 u (by simp[hu])) h4.2
  .exact⟨h1,h2,Nl (by omega) hs (λu hu=>h3 u (by simp[hu])) h4.2⟩
theorem Nn{x:Int}:∀{r:SL}{e:Int×Int},(∀s∈r,e.1<=s.1)->(∀s∈r,nE s=true)->Dk r->(bJ x (kG e r)↔(e.1<=x/\x<e.2)\/bJ x r)
 |[],e,_,_,_=>by simp[kG,bJ]
 |s::r,e,h1,h3,h4=>by
  have hs:s.1<s.2:=by have:=h3 s (by simp);simp[nE]at this;omega
  have he:e.1<=s.1:=h1 s (by simp);simp only[kG];split
  .rw[Nn (e:=(e.1,if s.2>e.2 then s.2 else e.2)) (λu hu=>h1 u (by simp[hu])) (λu hu=>h3 u (by simp[hu])) h4.2,eY];dsimp only;constructor
   .rintro (⟨a,b⟩|h)
    .split at b
     .by_cases hx:x<e.2
      .exact Or.inl ⟨a,hx⟩
      .exact Or.inr (Or.inl ⟨by omega,b⟩)
     .exact Or.inl ⟨a,b⟩
    .exact Or.inr (Or.inr h)
   .rintro (⟨a,b⟩|⟨a,b⟩|h)
    .exact Or.inl ⟨a,by split<;>omega⟩
    .exact Or.inl ⟨by omega,by split<;>omega⟩
    .exact Or.inr h
  .rw[eY,Nn h4.1 (λu hu=>h3 u (by simp[hu])) h4.2,eY]
theorem Np:∀(r:SL)(e:Int×Int),(kG e r).length<=r.length+1
 |[],e=>by simp[kG]
 |s::r,e=>by
  simp only[kG];split
  .have:=Np r (e.1,if s.2>e.2 then s.2 else e.2);simp only[jo];omega
  .have:=Np r s;simp only[jo];omega
theorem Nq{lo hi:Int}:∀{r:SL}{e:Int×Int},(lo<=e.1/\e.2<=hi)->(∀s∈r,lo<=s.1/\s.2<=hi)->∀u∈kG e r,lo<=u.1/\u.2<=hi
 |[],e,h1,h2=>by simp only[kG];intro u hu;simp at hu;subst hu;exact h1
 |s::r,e,h1,h2=>by
  have hs:=h2 s (by simp);simp only[kG];split
  .exact Nq ⟨h1.1,by dsimp only;split<;>omega⟩ (λu hu=>h2 u (by simp[hu]))
  .intro u hu;rcases jd.1 hu with rfl|hu
   .exact h1
   .exact Nq hs (λu hu=>h2 u (by simp[hu])) u hu
theorem jyN{L:SL}(h:L.Pairwise (λx y=>¬w64 (y.1-x.1)<0))(hb:Sml L):Dk L:=by
 induction L with
 |nil=>trivial
 |cons s r ih=>rw[qf]at h;refine⟨λu hu=>?_,ih h.2 (λv hv=>hb v (by simp[hv]))⟩;have h1:=h.1 u hu;have h2:=hb s (by simp);have h3:=hb u (by simp[hu]);rw[ah (x:=u.1-s.1) (by omega) (by omega)]at h1;omega
theorem jvT:Go.Sort.SWO (Go.Proofs.ltOf λ(x y:Go.Lft.Sml (.pair (.int .i64) (.int .i64)))=>(j6E x.1 y.1).getD 0):=by
 refine EU (λx=>x.1.1) (λx=>?_) _ λx y=>rfl;have:=x.2;simp only[gG,ja,jk]at this;exact this.1
theorem jxA{l:SL}(hl:l.length<=10000000)(hb:Sml l):∃L,j0J l=some L/\L.Perm l/\Dk L:=by
 obtain⟨L,e,hp,hs⟩:=Rl (a:= .pair (.int .i64) (.int .i64)) (cf:=λx y=>(j6E x y).getD 0) jvT (xs:=l) (λx hx=>by
  have:=hb x hx;simp only[gG,ja,jk];refine⟨⟨?_,?_⟩,⟨?_,?_⟩⟩
  .exact qh (by decide) this.1
  .exact qh this.2.1 (by decide)
  .exact qh (by decide) this.2.2.1
  .exact qh this.2.2.2 (by decide)) (by show List.length l<_;omega)
 exact⟨L,e,hp,jyN hs λs hm=>hb s (hp.mem_iff.1 hm)⟩
theorem Gj{l:SL}(hl:l.length<=10000000)(hb:Sml l){lo hi:Int}(gU:∀s∈l,s.1<s.2->lo<=s.1/\s.2<=hi) :
  ∃out,j8D l=some out/\ca (lo-1) out/\(∀x,bJ x out↔bJ x l)/\out.length<=l.length/\∀u∈out,lo<=u.1/\u.2<=hi:=by
 obtain⟨n,m,e1,ht⟩:=ju4 hl;have eZ:(l.filter nE).length<=l.length:=List.length_filter_le _ _;obtain⟨L,e2,hp,hs⟩:=jxA (l:=l.filter nE) (by omega) (λs h=>hb s (vq.1 h).1);have hLl:L.length=(l.filter nE).length:=hp.length_eq;have yM:∀s,s∈L↔s∈l/\nE s=true:=λs=>hp.mem_iff.trans vq
 have UI:∀x,bJ x L↔bJ x l:=by
  intro x;constructor
  .rintro⟨s,h,h2⟩;exact⟨s,((yM s).1 h).1,h2⟩
  .rintro⟨s,h,h2⟩;exact⟨s,(yM s).2 ⟨h,by simp only[nE];rw[aj (by omega)];rfl⟩,h2⟩
 have aT:∀s∈L,s.1<s.2:=λs h=>by have:=((yM s).1 h).2;simp[nE]at this;omega
 refine⟨mg L,?_,?_⟩
 .simp only[j8D,j2V];rw[ag (by simp[aP];omega)];simp only[j5,j3,jt,e1,ht,e2,show Int.ofNat (List.length L)=(L.length:Int) from rfl,jzI (L:=L) (by omega)]
 .cases L with
  |nil=>refine⟨trivial,λx=>UI x,by simp[mg],by simp[mg]⟩
  |cons s r=>
   have h0:=gU s ((yM s).1 (by simp)).1 (aT s (by simp));have hr:∀u∈r,nE u=true:=λu hu=>((yM u).1 (by simp[hu])).2;refine⟨Nl (by omega) (aT s (by simp)) hr hs.2,λx=>?_,?_,?_⟩
   .rw[<-UI x,eY];exact Nn hs.1 hr hs.2
   .have:=Np r s;simp only[mg,jo]at *;omega
   .exact Nq h0 λu hu=>gU u ((yM u).1 (by simp[hu])).1 (aT u (by simp[hu]))
def oJ(o:Int)(l:bC)(a b:Int)(k:Nat):Nat->List (Int×(Int×Int))
 |0=>[]
 |n+1=>if bq l (k+1)<b then (a,(bq l (k+1),cp o l k))::oJ o l (bq l (k+1)) b (k+1) n else [(a,(b,cp o l k))]
section
variable{o:Int}{l:bC}(h:ic o l)
include h
theorem UJ{b:Int}(hb:b<=8589934592):∀(n k:Nat)(a:Int)(acc:List (Int×(Int×Int))),k+n=l.length+1->k<=l.length->bq l k<=a->a<bq l (k+1)->a<b->acc.length<=k->
  yr a b o l acc=some (acc++oJ o l a b k n)
 |0,k,a,acc,hn,hk,_,_,_,_=>by omega
 |n+1,k,a,acc,hn,hk,h1,h2,cG,ha=>by
  have hlen:=h.len;rw[yt];simp only[j0s,show Int.ofNat (List.length l)=(l.length:Int) from rfl,oJ];rw[ag cG];simp only[j5,MA h hk h1 h2,MB h hk,j3];by_cases gN:k<l.length
  .have hf:bq l (k+1)=(l.getD k ((0:Int),(0:Int))).1:=w6 gN;rw[ag (show (k:Int)<(l.length:Int) by omega),aZ (by omega) (by omega)];simp only[j5,j7,<-hf];rw[ag (by simp[aP];omega),j5,aQ];by_cases hc:bq l (k+1)<b
   .rw[if_pos hc,if_pos hc];have:=UJ hb n (k+1) (bq l (k+1)) (acc++[(a,(bq l (k+1),cp o l k))]) (by omega) (by omega) (by omega) (h.frm_lt (by omega)) hc (by simp;omega);rw[jg]at this;exact this
   .rw[if_neg hc,if_neg hc];rw[yt];simp only[j0s];rw[aj (by omega),j6,aY]
  .have bL:k=l.length:=by omega
   have hf:bq l (k+1)=8589934593:=by rw[bL];exact sH
   rw[if_neg (show¬bq l (k+1)<b by omega),aj (by omega),j6,ag (by simp[aP];omega),j5,aQ];rw[yt];simp only[j0s];rw[aj (by omega),j6,aY]
omit h in
theorem UK:∀(n k:Nat)(a b:Int),(oJ o l a b k n).length<=n
 |0,k,a,b=>by simp[oJ]
 |n+1,k,a,b=>by
  simp only[oJ];split
  .have:=UK n (k+1) (bq l (k+1)) b;simp;omega
  .simp
theorem UL{b:Int}:∀(n k:Nat)(a:Int),k+n=l.length+1->bq l k<=a->a<bq l (k+1)->a<b->
  ∀p∈oJ o l a b k n,a<=p.1/\p.1<p.2.1/\p.2.1<=b/\∃i,k<=i/\i<=l.length/\p.2.2=cp o l i/\bq l i<=p.1/\p.2.1<=bq l (i+1)
 |0,k,a,hn,h1,h2,cG,p,hp=>by simp[oJ]at hp
 |n+1,k,a,hn,h1,h2,cG,p,hp=>by
  simp only[oJ]at hp;split at hp
  .rename_i hc;rcases jd.1 hp with rfl|hp
   .exact⟨kg _,h2,by dsimp only;omega,k,jq _,by omega,rfl,h1,kg _⟩
   .cases n with
    |zero=>simp[oJ]at hp
    |succ n=>
    obtain⟨a1,a2,a3,i,i1,i2,i3⟩:=UL (n+1) (k+1) (bq l (k+1)) (by omega) (kg _) (h.frm_lt (by omega)) hc p hp;exact⟨by omega,a2,a3,i,by omega,i2,i3⟩
  .rename_i hc;simp at hp;subst hp;exact⟨kg _,cG,kg _,k,jq _,by omega,rfl,h1,by dsimp only;omega⟩
theorem UM{b:Int}(hb:b<=8589934592):∀(n k:Nat)(a:Int),k+n=l.length+1->k<=l.length->bq l k<=a->a<bq l (k+1)->a<b->
  ∀x,a<=x->x<b->∃p∈oJ o l a b k n,p.1<=x/\x<p.2.1
 |0,k,a,hn,hk,h1,h2,cG,x,hx,nU=>by omega
 |n+1,k,a,hn,hk,h1,h2,cG,x,hx,nU=>by
  simp only[oJ];split
  .rename_i hc;by_cases au:x<bq l (k+1)
   .exact⟨_,qx ..,hx,au⟩
   .have gN:k+1<=l.length:=by
     rcases qr k l.length with h'|h'
     .exact h'
     .have:k=l.length:=by omega
      subst this;rw[sH]at hc;omega
    obtain⟨p,hp,u5⟩:=UM hb n (k+1) (bq l (k+1)) (by omega) gN (kg _) (h.frm_lt gN) hc x (by omega) nU;exact⟨p,by simp[hp],u5⟩
  .exact⟨_,qx ..,hx,nU⟩
theorem UN{a b:Int}(ha:0<=a)(cG:a<=b)(hb:b<=8589934592):∃ps,j1w (o,l) a b=some ps/\ps.length<=l.length+1/\
  (∀p∈ps,a<=p.1/\p.1<p.2.1/\p.2.1<=b/\∃i,i<=l.length/\p.2.2=cp o l i/\bq l i<=p.1/\p.2.1<=bq l (i+1))/\∀x,a<=x->x<b->∃p∈ps,p.1<=x/\x<p.2.1:=by
 simp only[j1w];rcases Int.lt_or_le a b with au|kL
 .obtain⟨k,hk,h1,h2⟩:=CX h ha (by omega);have:=UJ h hb (l.length+1-k) k a [] (by omega) hk h1 h2 au (by simp);rw[jt]at this;rw[this];refine⟨_,rfl,?_,λp hp=>?_,UM h hb _ k a (by omega) hk h1 h2 au⟩
  .have:=UK (o:=o) (l:=l) (l.length+1-k) k a b;omega
  .obtain⟨a1,a2,a3,i,_,i2⟩:=UL h _ k a (by omega) h1 h2 au p hp;exact⟨a1,a2,a3,i,i2⟩
 .rw[yt];simp only[j0s];rw[aj (by omega),j6,aY];exact⟨[],rfl,by simp,by simp,λx h1 h2=>by omega⟩
end
def uI(f t st:Int)(v:Int×Int):Int×Int:=(if st+v.1>f then st+v.1 else f,if st+v.2<t then st+v.2 else t)
theorem Nr{s:Int}:∀{w:WL},hasB s w=true↔∃v∈w,v.1<=s/\s<v.2
 |[]=>by simp[hasB]
 |x::r=>by
  simp only[hasB,jd];cases hc:cond (decide (x.1<=s)) (decide (s<x.2)) false with
  |true=>
   simp only[j5,true_iff];refine⟨x,Or.inl rfl,?_⟩;by_cases h1:x.1<=s
   .rw[ag h1,j5]at hc;exact⟨h1,qd hc⟩
   .rw[aj h1,j6]at hc;simp at hc
  |false=>
   simp only[j6];rw[Nr (w:=r)];constructor
   .rintro⟨v,hv,h⟩;exact⟨v,Or.inr hv,h⟩
   .rintro⟨v,rfl|hv,h⟩
    .rw[ag h.1,ag h.2]at hc;simp at hc
    .exact⟨v,hv,h⟩
theorem UO{w:WL}(hw:iq 0 w)(hl:w.length<=14){st f t q:Int}(aA : -1000000<=st)(cY:st<=8600000000)(a b:Int)(ps:List (Int×(Int×Int))):∀(n i:Nat)(acc:SL),i+n=w.length->acc.length+n<=1000000->
  Fq w st a b w (w.length:Int) (i:Int) f t q acc ps=some (w,st,a,b,f,t,q,acc++(w.drop i).map (uI f t st),ps)
 |0,i,acc,hi,_=>by
  rw[Sw];simp only[j3k];rw[aj (by omega),j6,aY,jc (by omega)];simp
 |n+1,i,acc,hi,ha=>by
  have au:i<w.length:=by omega
  have bh:w.getD i ((0:Int),(0:Int))=w[i]:=by simp[au]
  have hg:=yH hw i au;rw[bh]at hg;rw[Sw,jb au];simp only[j3k];rw[ag (show (i:Int)<(w.length:Int) by omega),aZ (by omega) (by omega)];simp only[j5,j7,bh];rw[ah (x:=(i:Int)+1) (by omega) (by omega),ah (x:=st+w[i].1) (by omega) (by omega),ah (x:=st+w[i].2) (by omega) (by omega),ag (by simp[aP];omega),j5,aQ];have:=UO hw hl aA cY a b ps n (i+1) (acc++[uI f t st w[i]]) (by omega) (by simp;omega) (f:=f) (t:=t) (q:=q);rw[jg]at this;exact this
theorem jzJ{w:WL}(hw:iq 0 w)(hl:w.length<=14){f t q:Int}(hf:0<=f)(ht:t<=8589934592)(ir:f<t)(a b:Int)(ps:List (Int×(Int×Int))):∀(m:Nat)(st:Int)(acc:SL), -1000000<=st->t<=st+604800*m->acc.length+14*m<=900000->
  ∃E,Fs w st a b f t q acc ps=some (w,a,b,acc++E,ps)/\E.length<=w.length*m/\(∀s∈E,f<=s.1/\s.2<=t/\s.1<=100000000000 /\ -100000000000<=s.2)/\
   ∀x,bJ x E↔f<=x/\x<t/\st<=x/\hasB ((x-st)%604800) w=true:=by
 intro m;induction m with
 |zero=>intro st acc aA hm _;rw[Sz];simp only[j3l];rw[aj (by omega),j6,aY];exact⟨[],by simp,by simp,by simp,λx=>⟨λh=>absurd h gO,λh=>by omega⟩⟩
 |succ m ih=>
  intro st acc aA hm ei;rw[Sz];simp only[j3l,show Int.ofNat (List.length w)=(w.length:Int) from rfl];by_cases au:st<t
  .have h4:=UO hw hl aA (by omega) a b ps w.length 0 acc (by omega) (by omega) (f:=f) (t:=t) (q:=q);rw[show ((0:Nat):Int)=0 from rfl,kc]at h4;rw[ag au,j5,h4];simp only[j3];rw[ah (x:=st+604800) (by omega) (by omega),aQ];obtain⟨E,e,h1,h2,h3⟩:=ih (st+604800) (acc++w.map (uI f t st)) (by omega) (by omega) (by simp;omega);refine⟨w.map (uI f t st)++E,?_,?_,?_,λx=>?_⟩
   .rw[jg]at e;exact e
   .rw[je,kb,Nat.mul_succ];omega
   .intro s hs;rcases js.1 hs with hs|hs
    .obtain⟨v,hv,rfl⟩:=jx.1 hs;obtain⟨i,hi,rfl⟩:=vg hv;have hg:=yH hw i hi;rw[show w.getD i (0,0)=w[i] by simp[hi]]at hg;simp only[uI];refine⟨?_,?_,?_,?_⟩<;>split<;>omega
    .exact h2 s hs
   .rw[Gg,h3 x];constructor
    .rintro (⟨s,hs,mz,nU⟩|⟨a1,a2,a3,a4⟩)
     .obtain⟨v,hv,rfl⟩:=jx.1 hs;have fQ:=hv;obtain⟨i,hi,rfl⟩:=vg hv;have hg:=yH hw i hi;rw[show w.getD i (0,0)=w[i] by simp[hi]]at hg;simp only[uI]at mz nU;have b1:f<=x/\st+w[i].1<=x:=by split at mz<;>omega
      have b2:x<t/\x<st+w[i].2:=by split at nU<;>omega
      refine⟨b1.1,b2.1,by omega,Nr.2 ⟨w[i],fQ,?_,?_⟩⟩<;>omega
     .refine⟨a1,a2,by omega,?_⟩;rw[show (x-st)%604800=(x-(st+604800))%604800 by omega];exact a4
    .rintro⟨a1,a2,a3,a4⟩
     by_cases hx:st+604800<=x
     .refine Or.inr ⟨a1,a2,hx,?_⟩;rw[show (x-(st+604800))%604800=(x-st)%604800 by omega];exact a4
     .obtain⟨v,hv,c1,c2⟩:=Nr.1 a4;have e1:(x-st)%604800=x-st:=by omega
      rw[e1]at c1 c2;refine Or.inl ⟨uI f t st v,jx.2 ⟨v,hv,rfl⟩,?_,?_⟩<;>simp only[uI]<;>split<;>omega
  .rw[aj au,j6,aY];exact⟨[],by simp,by simp,by simp,λx=>⟨λh=>absurd h gO,λh=>by omega⟩⟩
theorem UP{w:WL}(hw:iq 0 w)(hl:w.length<=14){ps:List (Int×(Int×Int))}{M:Nat}(hM:M<=60)(iY:ps.length<=30){lo hi:Int}(gU:0<=lo)(gK:hi<=8589934592)
  (fM:∀p∈ps,lo<=p.1/\p.1<p.2.1/\p.2.1<=hi /\ -64800<=p.2.2/\p.2.2<=64800/\p.2.1-p.1<=604800*M):∀(n i:Nat)(acc:SL),i+n=ps.length->acc.length<=854*i->
  ∃E,Fu w (ps.length:Int) (i:Int) acc ps=some (acc++E)/\E.length<=w.length*(M+1)*n/\(∀s∈E,lo<=s.1/\s.2<=hi/\s.1<=100000000000 /\ -100000000000<=s.2)/\
   ∀x,bJ x E↔∃p∈ps.drop i,p.1<=x/\x<p.2.1/\hasB ((x+p.2.2+259200)%604800) w=true
 |0,i,acc,hi,_=>by
  rw[SA];simp only[j3m];rw[aj (by omega),j6,aY,jc (by omega)];exact⟨[],by simp,by simp,by simp,λx=>⟨λh=>absurd h gO,λ⟨p,hp,_⟩=>by simp at hp⟩⟩
 |n+1,i,acc,hi,ei=>by
  have au:i<ps.length:=by omega
  have bh:ps.getD i ((0:Int),((0:Int),(0:Int)))=ps[i]:=by simp[au]
  obtain⟨p1,p2,p3,p4,p5,p6⟩:=fM ps[i] (jh au);have UQ:w.length*(M+1)<=854:=kx (zf hl (show M+1<=61 by omega)) (by decide);rw[SA,jb au];simp only[j3m];rw[ag (show (i:Int)<(ps.length:Int) by omega),aZ (by omega) (by omega)];simp only[j5,j7,bh];rw[ah (x:=ps[i].1+ps[i].2.2) (by omega) (by omega),ah (x:=ps[i].1+ps[i].2.2 - -259200) (by omega) (by omega),CU (by omega)];rw[ah (x:=ps[i].1+ps[i].2.2 - -259200-(ps[i].1+ps[i].2.2 - -259200)%604800) (by omega) (by omega)];rw[ah (x:=ps[i].1+ps[i].2.2 - -259200-(ps[i].1+ps[i].2.2 - -259200)%604800 + -259200) (by omega) (by omega)];rw[ah (x:=ps[i].1+ps[i].2.2 - -259200-(ps[i].1+ps[i].2.2 - -259200)%604800 + -259200-ps[i].2.2) (by omega) (by omega)];generalize aA:ps[i].1+ps[i].2.2 - -259200-(ps[i].1+ps[i].2.2 - -259200)%604800 + -259200-ps[i].2.2=st;obtain⟨E1,e1,l1,b1,m1⟩:=jzJ hw hl (f:=ps[i].1) (t:=ps[i].2.1) (q:=ps[i].2.2) (by omega) (by omega) p2 (ps.length:Int) (i:Int) ps (M+1) st acc (by omega) (by omega) (by omega);rw[e1];simp only[j3];rw[ah (x:=(i:Int)+1) (by omega) (by omega),aQ];obtain⟨E2,e2,l2,b2,m2⟩:=UP hw hl hM iY gU gK fM n (i+1) (acc++E1) (by omega) (by simp;omega);refine⟨E1++E2,?_,?_,?_,λx=>?_⟩
  .rw[jg]at e2;exact e2
  .rw[je,Nat.mul_succ];omega
  .intro s hs;rcases js.1 hs with hs|hs
   .have:=b1 s hs;omega
   .exact b2 s hs
  .rw[Gg,m1 x,m2 x];have key:∀x,ps[i].1<=x->(x-st)%604800=(x+ps[i].2.2+259200)%604800/\st<=x:=by intro x hx;omega
   constructor
   .rintro (⟨c1,c2,c3,c4⟩|⟨p,hp,h⟩)
    .exact⟨ps[i],qx ..,c1,c2,by rw[<-(key x c1).1];exact c4⟩
    .exact⟨p,v6 _ hp,h⟩
   .rintro⟨p,hp,c1,c2,c3⟩
    rcases jd.1 hp with rfl|hp
    .exact Or.inl ⟨c1,c2,(key x c1).2,by rw[(key x c1).1];exact c3⟩
    .exact Or.inr ⟨p,hp,c1,c2,c3⟩
theorem jrZ{o:Int}{l:bC}(h:ic o l)(gM:l.length<=20){w:WL}(hw:iq 0 w)(hl:w.length<=14){M:Nat}(hM:M<=60){a b:Int}(ha:0<=a)(cG:a<=b)(hb:b<=8589934592)(hlen:b-a<=604800*M) :
  ∃out,j4n (o,l) w a b=some out/\ca (a-1) out/\(∀u∈out,a<=u.1/\u.2<=b)/\out.length<=w.length*(M+1)*(l.length+1)/\
   ∀k,k<=l.length->∀x,a<=x->x<b->bq l k<=x->x<bq l (k+1)->(bJ x out↔hasB ((x+cp o l k+259200)%604800) w=true):=by
 obtain⟨ps,e,pl,pm,pc⟩:=UN h ha cG hb
 obtain⟨E,e1,l1,b1,m1⟩:=UP hw hl hM (ps:=ps) (by omega) (lo:=a) (hi:=b) ha hb (λp hp=>by
  obtain⟨h1,h2,h3,i,i1,i2,_⟩:=pm p hp;have:=h.of0 i i1;have:=h.of1 i i1;exact⟨h1,h2,h3,by omega,by omega,by omega⟩) ps.length 0 [] (by omega) (by simp)
 rw[show ((0:Nat):Int)=0 from rfl,jt]at e1;have UQ:w.length*(M+1)<=854:=kx (zf hl (show M+1<=61 by omega)) (by decide);have UR:E.length<=w.length*(M+1)*(l.length+1):=kx l1 (Nat.mul_le_mul_left _ pl);have hEl2:E.length<=854*21:=kx UR (zf UQ (by omega));obtain⟨out,e2,s1,s2,s3,s4⟩:=Gj (l:=E) (by omega) (λs hs=>by have:=b1 s hs;omega) (lo:=a) (hi:=b) (λs hs _=>⟨(b1 s hs).1,(b1 s hs).2.1⟩);refine⟨out,?_,s1,s4,by omega,λk hk x mz nU dD fL=>?_⟩
 .simp only[j4n,e,j3,show Int.ofNat (List.length ps)=(ps.length:Int) from rfl,e1,e2]
 .rw[s2 x,m1 x,kc];constructor
  .rintro⟨p,hp,c1,c2,c3⟩
   obtain⟨h1,h2,h3,i,i1,i2,i3,i4⟩:=pm p hp;have:i=k:=F7 h i1 hk (t:=x) (by omega) (by omega) dD fL;subst this;rw[<-i2];exact c3
  .intro hx;obtain⟨p,hp,c1,c2⟩:=pc x mz nU;obtain⟨h1,h2,h3,i,i1,i2,i3,i4⟩:=pm p hp;have:i=k:=F7 h i1 hk (t:=x) (by omega) (by omega) dD fL;subst this;exact⟨p,hp,c1,c2,by rw[i2];exact hx⟩
theorem Ns{o:Int}{rs:List aU}(hm:MZ o rs):(bP o (eh (occs rs))).length<=4:=by
 have h1:=F6 (eh (occs rs)) o;have h2:(eh (occs rs)).length=(occs rs).length:=by unfold eh;rw[List.length_reverse,CZ];simp
 have:=hm.few;omega
theorem jxB{o:Int}{rs:List aU}(hm:MZ o rs):(bP o (eh (occs rs))).length<=20:=kx (Ns hm) (by omega)
end Go.Proofs.Pw
