/- oA 11: Xh is on px in a Fj. -/
import Derived.Test.YtbpjdcbbmibehaaGreatLJPD
import Derived.Test.YtbpjdcbbmibehaaGreatLJPE
import Derived.Test.YtbpjdcbbmibehaaGreatLJPA
import Derived.Test.YtbpjdcbbmibehaaGreatLJFns
import Derived.Test.YtbpjdcbbmibehaaGreatLJPB
open Go Go.Lft
namespace Go.Proofs.Pw
def tb(z:bP):Int×bA:=(z.2.1,dt z.2.1 (eH (occs z.2.2)))
theorem pr.ztab{z:bP}(h:pr z):uD z (tb z).2:=MZ.tab (o:=z.2.1) (rs:=z.2.2) h z.1
theorem Xi{zs:List bP}(h:∀z∈zs,pr z)(hl:zs.length<=100):∀(n i:Nat),i+n=zs.length->D1 zs (zs.length:Int) (i:Int) ((zs.take i).map tb)=some (zs.map tb)
 |0,i,hi=>by
  rw[UL];simp only[j3Z];rw[ao (by omega),j6,aY,List.take_of_length_le (by omega)]
 |n+1,i,hi=>by
  have ak:i<zs.length:=by omega
  have bk:zs.getD i (ByteArray.empty,((0:Int),([]:List aT)))=zs[i]:=by simp[ak]
  have ht:=Wl (h zs[i] (ji ak)).ztab;have ih:=Xi h hl n (i+1) (by omega);rw[qa,jk ak,zq]at ih;rw[UL];simp only[j3Z];rw[ag (by omega),ba (by omega) (by omega),aj (x:=(i:Int)+1) (by omega) (by omega)];simp only[j5,j7,bk];rw[show jfd (zs[i].1,(zs[i].2.1,zs[i].2.2))=_ from ht];simp only[j3];rw[ag (by simp[aQ];omega),j5,aP];exact ih
theorem jxz{zs:List bP}(h:∀z∈zs,pr z)(hl:zs.length<=100){ps:List dm}{cs:List aO}{ss:List dD}:jgd (zs,(ps,(cs,ss)))=some ((zs,(ps,(cs,ss))),zs.map tb):=by
 have lp:=Xi h hl zs.length 0 (by omega);simp only[jgd,jfe,show Int.ofNat zs.length=(zs.length:Int) from rfl];rw[show D1 zs (zs.length:Int) 0 []=_ from lp];rfl
theorem Px{zs:List bP}{i:Int}(h0:0<=i)(h1:i<(zs.length:Int)):List.getD (zs.map tb) i.toNat ((0:Int),([]:bA))=tb (zs.getD i.toNat (ByteArray.empty,((0:Int),([]:List aT)))):=by
 have ak:i.toNat<zs.length:=by omega
 simp[List.getD_eq_getElem?_getD,ak]
theorem mn{zs:List bP}(h:∀z∈zs,pr z){i:Int}(h0:0<=i)(h1:i<(zs.length:Int)):pr (zs.getD i.toNat (ByteArray.empty,((0:Int),([]:List aT)))):=by
 have ak:i.toNat<zs.length:=by omega
 rw[List.getD_eq_getElem?_getD,jk ak];exact h _ (ji ak)
theorem jvN(a b:Int):jbn a b=some (decide (a<b)):=by
 simp only[jbn,ja9,j3,ju,j6]
theorem Py{ds:List Int}(hs:ds.Pairwise (· < ·))(hl:ds.length<=64){x:Int}:∀(n a b:Nat),b-a<=n->a<=b->b<=ds.length->(∀i,(hi:i<ds.length)->i<a->ds[i]<x)->(∀i,(hi:i<ds.length)->b<=i->x<=ds[i])->
  ∃k:Nat,HN ds x (ds.length:Int) (a:Int) (b:Int)=some (ds,x,(ds.length:Int),(k:Int))/\k<=ds.length/\(∀i,(hi:i<ds.length)->i<k->ds[i]<x)/\∀i,(hi:i<ds.length)->k<=i->x<=ds[i]
 |n,a,b,hn,dj,hb,h1,h2=>by
  rw[j87];simp only[j1j];by_cases ak:a<b
  .have hm:IntKind.wrap .u64 ((a:Int)+(b:Int))=(a:Int)+(b:Int):=IntWalk.u64_in _ ⟨by omega,by omega⟩;have hd:Int.fdiv ((a:Int)+(b:Int)) 2=(((a+b)/2:Nat):Int):=by rw[Int.fdiv_eq_ediv_of_nonneg _ (by omega)];omega
   have Cu:(a+b)/2<ds.length:=by omega
   have bk:ds.getD ((a+b)/2) (0:Int)=ds[(a+b)/2]:=by simp[Cu]
   rw[ag (show (a:Int)<(b:Int) by omega),aj (x:=(a:Int)+(b:Int)) (by omega) (by omega),hm,hd,aj (x:=(((a+b)/2:Nat):Int)) (by omega) (by omega),ba (by omega) (by omega),aj (x:=(((a+b)/2:Nat):Int)+1) (by omega) (by omega)];simp only[j5,j7,bk,jvN,j3];cases n with
   |zero=>omega
   |succ n=>
    by_cases hc:ds[(a+b)/2]<x
    .rw[ag hc,j5,aP];refine Py hs hl n ((a+b)/2+1) b (by omega) (by omega) hb (λi hi hia=>?_) h2;by_cases he:i=(a+b)/2
     .subst he;exact hc
     .exact Int.lt_trans (qh.1 hs i ((a+b)/2) hi Cu (by omega)) hc
    .rw[ao hc,j6,aP];refine Py hs hl n a ((a+b)/2) (by omega) (by omega) (by omega) h1 (λi hi hia=>?_);by_cases he:i=(a+b)/2
     .subst he;exact Int.not_lt.1 hc
     .exact qp (Int.not_lt.1 hc) (Int.le_of_lt (qh.1 hs ((a+b)/2) i Cu hi (by omega)))
  .have:a=b:=by omega
   subst this;rw[ao (by omega),j6,aY];exact⟨a,rfl,hb,h1,h2⟩
def okW(w:WL)(s:Int):Bool:=cond (decide ((w.length:Int)>0)) (hasB s w) true
section
variable{zs:List bP}{ps:List dm}{cs:List aO}{ss:List dD}(hz:∀z∈zs,pr z)
include hz
def r9(L:cb)(K:Int):Int:=L.2.2.2.2.2.1.getD (Int.tmod K (L.2.2.2.2.2.1.length:Int)).toNat 0
end
theorem fR.rt{nz np nc:Nat}{L:cb}(h:fR nz np nc L)(hd:L.2.2.1.1<=100000):Rt L:=
 ⟨h.d0,hd,h.c0,h.c1,h.u0,h.u1,h.e0,h.e1,λhn=>h.m0 (by rw[hn];rfl)⟩
theorem jyS{z:bP}(hz:pr z){t:Int}(h0:0<=t)(h1:t<=8589934592):∃d s,j22 (tb z) t=some d/\j5x d=some s:=by
 have ht:=hz.ztab;obtain⟨j,hj,j1,j2⟩:=wM ht.2 h0 h1;have o0:=ht.2.of0 j hj;have o1:=ht.2.of1 j hj;obtain⟨s,hs⟩:∃s,j5x ((t+cu z.2.1 (tb z).2 j)/86400,(t+cu z.2.1 (tb z).2 j)%86400)=some s:=by simp only[j5x,Wa,j3];exact⟨_,rfl⟩
 exact⟨_,s,Ie ht.2 hj j1 j2,hs⟩
abbrev SL:=List (Int×Int)
def bI(x:Int)(l:SL):Prop:=∃s∈l,s.1<=x/\x<s.2
def bX(p:Int):SL->Prop
 |[]=>True
 |x::r=>p<x.1/\x.1<x.2/\bX x.2 r
def Sml(l:SL):Prop:=∀s∈l, -1000000000000<=s.1/\s.1<=1000000000000 /\ -1000000000000<=s.2/\s.2<=1000000000000
theorem im{x:Int}:¬bI x []:=by rintro⟨s,hs,_⟩;simp at hs
theorem fA{x:Int}{s:Int×Int}{l:SL}:bI x (s::l)↔(s.1<=x/\x<s.2)\/bI x l:=by
 constructor
 .rintro⟨u,hu,h⟩
  rcases jc.1 hu with rfl|hu
  .exact Or.inl h
  .exact Or.inr ⟨u,hu,h⟩
 .rintro (h|⟨u,hu,h⟩)
  .exact⟨s,by simp,h⟩
  .exact⟨u,by simp[hu],h⟩
theorem Ix{x:Int}{l r:SL}:bI x (l++r)↔bI x l\/bI x r:=by
 constructor
 .rintro⟨u,hu,h⟩
  rcases jm.1 hu with hu|hu
  .exact Or.inl ⟨u,hu,h⟩
  .exact Or.inr ⟨u,hu,h⟩
 .rintro (⟨u,hu,h⟩|⟨u,hu,h⟩)
  .exact⟨u,by simp[hu],h⟩
  .exact⟨u,by simp[hu],h⟩
def nE(s:Int×Int):Bool:= !(decide (s.2<=s.1))
theorem Xj{l:SL}(hl:l.length<=10000000):∀(n i:Nat),i+n=l.length->(∀s∈l.take i,nE s=true)->
  (∃j:Nat,D5 (l.length:Int) (i:Int) l=some (.inl ((j:Int),l))/\j<l.length/\(∀s∈l.take j,nE s=true)/\nE (l.getD j (0,0))=false)\/
  (D5 (l.length:Int) (i:Int) l=some (.inr l)/\∀s∈l,nE s=true)
 |0,i,hi,h=>by
  rw[UR];simp only[j0r];rw[ao (by omega),j6,aY];rw[List.take_of_length_le (by omega)]at h;exact Or.inr ⟨rfl,h⟩
 |n+1,i,hi,h=>by
  rw[UR];simp only[j0r,j80];rw[ag (show (i:Int)<(l.length:Int) by omega),ba (by omega) (by omega),aj (x:=(i:Int)+1) (by omega) (by omega)];simp only[j5,j7,j3];have ak:i<l.length:=by omega
  cases hc:decide ((l.getD i ((0:Int),(0:Int))).2<=(l.getD i ((0:Int),(0:Int))).1) with
  |true=>simp only[j5,aY];exact Or.inl ⟨i,rfl,ak,h,by simp only[nE];rw[hc];rfl⟩
  |false=>
   simp only[j6,aP];refine Xj hl n (i+1) (by omega) λs hs=>?_;rw[qa]at hs;rcases jm.1 hs with hs|hs
   .exact h s hs
   .have bk:l.getD i ((0:Int),(0:Int))=l[i]:=by simp[ak]
    rw[bk]at hc;rw[jk ak]at hs;simp at hs;subst hs;simp only[nE];rw[hc];rfl
theorem Pz{l:SL}(hl:l.length<=10000000):∀(n i j:Nat)(b:SL),j+n=l.length->i<=j->b.length=l.length->b.drop j=l.drop j->b.take i=(l.take j).filter nE->
  ∃(k:Nat)(b':SL),HF (i:Int) (j:Int) b=some ((k:Int),b')/\b'.length=l.length/\k<=l.length/\b'.take k=l.filter nE
 |0,i,j,b,hj,dG,hb,hd,ht=>by
  rw[US];simp only[j0o,show Int.ofNat (List.length b)=(b.length:Int) from rfl];rw[ao (by omega),j6,aY];rw[List.take_of_length_le (l:=l) (by omega)]at ht;exact⟨i,b,rfl,hb,by omega,ht⟩
 |n+1,i,j,b,hj,dG,hb,hd,ht=>by
  have ak:j<l.length:=by omega
  have yo:b.getD j ((0:Int),(0:Int))=l[j]:=by
   have:b[j]? = l[j]? := by
    have h:=jj (λx=>x[0]?) hd;simpa[List.getElem?_drop]using h
   rw[List.getD_eq_getElem?_getD,this,jk ak];rfl
  have gm:b.drop (j+1)=l.drop (j+1):=by have:=jj (List.drop 1) hd;simpa[List.drop_drop]using this
  have jZ:l.take (j+1)=l.take j++[l[j]]:=by rw[qa,jk ak];rfl
  rw[US];simp only[j0o,j80,show Int.ofNat (List.length b)=(b.length:Int) from rfl];rw[ag (show (j:Int)<(b.length:Int) by omega),ba (by omega) (by omega),ba (by omega) (by omega),aj (x:=(j:Int)+1) (by omega) (by omega),aj (x:=(i:Int)+1) (by omega) (by omega)];simp only[j5,j7,j3,yo];cases hc:decide (l[j].2<=l[j].1) with
  |true=>simp only[jw,j6,aP];refine Pz hl n i (j+1) b (by omega) (by omega) hb gm ?_;rw[jZ,vf,ht];simp[nE,hc]
  |false=>
   simp only[kf,j5,aP];refine Pz hl n (i+1) (j+1) _ (by omega) (by omega) (by simpa using hb) ?_ ?_
   .rw[List.drop_set_of_lt (by omega)];exact gm
   .have tw:i<b.length:=by omega
    rw[qa,List.take_set_of_le (jo _),List.getElem?_set_self tw,ht,jZ,vf];simp[nE,hc]
theorem ju5{l:SL}(hl:l.length<=10000000):∃n m,j1i l=some (n,m)/\m.take n.toNat=l.filter nE:=by
 simp only[j1i,j2h,show Int.ofNat (List.length l)=(l.length:Int) from rfl];rcases Xj hl l.length 0 (by omega) (by simp) with⟨j,e,hj,h1,h2⟩|⟨e,h⟩
 .rw[show ((0:Nat):Int)=0 from rfl]at e;rw[e];simp only[j3,TS];rw[cP (by omega),aj (x:=(j:Int)+1) (by omega) (by omega)];have bk:l.getD j ((0:Int),(0:Int))=l[j]:=by simp[hj]
  rw[bk]at h2
  obtain⟨k,b,e2,hb,hk,ht⟩:=Pz hl (l.length-(j+1)) j (j+1) l (by omega) (by omega) rfl rfl (by
   rw[qa,jk hj,vf,List.filter_eq_self.2 h1];simp[h2])
  rw[show ((j:Int)+1)=((j+1:Nat):Int) from rfl,e2];simp only[j6,j3,show Int.ofNat (List.length b)=(b.length:Int) from rfl,j7];rw[ag (show (0:Int)<=(k:Int) by omega),ag (show (k:Int)<=(b.length:Int) by omega)];simp only[vp,j5,Bool.true_and];rw[ag (by simp;omega),j5];refine⟨_,_,rfl,?_⟩;simp only[show (Int.ofNat k).toNat=k from rfl];rw[qz (by simp;omega),va,Nat.min_self,ht]
 .rw[show ((0:Nat):Int)=0 from rfl]at e;rw[e];simp only[j3,rN,qe,j5];refine⟨_,_,rfl,?_⟩;simp only[show (Int.ofNat l.length).toNat=l.length from rfl];rw[List.take_of_length_le (jo _),List.filter_eq_self.2 h]
def lE(e:Int×Int):SL->SL
 |[]=>[e]
 |s::r=>if s.1<=e.2 then lE (e.1,if s.2>e.2 then s.2 else e.2) r else e::lE s r
def mg:SL->SL
 |[]=>[]
 |s::r=>lE s r
theorem PA{L:SL}(hL:L.length<=10000000):∀(n i:Nat)(A:SL)(e:Int×Int),i+n=L.length->A.length<i->
  D6 (L.length:Int) (i:Int) (A++[e]) L=some (A++lE e (L.drop i))
 |0,i,A,e,hi,hA=>by
  rw[Mw];simp only[j3i];rw[ao (by omega),j6,aY,jd (by omega)];rfl
 |n+1,i,A,e,hi,hA=>by
  have ak:i<L.length:=by omega
  have bk:L.getD i ((0:Int),(0:Int))=L[i]:=by simp[ak]
  have hle:(A++[e]).length=A.length+1:=by simp
  have lQ:(A++[e]).getD A.length ((0:Int),(0:Int))=e:=by simp
  rw[Mw,jb ak];simp only[j3i,lE,show Int.ofNat (List.length (A++[e]))=((A.length:Int)+1) from by rw[hle];rfl]
  rw[ag (show (i:Int)<(L.length:Int) by omega),ba (by omega) (by omega),ag (show (A.length:Int)+1>0 by omega),aj (x:=(A.length:Int)+1-1) (by omega) (by omega),aj (x:=(i:Int)+1) (by omega) (by omega),
   ba (by omega) (by rw[hle];omega),show ((A.length:Int)+1-1).toNat=A.length by omega]
  simp only[j5,j7,bk,lQ];by_cases hc:L[i].1<=e.2
  .rw[ag hc,if_pos hc];simp only[j5,aP]
   rw[show (A++[e]).set A.length (e.1,if L[i].2>e.2 then L[i].2 else e.2)=A++[(e.1,if L[i].2>e.2 then L[i].2 else e.2)] by
    rw[vg _ _ (jo _)];simp]
   exact PA hL n (i+1) A _ (by omega) (by omega)
  .rw[ao hc,if_neg hc,ag (by rw[hle];simp[aQ];omega)];simp only[j6,j5,aP];have:=PA hL n (i+1) (A++[e]) L[i] (by omega) (by rw[hle];omega);rw[show A++e::lE L[i] (L.drop (i+1))=A++[e]++lE L[i] (L.drop (i+1)) by simp];exact this
theorem jzK{L:SL}(hL:L.length<=10000000):D6 (L.length:Int) 0 [] L=some (mg L):=by
 rw[Mw];simp only[j3i];cases L with
 |nil=>rw[ao (by simp),j6,aY];rfl
 |cons s r=>rw[ag (show (0:Int)<((s::r).length:Int) by simp only[jl];omega),ba (by omega) (by simp only[jl];omega)];simp only[j5,show Int.ofNat (List.length ([]:SL))=0 from rfl];rw[ao (show¬((0:Int)>0) by omega),j6,ag (by simp[aQ]),aj (x:=(0:Int)+1) (by omega) (by omega)];simp only[j5,aP];have:=PA hL r.length 1 [] s (by simp;omega) (by simp);simpa[mg]using this
def Fk:SL->Prop
 |[]=>True
 |s::r=>(∀u∈r,s.1<=u.1)/\Fk r
theorem PB:∀{r:SL}{e:Int×Int}{p:Int},p<e.1->e.1<e.2->(∀s∈r,nE s=true)->Fk r->bX p (lE e r)
 |[],e,p,h1,h2,_,_=>⟨h1,h2,trivial⟩
 |s::r,e,p,h1,h2,h3,h4=>by
  simp only[lE];have hs:s.1<s.2:=by have:=h3 s (by simp);simp[nE]at this;omega
  split
  .exact PB (by exact h1) (by dsimp only;split<;>omega) (λu hu=>h3 u (by simp[hu])) h4.2
  .exact⟨h1,h2,PB (by omega) hs (λu hu=>h3 u (by simp[hu])) h4.2⟩
theorem PC{x:Int}:∀{r:SL}{e:Int×Int},(∀s∈r,e.1<=s.1)->(∀s∈r,nE s=true)->Fk r->(bI x (lE e r)↔(e.1<=x/\x<e.2)\/bI x r)
 |[],e,_,_,_=>by simp[lE,bI]
 |s::r,e,h1,h3,h4=>by
  have hs:s.1<s.2:=by have:=h3 s (by simp);simp[nE]at this;omega
  have he:e.1<=s.1:=h1 s (by simp);simp only[lE];split
  .rw[PC (e:=(e.1,if s.2>e.2 then s.2 else e.2)) (λu hu=>h1 u (by simp[hu])) (λu hu=>h3 u (by simp[hu])) h4.2,fA];dsimp only;constructor
   .rintro (⟨a,b⟩|h)
    .split at b
     .by_cases hx:x<e.2
      .exact Or.inl ⟨a,hx⟩
      .exact Or.inr (Or.inl ⟨by omega,b⟩)
     .exact Or.inl ⟨a,b⟩
    .exact Or.inr (Or.inr h)
   .rintro (⟨a,b⟩|⟨a,b⟩|h)
    .exact Or.inl ⟨a,by split<;>omega⟩
    .exact Or.inl ⟨by omega,by split<;>omega⟩
    .exact Or.inr h
  .rw[fA,PC h4.1 (λu hu=>h3 u (by simp[hu])) h4.2,fA]
theorem PD:∀(r:SL)(e:Int×Int),(lE e r).length<=r.length+1
 |[],e=>by simp[lE]
 |s::r,e=>by
  simp only[lE];split
  .have:=PD r (e.1,if s.2>e.2 then s.2 else e.2);simp only[jl];omega
  .have:=PD r s;simp only[jl];omega
theorem PE{lo hi:Int}:∀{r:SL}{e:Int×Int},(lo<=e.1/\e.2<=hi)->(∀s∈r,lo<=s.1/\s.2<=hi)->∀u∈lE e r,lo<=u.1/\u.2<=hi
 |[],e,h1,h2=>by simp only[lE];intro u hu;simp at hu;subst hu;exact h1
 |s::r,e,h1,h2=>by
  have hs:=h2 s (by simp);simp only[lE];split
  .exact PE ⟨h1.1,by dsimp only;split<;>omega⟩ (λu hu=>h2 u (by simp[hu]))
  .intro u hu;rcases jc.1 hu with rfl|hu
   .exact h1
   .exact PE hs (λu hu=>h2 u (by simp[hu])) u hu
theorem jyT{L:SL}(h:L.Pairwise (λx y=>¬w64 (y.1-x.1)<0))(hb:Sml L):Fk L:=by
 induction L with
 |nil=>trivial
 |cons s r ih=>rw[kx]at h;refine⟨λu hu=>?_,ih h.2 (λv hv=>hb v (by simp[hv]))⟩;have h1:=h.1 u hu;have h2:=hb s (by simp);have h3:=hb u (by simp[hu]);rw[aj (x:=u.1-s.1) (by omega) (by omega)]at h1;omega
theorem jvO:Go.Sort.SWO (Go.Proofs.ltOf λ(x y:Go.Lft.Sml (.pair (.int .i64) (.int .i64)))=>(j6C x.1 y.1).getD 0):=by
 refine Hi (λx=>x.1.1) (λx=>?_) _ λx y=>rfl;have:=x.2;simp only[ic,ja,jh]at this;exact this.1
theorem jxC{l:SL}(hl:l.length<=10000000)(hb:Sml l):∃L,j0M l=some L/\L.Perm l/\Fk L:=by
 obtain⟨L,e,hp,hs⟩:=T7 (a:= .pair (.int .i64) (.int .i64)) (cf:=λx y=>(j6C x y).getD 0) jvO (xs:=l) (λx hx=>by
  have:=hb x hx;simp only[ic,ja,jh];refine⟨⟨?_,?_⟩,⟨?_,?_⟩⟩
  .exact qp (by decide) this.1
  .exact qp this.2.1 (by decide)
  .exact qp (by decide) this.2.2.1
  .exact qp this.2.2.2 (by decide)) (by show List.length l<_;omega)
 exact⟨L,e,hp,jyT hs λs hm=>hb s (hp.mem_iff.1 hm)⟩
theorem Fl{l:SL}(hl:l.length<=10000000)(hb:Sml l){lo hi:Int}(iS:∀s∈l,s.1<s.2->lo<=s.1/\s.2<=hi) :
  ∃out,j7J l=some out/\bX (lo-1) out/\(∀x,bI x out↔bI x l)/\out.length<=l.length/\∀u∈out,lo<=u.1/\u.2<=hi:=by
 obtain⟨n,m,e1,ht⟩:=ju5 hl;have fC:(l.filter nE).length<=l.length:=List.length_filter_le _ _;obtain⟨L,e2,hp,hs⟩:=jxC (l:=l.filter nE) (by omega) (λs h=>hb s (qx.1 h).1);have hLl:L.length=(l.filter nE).length:=hp.length_eq;have Bv:∀s,s∈L↔s∈l/\nE s=true:=λs=>hp.mem_iff.trans qx
 have Xk:∀x,bI x L↔bI x l:=by
  intro x;constructor
  .rintro⟨s,h,h2⟩;exact⟨s,((Bv s).1 h).1,h2⟩
  .rintro⟨s,h,h2⟩;exact⟨s,(Bv s).2 ⟨h,by simp only[nE];rw[ao (by omega)];rfl⟩,h2⟩
 have aN:∀s∈L,s.1<s.2:=λs h=>by have:=((Bv s).1 h).2;simp[nE]at this;omega
 refine⟨mg L,?_,?_⟩
 .simp only[j7J,j32];rw[ag (by simp[aQ];omega)];simp only[j5,j3,js,e1,ht,e2,show Int.ofNat (List.length L)=(L.length:Int) from rfl,jzK (L:=L) (by omega)]
 .cases L with
  |nil=>refine⟨trivial,λx=>Xk x,by simp[mg],by simp[mg]⟩
  |cons s r=>
   have h0:=iS s ((Bv s).1 (by simp)).1 (aN s (by simp));have hr:∀u∈r,nE u=true:=λu hu=>((Bv u).1 (by simp[hu])).2;refine⟨PB (by omega) (aN s (by simp)) hr hs.2,λx=>?_,?_,?_⟩
   .rw[<-Xk x,fA];exact PC hs.1 hr hs.2
   .have:=PD r s;simp only[mg,jl]at *;omega
   .exact PE h0 λu hu=>iS u ((Bv u).1 (by simp[hu])).1 (aN u (by simp[hu]))
def p9(o:Int)(l:bA)(a b:Int)(k:Nat):Nat->List (Int×(Int×Int))
 |0=>[]
 |n+1=>if bh l (k+1)<b then (a,(bh l (k+1),cu o l k))::p9 o l (bh l (k+1)) b (k+1) n else [(a,(b,cu o l k))]
section
variable{o:Int}{l:bA}(h:gU o l)
include h
theorem Xl{b:Int}(hb:b<=8589934592):∀(n k:Nat)(a:Int)(acc:List (Int×(Int×Int))),k+n=l.length+1->k<=l.length->bh l k<=a->a<bh l (k+1)->a<b->acc.length<=k->
  Bc a b o l acc=some (acc++p9 o l a b k n)
 |0,k,a,acc,hn,hk,_,_,_,_=>by omega
 |n+1,k,a,acc,hn,hk,h1,h2,dj,ha=>by
  have hlen:=h.len;rw[Bd];simp only[j0v,show Int.ofNat (List.length l)=(l.length:Int) from rfl,p9];rw[ag dj];simp only[j5,OU h hk h1 h2,OV h hk,j3];by_cases jH:k<l.length
  .have hf:bh l (k+1)=(l.getD k ((0:Int),(0:Int))).1:=yP jH;rw[ag (show (k:Int)<(l.length:Int) by omega),ba (by omega) (by omega)];simp only[j5,j7,<-hf];rw[ag (by simp[aQ];omega),j5,aP];by_cases hc:bh l (k+1)<b
   .rw[if_pos hc,if_pos hc];have:=Xl hb n (k+1) (bh l (k+1)) (acc++[(a,(bh l (k+1),cu o l k))]) (by omega) (by omega) (by omega) (h.frm_lt (by omega)) hc (by simp;omega);rw[jg]at this;exact this
   .rw[if_neg hc,if_neg hc];rw[Bd];simp only[j0v];rw[ao (by omega),j6,aY]
  .have bR:k=l.length:=by omega
   have hf:bh l (k+1)=8589934593:=by rw[bR];exact uz
   rw[if_neg (show¬bh l (k+1)<b by omega),ao (by omega),j6,ag (by simp[aQ];omega),j5,aP];rw[Bd];simp only[j0v];rw[ao (by omega),j6,aY]
omit h in
theorem Xm:∀(n k:Nat)(a b:Int),(p9 o l a b k n).length<=n
 |0,k,a,b=>by simp[p9]
 |n+1,k,a,b=>by
  simp only[p9];split
  .have:=Xm n (k+1) (bh l (k+1)) b;simp;omega
  .simp
theorem Xn{b:Int}:∀(n k:Nat)(a:Int),k+n=l.length+1->bh l k<=a->a<bh l (k+1)->a<b->
  ∀p∈p9 o l a b k n,a<=p.1/\p.1<p.2.1/\p.2.1<=b/\∃i,k<=i/\i<=l.length/\p.2.2=cu o l i/\bh l i<=p.1/\p.2.1<=bh l (i+1)
 |0,k,a,hn,h1,h2,dj,p,hp=>by simp[p9]at hp
 |n+1,k,a,hn,h1,h2,dj,p,hp=>by
  simp only[p9]at hp;split at hp
  .rename_i hc;rcases jc.1 hp with rfl|hp
   .exact⟨ke _,h2,by dsimp only;omega,k,jo _,by omega,rfl,h1,ke _⟩
   .cases n with
    |zero=>simp[p9]at hp
    |succ n=>
    obtain⟨a1,a2,a3,i,i1,i2,i3⟩:=Xn (n+1) (k+1) (bh l (k+1)) (by omega) (ke _) (h.frm_lt (by omega)) hc p hp;exact⟨by omega,a2,a3,i,by omega,i2,i3⟩
  .rename_i hc;simp at hp;subst hp;exact⟨ke _,dj,ke _,k,jo _,by omega,rfl,h1,by dsimp only;omega⟩
theorem Xo{b:Int}(hb:b<=8589934592):∀(n k:Nat)(a:Int),k+n=l.length+1->k<=l.length->bh l k<=a->a<bh l (k+1)->a<b->
  ∀x,a<=x->x<b->∃p∈p9 o l a b k n,p.1<=x/\x<p.2.1
 |0,k,a,hn,hk,h1,h2,dj,x,hx,mM=>by omega
 |n+1,k,a,hn,hk,h1,h2,dj,x,hx,mM=>by
  simp only[p9];split
  .rename_i hc;by_cases ak:x<bh l (k+1)
   .exact⟨_,z8 ..,hx,ak⟩
   .have jH:k+1<=l.length:=by
     rcases za k l.length with h'|h'
     .exact h'
     .have:k=l.length:=by omega
      subst this;rw[uz]at hc;omega
    obtain⟨p,hp,xd⟩:=Xo hb n (k+1) (bh l (k+1)) (by omega) jH (ke _) (h.frm_lt jH) hc x (by omega) mM;exact⟨p,by simp[hp],xd⟩
  .exact⟨_,z8 ..,hx,mM⟩
theorem Xp{a b:Int}(ha:0<=a)(dj:a<=b)(hb:b<=8589934592):∃ps,j1F (o,l) a b=some ps/\ps.length<=l.length+1/\
  (∀p∈ps,a<=p.1/\p.1<p.2.1/\p.2.1<=b/\∃i,i<=l.length/\p.2.2=cu o l i/\bh l i<=p.1/\p.2.1<=bh l (i+1))/\∀x,a<=x->x<b->∃p∈ps,p.1<=x/\x<p.2.1:=by
 simp only[j1F];rcases Int.lt_or_le a b with ak|lQ
 .obtain⟨k,hk,h1,h2⟩:=wM h ha (by omega);have:=Xl h hb (l.length+1-k) k a [] (by omega) hk h1 h2 ak (by simp);rw[js]at this;rw[this];refine⟨_,rfl,?_,λp hp=>?_,Xo h hb _ k a (by omega) hk h1 h2 ak⟩
  .have:=Xm (o:=o) (l:=l) (l.length+1-k) k a b;omega
  .obtain⟨a1,a2,a3,i,_,i2⟩:=Xn h _ k a (by omega) h1 h2 ak p hp;exact⟨a1,a2,a3,i,i2⟩
 .rw[Bd];simp only[j0v];rw[ao (by omega),j6,aY];exact⟨[],rfl,by simp,by simp,λx h1 h2=>by omega⟩
end
def wS(f t st:Int)(v:Int×Int):Int×Int:=(if st+v.1>f then st+v.1 else f,if st+v.2<t then st+v.2 else t)
theorem Fm{s:Int}:∀{w:WL},hasB s w=true↔∃v∈w,v.1<=s/\s<v.2
 |[]=>by simp[hasB]
 |x::r=>by
  simp only[hasB,jc];cases hc:cond (decide (x.1<=s)) (decide (s<x.2)) false with
  |true=>
   simp only[j5,true_iff];refine⟨x,Or.inl rfl,?_⟩;by_cases h1:x.1<=s
   .rw[ag h1,j5]at hc;exact⟨h1,qg hc⟩
   .rw[ao h1,j6]at hc;simp at hc
  |false=>
   simp only[j6];rw[Fm (w:=r)];constructor
   .rintro⟨v,hv,h⟩;exact⟨v,Or.inr hv,h⟩
   .rintro⟨v,rfl|hv,h⟩
    .rw[ag h.1,ag h.2]at hc;simp at hc
    .exact⟨v,hv,h⟩
theorem Xq{w:WL}(hw:gu 0 w)(hl:w.length<=14){st f t q:Int}(au : -1000000<=st)(cM:st<=8600000000)(a b:Int)(ps:List (Int×(Int×Int))):∀(n i:Nat)(acc:SL),i+n=w.length->acc.length+n<=1000000->
  HG w st a b w (w.length:Int) (i:Int) f t q acc ps=some (w,st,a,b,f,t,q,acc++(w.drop i).map (wS f t st),ps)
 |0,i,acc,hi,_=>by
  rw[UT];simp only[j3w];rw[ao (by omega),j6,aY,jd (by omega)];simp
 |n+1,i,acc,hi,ha=>by
  have ak:i<w.length:=by omega
  have bk:w.getD i ((0:Int),(0:Int))=w[i]:=by simp[ak]
  have hg:=E6 hw i ak;rw[bk]at hg;rw[UT,jb ak];simp only[j3w];rw[ag (show (i:Int)<(w.length:Int) by omega),ba (by omega) (by omega)];simp only[j5,j7,bk];rw[aj (x:=(i:Int)+1) (by omega) (by omega),aj (x:=st+w[i].1) (by omega) (by omega),aj (x:=st+w[i].2) (by omega) (by omega),ag (by simp[aQ];omega),j5,aP];have:=Xq hw hl au cM a b ps n (i+1) (acc++[wS f t st w[i]]) (by omega) (by simp;omega) (f:=f) (t:=t) (q:=q);rw[jg]at this;exact this
theorem jzL{w:WL}(hw:gu 0 w)(hl:w.length<=14){f t q:Int}(hf:0<=f)(ht:t<=8589934592)(jM:f<t)(a b:Int)(ps:List (Int×(Int×Int))):∀(m:Nat)(st:Int)(acc:SL), -1000000<=st->t<=st+604800*m->acc.length+14*m<=900000->
  ∃E,HH w st a b f t q acc ps=some (w,a,b,acc++E,ps)/\E.length<=w.length*m/\(∀s∈E,f<=s.1/\s.2<=t/\s.1<=100000000000 /\ -100000000000<=s.2)/\
   ∀x,bI x E↔f<=x/\x<t/\st<=x/\hasB ((x-st)%604800) w=true:=by
 intro m;induction m with
 |zero=>intro st acc au hm _;rw[UU];simp only[j3x];rw[ao (by omega),j6,aY];exact⟨[],by simp,by simp,by simp,λx=>⟨λh=>absurd h im,λh=>by omega⟩⟩
 |succ m ih=>
  intro st acc au hm eI;rw[UU];simp only[j3x,show Int.ofNat (List.length w)=(w.length:Int) from rfl];by_cases ak:st<t
  .have h4:=Xq hw hl au (by omega) a b ps w.length 0 acc (by omega) (by omega) (f:=f) (t:=t) (q:=q);rw[show ((0:Nat):Int)=0 from rfl,k5]at h4;rw[ag ak,j5,h4];simp only[j3];rw[aj (x:=st+604800) (by omega) (by omega),aP];obtain⟨E,e,h1,h2,h3⟩:=ih (st+604800) (acc++w.map (wS f t st)) (by omega) (by omega) (by simp;omega);refine⟨w.map (wS f t st)++E,?_,?_,?_,λx=>?_⟩
   .rw[jg]at e;exact e
   .rw[jf,ka,Nat.mul_succ];omega
   .intro s hs;rcases jm.1 hs with hs|hs
    .obtain⟨v,hv,rfl⟩:=jn.1 hs;obtain⟨i,hi,rfl⟩:=ya hv;have hg:=E6 hw i hi;rw[show w.getD i (0,0)=w[i] by simp[hi]]at hg;simp only[wS];refine⟨?_,?_,?_,?_⟩<;>split<;>omega
    .exact h2 s hs
   .rw[Ix,h3 x];constructor
    .rintro (⟨s,hs,nD,mM⟩|⟨a1,a2,a3,a4⟩)
     .obtain⟨v,hv,rfl⟩:=jn.1 hs;have gx:=hv;obtain⟨i,hi,rfl⟩:=ya hv;have hg:=E6 hw i hi;rw[show w.getD i (0,0)=w[i] by simp[hi]]at hg;simp only[wS]at nD mM;have b1:f<=x/\st+w[i].1<=x:=by split at nD<;>omega
      have b2:x<t/\x<st+w[i].2:=by split at mM<;>omega
      refine⟨b1.1,b2.1,by omega,Fm.2 ⟨w[i],gx,?_,?_⟩⟩<;>omega
     .refine⟨a1,a2,by omega,?_⟩;rw[show (x-st)%604800=(x-(st+604800))%604800 by omega];exact a4
    .rintro⟨a1,a2,a3,a4⟩
     by_cases hx:st+604800<=x
     .refine Or.inr ⟨a1,a2,hx,?_⟩;rw[show (x-(st+604800))%604800=(x-st)%604800 by omega];exact a4
     .obtain⟨v,hv,c1,c2⟩:=Fm.1 a4;have e1:(x-st)%604800=x-st:=by omega
      rw[e1]at c1 c2;refine Or.inl ⟨wS f t st v,jn.2 ⟨v,hv,rfl⟩,?_,?_⟩<;>simp only[wS]<;>split<;>omega
  .rw[ao ak,j6,aY];exact⟨[],by simp,by simp,by simp,λx=>⟨λh=>absurd h im,λh=>by omega⟩⟩
theorem Xr{w:WL}(hw:gu 0 w)(hl:w.length<=14){ps:List (Int×(Int×Int))}{M:Nat}(hM:M<=60)(kZ:ps.length<=30){lo hi:Int}(iS:0<=lo)(jC:hi<=8589934592)
  (fU:∀p∈ps,lo<=p.1/\p.1<p.2.1/\p.2.1<=hi /\ -64800<=p.2.2/\p.2.2<=64800/\p.2.1-p.1<=604800*M):∀(n i:Nat)(acc:SL),i+n=ps.length->acc.length<=854*i->
  ∃E,HI w (ps.length:Int) (i:Int) acc ps=some (acc++E)/\E.length<=w.length*(M+1)*n/\(∀s∈E,lo<=s.1/\s.2<=hi/\s.1<=100000000000 /\ -100000000000<=s.2)/\
   ∀x,bI x E↔∃p∈ps.drop i,p.1<=x/\x<p.2.1/\hasB ((x+p.2.2+259200)%604800) w=true
 |0,i,acc,hi,_=>by
  rw[UW];simp only[j3y];rw[ao (by omega),j6,aY,jd (by omega)];exact⟨[],by simp,by simp,by simp,λx=>⟨λh=>absurd h im,λ⟨p,hp,_⟩=>by simp at hp⟩⟩
 |n+1,i,acc,hi,eI=>by
  have ak:i<ps.length:=by omega
  have bk:ps.getD i ((0:Int),((0:Int),(0:Int)))=ps[i]:=by simp[ak]
  obtain⟨p1,p2,p3,p4,p5,p6⟩:=fU ps[i] (ji ak);have Xs:w.length*(M+1)<=854:=q7 (qu hl (show M+1<=61 by omega)) (by decide);rw[UW,jb ak];simp only[j3y];rw[ag (show (i:Int)<(ps.length:Int) by omega),ba (by omega) (by omega)];simp only[j5,j7,bk];rw[aj (x:=ps[i].1+ps[i].2.2) (by omega) (by omega),aj (x:=ps[i].1+ps[i].2.2 - -259200) (by omega) (by omega),ER (by omega)];rw[aj (x:=ps[i].1+ps[i].2.2 - -259200-(ps[i].1+ps[i].2.2 - -259200)%604800) (by omega) (by omega)];rw[aj (x:=ps[i].1+ps[i].2.2 - -259200-(ps[i].1+ps[i].2.2 - -259200)%604800 + -259200) (by omega) (by omega)];rw[aj (x:=ps[i].1+ps[i].2.2 - -259200-(ps[i].1+ps[i].2.2 - -259200)%604800 + -259200-ps[i].2.2) (by omega) (by omega)];generalize au:ps[i].1+ps[i].2.2 - -259200-(ps[i].1+ps[i].2.2 - -259200)%604800 + -259200-ps[i].2.2=st;obtain⟨E1,e1,l1,b1,m1⟩:=jzL hw hl (f:=ps[i].1) (t:=ps[i].2.1) (q:=ps[i].2.2) (by omega) (by omega) p2 (ps.length:Int) (i:Int) ps (M+1) st acc (by omega) (by omega) (by omega);rw[e1];simp only[j3];rw[aj (x:=(i:Int)+1) (by omega) (by omega),aP];obtain⟨E2,e2,l2,b2,m2⟩:=Xr hw hl hM kZ iS jC fU n (i+1) (acc++E1) (by omega) (by simp;omega);refine⟨E1++E2,?_,?_,?_,λx=>?_⟩
  .rw[jg]at e2;exact e2
  .rw[jf,Nat.mul_succ];omega
  .intro s hs;rcases jm.1 hs with hs|hs
   .have:=b1 s hs;omega
   .exact b2 s hs
  .rw[Ix,m1 x,m2 x];have key:∀x,ps[i].1<=x->(x-st)%604800=(x+ps[i].2.2+259200)%604800/\st<=x:=by intro x hx;omega
   constructor
   .rintro (⟨c1,c2,c3,c4⟩|⟨p,hp,h⟩)
    .exact⟨ps[i],z8 ..,c1,c2,by rw[<-(key x c1).1];exact c4⟩
    .exact⟨p,qr _ hp,h⟩
   .rintro⟨p,hp,c1,c2,c3⟩
    rcases jc.1 hp with rfl|hp
    .exact Or.inl ⟨c1,c2,(key x c1).2,by rw[(key x c1).1];exact c3⟩
    .exact Or.inr ⟨p,hp,c1,c2,c3⟩
theorem PF{o:Int}{l:bA}(h:gU o l)(fM:l.length<=20){w:WL}(hw:gu 0 w)(hl:w.length<=14){M:Nat}(hM:M<=60){a b:Int}(ha:0<=a)(dj:a<=b)(hb:b<=8589934592)(hlen:b-a<=604800*M) :
  ∃out,j33 (o,l) w a b=some out/\bX (a-1) out/\(∀u∈out,a<=u.1/\u.2<=b)/\out.length<=w.length*(M+1)*(l.length+1)/\
   ∀k,k<=l.length->∀x,a<=x->x<b->bh l k<=x->x<bh l (k+1)->(bI x out↔hasB ((x+cu o l k+259200)%604800) w=true):=by
 obtain⟨ps,e,pl,pm,pc⟩:=Xp h ha dj hb
 obtain⟨E,e1,l1,b1,m1⟩:=Xr hw hl hM (ps:=ps) (by omega) (lo:=a) (hi:=b) ha hb (λp hp=>by
  obtain⟨h1,h2,h3,i,i1,i2,_⟩:=pm p hp;have:=h.of0 i i1;have:=h.of1 i i1;exact⟨h1,h2,h3,by omega,by omega,by omega⟩) ps.length 0 [] (by omega) (by simp)
 rw[show ((0:Nat):Int)=0 from rfl,js]at e1;have Xs:w.length*(M+1)<=854:=q7 (qu hl (show M+1<=61 by omega)) (by decide);have Xt:E.length<=w.length*(M+1)*(l.length+1):=q7 l1 (Nat.mul_le_mul_left _ pl);have hEl2:E.length<=854*21:=q7 Xt (qu Xs (by omega));obtain⟨out,e2,s1,s2,s3,s4⟩:=Fl (l:=E) (by omega) (λs hs=>by have:=b1 s hs;omega) (lo:=a) (hi:=b) (λs hs _=>⟨(b1 s hs).1,(b1 s hs).2.1⟩);refine⟨out,?_,s1,s4,by omega,λk hk x nD mM dT gn=>?_⟩
 .simp only[j33,e,j3,show Int.ofNat (List.length ps)=(ps.length:Int) from rfl,e1,e2]
 .rw[s2 x,m1 x,k5];constructor
  .rintro⟨p,hp,c1,c2,c3⟩
   obtain⟨h1,h2,h3,i,i1,i2,i3,i4⟩:=pm p hp;have:i=k:=E5 h i1 hk (t:=x) (by omega) (by omega) dT gn;subst this;rw[<-i2];exact c3
  .intro hx;obtain⟨p,hp,c1,c2⟩:=pc x nD mM;obtain⟨h1,h2,h3,i,i1,i2,i3,i4⟩:=pm p hp;have:i=k:=E5 h i1 hk (t:=x) (by omega) (by omega) dT gn;subst this;exact⟨p,hp,c1,c2,by rw[i2];exact hx⟩
theorem PG{o:Int}{rs:List aT}(hm:MZ o rs):(dt o (eH (occs rs))).length<=4:=by
 have h1:=Im (eH (occs rs)) o;have h2:(eH (occs rs)).length=(occs rs).length:=by unfold eH;rw[List.length_reverse,EV];simp
 have:=hm.few;omega
theorem Xu{o:Int}{rs:List aT}(hm:MZ o rs):(dt o (eH (occs rs))).length<=20:=q7 (PG hm) (by omega)
end Go.Proofs.Pw
