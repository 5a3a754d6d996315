/- gX 11: Ri is on sS in a ZU. -/
import Derived.Test.YtjpgjpnfacnmaaaGreatLSPD
import Derived.Test.YtjpgjpnfacnmaaaGreatLSPE
import Derived.Test.YtjpgjpnfacnmaaaGreatLSPA
import Derived.Test.YtjpgjpnfacnmaaaGreatLSFns
import Derived.Test.YtjpgjpnfacnmaaaGreatLSPB
open Go Go.Lft
namespace Go.Proofs.Pw
def tb(z:br):Int×bn:=(z.2.1,cj z.2.1 (ff (occs z.2.2)))
theorem gg.ztab{z:br}(h:gg z):sM z (tb z).2:=MZ.tab (o:=z.2.1) (rs:=z.2.2) h z.1
theorem gg.zdif{z:br}(h:gg z):Q8 z.2.1 (tb z).2:=QU _ _ _ (MZ.good h)
theorem gg.zref{z:br}(h:gg z):sM z (tb z).2/\Z4 z (tb z).2/\Q8 z.2.1 (tb z).2:=⟨h.ztab,MZ.r4 (o:=z.2.1) (rs:=z.2.2) h z.1,h.zdif⟩
theorem ZV{zs:List br}(h:∀z∈zs,gg z)(hl:zs.length<=100):∀(n i:Nat),i+n=zs.length->EC zs (zs.length:Int) (i:Int) ((zs.take i).map tb)=some (zs.map tb)
 |0,i,hi=>by
  rw[WJ];simp only[j47];rw[ah (by omega),j7,aW,List.take_of_length_le (by omega)]
 |n+1,i,hi=>by
  have ak:i<zs.length:=by omega
  have aR:zs.getD i (ByteArray.empty,((0:Int),([]:List aD)))=zs[i]:=by simp[ak]
  have ht:=Y3 (h zs[i] (jf ak)).ztab;have ih:=ZV h hl n (i+1) (by omega);rw[kq,jk ak,za]at ih;rw[WJ];simp only[j47];rw[ag (by omega),bz,ai (x:=(i:Int)+1)];simp only[j6,j8,aR];rw[show jim (zs[i].1,(zs[i].2.1,zs[i].2.2))=_ from ht];simp only[j4];rw[ag (by simp[aN];omega),j6,aK];exact ih
theorem jDk{zs:List br}(h:∀z∈zs,gg z)(hl:zs.length<=100){ps:List cZ}{cs:List aX}{ss:List cF}:jjn (zs,(ps,(cs,ss)))=some ((zs,(ps,(cs,ss))),zs.map tb):=by
 have lp:=ZV h hl zs.length 0 (by omega);simp only[jjn,jin,show Int.ofNat zs.length=(zs.length:Int) from rfl];rw[show EC zs (zs.length:Int) 0 []=_ from lp];rfl
theorem Rj{zs:List br}{i:Int}(h0:0<=i)(h1:i<(zs.length:Int)):List.getD (zs.map tb) i.toNat ((0:Int),([]:bn))=tb (zs.getD i.toNat (ByteArray.empty,((0:Int),([]:List aD)))):=by
 have ak:i.toNat<zs.length:=by omega
 simp[List.getD_eq_getElem?_getD,ak]
theorem gv{zs:List br}(h:∀z∈zs,gg z){i:Int}(h0:0<=i)(h1:i<(zs.length:Int)):gg (zs.getD i.toNat (ByteArray.empty,((0:Int),([]:List aD)))):=by
 have ak:i.toNat<zs.length:=by omega
 rw[List.getD_eq_getElem?_getD,jk ak];exact h _ (jf ak)
theorem jB2(a b:Int):jdb a b=some (decide (a<b)):=by
 simp only[jdb,jbv,j4,jh,j7]
theorem Rk{ds:List Int}(hs:ds.Pairwise (· < ·))(hl:ds.length<=64){x:Int}:∀(n a b:Nat),b-a<=n->a<=b->b<=ds.length->(∀i,(hi:i<ds.length)->i<a->ds[i]<x)->(∀i,(hi:i<ds.length)->b<=i->x<=ds[i])->
  ∃k:Nat,IG ds x (ds.length:Int) (a:Int) (b:Int)=some (ds,x,(ds.length:Int),(k:Int))/\k<=ds.length/\(∀i,(hi:i<ds.length)->i<k->ds[i]<x)/\∀i,(hi:i<ds.length)->k<=i->x<=ds[i]
 |n,a,b,hn,bG,hb,h1,h2=>by
  rw[j99];simp only[j1i];by_cases ak:a<b
  .have hm:IntKind.wrap .u64 ((a:Int)+(b:Int))=(a:Int)+(b:Int):=IntWalk.u64_in _ ⟨by omega,by omega⟩;have hd:Int.fdiv ((a:Int)+(b:Int)) 2=(((a+b)/2:Nat):Int):=by rw[Int.fdiv_eq_ediv_of_nonneg _ (by omega)];omega
   have yw:(a+b)/2<ds.length:=by omega
   have aR:ds.getD ((a+b)/2) (0:Int)=ds[(a+b)/2]:=by simp[yw]
   rw[ag (show (a:Int)<(b:Int) by omega),ai (x:=(a:Int)+(b:Int)),hm,hd,ai (x:=(((a+b)/2:Nat):Int)),bz,ai (x:=(((a+b)/2:Nat):Int)+1)];simp only[j6,j8,aR,jB2,j4];cases n with
   |zero=>omega
   |succ n=>
    by_cases hc:ds[(a+b)/2]<x
    .rw[ag hc,j6,aK];refine Rk hs hl n ((a+b)/2+1) b (by omega) (by omega) hb (λi hi tJ=>?_) h2;by_cases he:i=(a+b)/2
     .subst he;exact hc
     .exact Int.lt_trans (ko.1 hs i ((a+b)/2) hi yw (by omega)) hc
    .rw[ah hc,j7,aK];refine Rk hs hl n a ((a+b)/2) (by omega) (by omega) (by omega) h1 (λi hi tJ=>?_);by_cases he:i=(a+b)/2
     .subst he;exact Int.not_lt.1 hc
     .exact qs (Int.not_lt.1 hc) (Int.le_of_lt (ko.1 hs ((a+b)/2) i yw hi (by omega)))
  .have:a=b:=by omega
   subst this;rw[ah (by omega),j7,aW];exact⟨a,rfl,hb,h1,h2⟩
def okW(w:WL)(s:Int):Bool:=cond (decide ((w.length:Int)>0)) (hasB s w) true
section
variable{zs:List br}{ps:List cZ}{cs:List aX}{ss:List cF}(hz:∀z∈zs,gg z)
include hz
def sT(L:bI)(K:Int):Int:=L.2.2.2.2.2.1.getD (Int.tmod K (L.2.2.2.2.2.1.length:Int)).toNat 0
end
theorem eD.rt{nz np nc:Nat}{L:bI}(h:eD nz np nc L)(hd:L.2.2.1.1<=100000):Rt L:=
 ⟨h.d0,hd,h.c0,h.c1,h.u0,h.u1,h.e0,h.e1,λhn=>h.m0 (by rw[hn];rfl)⟩
theorem jEJ{z:br}(hz:gg z){t:Int}(h0:0<=t)(h1:t<=8589934592):∃d s,j1p (tb z) t=some d/\j5Y d=some s:=by
 have ht:=hz.ztab;obtain⟨j,hj,j1,j2⟩:=pQ ht.2 h0 h1;have o0:=ht.2.of0 j hj;have o1:=ht.2.of1 j hj;obtain⟨s,hs⟩:∃s,j5Y ((t+ba z.2.1 (tb z).2 j)/86400,(t+ba z.2.1 (tb z).2 j)%86400)=some s:=by simp only[j5Y,YV,j4];exact⟨_,rfl⟩
 exact⟨_,s,Cb ht.2 hj j1 j2,hs⟩
abbrev SL:=List (Int×Int)
def bt(x:Int)(l:SL):Prop:=∃s∈l,s.1<=x/\x<s.2
def bP(p:Int):SL->Prop
 |[]=>True
 |x::r=>p<x.1/\x.1<x.2/\bP x.2 r
def Sml(l:SL):Prop:=∀s∈l, -1000000000000<=s.1/\s.1<=1000000000000 /\ -1000000000000<=s.2/\s.2<=1000000000000
theorem fU{x:Int}:¬bt x []:=by rintro⟨s,hs,_⟩;simp at hs
theorem eU{x:Int}{s:Int×Int}{l:SL}:bt x (s::l)↔(s.1<=x/\x<s.2)\/bt x l:=by
 constructor
 .rintro⟨u,hu,h⟩
  rcases je.1 hu with rfl|hu
  .exact Or.inl h
  .exact Or.inr ⟨u,hu,h⟩
 .rintro (h|⟨u,hu,h⟩)
  .exact⟨s,by simp,h⟩
  .exact⟨u,by simp[hu],h⟩
theorem xn{x:Int}{l r:SL}:bt x (l++r)↔bt x l\/bt x r:=by
 constructor
 .rintro⟨u,hu,h⟩
  rcases jn.1 hu with hu|hu
  .exact Or.inl ⟨u,hu,h⟩
  .exact Or.inr ⟨u,hu,h⟩
 .rintro (⟨u,hu,h⟩|⟨u,hu,h⟩)
  .exact⟨u,by simp[hu],h⟩
  .exact⟨u,by simp[hu],h⟩
def nE(s:Int×Int):Bool:= !(decide (s.2<=s.1))
theorem ZW{l:SL}(hl:l.length<=10000000):∀(n i:Nat),i+n=l.length->(∀s∈l.take i,nE s=true)->
  (∃j:Nat,EG (l.length:Int) (i:Int) l=some (.inl ((j:Int),l))/\j<l.length/\(∀s∈l.take j,nE s=true)/\nE (l.getD j (0,0))=false)\/
  (EG (l.length:Int) (i:Int) l=some (.inr l)/\∀s∈l,nE s=true)
 |0,i,hi,h=>by
  rw[WR];simp only[j0p];rw[ah (by omega),j7,aW];rw[List.take_of_length_le (by omega)]at h;exact Or.inr ⟨rfl,h⟩
 |n+1,i,hi,h=>by
  rw[WR];simp only[j0p,j92];rw[ag (show (i:Int)<(l.length:Int) by omega),bz,ai (x:=(i:Int)+1)];simp only[j6,j8,j4];have ak:i<l.length:=by omega
  cases hc:decide ((l.getD i ((0:Int),(0:Int))).2<=(l.getD i ((0:Int),(0:Int))).1) with
  |true=>simp only[j6,aW];exact Or.inl ⟨i,rfl,ak,h,by simp only[nE];rw[hc];rfl⟩
  |false=>
   simp only[j7,aK];refine ZW hl n (i+1) (by omega) λs hs=>?_;rw[kq]at hs;rcases jn.1 hs with hs|hs
   .exact h s hs
   .have aR:l.getD i ((0:Int),(0:Int))=l[i]:=by simp[ak]
    rw[aR]at hc;rw[jk ak]at hs;simp at hs;subst hs;simp only[nE];rw[hc];rfl
theorem Rl{l:SL}(hl:l.length<=10000000):∀(n i j:Nat)(b:SL),j+n=l.length->i<=j->b.length=l.length->b.drop j=l.drop j->b.take i=(l.take j).filter nE->
  ∃(k:Nat)(b':SL),Iz (i:Int) (j:Int) b=some ((k:Int),b')/\b'.length=l.length/\k<=l.length/\b'.take k=l.filter nE
 |0,i,j,b,hj,dF,hb,hd,ht=>by
  rw[WS];simp only[j0m,show Int.ofNat (List.length b)=(b.length:Int) from rfl];rw[ah (by omega),j7,aW];rw[List.take_of_length_le (l:=l) (by omega)]at ht;exact⟨i,b,rfl,hb,by omega,ht⟩
 |n+1,i,j,b,hj,dF,hb,hd,ht=>by
  have ak:j<l.length:=by omega
  have yX:b.getD j ((0:Int),(0:Int))=l[j]:=by
   have:b[j]? = l[j]? := by
    have h:=jq (λx=>x[0]?) hd;simpa[List.getElem?_drop]using h
   rw[List.getD_eq_getElem?_getD,this,jk ak];rfl
  have gx:b.drop (j+1)=l.drop (j+1):=by have:=jq (List.drop 1) hd;simpa[List.drop_drop]using this
  have kQ:l.take (j+1)=l.take j++[l[j]]:=by rw[kq,jk ak];rfl
  rw[WS];simp only[j0m,j92,show Int.ofNat (List.length b)=(b.length:Int) from rfl];rw[ag (show (j:Int)<(b.length:Int) by omega),bz,bz,ai (x:=(j:Int)+1),ai (x:=(i:Int)+1)];simp only[j6,j8,j4,yX];cases hc:decide (l[j].2<=l[j].1) with
  |true=>simp only[jl,j7,aK];refine Rl hl n i (j+1) b (by omega) (by omega) hb gx ?_;rw[kQ,vk,ht];simp[nE,hc]
  |false=>
   simp only[ka,j6,aK];refine Rl hl n (i+1) (j+1) _ (by omega) (by omega) (by simpa using hb) ?_ ?_
   .rw[List.drop_set_of_lt (by omega)];exact gx
   .have xM:i<b.length:=by omega
    rw[kq,List.take_set_of_le (js _),List.getElem?_set_self xM,ht,kQ,vk];simp[nE,hc]
theorem jyX{l:SL}(hl:l.length<=10000000):∃n m,j1h l=some (n,m)/\m.take n.toNat=l.filter nE:=by
 simp only[j1h,j2c,show Int.ofNat (List.length l)=(l.length:Int) from rfl];rcases ZW hl l.length 0 (by omega) (by simp) with⟨j,e,hj,h1,h2⟩|⟨e,h⟩
 .rw[show ((0:Nat):Int)=0 from rfl]at e;rw[e];simp only[j4,MP];rw[bW (by omega),ai (x:=(j:Int)+1)];have aR:l.getD j ((0:Int),(0:Int))=l[j]:=by simp[hj]
  rw[aR]at h2
  obtain⟨k,b,e2,hb,hk,ht⟩:=Rl hl (l.length-(j+1)) j (j+1) l (by omega) (by omega) rfl rfl (by
   rw[kq,jk hj,vk,List.filter_eq_self.2 h1];simp[h2])
  rw[show ((j:Int)+1)=((j+1:Nat):Int) from rfl,e2];simp only[j7,j4,show Int.ofNat (List.length b)=(b.length:Int) from rfl,j8];rw[ag (show (0:Int)<=(k:Int) by omega),ag (show (k:Int)<=(b.length:Int) by omega)];simp only[vu,j6,yl];rw[ag (by simp;omega),j6];refine⟨_,_,rfl,?_⟩;simp only[show (Int.ofNat k).toNat=k from rfl];rw[ze (by simp;omega),ya,Nat.min_self,ht]
 .rw[show ((0:Nat):Int)=0 from rfl]at e;rw[e];simp only[j4,nw,qd,j6];refine⟨_,_,rfl,?_⟩;simp only[show (Int.ofNat l.length).toNat=l.length from rfl];rw[List.take_of_length_le (js _),List.filter_eq_self.2 h]
def mn(e:Int×Int):SL->SL
 |[]=>[e]
 |s::r=>if s.1<=e.2 then mn (e.1,if s.2>e.2 then s.2 else e.2) r else e::mn s r
def mg:SL->SL
 |[]=>[]
 |s::r=>mn s r
theorem Rm{L:SL}(hL:L.length<=10000000):∀(n i:Nat)(A:SL)(e:Int×Int),i+n=L.length->A.length<i->
  EH (L.length:Int) (i:Int) (A++[e]) L=some (A++mn e (L.drop i))
 |0,i,A,e,hi,hA=>by
  rw[NA];simp only[j3n];rw[ah (by omega),j7,aW,jd (by omega)];rfl
 |n+1,i,A,e,hi,hA=>by
  have ak:i<L.length:=by omega
  have aR:L.getD i ((0:Int),(0:Int))=L[i]:=by simp[ak]
  have hle:(A++[e]).length=A.length+1:=by simp
  have qO:(A++[e]).getD A.length ((0:Int),(0:Int))=e:=by simp
  rw[NA,jb ak];simp only[j3n,mn,show Int.ofNat (List.length (A++[e]))=((A.length:Int)+1) from by rw[hle];rfl]
  rw[ag (show (i:Int)<(L.length:Int) by omega),bz,ag (show (A.length:Int)+1>0 by omega),ai (x:=(A.length:Int)+1-1),ai (x:=(i:Int)+1),
   cw (by omega) (by rw[hle];omega),show ((A.length:Int)+1-1).toNat=A.length by omega]
  simp only[j6,j8,aR,qO];by_cases hc:L[i].1<=e.2
  .rw[ag hc,if_pos hc];simp only[j6,aK]
   rw[show (A++[e]).set A.length (e.1,if L[i].2>e.2 then L[i].2 else e.2)=A++[(e.1,if L[i].2>e.2 then L[i].2 else e.2)] by
    rw[vp _ _ (js _)];simp]
   exact Rm hL n (i+1) A _ (by omega) (by omega)
  .rw[ah hc,if_neg hc,ag (by rw[hle];simp[aN];omega)];simp only[j7,j6,aK];have:=Rm hL n (i+1) (A++[e]) L[i] (by omega) (by rw[hle];omega);rw[show A++e::mn L[i] (L.drop (i+1))=A++[e]++mn L[i] (L.drop (i+1)) by simp];exact this
theorem jFQ{L:SL}(hL:L.length<=10000000):EH (L.length:Int) 0 [] L=some (mg L):=by
 rw[NA];simp only[j3n];cases L with
 |nil=>rw[ah (by simp),j7,aW];rfl
 |cons s r=>rw[ag (show (0:Int)<((s::r).length:Int) by simp only[jm];omega),cw (by omega) (by simp only[jm];omega)];simp only[j6,show Int.ofNat (List.length ([]:SL))=0 from rfl];rw[ah (show¬((0:Int)>0) by omega),j7,ag (by simp[aN]),ai (x:=(0:Int)+1)];simp only[j6,aK];have:=Rm hL r.length 1 [] s (by simp;omega) (by simp);simpa[mg]using this
def Gl:SL->Prop
 |[]=>True
 |s::r=>(∀u∈r,s.1<=u.1)/\Gl r
theorem Rn:∀{r:SL}{e:Int×Int}{p:Int},p<e.1->e.1<e.2->(∀s∈r,nE s=true)->Gl r->bP p (mn e r)
 |[],e,p,h1,h2,_,_=>⟨h1,h2,trivial⟩
 |s::r,e,p,h1,h2,h3,h4=>by
  simp only[mn];have hs:s.1<s.2:=by have:=h3 s (by simp);simp[nE]at this;omega
  split
  .exact Rn (by exact h1) (by dsimp only;split<;>omega) (λu hu=>h3 u (by simp[hu])) h4.2
  .exact⟨h1,h2,Rn (by omega) hs (λu hu=>h3 u (by simp[hu])) h4.2⟩
theorem Ro{x:Int}:∀{r:SL}{e:Int×Int},(∀s∈r,e.1<=s.1)->(∀s∈r,nE s=true)->Gl r->(bt x (mn e r)↔(e.1<=x/\x<e.2)\/bt x r)
 |[],e,_,_,_=>by simp[mn,bt]
 |s::r,e,h1,h3,h4=>by
  have hs:s.1<s.2:=by have:=h3 s (by simp);simp[nE]at this;omega
  have he:e.1<=s.1:=h1 s (by simp);simp only[mn];split
  .rw[Ro (e:=(e.1,if s.2>e.2 then s.2 else e.2)) (λu hu=>h1 u (by simp[hu])) (λu hu=>h3 u (by simp[hu])) h4.2,eU];dsimp only;constructor
   .rintro (⟨a,b⟩|h)
    .split at b
     .by_cases hx:x<e.2
      .exact Or.inl ⟨a,hx⟩
      .exact Or.inr (Or.inl ⟨by omega,b⟩)
     .exact Or.inl ⟨a,b⟩
    .exact Or.inr (Or.inr h)
   .rintro (⟨a,b⟩|⟨a,b⟩|h)
    .exact Or.inl ⟨a,by split<;>omega⟩
    .exact Or.inl ⟨by omega,by split<;>omega⟩
    .exact Or.inr h
  .rw[eU,Ro h4.1 (λu hu=>h3 u (by simp[hu])) h4.2,eU]
theorem Rp:∀(r:SL)(e:Int×Int),(mn e r).length<=r.length+1
 |[],e=>by simp[mn]
 |s::r,e=>by
  simp only[mn];split
  .have:=Rp r (e.1,if s.2>e.2 then s.2 else e.2);simp only[jm];omega
  .have:=Rp r s;simp only[jm];omega
theorem Rq{lo hi:Int}:∀{r:SL}{e:Int×Int},(lo<=e.1/\e.2<=hi)->(∀s∈r,lo<=s.1/\s.2<=hi)->∀u∈mn e r,lo<=u.1/\u.2<=hi
 |[],e,h1,h2=>by simp only[mn];intro u hu;simp at hu;subst hu;exact h1
 |s::r,e,h1,h2=>by
  have hs:=h2 s (by simp);simp only[mn];split
  .exact Rq ⟨h1.1,by dsimp only;split<;>omega⟩ (λu hu=>h2 u (by simp[hu]))
  .intro u hu;rcases je.1 hu with rfl|hu
   .exact h1
   .exact Rq hs (λu hu=>h2 u (by simp[hu])) u hu
theorem jEK{L:SL}(h:L.Pairwise (λx y=>¬w64 (y.1-x.1)<0))(hb:Sml L):Gl L:=by
 induction L with
 |nil=>trivial
 |cons s r ih=>rw[ki]at h;refine⟨λu hu=>?_,ih h.2 (λv hv=>hb v (by simp[hv]))⟩;have h1:=h.1 u hu;have h2:=hb s (by simp);have h3:=hb u (by simp[hu]);rw[ai (x:=u.1-s.1)]at h1;omega
theorem jB3:Go.Sort.SWO (Go.Proofs.ltOf λ(x y:Go.Lft.Sml (.pair (.int .i64) (.int .i64)))=>(j7s x.1 y.1).getD 0):=by
 refine H9 (λx=>x.1.1) (λx=>?_) _ λx y=>rfl;have:=x.2;simp only[iE,jc,jo]at this;exact this.1
theorem jDn{l:SL}(hl:l.length<=10000000)(hb:Sml l):∃L,j0M l=some L/\L.Perm l/\Gl L:=by
 obtain⟨L,e,hp,hs⟩:=V3 (a:= .pair (.int .i64) (.int .i64)) (cf:=λx y=>(j7s x y).getD 0) jB3 (xs:=l) (λx hx=>by
  have:=hb x hx;simp only[iE,jc,jo];refine⟨⟨?_,?_⟩,⟨?_,?_⟩⟩
  .exact qs (by decide) this.1
  .exact qs this.2.1 (by decide)
  .exact qs (by decide) this.2.2.1
  .exact qs this.2.2.2 (by decide)) (by show List.length l<_;omega)
 exact⟨L,e,hp,jEK hs λs hm=>hb s (hp.mem_iff.1 hm)⟩
theorem Gm{l:SL}(hl:l.length<=10000000)(hb:Sml l){lo hi:Int}(iu:∀s∈l,s.1<s.2->lo<=s.1/\s.2<=hi) :
  ∃out,j8M l=some out/\bP (lo-1) out/\(∀x,bt x out↔bt x l)/\out.length<=l.length/\∀u∈out,lo<=u.1/\u.2<=hi:=by
 obtain⟨n,m,e1,ht⟩:=jyX hl;have fk:(l.filter nE).length<=l.length:=qt _ _;obtain⟨L,e2,hp,hs⟩:=jDn (l:=l.filter nE) (by omega) (λs h=>hb s (qu.1 h).1);have hLl:L.length=(l.filter nE).length:=hp.length_eq;have Cj:∀s,s∈L↔s∈l/\nE s=true:=λs=>hp.mem_iff.trans qu
 have ZX:∀x,bt x L↔bt x l:=by
  intro x;constructor
  .rintro⟨s,h,h2⟩;exact⟨s,((Cj s).1 h).1,h2⟩
  .rintro⟨s,h,h2⟩;exact⟨s,(Cj s).2 ⟨h,by simp only[nE];rw[ah (by omega)];rfl⟩,h2⟩
 have bk:∀s∈L,s.1<s.2:=λs h=>by have:=((Cj s).1 h).2;simp[nE]at this;omega
 refine⟨mg L,?_,?_⟩
 .simp only[j8M,j30];rw[ag (by simp[aN];omega)];simp only[j6,j4,jv,e1,ht,e2,show Int.ofNat (List.length L)=(L.length:Int) from rfl,jFQ (L:=L) (by omega)]
 .cases L with
  |nil=>refine⟨trivial,λx=>ZX x,by simp[mg],by simp[mg]⟩
  |cons s r=>
   have h0:=iu s ((Cj s).1 (by simp)).1 (bk s (by simp));have hr:∀u∈r,nE u=true:=λu hu=>((Cj u).1 (by simp[hu])).2;refine⟨Rn (by omega) (bk s (by simp)) hr hs.2,λx=>?_,?_,?_⟩
   .rw[<-ZX x,eU];exact Ro hs.1 hr hs.2
   .have:=Rp r s;simp only[mg,jm]at *;omega
   .exact Rq h0 λu hu=>iu u ((Cj u).1 (by simp[hu])).1 (bk u (by simp[hu]))
def ri(o:Int)(l:bn)(a b:Int)(k:Nat):Nat->List (Int×(Int×Int))
 |0=>[]
 |n+1=>if aO l (k+1)<b then (a,(aO l (k+1),ba o l k))::ri o l (aO l (k+1)) b (k+1) n else [(a,(b,ba o l k))]
section
variable{o:Int}{l:bn}(h:gW o l)
include h
theorem ZY{b:Int}(hb:b<=8589934592):∀(n k:Nat)(a:Int)(acc:List (Int×(Int×Int))),k+n=l.length+1->k<=l.length->aO l k<=a->a<aO l (k+1)->a<b->acc.length<=k->
  BT a b o l acc=some (acc++ri o l a b k n)
 |0,k,a,acc,hn,hk,_,_,_,_=>by omega
 |n+1,k,a,acc,hn,hk,h1,h2,bG,ha=>by
  have hlen:=h.len;rw[BU];simp only[j0s,show Int.ofNat (List.length l)=(l.length:Int) from rfl,ri];rw[ag bG];simp only[j6,QB h hk h1 h2,QC h hk,j4];by_cases ia:k<l.length
  .have hf:aO l (k+1)=(l.getD k ((0:Int),(0:Int))).1:=jM ia;rw[ag (show (k:Int)<(l.length:Int) by omega),bz];simp only[j6,j8,<-hf];rw[ag (by simp[aN];omega),j6,aK];by_cases hc:aO l (k+1)<b
   .rw[if_pos hc,if_pos hc];have:=ZY hb n (k+1) (aO l (k+1)) (acc++[(a,(aO l (k+1),ba o l k))]) (by omega) (by omega) (by omega) (h.frm_lt (by omega)) hc (by simp;omega);rw[jj]at this;exact this
   .rw[if_neg hc,if_neg hc];rw[BU];simp only[j0s];rw[ah (by omega),j7,aW]
  .have cu:k=l.length:=by omega
   have hf:aO l (k+1)=8589934593:=by rw[cu];exact mQ
   rw[if_neg (show¬aO l (k+1)<b by omega),ah (by omega),j7,ag (by simp[aN];omega),j6,aK];rw[BU];simp only[j0s];rw[ah (by omega),j7,aW]
omit h in
theorem ZZ:∀(n k:Nat)(a b:Int),(ri o l a b k n).length<=n
 |0,k,a,b=>by simp[ri]
 |n+1,k,a,b=>by
  simp only[ri];split
  .have:=ZZ n (k+1) (aO l (k+1)) b;simp;omega
  .simp
theorem Z0{b:Int}:∀(n k:Nat)(a:Int),k+n=l.length+1->aO l k<=a->a<aO l (k+1)->a<b->
  ∀p∈ri o l a b k n,a<=p.1/\p.1<p.2.1/\p.2.1<=b/\∃i,k<=i/\i<=l.length/\p.2.2=ba o l i/\aO l i<=p.1/\p.2.1<=aO l (i+1)
 |0,k,a,hn,h1,h2,bG,p,hp=>by simp[ri]at hp
 |n+1,k,a,hn,h1,h2,bG,p,hp=>by
  simp only[ri]at hp;split at hp
  .rename_i hc;rcases je.1 hp with rfl|hp
   .exact⟨k9 _,h2,by dsimp only;omega,k,js _,by omega,rfl,h1,k9 _⟩
   .cases n with
    |zero=>simp[ri]at hp
    |succ n=>
    obtain⟨a1,a2,a3,i,i1,i2,i3⟩:=Z0 (n+1) (k+1) (aO l (k+1)) (by omega) (k9 _) (h.frm_lt (by omega)) hc p hp;exact⟨by omega,a2,a3,i,by omega,i2,i3⟩
  .rename_i hc;simp at hp;subst hp;exact⟨k9 _,bG,k9 _,k,js _,by omega,rfl,h1,by dsimp only;omega⟩
theorem Z1{b:Int}(hb:b<=8589934592):∀(n k:Nat)(a:Int),k+n=l.length+1->k<=l.length->aO l k<=a->a<aO l (k+1)->a<b->
  ∀x,a<=x->x<b->∃p∈ri o l a b k n,p.1<=x/\x<p.2.1
 |0,k,a,hn,hk,h1,h2,bG,x,hx,nv=>by omega
 |n+1,k,a,hn,hk,h1,h2,bG,x,hx,nv=>by
  simp only[ri];split
  .rename_i hc;by_cases ak:x<aO l (k+1)
   .exact⟨_,v2 ..,hx,ak⟩
   .have ia:k+1<=l.length:=by
     rcases qx k l.length with h'|h'
     .exact h'
     .have:k=l.length:=by omega
      subst this;rw[mQ]at hc;omega
    obtain⟨p,hp,xG⟩:=Z1 hb n (k+1) (aO l (k+1)) (by omega) ia (k9 _) (h.frm_lt ia) hc x (by omega) nv;exact⟨p,by simp[hp],xG⟩
  .exact⟨_,v2 ..,hx,nv⟩
theorem Z2{a b:Int}(ha:0<=a)(bG:a<=b)(hb:b<=8589934592):∃ps,j1D (o,l) a b=some ps/\ps.length<=l.length+1/\
  (∀p∈ps,a<=p.1/\p.1<p.2.1/\p.2.1<=b/\∃i,i<=l.length/\p.2.2=ba o l i/\aO l i<=p.1/\p.2.1<=aO l (i+1))/\∀x,a<=x->x<b->∃p∈ps,p.1<=x/\x<p.2.1:=by
 simp only[j1D];rcases Int.lt_or_le a b with ak|qO
 .obtain⟨k,hk,h1,h2⟩:=pQ h ha (by omega);have:=ZY h hb (l.length+1-k) k a [] (by omega) hk h1 h2 ak (by simp);rw[jv]at this;rw[this];refine⟨_,rfl,?_,λp hp=>?_,Z1 h hb _ k a (by omega) hk h1 h2 ak⟩
  .have:=ZZ (o:=o) (l:=l) (l.length+1-k) k a b;omega
  .obtain⟨a1,a2,a3,i,_,i2⟩:=Z0 h _ k a (by omega) h1 h2 ak p hp;exact⟨a1,a2,a3,i,i2⟩
 .rw[BU];simp only[j0s];rw[ah (by omega),j7,aW];exact⟨[],rfl,by simp,by simp,λx h1 h2=>by omega⟩
end
def gw(f t st:Int)(v:Int×Int):Int×Int:=(if st+v.1>f then st+v.1 else f,if st+v.2<t then st+v.2 else t)
theorem xo{s:Int}:∀{w:WL},hasB s w=true↔∃v∈w,v.1<=s/\s<v.2
 |[]=>by simp[hasB]
 |x::r=>by
  simp only[hasB,je];cases hc:cond (decide (x.1<=s)) (decide (s<x.2)) false with
  |true=>
   simp only[j6,true_iff];refine⟨x,Or.inl rfl,?_⟩;by_cases h1:x.1<=s
   .rw[ag h1,j6]at hc;exact⟨h1,kz hc⟩
   .rw[ah h1,j7]at hc;simp at hc
  |false=>
   simp only[j7];rw[xo (w:=r)];constructor
   .rintro⟨v,hv,h⟩;exact⟨v,Or.inr hv,h⟩
   .rintro⟨v,rfl|hv,h⟩
    .rw[ag h.1,ag h.2]at hc;simp at hc
    .exact⟨v,hv,h⟩
theorem Z3{w:WL}(hw:ei 0 w)(hl:w.length<=14){st f t q:Int}(aM : -1000000<=st)(cM:st<=8600000000)(a b:Int)(ps:List (Int×(Int×Int))):∀(n i:Nat)(acc:SL),i+n=w.length->acc.length+n<=1000000->
  IA w st a b w (w.length:Int) (i:Int) f t q acc ps=some (w,st,a,b,f,t,q,acc++(w.drop i).map (gw f t st),ps)
 |0,i,acc,hi,_=>by
  rw[WT];simp only[j3C];rw[ah (by omega),j7,aW,jd (by omega)];simp
 |n+1,i,acc,hi,ha=>by
  have ak:i<w.length:=by omega
  have aR:w.getD i ((0:Int),(0:Int))=w[i]:=by simp[ak]
  have hg:=xi hw i ak;rw[aR]at hg;rw[WT,jb ak];simp only[j3C];rw[ag (show (i:Int)<(w.length:Int) by omega),bz];simp only[j6,j8,aR];rw[ai (x:=(i:Int)+1),ai (x:=st+w[i].1),ai (x:=st+w[i].2),ag (by simp[aN];omega),j6,aK];have:=Z3 hw hl aM cM a b ps n (i+1) (acc++[gw f t st w[i]]) (by omega) (by simp;omega) (f:=f) (t:=t) (q:=q);rw[jj]at this;exact this
theorem jFR{w:WL}(hw:ei 0 w)(hl:w.length<=14){f t q:Int}(hf:0<=f)(ht:t<=8589934592)(jB:f<t)(a b:Int)(ps:List (Int×(Int×Int))):∀(m:Nat)(st:Int)(acc:SL), -1000000<=st->t<=st+604800*m->acc.length+14*m<=900000->
  ∃E,IB w st a b f t q acc ps=some (w,a,b,acc++E,ps)/\E.length<=w.length*m/\(∀s∈E,f<=s.1/\s.2<=t/\s.1<=100000000000 /\ -100000000000<=s.2)/\
   ∀x,bt x E↔f<=x/\x<t/\st<=x/\hasB ((x-st)%604800) w=true:=by
 intro m;induction m with
 |zero=>intro st acc aM hm _;rw[WU];simp only[j3D];rw[ah (by omega),j7,aW];exact⟨[],by simp,by simp,by simp,λx=>⟨λh=>absurd h fU,λh=>by omega⟩⟩
 |succ m ih=>
  intro st acc aM hm dZ;rw[WU];simp only[j3D,show Int.ofNat (List.length w)=(w.length:Int) from rfl];by_cases ak:st<t
  .have h4:=Z3 hw hl aM (by omega) a b ps w.length 0 acc (by omega) (by omega) (f:=f) (t:=t) (q:=q);rw[show ((0:Nat):Int)=0 from rfl,jr]at h4;rw[ag ak,j6,h4];simp only[j4];rw[ai (x:=st+604800),aK];obtain⟨E,e,h1,h2,h3⟩:=ih (st+604800) (acc++w.map (gw f t st)) (by omega) (by omega) (by simp;omega);refine⟨w.map (gw f t st)++E,?_,?_,?_,λx=>?_⟩
   .rw[jj]at e;exact e
   .rw[jg,k5,Nat.mul_succ];omega
   .intro s hs;rcases jn.1 hs with hs|hs
    .obtain⟨v,hv,rfl⟩:=jt.1 hs;obtain⟨i,hi,rfl⟩:=vg hv;have hg:=xi hw i hi;rw[show w.getD i (0,0)=w[i] by simp[hi]]at hg;simp only[gw];refine⟨?_,?_,?_,?_⟩<;>split<;>omega
    .exact h2 s hs
   .rw[xn,h3 x];constructor
    .rintro (⟨s,hs,pF,nv⟩|⟨a1,a2,a3,a4⟩)
     .obtain⟨v,hv,rfl⟩:=jt.1 hs;have gI:=hv;obtain⟨i,hi,rfl⟩:=vg hv;have hg:=xi hw i hi;rw[show w.getD i (0,0)=w[i] by simp[hi]]at hg;simp only[gw]at pF nv;have b1:f<=x/\st+w[i].1<=x:=by split at pF<;>omega
      have b2:x<t/\x<st+w[i].2:=by split at nv<;>omega
      refine⟨b1.1,b2.1,by omega,xo.2 ⟨w[i],gI,?_,?_⟩⟩<;>omega
     .refine⟨a1,a2,by omega,?_⟩;rw[show (x-st)%604800=(x-(st+604800))%604800 by omega];exact a4
    .rintro⟨a1,a2,a3,a4⟩
     by_cases hx:st+604800<=x
     .refine Or.inr ⟨a1,a2,hx,?_⟩;rw[show (x-(st+604800))%604800=(x-st)%604800 by omega];exact a4
     .obtain⟨v,hv,c1,c2⟩:=xo.1 a4;have e1:(x-st)%604800=x-st:=by omega
      rw[e1]at c1 c2;refine Or.inl ⟨gw f t st v,jt.2 ⟨v,hv,rfl⟩,?_,?_⟩<;>simp only[gw]<;>split<;>omega
  .rw[ah ak,j7,aW];exact⟨[],by simp,by simp,by simp,λx=>⟨λh=>absurd h fU,λh=>by omega⟩⟩
theorem Z5{w:WL}(hw:ei 0 w)(hl:w.length<=14){ps:List (Int×(Int×Int))}{M:Nat}(hM:M<=60)(kU:ps.length<=30){lo hi:Int}(iu:0<=lo)(ig:hi<=8589934592)
  (hP:∀p∈ps,lo<=p.1/\p.1<p.2.1/\p.2.1<=hi /\ -64800<=p.2.2/\p.2.2<=64800/\p.2.1-p.1<=604800*M):∀(n i:Nat)(acc:SL),i+n=ps.length->acc.length<=854*i->
  ∃E,IC w (ps.length:Int) (i:Int) acc ps=some (acc++E)/\E.length<=w.length*(M+1)*n/\(∀s∈E,lo<=s.1/\s.2<=hi/\s.1<=100000000000 /\ -100000000000<=s.2)/\
   ∀x,bt x E↔∃p∈ps.drop i,p.1<=x/\x<p.2.1/\hasB ((x+p.2.2+259200)%604800) w=true
 |0,i,acc,hi,_=>by
  rw[WV];simp only[j3E];rw[ah (by omega),j7,aW,jd (by omega)];exact⟨[],by simp,by simp,by simp,λx=>⟨λh=>absurd h fU,λ⟨p,hp,_⟩=>by simp at hp⟩⟩
 |n+1,i,acc,hi,dZ=>by
  have ak:i<ps.length:=by omega
  have aR:ps.getD i ((0:Int),((0:Int),(0:Int)))=ps[i]:=by simp[ak]
  obtain⟨p1,p2,p3,p4,p5,p6⟩:=hP ps[i] (jf ak);have Z6:w.length*(M+1)<=854:=q9 (ql hl (show M+1<=61 by omega)) (by decide);rw[WV,jb ak];simp only[j3E];rw[ag (show (i:Int)<(ps.length:Int) by omega),bz];simp only[j6,j8,aR];rw[ai (x:=ps[i].1+ps[i].2.2),ai (x:=ps[i].1+ps[i].2.2 - -259200),xg (by omega)];rw[ai (x:=ps[i].1+ps[i].2.2 - -259200-(ps[i].1+ps[i].2.2 - -259200)%604800)];rw[ai (x:=ps[i].1+ps[i].2.2 - -259200-(ps[i].1+ps[i].2.2 - -259200)%604800 + -259200)];rw[ai (x:=ps[i].1+ps[i].2.2 - -259200-(ps[i].1+ps[i].2.2 - -259200)%604800 + -259200-ps[i].2.2)];generalize aM:ps[i].1+ps[i].2.2 - -259200-(ps[i].1+ps[i].2.2 - -259200)%604800 + -259200-ps[i].2.2=st;obtain⟨E1,e1,l1,b1,m1⟩:=jFR hw hl (f:=ps[i].1) (t:=ps[i].2.1) (q:=ps[i].2.2) (by omega) (by omega) p2 (ps.length:Int) (i:Int) ps (M+1) st acc (by omega) (by omega) (by omega);rw[e1];simp only[j4];rw[ai (x:=(i:Int)+1),aK];obtain⟨E2,e2,l2,b2,m2⟩:=Z5 hw hl hM kU iu ig hP n (i+1) (acc++E1) (by omega) (by simp;omega);refine⟨E1++E2,?_,?_,?_,λx=>?_⟩
  .rw[jj]at e2;exact e2
  .rw[jg,Nat.mul_succ];omega
  .intro s hs;rcases jn.1 hs with hs|hs
   .have:=b1 s hs;omega
   .exact b2 s hs
  .rw[xn,m1 x,m2 x];have key:∀x,ps[i].1<=x->(x-st)%604800=(x+ps[i].2.2+259200)%604800/\st<=x:=by intro x hx;omega
   constructor
   .rintro (⟨c1,c2,c3,c4⟩|⟨p,hp,h⟩)
    .exact⟨ps[i],v2 ..,c1,c2,by rw[<-(key x c1).1];exact c4⟩
    .exact⟨p,qr _ hp,h⟩
   .rintro⟨p,hp,c1,c2,c3⟩
    rcases je.1 hp with rfl|hp
    .exact Or.inl ⟨c1,c2,(key x c1).2,by rw[(key x c1).1];exact c3⟩
    .exact Or.inr ⟨p,hp,c1,c2,c3⟩
theorem Rr{o:Int}{l:bn}(h:gW o l)(eE:l.length<=20){w:WL}(hw:ei 0 w)(hl:w.length<=14){M:Nat}(hM:M<=60){a b:Int}(ha:0<=a)(bG:a<=b)(hb:b<=8589934592)(hlen:b-a<=604800*M) :
  ∃out,j31 (o,l) w a b=some out/\bP (a-1) out/\(∀u∈out,a<=u.1/\u.2<=b)/\out.length<=w.length*(M+1)*(l.length+1)/\
   ∀k,k<=l.length->∀x,a<=x->x<b->aO l k<=x->x<aO l (k+1)->(bt x out↔hasB ((x+ba o l k+259200)%604800) w=true):=by
 obtain⟨ps,e,pl,pm,pc⟩:=Z2 h ha bG hb
 obtain⟨E,e1,l1,b1,m1⟩:=Z5 hw hl hM (ps:=ps) (by omega) (lo:=a) (hi:=b) ha hb (λp hp=>by
  obtain⟨h1,h2,h3,i,i1,i2,_⟩:=pm p hp;have:=h.of0 i i1;have:=h.of1 i i1;exact⟨h1,h2,h3,by omega,by omega,by omega⟩) ps.length 0 [] (by omega) (by simp)
 rw[show ((0:Nat):Int)=0 from rfl,jv]at e1;have Z6:w.length*(M+1)<=854:=q9 (ql hl (show M+1<=61 by omega)) (by decide);have Z7:E.length<=w.length*(M+1)*(l.length+1):=q9 l1 (Nat.mul_le_mul_left _ pl);have hEl2:E.length<=854*21:=q9 Z7 (ql Z6 (by omega));obtain⟨out,e2,s1,s2,s3,s4⟩:=Gm (l:=E) (by omega) (λs hs=>by have:=b1 s hs;omega) (lo:=a) (hi:=b) (λs hs _=>⟨(b1 s hs).1,(b1 s hs).2.1⟩);refine⟨out,?_,s1,s4,by omega,λk hk x pF nv dJ ga=>?_⟩
 .simp only[j31,e,j4,show Int.ofNat (List.length ps)=(ps.length:Int) from rfl,e1,e2]
 .rw[s2 x,m1 x,jr];constructor
  .rintro⟨p,hp,c1,c2,c3⟩
   obtain⟨h1,h2,h3,i,i1,i2,i3,i4⟩:=pm p hp;have:i=k:=F4 h i1 hk (t:=x) (by omega) (by omega) dJ ga;subst this;rw[<-i2];exact c3
  .intro hx;obtain⟨p,hp,c1,c2⟩:=pc x pF nv;obtain⟨h1,h2,h3,i,i1,i2,i3,i4⟩:=pm p hp;have:i=k:=F4 h i1 hk (t:=x) (by omega) (by omega) dJ ga;subst this;exact⟨p,hp,c1,c2,by rw[i2];exact hx⟩
theorem Al{o:Int}{rs:List aD}(hm:MZ o rs):(cj o (ff (occs rs))).length<=4:=by
 have h1:=JH (ff (occs rs)) o;have h2:(ff (occs rs)).length=(occs rs).length:=by unfold ff;rw[List.length_reverse,FW];simp
 have:=hm.few;omega
theorem Z8{o:Int}{rs:List aD}(hm:MZ o rs):(cj o (ff (occs rs))).length<=20:=q9 (Al hm) (by omega)
end Go.Proofs.Pw
