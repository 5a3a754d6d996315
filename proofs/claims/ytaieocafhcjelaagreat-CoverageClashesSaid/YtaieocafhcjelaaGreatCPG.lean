/- mU 11: N1 is on qO in a V9. -/
import Derived.Test.YtaieocafhcjelaaGreatCPE
import Derived.Test.YtaieocafhcjelaaGreatCPF
import Derived.Test.YtaieocafhcjelaaGreatCPA
import Derived.Test.YtaieocafhcjelaaGreatCFns
import Derived.Test.YtaieocafhcjelaaGreatCPC
open Go Go.Lft
namespace Go.Proofs.Pw
def tb(z:bU):Int×bE:=(z.2.1,bX z.2.1 (dZ (occs z.2.2)))
theorem iu.ztab{z:bU}(h:iu z):qJ z (tb z).2:=MZ.tab (o:=z.2.1) (rs:=z.2.2) h z.1
theorem iu.zdif{z:bU}(h:iu z):VK z.2.1 (tb z).2:=NC _ _ _ (MZ.good h)
theorem iu.zref{z:bU}(h:iu z):qJ z (tb z).2/\Z4 z (tb z).2/\VK z.2.1 (tb z).2:=⟨h.ztab,MZ.r4 (o:=z.2.1) (rs:=z.2.2) h z.1,h.zdif⟩
theorem Wa{zs:List bU}(h:∀z∈zs,iu z)(hl:zs.length<=100):∀(n i:Nat),i+n=zs.length->xo zs (zs.length:Int) (i:Int) ((zs.take i).map tb)=some (zs.map tb)
 |0,i,hi=>by
  rw[SH];simp only[j2N];rw[ah (by omega),j6,aU,List.take_of_length_le (by omega)]
 |n+1,i,hi=>by
  have aA:i<zs.length:=by omega
  have bj:zs.getD i (ByteArray.empty,((0:Int),([]:List aO)))=zs[i]:=by simp[aA]
  have ht:=jEE (h zs[i] (je aA)).ztab;have ih:=Wa h hl n (i+1) (by omega);rw[ko,jh aA,zq]at ih;rw[SH];simp only[j2N];rw[ag (by omega),aR (by omega) (by omega),aj (x:=(i:Int)+1) (by omega) (by omega)];simp only[j5,j7,bj];rw[show jhz (zs[i].1,(zs[i].2.1,zs[i].2.2))=_ from ht];simp only[j3];rw[ag (by simp[aY];omega),j5,aJ];exact ih
theorem jCs{zs:List bU}(h:∀z∈zs,iu z)(hl:zs.length<=100){ps:List dH}{cs:List bt}{ss:List cS}:jdj (zs,(ps,(cs,ss)))=some ((zs,(ps,(cs,ss))),zs.map tb):=by
 have lp:=Wa h hl zs.length 0 (by omega);simp only[jdj,jba,show Int.ofNat zs.length=(zs.length:Int) from rfl];rw[show xo zs (zs.length:Int) 0 []=_ from lp];rfl
theorem N2{zs:List bU}{i:Int}(h0:0<=i)(h1:i<(zs.length:Int)):List.getD (zs.map tb) i.toNat ((0:Int),([]:bE))=tb (zs.getD i.toNat (ByteArray.empty,((0:Int),([]:List aO)))):=by
 have aA:i.toNat<zs.length:=by omega
 simp[List.getD_eq_getElem?_getD,aA]
theorem iw{zs:List bU}(h:∀z∈zs,iu z){i:Int}(h0:0<=i)(h1:i<(zs.length:Int)):iu (zs.getD i.toNat (ByteArray.empty,((0:Int),([]:List aO)))):=by
 have aA:i.toNat<zs.length:=by omega
 rw[List.getD_eq_getElem?_getD,jh aA];exact h _ (je aA)
theorem jAH(a b:Int):jeD a b=some (decide (a<b)):=by
 simp only[jeD,jcS,j3,jj,j6]
theorem N3{ds:List Int}(hs:ds.Pairwise (· < ·))(hl:ds.length<=64){x:Int}:∀(n a b:Nat),b-a<=n->a<=b->b<=ds.length->(∀i,(hi:i<ds.length)->i<a->ds[i]<x)->(∀i,(hi:i<ds.length)->b<=i->x<=ds[i])->
  ∃k:Nat,Ac ds x (ds.length:Int) (a:Int) (b:Int)=some (ds,x,(ds.length:Int),(k:Int))/\k<=ds.length/\(∀i,(hi:i<ds.length)->i<k->ds[i]<x)/\∀i,(hi:i<ds.length)->k<=i->x<=ds[i]
 |n,a,b,hn,cj,hb,h1,h2=>by
  rw[ja8];simp only[j2j];by_cases aA:a<b
  .have hm:IntKind.wrap .u64 ((a:Int)+(b:Int))=(a:Int)+(b:Int):=IntWalk.u64_in _ ⟨by omega,by omega⟩;have hd:Int.fdiv ((a:Int)+(b:Int)) 2=(((a+b)/2:Nat):Int):=by rw[Int.fdiv_eq_ediv_of_nonneg _ (by omega)];omega
   have BN:(a+b)/2<ds.length:=by omega
   have bj:ds.getD ((a+b)/2) (0:Int)=ds[(a+b)/2]:=by simp[BN]
   rw[ag (show (a:Int)<(b:Int) by omega),aj (x:=(a:Int)+(b:Int)) (by omega) (by omega),hm,hd,aj (x:=(((a+b)/2:Nat):Int)) (by omega) (by omega),aR (by omega) (by omega),aj (x:=(((a+b)/2:Nat):Int)+1) (by omega) (by omega)];simp only[j5,j7,bj,jAH,j3];cases n with
   |zero=>omega
   |succ n=>
    by_cases hc:ds[(a+b)/2]<x
    .rw[ag hc,j5,aJ];refine N3 hs hl n ((a+b)/2+1) b (by omega) (by omega) hb (λi hi hia=>?_) h2;by_cases he:i=(a+b)/2
     .subst he;exact hc
     .exact Int.lt_trans (kr.1 hs i ((a+b)/2) hi BN (by omega)) hc
    .rw[ah hc,j6,aJ];refine N3 hs hl n a ((a+b)/2) (by omega) (by omega) (by omega) h1 (λi hi hia=>?_);by_cases he:i=(a+b)/2
     .subst he;exact Int.not_lt.1 hc
     .exact qy (Int.not_lt.1 hc) (Int.le_of_lt (kr.1 hs ((a+b)/2) i BN hi (by omega)))
  .have:a=b:=by omega
   subst this;rw[ah (by omega),j6,aU];exact⟨a,rfl,hb,h1,h2⟩
def okW(w:WL)(s:Int):Bool:=cond (decide ((w.length:Int)>0)) (hasB s w) true
section
variable{zs:List bU}{ps:List dH}{cs:List bt}{ss:List cS}(hz:∀z∈zs,iu z)
include hz
def qP(L:bP)(K:Int):Int:=L.2.2.2.2.2.1.getD (Int.tmod K (L.2.2.2.2.2.1.length:Int)).toNat 0
end
theorem eD.rt{nz np nc:Nat}{L:bP}(h:eD nz np nc L)(hd:L.2.2.1.1<=100000):Rt L:=
 ⟨h.d0,hd,h.c0,h.c1,h.u0,h.u1,h.e0,h.e1,λhn=>h.m0 (by rw[hn];rfl)⟩
theorem jDL{z:bU}(hz:iu z){t:Int}(h0:0<=t)(h1:t<=8589934592):∃d s,j1C (tb z) t=some d/\j76 d=some s:=by
 have ht:=hz.ztab;obtain⟨j,hj,j1,j2⟩:=xP ht.2 h0 h1;have o0:=ht.2.of0 j hj;have o1:=ht.2.of1 j hj;obtain⟨s,hs⟩:∃s,j76 ((t+bB z.2.1 (tb z).2 j)/86400,(t+bB z.2.1 (tb z).2 j)%86400)=some s:=by simp only[j76,UX,j3];exact⟨_,rfl⟩
 exact⟨_,s,DP ht.2 hj j1 j2,hs⟩
abbrev SL:=List (Int×Int)
def bN(x:Int)(l:SL):Prop:=∃s∈l,s.1<=x/\x<s.2
def ct(p:Int):SL->Prop
 |[]=>True
 |x::r=>p<x.1/\x.1<x.2/\ct x.2 r
def Sml(l:SL):Prop:=∀s∈l, -1000000000000<=s.1/\s.1<=1000000000000 /\ -1000000000000<=s.2/\s.2<=1000000000000
theorem gJ{x:Int}:¬bN x []:=by rintro⟨s,hs,_⟩;simp at hs
theorem eU{x:Int}{s:Int×Int}{l:SL}:bN x (s::l)↔(s.1<=x/\x<s.2)\/bN x l:=by
 constructor
 .rintro⟨u,hu,h⟩
  rcases jg.1 hu with rfl|hu
  .exact Or.inl h
  .exact Or.inr ⟨u,hu,h⟩
 .rintro (h|⟨u,hu,h⟩)
  .exact⟨s,by simp,h⟩
  .exact⟨u,by simp[hu],h⟩
theorem G2{x:Int}{l r:SL}:bN x (l++r)↔bN x l\/bN x r:=by
 constructor
 .rintro⟨u,hu,h⟩
  rcases jn.1 hu with hu|hu
  .exact Or.inl ⟨u,hu,h⟩
  .exact Or.inr ⟨u,hu,h⟩
 .rintro (⟨u,hu,h⟩|⟨u,hu,h⟩)
  .exact⟨u,by simp[hu],h⟩
  .exact⟨u,by simp[hu],h⟩
def nE(s:Int×Int):Bool:= !(decide (s.2<=s.1))
theorem Wb{l:SL}(hl:l.length<=10000000):∀(n i:Nat),i+n=l.length->(∀s∈l.take i,nE s=true)->
  (∃j:Nat,xt (l.length:Int) (i:Int) l=some (.inl ((j:Int),l))/\j<l.length/\(∀s∈l.take j,nE s=true)/\nE (l.getD j (0,0))=false)\/
  (xt (l.length:Int) (i:Int) l=some (.inr l)/\∀s∈l,nE s=true)
 |0,i,hi,h=>by
  rw[SO];simp only[j0R];rw[ah (by omega),j6,aU];rw[List.take_of_length_le (by omega)]at h;exact Or.inr ⟨rfl,h⟩
 |n+1,i,hi,h=>by
  rw[SO];simp only[j0R,ja7];rw[ag (show (i:Int)<(l.length:Int) by omega),aR (by omega) (by omega),aj (x:=(i:Int)+1) (by omega) (by omega)];simp only[j5,j7,j3];have aA:i<l.length:=by omega
  cases hc:decide ((l.getD i ((0:Int),(0:Int))).2<=(l.getD i ((0:Int),(0:Int))).1) with
  |true=>simp only[j5,aU];exact Or.inl ⟨i,rfl,aA,h,by simp only[nE];rw[hc];rfl⟩
  |false=>
   simp only[j6,aJ];refine Wb hl n (i+1) (by omega) λs hs=>?_;rw[ko]at hs;rcases jn.1 hs with hs|hs
   .exact h s hs
   .have bj:l.getD i ((0:Int),(0:Int))=l[i]:=by simp[aA]
    rw[bj]at hc;rw[jh aA]at hs;simp at hs;subst hs;simp only[nE];rw[hc];rfl
theorem N4{l:SL}(hl:l.length<=10000000):∀(n i j:Nat)(b:SL),j+n=l.length->i<=j->b.length=l.length->b.drop j=l.drop j->b.take i=(l.take j).filter nE->
  ∃(k:Nat)(b':SL),zV (i:Int) (j:Int) b=some ((k:Int),b')/\b'.length=l.length/\k<=l.length/\b'.take k=l.filter nE
 |0,i,j,b,hj,dP,hb,hd,ht=>by
  rw[SP];simp only[j0M,show Int.ofNat (List.length b)=(b.length:Int) from rfl];rw[ah (by omega),j6,aU];rw[List.take_of_length_le (l:=l) (by omega)]at ht;exact⟨i,b,rfl,hb,by omega,ht⟩
 |n+1,i,j,b,hj,dP,hb,hd,ht=>by
  have aA:j<l.length:=by omega
  have N5:b.getD j ((0:Int),(0:Int))=l[j]:=by
   have:b[j]? = l[j]? := by
    have h:=jp (λx=>x[0]?) hd;simpa[List.getElem?_drop]using h
   rw[List.getD_eq_getElem?_getD,this,jh aA];rfl
  have gg:b.drop (j+1)=l.drop (j+1):=by have:=jp (List.drop 1) hd;simpa[List.drop_drop]using this
  have nv:l.take (j+1)=l.take j++[l[j]]:=by rw[ko,jh aA];rfl
  rw[SP];simp only[j0M,ja7,show Int.ofNat (List.length b)=(b.length:Int) from rfl];rw[ag (show (j:Int)<(b.length:Int) by omega),aR (by omega) (by omega),aR (by omega) (by omega),aj (x:=(j:Int)+1) (by omega) (by omega),aj (x:=(i:Int)+1) (by omega) (by omega)];simp only[j5,j7,j3,N5];cases hc:decide (l[j].2<=l[j].1) with
  |true=>simp only[ji,j6,aJ];refine N4 hl n i (j+1) b (by omega) (by omega) hb gg ?_;rw[nv,va,ht];simp[nE,hc]
  |false=>
   simp only[jt,j5,aJ];refine N4 hl n (i+1) (j+1) _ (by omega) (by omega) (by simpa using hb) ?_ ?_
   .rw[List.drop_set_of_lt (by omega)];exact gg
   .have Br:i<b.length:=by omega
    rw[ko,List.take_set_of_le (jl _),List.getElem?_set_self Br,ht,nv,va];simp[nE,hc]
theorem jz2{l:SL}(hl:l.length<=10000000):∃n m,j0z l=some (n,m)/\m.take n.toNat=l.filter nE:=by
 simp only[j0z,j13,show Int.ofNat (List.length l)=(l.length:Int) from rfl];rcases Wb hl l.length 0 (by omega) (by simp) with⟨j,e,hj,h1,h2⟩|⟨e,h⟩
 .rw[show ((0:Nat):Int)=0 from rfl]at e;rw[e];simp only[j3,JF];rw[bW (by omega),aj (x:=(j:Int)+1) (by omega) (by omega)];have bj:l.getD j ((0:Int),(0:Int))=l[j]:=by simp[hj]
  rw[bj]at h2
  obtain⟨k,b,e2,hb,hk,ht⟩:=N4 hl (l.length-(j+1)) j (j+1) l (by omega) (by omega) rfl rfl (by
   rw[ko,jh hj,va,List.filter_eq_self.2 h1];simp[h2])
  rw[show ((j:Int)+1)=((j+1:Nat):Int) from rfl,e2];simp only[j6,j3,show Int.ofNat (List.length b)=(b.length:Int) from rfl,j7];rw[ag (show (0:Int)<=(k:Int) by omega),ag (show (k:Int)<=(b.length:Int) by omega)];simp only[Bool.and_self,j5,Bool.true_and];rw[ag (by simp;omega),j5];refine⟨_,_,rfl,?_⟩;simp only[show (Int.ofNat k).toNat=k from rfl];rw[qv (by simp;omega),y8,Nat.min_self,ht]
 .rw[show ((0:Nat):Int)=0 from rfl]at e;rw[e];simp only[j3,jK,qj,j5];refine⟨_,_,rfl,?_⟩;simp only[show (Int.ofNat l.length).toNat=l.length from rfl];rw[List.take_of_length_le (jl _),List.filter_eq_self.2 h]
def kB(e:Int×Int):SL->SL
 |[]=>[e]
 |s::r=>if s.1<=e.2 then kB (e.1,if s.2>e.2 then s.2 else e.2) r else e::kB s r
def mg:SL->SL
 |[]=>[]
 |s::r=>kB s r
theorem N6{L:SL}(hL:L.length<=10000000):∀(n i:Nat)(A:SL)(e:Int×Int),i+n=L.length->A.length<i->
  xu (L.length:Int) (i:Int) (A++[e]) L=some (A++kB e (L.drop i))
 |0,i,A,e,hi,hA=>by
  rw[Kl];simp only[j4G];rw[ah (by omega),j6,aU,jf (by omega)];rfl
 |n+1,i,A,e,hi,hA=>by
  have aA:i<L.length:=by omega
  have bj:L.getD i ((0:Int),(0:Int))=L[i]:=by simp[aA]
  have hle:(A++[e]).length=A.length+1:=by simp
  have nr:(A++[e]).getD A.length ((0:Int),(0:Int))=e:=by simp
  rw[Kl,jc aA];simp only[j4G,kB,show Int.ofNat (List.length (A++[e]))=((A.length:Int)+1) from by rw[hle];rfl]
  rw[ag (show (i:Int)<(L.length:Int) by omega),aR (by omega) (by omega),ag (show (A.length:Int)+1>0 by omega),aj (x:=(A.length:Int)+1-1) (by omega) (by omega),aj (x:=(i:Int)+1) (by omega) (by omega),
   aR (by omega) (by rw[hle];omega),show ((A.length:Int)+1-1).toNat=A.length by omega]
  simp only[j5,j7,bj,nr];by_cases hc:L[i].1<=e.2
  .rw[ag hc,if_pos hc];simp only[j5,aJ]
   rw[show (A++[e]).set A.length (e.1,if L[i].2>e.2 then L[i].2 else e.2)=A++[(e.1,if L[i].2>e.2 then L[i].2 else e.2)] by
    rw[zd _ _ (jl _)];simp]
   exact N6 hL n (i+1) A _ (by omega) (by omega)
  .rw[ah hc,if_neg hc,ag (by rw[hle];simp[aY];omega)];simp only[j6,j5,aJ];have:=N6 hL n (i+1) (A++[e]) L[i] (by omega) (by rw[hle];omega);rw[show A++e::kB L[i] (L.drop (i+1))=A++[e]++kB L[i] (L.drop (i+1)) by simp];exact this
theorem jER{L:SL}(hL:L.length<=10000000):xu (L.length:Int) 0 [] L=some (mg L):=by
 rw[Kl];simp only[j4G];cases L with
 |nil=>rw[ah (by simp),j6,aU];rfl
 |cons s r=>rw[ag (show (0:Int)<((s::r).length:Int) by simp only[jm];omega),aR (by omega) (by simp only[jm];omega)];simp only[j5,show Int.ofNat (List.length ([]:SL))=0 from rfl];rw[ah (show¬((0:Int)>0) by omega),j6,ag (by simp[aY]),aj (x:=(0:Int)+1) (by omega) (by omega)];simp only[j5,aJ];have:=N6 hL r.length 1 [] s (by simp;omega) (by simp);simpa[mg]using this
def Ed:SL->Prop
 |[]=>True
 |s::r=>(∀u∈r,s.1<=u.1)/\Ed r
theorem N7:∀{r:SL}{e:Int×Int}{p:Int},p<e.1->e.1<e.2->(∀s∈r,nE s=true)->Ed r->ct p (kB e r)
 |[],e,p,h1,h2,_,_=>⟨h1,h2,trivial⟩
 |s::r,e,p,h1,h2,h3,h4=>by
  simp only[kB];have hs:s.1<s.2:=by have:=h3 s (by simp);simp[nE]at this;omega
  split
  .exact N7 (by exact h1) (by dsimp only;split<;>omega) (λu hu=>h3 u (by simp[hu])) h4.2
  .exact⟨h1,h2,N7 (by omega) hs (λu hu=>h3 u (by simp[hu])) h4.2⟩
theorem N8{x:Int}:∀{r:SL}{e:Int×Int},(∀s∈r,e.1<=s.1)->(∀s∈r,nE s=true)->Ed r->(bN x (kB e r)↔(e.1<=x/\x<e.2)\/bN x r)
 |[],e,_,_,_=>by simp[kB,bN]
 |s::r,e,h1,h3,h4=>by
  have hs:s.1<s.2:=by have:=h3 s (by simp);simp[nE]at this;omega
  have he:e.1<=s.1:=h1 s (by simp);simp only[kB];split
  .rw[N8 (e:=(e.1,if s.2>e.2 then s.2 else e.2)) (λu hu=>h1 u (by simp[hu])) (λu hu=>h3 u (by simp[hu])) h4.2,eU];dsimp only;constructor
   .rintro (⟨a,b⟩|h)
    .split at b
     .by_cases hx:x<e.2
      .exact Or.inl ⟨a,hx⟩
      .exact Or.inr (Or.inl ⟨by omega,b⟩)
     .exact Or.inl ⟨a,b⟩
    .exact Or.inr (Or.inr h)
   .rintro (⟨a,b⟩|⟨a,b⟩|h)
    .exact Or.inl ⟨a,by split<;>omega⟩
    .exact Or.inl ⟨by omega,by split<;>omega⟩
    .exact Or.inr h
  .rw[eU,N8 h4.1 (λu hu=>h3 u (by simp[hu])) h4.2,eU]
theorem N9:∀(r:SL)(e:Int×Int),(kB e r).length<=r.length+1
 |[],e=>by simp[kB]
 |s::r,e=>by
  simp only[kB];split
  .have:=N9 r (e.1,if s.2>e.2 then s.2 else e.2);simp only[jm];omega
  .have:=N9 r s;simp only[jm];omega
theorem Oa{lo hi:Int}:∀{r:SL}{e:Int×Int},(lo<=e.1/\e.2<=hi)->(∀s∈r,lo<=s.1/\s.2<=hi)->∀u∈kB e r,lo<=u.1/\u.2<=hi
 |[],e,h1,h2=>by simp only[kB];intro u hu;simp at hu;subst hu;exact h1
 |s::r,e,h1,h2=>by
  have hs:=h2 s (by simp);simp only[kB];split
  .exact Oa ⟨h1.1,by dsimp only;split<;>omega⟩ (λu hu=>h2 u (by simp[hu]))
  .intro u hu;rcases jg.1 hu with rfl|hu
   .exact h1
   .exact Oa hs (λu hu=>h2 u (by simp[hu])) u hu
theorem jDM{L:SL}(h:L.Pairwise (λx y=>¬w64 (y.1-x.1)<0))(hb:Sml L):Ed L:=by
 induction L with
 |nil=>trivial
 |cons s r ih=>rw[kq]at h;refine⟨λu hu=>?_,ih h.2 (λv hv=>hb v (by simp[hv]))⟩;have h1:=h.1 u hu;have h2:=hb s (by simp);have h3:=hb u (by simp[hu]);rw[aj (x:=u.1-s.1) (by omega) (by omega)]at h1;omega
theorem jAI:Go.Sort.SWO (Go.Proofs.ltOf λ(x y:Go.Lft.Sml (.pair (.int .i64) (.int .i64)))=>(j8B x.1 y.1).getD 0):=by
 refine FT (λx=>x.1.1) (λx=>?_) _ λx y=>rfl;have:=x.2;simp only[gE,jb,jq]at this;exact this.1
theorem jCv{l:SL}(hl:l.length<=10000000)(hb:Sml l):∃L,j1r l=some L/\L.Perm l/\Ed L:=by
 obtain⟨L,e,hp,hs⟩:=R7 (a:= .pair (.int .i64) (.int .i64)) (cf:=λx y=>(j8B x y).getD 0) jAI (xs:=l) (λx hx=>by
  have:=hb x hx;simp only[gE,jb,jq];refine⟨⟨?_,?_⟩,⟨?_,?_⟩⟩
  .exact qy (by decide) this.1
  .exact qy this.2.1 (by decide)
  .exact qy (by decide) this.2.2.1
  .exact qy this.2.2.2 (by decide)) (by show List.length l<_;omega)
 exact⟨L,e,hp,jDM hs λs hm=>hb s (hp.mem_iff.1 hm)⟩
theorem G3{l:SL}(hl:l.length<=10000000)(hb:Sml l){lo hi:Int}(jC:∀s∈l,s.1<s.2->lo<=s.1/\s.2<=hi) :
  ∃out,j6F l=some out/\ct (lo-1) out/\(∀x,bN x out↔bN x l)/\out.length<=l.length/\∀u∈out,lo<=u.1/\u.2<=hi:=by
 obtain⟨n,m,e1,ht⟩:=jz2 hl;have eV:(l.filter nE).length<=l.length:=List.length_filter_le _ _;obtain⟨L,e2,hp,hs⟩:=jCv (l:=l.filter nE) (by omega) (λs h=>hb s (vv.1 h).1);have hLl:L.length=(l.filter nE).length:=hp.length_eq;have Ax:∀s,s∈L↔s∈l/\nE s=true:=λs=>hp.mem_iff.trans vv
 have Wc:∀x,bN x L↔bN x l:=by
  intro x;constructor
  .rintro⟨s,h,h2⟩;exact⟨s,((Ax s).1 h).1,h2⟩
  .rintro⟨s,h,h2⟩;exact⟨s,(Ax s).2 ⟨h,by simp only[nE];rw[ah (by omega)];rfl⟩,h2⟩
 have bq:∀s∈L,s.1<s.2:=λs h=>by have:=((Ax s).1 h).2;simp[nE]at this;omega
 refine⟨mg L,?_,?_⟩
 .simp only[j6F,j4p];rw[ag (by simp[aY];omega)];simp only[j5,j3,jo,e1,ht,e2,show Int.ofNat (List.length L)=(L.length:Int) from rfl,jER (L:=L) (by omega)]
 .cases L with
  |nil=>refine⟨trivial,λx=>Wc x,by simp[mg],by simp[mg]⟩
  |cons s r=>
   have h0:=jC s ((Ax s).1 (by simp)).1 (bq s (by simp));have hr:∀u∈r,nE u=true:=λu hu=>((Ax u).1 (by simp[hu])).2;refine⟨N7 (by omega) (bq s (by simp)) hr hs.2,λx=>?_,?_,?_⟩
   .rw[<-Wc x,eU];exact N8 hs.1 hr hs.2
   .have:=N9 r s;simp only[mg,jm]at *;omega
   .exact Oa h0 λu hu=>jC u ((Ax u).1 (by simp[hu])).1 (bq u (by simp[hu]))
def oM(o:Int)(l:bE)(a b:Int)(k:Nat):Nat->List (Int×(Int×Int))
 |0=>[]
 |n+1=>if bc l (k+1)<b then (a,(bc l (k+1),bB o l k))::oM o l (bc l (k+1)) b (k+1) n else [(a,(b,bB o l k))]
section
variable{o:Int}{l:bE}(h:iq o l)
include h
theorem Wd{b:Int}(hb:b<=8589934592):∀(n k:Nat)(a:Int)(acc:List (Int×(Int×Int))),k+n=l.length+1->k<=l.length->bc l k<=a->a<bc l (k+1)->a<b->acc.length<=k->
  uN a b o l acc=some (acc++oM o l a b k n)
 |0,k,a,acc,hn,hk,_,_,_,_=>by omega
 |n+1,k,a,acc,hn,hk,h1,h2,cj,ha=>by
  have hlen:=h.len;rw[zT];simp only[j0r,show Int.ofNat (List.length l)=(l.length:Int) from rfl,oM];rw[ag cj];simp only[j5,Nf h hk h1 h2,Ng h hk,j3];by_cases jG:k<l.length
  .have hf:bc l (k+1)=(l.getD k ((0:Int),(0:Int))).1:=mq jG;rw[ag (show (k:Int)<(l.length:Int) by omega),aR (by omega) (by omega)];simp only[j5,j7,<-hf];rw[ag (by simp[aY];omega),j5,aJ];by_cases hc:bc l (k+1)<b
   .rw[if_pos hc,if_pos hc];have:=Wd hb n (k+1) (bc l (k+1)) (acc++[(a,(bc l (k+1),bB o l k))]) (by omega) (by omega) (by omega) (h.frm_lt (by omega)) hc (by simp;omega);rw[jd]at this;exact this
   .rw[if_neg hc,if_neg hc];rw[zT];simp only[j0r];rw[ah (by omega),j6,aU]
  .have cg:k=l.length:=by omega
   have hf:bc l (k+1)=8589934593:=by rw[cg];exact nQ
   rw[if_neg (show¬bc l (k+1)<b by omega),ah (by omega),j6,ag (by simp[aY];omega),j5,aJ];rw[zT];simp only[j0r];rw[ah (by omega),j6,aU]
omit h in
theorem We:∀(n k:Nat)(a b:Int),(oM o l a b k n).length<=n
 |0,k,a,b=>by simp[oM]
 |n+1,k,a,b=>by
  simp only[oM];split
  .have:=We n (k+1) (bc l (k+1)) b;simp;omega
  .simp
theorem Wh{b:Int}:∀(n k:Nat)(a:Int),k+n=l.length+1->bc l k<=a->a<bc l (k+1)->a<b->
  ∀p∈oM o l a b k n,a<=p.1/\p.1<p.2.1/\p.2.1<=b/\∃i,k<=i/\i<=l.length/\p.2.2=bB o l i/\bc l i<=p.1/\p.2.1<=bc l (i+1)
 |0,k,a,hn,h1,h2,cj,p,hp=>by simp[oM]at hp
 |n+1,k,a,hn,h1,h2,cj,p,hp=>by
  simp only[oM]at hp;split at hp
  .rename_i hc;rcases jg.1 hp with rfl|hp
   .exact⟨ki _,h2,by dsimp only;omega,k,jl _,by omega,rfl,h1,ki _⟩
   .cases n with
    |zero=>simp[oM]at hp
    |succ n=>
    obtain⟨a1,a2,a3,i,i1,i2,i3⟩:=Wh (n+1) (k+1) (bc l (k+1)) (by omega) (ki _) (h.frm_lt (by omega)) hc p hp;exact⟨by omega,a2,a3,i,by omega,i2,i3⟩
  .rename_i hc;simp at hp;subst hp;exact⟨ki _,cj,ki _,k,jl _,by omega,rfl,h1,by dsimp only;omega⟩
theorem Wi{b:Int}(hb:b<=8589934592):∀(n k:Nat)(a:Int),k+n=l.length+1->k<=l.length->bc l k<=a->a<bc l (k+1)->a<b->
  ∀x,a<=x->x<b->∃p∈oM o l a b k n,p.1<=x/\x<p.2.1
 |0,k,a,hn,hk,h1,h2,cj,x,hx,nW=>by omega
 |n+1,k,a,hn,hk,h1,h2,cj,x,hx,nW=>by
  simp only[oM];split
  .rename_i hc;by_cases aA:x<bc l (k+1)
   .exact⟨_,zf ..,hx,aA⟩
   .have jG:k+1<=l.length:=by
     rcases qx k l.length with h'|h'
     .exact h'
     .have:k=l.length:=by omega
      subst this;rw[nQ]at hc;omega
    obtain⟨p,hp,tH⟩:=Wi hb n (k+1) (bc l (k+1)) (by omega) jG (ki _) (h.frm_lt jG) hc x (by omega) nW;exact⟨p,by simp[hp],tH⟩
  .exact⟨_,zf ..,hx,nW⟩
theorem Wj{a b:Int}(ha:0<=a)(cj:a<=b)(hb:b<=8589934592):∃ps,j1A (o,l) a b=some ps/\ps.length<=l.length+1/\
  (∀p∈ps,a<=p.1/\p.1<p.2.1/\p.2.1<=b/\∃i,i<=l.length/\p.2.2=bB o l i/\bc l i<=p.1/\p.2.1<=bc l (i+1))/\∀x,a<=x->x<b->∃p∈ps,p.1<=x/\x<p.2.1:=by
 simp only[j1A];rcases Int.lt_or_le a b with aA|nr
 .obtain⟨k,hk,h1,h2⟩:=xP h ha (by omega);have:=Wd h hb (l.length+1-k) k a [] (by omega) hk h1 h2 aA (by simp);rw[jo]at this;rw[this];refine⟨_,rfl,?_,λp hp=>?_,Wi h hb _ k a (by omega) hk h1 h2 aA⟩
  .have:=We (o:=o) (l:=l) (l.length+1-k) k a b;omega
  .obtain⟨a1,a2,a3,i,_,i2⟩:=Wh h _ k a (by omega) h1 h2 aA p hp;exact⟨a1,a2,a3,i,i2⟩
 .rw[zT];simp only[j0r];rw[ah (by omega),j6,aU];exact⟨[],rfl,by simp,by simp,λx h1 h2=>by omega⟩
end
def uZ(f t st:Int)(v:Int×Int):Int×Int:=(if st+v.1>f then st+v.1 else f,if st+v.2<t then st+v.2 else t)
theorem Ob{s:Int}:∀{w:WL},hasB s w=true↔∃v∈w,v.1<=s/\s<v.2
 |[]=>by simp[hasB]
 |x::r=>by
  simp only[hasB,jg];cases hc:cond (decide (x.1<=s)) (decide (s<x.2)) false with
  |true=>
   simp only[j5,true_iff];refine⟨x,Or.inl rfl,?_⟩;by_cases h1:x.1<=s
   .rw[ag h1,j5]at hc;exact⟨h1,q9 hc⟩
   .rw[ah h1,j6]at hc;simp at hc
  |false=>
   simp only[j6];rw[Ob (w:=r)];constructor
   .rintro⟨v,hv,h⟩;exact⟨v,Or.inr hv,h⟩
   .rintro⟨v,rfl|hv,h⟩
    .rw[ag h.1,ag h.2]at hc;simp at hc
    .exact⟨v,hv,h⟩
theorem Wk{w:WL}(hw:gW 0 w)(hl:w.length<=14){st f t q:Int}(aM : -1000000<=st)(dm:st<=8600000000)(a b:Int)(ps:List (Int×(Int×Int))):∀(n i:Nat)(acc:SL),i+n=w.length->acc.length+n<=1000000->
  zW w st a b w (w.length:Int) (i:Int) f t q acc ps=some (w,st,a,b,f,t,q,acc++(w.drop i).map (uZ f t st),ps)
 |0,i,acc,hi,_=>by
  rw[SQ];simp only[j4Y];rw[ah (by omega),j6,aU,jf (by omega)];simp
 |n+1,i,acc,hi,ha=>by
  have aA:i<w.length:=by omega
  have bj:w.getD i ((0:Int),(0:Int))=w[i]:=by simp[aA]
  have hg:=As hw i aA;rw[bj]at hg;rw[SQ,jc aA];simp only[j4Y];rw[ag (show (i:Int)<(w.length:Int) by omega),aR (by omega) (by omega)];simp only[j5,j7,bj];rw[aj (x:=(i:Int)+1) (by omega) (by omega),aj (x:=st+w[i].1) (by omega) (by omega),aj (x:=st+w[i].2) (by omega) (by omega),ag (by simp[aY];omega),j5,aJ];have:=Wk hw hl aM dm a b ps n (i+1) (acc++[uZ f t st w[i]]) (by omega) (by simp;omega) (f:=f) (t:=t) (q:=q);rw[jd]at this;exact this
theorem jES{w:WL}(hw:gW 0 w)(hl:w.length<=14){f t q:Int}(hf:0<=f)(ht:t<=8589934592)(h9:f<t)(a b:Int)(ps:List (Int×(Int×Int))):∀(m:Nat)(st:Int)(acc:SL), -1000000<=st->t<=st+604800*m->acc.length+14*m<=900000->
  ∃E,zX w st a b f t q acc ps=some (w,a,b,acc++E,ps)/\E.length<=w.length*m/\(∀s∈E,f<=s.1/\s.2<=t/\s.1<=100000000000 /\ -100000000000<=s.2)/\
   ∀x,bN x E↔f<=x/\x<t/\st<=x/\hasB ((x-st)%604800) w=true:=by
 intro m;induction m with
 |zero=>intro st acc aM hm _;rw[SR];simp only[j2x];rw[ah (by omega),j6,aU];exact⟨[],by simp,by simp,by simp,λx=>⟨λh=>absurd h gJ,λh=>by omega⟩⟩
 |succ m ih=>
  intro st acc aM hm ea;rw[SR];simp only[j2x,show Int.ofNat (List.length w)=(w.length:Int) from rfl];by_cases aA:st<t
  .have h4:=Wk hw hl aM (by omega) a b ps w.length 0 acc (by omega) (by omega) (f:=f) (t:=t) (q:=q);rw[show ((0:Nat):Int)=0 from rfl,kc]at h4;rw[ag aA,j5,h4];simp only[j3];rw[aj (x:=st+604800) (by omega) (by omega),aJ];obtain⟨E,e,h1,h2,h3⟩:=ih (st+604800) (acc++w.map (uZ f t st)) (by omega) (by omega) (by simp;omega);refine⟨w.map (uZ f t st)++E,?_,?_,?_,λx=>?_⟩
   .rw[jd]at e;exact e
   .rw[ja,qb,Nat.mul_succ];omega
   .intro s hs;rcases jn.1 hs with hs|hs
    .obtain⟨v,hv,rfl⟩:=ka.1 hs;obtain⟨i,hi,rfl⟩:=z8 hv;have hg:=As hw i hi;rw[show w.getD i (0,0)=w[i] by simp[hi]]at hg;simp only[uZ];refine⟨?_,?_,?_,?_⟩<;>split<;>omega
    .exact h2 s hs
   .rw[G2,h3 x];constructor
    .rintro (⟨s,hs,nF,nW⟩|⟨a1,a2,a3,a4⟩)
     .obtain⟨v,hv,rfl⟩:=ka.1 hs;have gm:=hv;obtain⟨i,hi,rfl⟩:=z8 hv;have hg:=As hw i hi;rw[show w.getD i (0,0)=w[i] by simp[hi]]at hg;simp only[uZ]at nF nW;have b1:f<=x/\st+w[i].1<=x:=by split at nF<;>omega
      have b2:x<t/\x<st+w[i].2:=by split at nW<;>omega
      refine⟨b1.1,b2.1,by omega,Ob.2 ⟨w[i],gm,?_,?_⟩⟩<;>omega
     .refine⟨a1,a2,by omega,?_⟩;rw[show (x-st)%604800=(x-(st+604800))%604800 by omega];exact a4
    .rintro⟨a1,a2,a3,a4⟩
     by_cases hx:st+604800<=x
     .refine Or.inr ⟨a1,a2,hx,?_⟩;rw[show (x-(st+604800))%604800=(x-st)%604800 by omega];exact a4
     .obtain⟨v,hv,c1,c2⟩:=Ob.1 a4;have e1:(x-st)%604800=x-st:=by omega
      rw[e1]at c1 c2;refine Or.inl ⟨uZ f t st v,ka.2 ⟨v,hv,rfl⟩,?_,?_⟩<;>simp only[uZ]<;>split<;>omega
  .rw[ah aA,j6,aU];exact⟨[],by simp,by simp,by simp,λx=>⟨λh=>absurd h gJ,λh=>by omega⟩⟩
theorem Wl{w:WL}(hw:gW 0 w)(hl:w.length<=14){ps:List (Int×(Int×Int))}{M:Nat}(hM:M<=60)(fm:ps.length<=30){lo hi:Int}(jC:0<=lo)(jD:hi<=8589934592)
  (gH:∀p∈ps,lo<=p.1/\p.1<p.2.1/\p.2.1<=hi /\ -64800<=p.2.2/\p.2.2<=64800/\p.2.1-p.1<=604800*M):∀(n i:Nat)(acc:SL),i+n=ps.length->acc.length<=854*i->
  ∃E,zY w (ps.length:Int) (i:Int) acc ps=some (acc++E)/\E.length<=w.length*(M+1)*n/\(∀s∈E,lo<=s.1/\s.2<=hi/\s.1<=100000000000 /\ -100000000000<=s.2)/\
   ∀x,bN x E↔∃p∈ps.drop i,p.1<=x/\x<p.2.1/\hasB ((x+p.2.2+259200)%604800) w=true
 |0,i,acc,hi,_=>by
  rw[SS];simp only[j2y];rw[ah (by omega),j6,aU,jf (by omega)];exact⟨[],by simp,by simp,by simp,λx=>⟨λh=>absurd h gJ,λ⟨p,hp,_⟩=>by simp at hp⟩⟩
 |n+1,i,acc,hi,ea=>by
  have aA:i<ps.length:=by omega
  have bj:ps.getD i ((0:Int),((0:Int),(0:Int)))=ps[i]:=by simp[aA]
  obtain⟨p1,p2,p3,p4,p5,p6⟩:=gH ps[i] (je aA);have Wm:w.length*(M+1)<=854:=qm (zv hl (show M+1<=61 by omega)) (by decide);rw[SS,jc aA];simp only[j2y];rw[ag (show (i:Int)<(ps.length:Int) by omega),aR (by omega) (by omega)];simp only[j5,j7,bj];rw[aj (x:=ps[i].1+ps[i].2.2) (by omega) (by omega),aj (x:=ps[i].1+ps[i].2.2 - -259200) (by omega) (by omega),Ao (by omega)];rw[aj (x:=ps[i].1+ps[i].2.2 - -259200-(ps[i].1+ps[i].2.2 - -259200)%604800) (by omega) (by omega)];rw[aj (x:=ps[i].1+ps[i].2.2 - -259200-(ps[i].1+ps[i].2.2 - -259200)%604800 + -259200) (by omega) (by omega)];rw[aj (x:=ps[i].1+ps[i].2.2 - -259200-(ps[i].1+ps[i].2.2 - -259200)%604800 + -259200-ps[i].2.2) (by omega) (by omega)];generalize aM:ps[i].1+ps[i].2.2 - -259200-(ps[i].1+ps[i].2.2 - -259200)%604800 + -259200-ps[i].2.2=st;obtain⟨E1,e1,l1,b1,m1⟩:=jES hw hl (f:=ps[i].1) (t:=ps[i].2.1) (q:=ps[i].2.2) (by omega) (by omega) p2 (ps.length:Int) (i:Int) ps (M+1) st acc (by omega) (by omega) (by omega);rw[e1];simp only[j3];rw[aj (x:=(i:Int)+1) (by omega) (by omega),aJ];obtain⟨E2,e2,l2,b2,m2⟩:=Wl hw hl hM fm jC jD gH n (i+1) (acc++E1) (by omega) (by simp;omega);refine⟨E1++E2,?_,?_,?_,λx=>?_⟩
  .rw[jd]at e2;exact e2
  .rw[ja,Nat.mul_succ];omega
  .intro s hs;rcases jn.1 hs with hs|hs
   .have:=b1 s hs;omega
   .exact b2 s hs
  .rw[G2,m1 x,m2 x];have key:∀x,ps[i].1<=x->(x-st)%604800=(x+ps[i].2.2+259200)%604800/\st<=x:=by intro x hx;omega
   constructor
   .rintro (⟨c1,c2,c3,c4⟩|⟨p,hp,h⟩)
    .exact⟨ps[i],zf ..,c1,c2,by rw[<-(key x c1).1];exact c4⟩
    .exact⟨p,List.mem_cons_of_mem _ hp,h⟩
   .rintro⟨p,hp,c1,c2,c3⟩
    rcases jg.1 hp with rfl|hp
    .exact Or.inl ⟨c1,c2,(key x c1).2,by rw[(key x c1).1];exact c3⟩
    .exact Or.inr ⟨p,hp,c1,c2,c3⟩
theorem jwX{o:Int}{l:bE}(h:iq o l)(gF:l.length<=20){w:WL}(hw:gW 0 w)(hl:w.length<=14){M:Nat}(hM:M<=60){a b:Int}(ha:0<=a)(cj:a<=b)(hb:b<=8589934592)(hlen:b-a<=604800*M) :
  ∃out,j4q (o,l) w a b=some out/\ct (a-1) out/\(∀u∈out,a<=u.1/\u.2<=b)/\out.length<=w.length*(M+1)*(l.length+1)/\
   ∀k,k<=l.length->∀x,a<=x->x<b->bc l k<=x->x<bc l (k+1)->(bN x out↔hasB ((x+bB o l k+259200)%604800) w=true):=by
 obtain⟨ps,e,pl,pm,pc⟩:=Wj h ha cj hb
 obtain⟨E,e1,l1,b1,m1⟩:=Wl hw hl hM (ps:=ps) (by omega) (lo:=a) (hi:=b) ha hb (λp hp=>by
  obtain⟨h1,h2,h3,i,i1,i2,_⟩:=pm p hp;have:=h.of0 i i1;have:=h.of1 i i1;exact⟨h1,h2,h3,by omega,by omega,by omega⟩) ps.length 0 [] (by omega) (by simp)
 rw[show ((0:Nat):Int)=0 from rfl,jo]at e1;have Wm:w.length*(M+1)<=854:=qm (zv hl (show M+1<=61 by omega)) (by decide);have Wn:E.length<=w.length*(M+1)*(l.length+1):=qm l1 (Nat.mul_le_mul_left _ pl);have hEl2:E.length<=854*21:=qm Wn (zv Wm (by omega));obtain⟨out,e2,s1,s2,s3,s4⟩:=G3 (l:=E) (by omega) (λs hs=>by have:=b1 s hs;omega) (lo:=a) (hi:=b) (λs hs _=>⟨(b1 s hs).1,(b1 s hs).2.1⟩);refine⟨out,?_,s1,s4,by omega,λk hk x nF nW dj eW=>?_⟩
 .simp only[j4q,e,j3,show Int.ofNat (List.length ps)=(ps.length:Int) from rfl,e1,e2]
 .rw[s2 x,m1 x,kc];constructor
  .rintro⟨p,hp,c1,c2,c3⟩
   obtain⟨h1,h2,h3,i,i1,i2,i3,i4⟩:=pm p hp;have:i=k:=GR h i1 hk (t:=x) (by omega) (by omega) dj eW;subst this;rw[<-i2];exact c3
  .intro hx;obtain⟨p,hp,c1,c2⟩:=pc x nF nW;obtain⟨h1,h2,h3,i,i1,i2,i3,i4⟩:=pm p hp;have:i=k:=GR h i1 hk (t:=x) (by omega) (by omega) dj eW;subst this;exact⟨p,hp,c1,c2,by rw[i2];exact hx⟩
theorem Oc{o:Int}{rs:List aO}(hm:MZ o rs):(bX o (dZ (occs rs))).length<=4:=by
 have h1:=GQ (dZ (occs rs)) o;have h2:(dZ (occs rs)).length=(occs rs).length:=by unfold dZ;rw[List.length_reverse,DR];simp
 have:=hm.few;omega
theorem jCw{o:Int}{rs:List aO}(hm:MZ o rs):(bX o (dZ (occs rs))).length<=20:=qm (Oc hm) (by omega)
end Go.Proofs.Pw
