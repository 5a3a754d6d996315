/- Loads: what load.Loads IJ weights gives. -/
import Derived.Test.YtbpjdcbbmibehaaGreatLJPK
import Derived.Test.YtbpjdcbbmibehaaGreatLJPL
import Derived.Test.YtbpjdcbbmibehaaGreatLJPB
import Derived.Test.YtbpjdcbbmibehaaGreatLJPF
open Go Go.Lft
namespace Go.Proofs.Pw
abbrev my:=Int×(Int×Int)
abbrev mR:=List (Int×my)
def ei(p:Int):bF->Int
 |[]=>0
 |s::r=>(if s.2.2=p then s.2.1-s.1 else 0)+ei p r
theorem YB(p:Int):∀(l r:bF),ei p (l++r)=ei p l+ei p r
 |[],r=>by simp[ei]
 |s::l,r=>by simp only[zb,ei,YB p l r];omega
theorem Ch.tot_le{f:Int->Int}{b p:Int}:∀{l:bF}{a:Int},Ch f b a l->0<=ei p l/\ei p l<=b-a
 |[],a,h=>by have h:a=b:=h;simp[ei];omega
 |s::r,a,h=>by
  obtain⟨h1,h2,h3,h4⟩:=h;have:=h4.tot_le (p:=p);simp only[ei];split<;>omega
structure FB(m:mR)(np:Nat)(n:Nat):Prop where
 len:m.length<=n
 key:∀x∈m,0<=x.1/\x.1<(np:Int)/\x.2.1=x.1
theorem YC{β:Type}{m:List (Int×β)}{k:Int}{v:β}:∀{x:Int×β},x∈dO m k v->x∈m\/x=(k,v):=by
 induction m with
 |nil=>intro x hx;simp[dO]at hx;exact .inr hx
 |cons y r ih=>
  intro x hx;simp only[dO]at hx;by_cases h:k=y.1
  .rw[ff h,j5]at hx;rcases jc.1 hx with rfl|hx
   .exact .inr (by rw[h])
   .exact .inl (by simp[hx])
  .rw[cP h,j6]at hx;rcases jc.1 hx with rfl|hx
   .exact .inl (by simp)
   .exact(ih hx).imp (λh=>by simp[h]) id
theorem YD{β:Type}{m:List (Int×β)}{k:Int}{v:β}:(dO m k v).length<=m.length+1:=by
 induction m with
 |nil=>simp[dO]
 |cons y r ih=>
  simp only[dO];cases k==y.1 with
  |true=>simp
  |false=>simp only[j6,jl];omega
def ir:my:=((0:Int),((0:Int),(0:Int)))
theorem YE{m:mR}{k:Int}(h:dN m k=false):cR ir m k=ir:=by
 induction m with
 |nil=>rfl
 |cons y r ih=>have:dN (y::r) k=(k==y.1||dN r k):=rfl;rw[this,vq]at h;show cond (k==y.1) y.2 (cR ir r k)=_;rw[h.1];exact ih h.2
theorem YF{m:mR}{k:Int}:dN m k=true↔k∈m.map (λx=>x.1):=by
 unfold dN;rw[qs,jn];constructor
 .rintro⟨x,hx,h⟩
  exact⟨x,hx,(by simpa using h:k=x.1).symm⟩
 .rintro⟨x,hx,h⟩
  exact⟨x,hx,by simp[h]⟩
theorem insI_perm(x:Int):∀l:List Int,(insI x l).Perm (x::l)
 |[]=>List.Perm.refl _
 |y::ys=>by
  unfold insI;cases decide (x<=y) with
  |true=>exact List.Perm.refl _
  |false=>exact((insI_perm x ys).cons y).trans (List.Perm.swap x y ys)
theorem isortI_perm:∀l:List Int,(mU l).Perm l
 |[]=>List.Perm.refl _
 |x::xs=>(insI_perm x _).trans ((isortI_perm xs).cons x)
theorem YG{m:mR}{ks:List Int}(hl:ks.length<=1000000):∀(n i:Nat)(acc:List my),i+n=ks.length->acc.length=i->
  El (ks.length:Int) (i:Int) m acc ks=some (m,acc++(ks.drop i).map λk=>cR ir m k)
 |0,i,acc,hi,ha=>by
  rw[Vi];simp only[j48];rw[ao (by omega),j6,aY,jd (by omega)];simp
 |n+1,i,acc,hi,ha=>by
  have ak:i<ks.length:=by omega
  have bk:ks.getD i (0:Int)=ks[i]:=by simp[List.getD,ak]
  have ih:=YG (m:=m) hl n (i+1) (acc++[cR ir m ks[i]]) (by omega) (by simp;omega);rw[Vi];simp only[j48,kn];rw[ag (show (i:Int)<(ks.length:Int) by omega),ba (by omega) (by omega),aj (x:=(i:Int)+1) (by omega) (by omega),ag (by simp[aQ];omega),jb ak];simp only[j5,j7,bk,aP];rw[jg]at ih;exact ih
theorem juD{m:mR}{np n:Nat}(hm:FB m np n)(hn:n<=100000)(ow:np<=1000):j8Q m=some ((kH m).map (λk=>cR ir m k),m):=by
 have hlen:(kH m).length=m.length:=by have:=(isortI_perm (m.map λx=>x.1)).length_eq;simpa[kH]using this
 have Cu:=hm.len;have hk:BD m=true:=by unfold BD;simp only[ja,jq,jh];refine⟨Nat.ble_eq_true_of_le (by omega),λx hx=>?_⟩;have:=hm.key x hx;omega
 have lp:=YG (m:=m) (ks:=kH m) (by omega) (kH m).length 0 [] (by omega) rfl;rw[k5,js]at lp;simp only[j8Q,hk,j5];rw[show El (Int.ofNat (kH m).length) 0 m [] (kH m)=_ from lp];rfl
section
variable{zs:List bP}{ps:List dm}{cs:List aO}(hs:cQ zs ps cs)
include hs
end
def fB(np:Nat)(u v:Int->Int):List my:=(List.range np).filterMap λ(p:Nat)=>if 0<u p then some ((p:Int),(u p,v p)) else none
def zK(np:Nat)(u:Int->Int):List Int:=(List.range np).filterMap λ(p:Nat)=>if 0<u p then some (p:Int) else none
theorem IK{np:Nat}{u:Int->Int}{k:Int}:k∈zK np u↔0<=k/\k<(np:Int)/\0<u k:=by
 unfold zK;rw[zv];constructor
 .rintro⟨p,hp,h⟩
  have:=yl.1 hp;split at h
  .rename_i hu;simp only[j4]at h;subst h;exact⟨by omega,by omega,hu⟩
  .simp at h
 .rintro⟨h0,h1,hu⟩
  refine⟨k.toNat,yl.2 (by omega),?_⟩;rw[show ((k.toNat:Nat):Int)=k by omega,if_pos hu]
theorem Qo(u:Int->Int):∀np,(zK np u).Pairwise (· < ·)
 |0=>List.Pairwise.nil
 |n+1=>by
  unfold zK;rw[List.range_succ,List.filterMap_append];refine vu.2 ⟨Qo u n,?_,λx hx y hy=>?_⟩
  .simp only[qn,List.filterMap_nil];split
   .exact List.Pairwise.nil
   .exact yd _ _
  .have h1:=(IK (np:=n) (u:=u)).1 hx;simp only[qn,List.filterMap_nil]at hy;split at hy
   .simp at hy
   .rename_i z hz;simp only[km]at hy;subst hy;split at hz
    .simp only[j4]at hz;subst hz;exact h1.2.1
    .simp at hz
theorem Qp(np:Nat)(u v:Int->Int):fB np u v=(zK np u).map λk=>(k,(u k,v k)):=by
 unfold fB zK;rw[List.map_filterMap];congr 1;funext p;split<;>rfl
theorem YH(x:Int):∀l:List Int,l.Pairwise (· <= ·)->(insI x l).Pairwise (· <= ·)
 |[],_=>yd _ _
 |y::ys,h=>by
  have hc:=kx.1 h;unfold insI;cases hd:decide (x<=y) with
  |true=>
   have hd:=qg hd;refine kx.2 ⟨λz hz=>?_,h⟩;rcases jc.1 hz with rfl|hz
   .exact hd
   .have:=hc.1 z hz;omega
  |false=>
   have hd:=of_decide_eq_false hd;refine kx.2 ⟨λz hz=>?_,YH x ys hc.2⟩;rcases jc.1 ((insI_perm x ys).mem_iff.1 hz) with rfl|hz
   .omega
   .exact hc.1 z hz
theorem YI:∀l:List Int,(mU l).Pairwise (· <= ·)
 |[]=>List.Pairwise.nil
 |x::xs=>YH x _ (YI xs)
theorem juE{ks L:List Int}(hn:ks.Nodup)(hL:L.Pairwise (· < ·))(hm:∀k,k∈ks↔k∈L):mU ks=L:=by
 have hp:(mU ks).Perm L:=(isortI_perm ks).trans ((List.perm_ext_iff_of_nodup hn (hL.imp (λh=>by omega))).2 hm);exact List.Perm.eq_of_pairwise (le:=(· <= ·)) (λa b _ _ h1 h2=>Int.le_antisymm h1 h2) (YI ks) (hL.imp (λh=>by omega)) hp
structure sR(m:mR)(np n:Nat)(u v:Int->Int):Prop where
 ok:FB m np n
 nd:(m.map λx=>x.1).Nodup
 has:∀p,0<=p->p<(np:Int)->(dN m p=true↔0<u p)
 get:∀p,0<=p->p<(np:Int)->dN m p=true->cR ir m p=(p,(u p,v p))
theorem YJ{β:Type}{m:List (Int×β)}{k:Int}{v:β}(h:(m.map λx=>x.1).Nodup):((dO m k v).map λx=>x.1).Nodup/\∀q,q∈(dO m k v).map (λx=>x.1)->q=k\/q∈m.map (λx=>x.1):=by
 induction m with
 |nil=>simp[dO]
 |cons y r ih=>
  simp only[dO];have hc:=q8.1 (show (y.1::r.map λx=>x.1).Nodup from h);by_cases hk:k=y.1
  .rw[ff hk,j5];refine⟨?_,λq hq=>?_⟩
   .show (k::r.map λx=>x.1).Nodup;rw[hk];exact h
   .rw[jz,hk]at hq;exact .inr (by rw[jz];exact hq)
  .rw[cP hk,j6];obtain⟨i1,i2⟩:=ih hc.2;refine⟨?_,λq hq=>?_⟩
   .show (y.1::(dO r k v).map λx=>x.1).Nodup;refine q8.2 ⟨λhy=>?_,i1⟩;rcases i2 _ hy with h|h
    .exact hk h.symm
    .exact hc.1 h
   .rcases jc.1 (show q∈y.1::(dO r k v).map (λx=>x.1) from hq) with rfl|hq
    .exact .inr (by simp)
    .exact(i2 q hq).imp id (λh=>by
      rw[jz];exact qr _ h)
theorem YK{m:mR}{np n:Nat}{u v:Int->Int}(h:sR m np n u v)(hn:n<=100000)(ow:np<=1000):j8Q m=some (fB np u v,m):=by
 rw[juD h.ok hn ow]
 have hk:kH m=zK np u:=by
  unfold kH;refine juE h.nd (Qo u np) λk=>?_;rw[<-YF,IK];constructor
  .intro hh;obtain⟨x,hx,rfl⟩:=jn.1 (YF.1 hh);have:=h.ok.key x hx;exact⟨this.1,this.2.1,(h.has _ this.1 this.2.1).1 hh⟩
  .rintro⟨h0,h1,hu⟩
   exact(h.has k h0 h1).2 hu
 rw[hk,Qp];congr 2;refine y9 λk hk=>?_;obtain⟨h0,h1,hu⟩:=IK.1 hk;exact h.get k h0 h1 ((h.has k h0 h1).2 hu)
theorem YL{l:List my}(hl:l.length<=1000):∀n i:Nat,i+n=l.length->Es l l (l.length:Int) (i:Int)=some (.inr ())
 |0,i,hi=>by
  rw[Vm];simp only[j4w];rw[ao (by omega),j6,aY]
 |n+1,i,hi=>by
  rw[Vm];simp only[j4w];rw[ag (by omega),ba (by omega) (by omega),aj (x:=(i:Int)+1) (by omega) (by omega)];simp only[j5,qe,vp,jw,j6,aP];exact YL hl n (i+1) (by omega)
theorem jq6{l:List my}(hl:l.length<=1000):jcg l l=some true:=by
 simp only[jcg,ju,j6];rw[show Es l l (Int.ofNat l.length) 0=_ from YL hl l.length 0 (by omega)];simp only[j3,rN]
theorem jrW{a b:List my}(ha:a.length<=1000)(hb:b.length<=1000):j1I [a,b]=some (a++b):=by
 have w1:w64 (0+(a.length:Int))=(a.length:Int):=by rw[aj (by omega) (by omega)];omega
 have w2:w64 ((a.length:Int)+(b.length:Int))=(a.length:Int)+(b.length:Int):=aj (by omega) (by omega);have l0:Eo [a,b] 0 [a,b] 2 0=some ([a,b],(a.length:Int)+(b.length:Int)):=by rw[My];simp only[j0j,show List.getD [a,b] (Int.toNat 0) []=a from rfl,show Int.ofNat a.length=(a.length:Int) from rfl,w1];rw[ag (show (0:Int)<2 by omega),ba (show (0:Int)<=0 by omega) (show (0:Int)<(([a,b].length:Nat):Int) by simp),ao (show¬(a.length:Int)<0 by omega),aj (x:=(0:Int)+1) (by omega) (by omega)];simp only[j5,j6,aP];rw[My];simp only[j0j,show List.getD [a,b] (Int.toNat (0+1)) []=b from rfl,show Int.ofNat b.length=(b.length:Int) from rfl,w2];rw[ag (show (0:Int)+1<2 by omega),ba (show (0:Int)<=0+1 by omega) (show (0:Int)+1<(([a,b].length:Nat):Int) by simp),ao (show¬(a.length:Int)+(b.length:Int)<0 by omega),aj (x:=(0:Int)+1+1) (by omega) (by omega)];simp only[j5,j6,aP];rw[My];simp only[j0j];rw[ao (show¬(0:Int)+1+1<2 by omega),j6,aY]
 have l2:Ep [a,b] 2 0 []=some (a++b):=by rw[Mz];simp only[j0k,show List.getD [a,b] (Int.toNat 0) []=a from rfl,qq,js];rw[ag (show (0:Int)<2 by omega),ba (show (0:Int)<=0 by omega) (show (0:Int)<(([a,b].length:Nat):Int) by simp),ag (show 0+a.length<=aQ by simp[aQ];omega),aj (x:=(0:Int)+1) (by omega) (by omega)];simp only[j5,aP];rw[Mz];simp only[j0k,show List.getD [a,b] (Int.toNat (0+1)) []=b from rfl];rw[ag (show (0:Int)+1<2 by omega),ba (show (0:Int)<=0+1 by omega) (show (0:Int)+1<(([a,b].length:Nat):Int) by simp),ag (show a.length+b.length<=aQ by simp[aQ];omega),aj (x:=(0:Int)+1+1) (by omega) (by omega)];simp only[j5,aP];rw[Mz];simp only[j0k];rw[ao (show¬(0:Int)+1+1<2 by omega),j6,aY]
 simp only[j1I,jl,qq];rw[show Eo [a,b] 0 [a,b] (Int.ofNat (0+1+1)) 0=_ from l0];simp only[j3];rw[ag (show (0:Int)<=(a.length:Int)+(b.length:Int) by omega),ag (show (a.length:Int)+(b.length:Int)<=1000000 by omega)];simp only[vp,j5];rw[show Ep [a,b] (Int.ofNat [a,b].length) 0 []=_ from l2];rfl
def bS(p:Int):List my->Int
 |[]=>0
 |x::r=>(if x.1=p then x.2.1 else 0)+bS p r
def dh(p:Int):List my->Int
 |[]=>0
 |x::r=>(if x.1=p then x.2.2 else 0)+dh p r
theorem FC(p:Int):∀(a b:List my),bS p (a++b)=bS p a+bS p b
 |[],b=>by simp[bS]
 |x::a,b=>by simp only[zb,bS,FC p a b];omega
theorem IL(p:Int):∀(a b:List my),dh p (a++b)=dh p a+dh p b
 |[],b=>by simp[dh]
 |x::a,b=>by simp only[zb,dh,IL p a b];omega
def FD(np:Nat)(x:my):Prop:=0<=x.1/\x.1<(np:Int)/\0<x.2.1/\x.2.1<=8589934592/\x.2.1<=x.2.2/\x.2.2<=8*x.2.1
theorem Qq{np:Nat}(p:Int):∀{l:List my},(∀x∈l,FD np x)->0<=bS p l/\bS p l<=dh p l/\dh p l<=8*bS p l
 |[],_=>by simp[bS,dh]
 |x::r,h=>by
  obtain⟨h1,h2,h3,h4,h5,h6⟩:=h x (by simp);obtain⟨i1,i2,i3⟩:=Qq p (l:=r) (λy hy=>h y (by simp[hy]));simp only[bS,dh];split<;>omega
theorem YM{l:List my}(hl:l.length<=32)(hp:l.Pairwise λx y=>x.1<y.1){np:Nat}(ow:np<=32)(h:∀x∈l,FD np x):j4j l=some true:=by
 have lp:∀n i:Nat,i+n=l.length->yE l l (l.length:Int) (i:Int)=some (.inr ()):=by
  intro n;induction n with
  |zero=>intro i hi;rw[Uk];simp only[j4m];rw[ao (by omega),j6,aY]
  |succ n ih=>
   intro i hi;have ak:i<l.length:=by omega
   have bk:l.getD i ((0:Int),((0:Int),(0:Int)))=l[i]:=by simp[List.getD,ak]
   obtain⟨h1,h2,h3,h4,h5,h6⟩:=h _ (ji ak);rw[Uk];simp only[j4m];rw[ag (show (i:Int)<(l.length:Int) by omega),ba (show (0:Int)<=(i:Int) by omega) (by omega),aj (x:=(i:Int)+1) (by omega) (by omega)];simp only[j5,j7,bk]
   rw[ao (show¬l[i].1<0 by omega),ao (show¬l[i].1>=32 by omega),ao (show¬l[i].2.1<0 by omega),ao (show¬l[i].2.1>8589934592 by omega),ao (show¬l[i].2.2<l[i].2.1 by omega),
    aj (x:=8*l[i].2.1) (by omega) (by omega),ao (show¬l[i].2.2>8*l[i].2.1 by omega)]
   simp only[j6];by_cases vI:(i:Int)>0
   .have nG:i-1<l.length:=by omega
    have Qr:l.getD (i-1) ((0:Int),((0:Int),(0:Int)))=l[i-1]:=by simp[List.getD,nG]
    have hpw:=qh.1 hp (i-1) i nG ak (by omega);rw[ag vI,j5,aj (x:=(i:Int)-1) (by omega) (by omega),ba (show (0:Int)<=(i:Int)-1 by omega) (by omega),show ((i:Int)-1).toNat=i-1 by omega,Qr,ao (show¬l[i].1<=l[i-1].1 by omega)];simp only[j5,j6,aP];exact ih (i+1) (by omega)
   .rw[ao vI,j6,aP];exact ih (i+1) (by omega)
 simp only[j4j,show Int.ofNat l.length=(l.length:Int) from rfl];rw[ao (show¬(l.length:Int)>32 by omega),show yE l l (l.length:Int) 0=_ from lp l.length 0 (by omega)];rfl
theorem YN{np:Nat}{l:List my}(hl:l.length<=1000)(h:∀x∈l,FD np x)(hU:∀p,bS p l<=8589934592):∀(n i:Nat)(m:mR),i+n=l.length->sR m np i (λp=>bS p (l.take i)) (λp=>dh p (l.take i))->
  ∃m',Er (l.length:Int) (i:Int) m l=some (.inr m')/\sR m' np l.length (λp=>bS p l) (λp=>dh p l)
 |0,i,m,hi,hm=>by
  refine⟨m,?_,?_⟩
  .rw[Vl];simp only[j5c];rw[ao (by omega),j6,aY]
  .rw[List.take_of_length_le (by omega),show i=l.length by omega]at hm;exact hm
 |n+1,i,m,hi,hm=>by
  have ak:i<l.length:=by omega
  have bk:l.getD i ((0:Int),((0:Int),(0:Int)))=l[i]:=by simp[List.getD,ak]
  obtain⟨h1,h2,h3,h4,h5,h6⟩:=h _ (ji ak)
  have IA:∀p,bS p (l.take (i+1))=bS p (l.take i)+(if l[i].1=p then l[i].2.1 else 0):=λp=>by
   rw[qt ak,FC];simp only[bS];omega
  have sE:∀p,dh p (l.take (i+1))=dh p (l.take i)+(if l[i].1=p then l[i].2.2 else 0):=λp=>by
   rw[qt ak,IL];simp only[dh];omega
  have hb:=λp=>Qq p (np:=np) (l:=l.take i) (λx hx=>h x (kp hx))
  have hle:bS l[i].1 (l.take i)+l[i].2.1<=8589934592:=by
   have e1:=IA l[i].1;rw[if_pos rfl]at e1;have e2:=hU l[i].1;have e4:∀p,bS p l=bS p (l.take (i+1))+bS p (l.drop (i+1)):=λp=>by rw[<-FC,qo]
   rw[e4]at e2;have e3:=Qq l[i].1 (np:=np) (l:=l.drop (i+1)) (λx hx=>h x (zf hx));omega
  have tB:(cR ir m l[i].1).2=(bS l[i].1 (l.take i),dh l[i].1 (l.take i)):=by
   cases hh:dN m l[i].1 with
   |true=>rw[hm.get _ h1 h2 hh]
   |false=>
    have hn:¬0<bS l[i].1 (l.take i):=λhq=>by
     have:=(hm.has _ h1 h2).2 hq;rw[hh]at this;simp at this
    have:=hb l[i].1;rw[YE hh];show ((0:Int),(0:Int))=_;rw[show bS l[i].1 (l.take i)=0 by omega,show dh l[i].1 (l.take i)=0 by omega]
  have hbi:=hb l[i].1;rw[Vl];simp only[j5c];rw[ag (show (i:Int)<(l.length:Int) by omega),ba (by omega) (by omega),aj (x:=(i:Int)+1) (by omega) (by omega)];simp only[j5,j7,bk];rw[show cR ((0:Int),((0:Int),(0:Int))) m l[i].1=cR ir m l[i].1 from rfl,tB];generalize l[i]=x at *;rw[aj (x:=bS x.1 (l.take i)+x.2.1) (by omega) (by omega),ao (show¬bS x.1 (l.take i)+x.2.1>8589934592 by omega),aj (x:=dh x.1 (l.take i)+x.2.2) (by omega) (by omega)];simp only[j6,aP]
  obtain⟨m',e,gY⟩:=YN hl h hU n (i+1) (dO m x.1 (x.1,(bS x.1 (l.take i)+x.2.1,dh x.1 (l.take i)+x.2.2))) (by omega)
   ⟨⟨by have:=hm.ok.len;have:=YD (m:=m) (k:=x.1) (v:=(x.1,(bS x.1 (l.take i)+x.2.1,dh x.1 (l.take i)+x.2.2)));omega,λy hy=>by
     rcases YC hy with hy|rfl
     .exact hm.ok.key y hy
     .exact⟨h1,h2,rfl⟩⟩,(YJ hm.nd).1,λp p0 p1=>by
    rw[Fw];show _↔0<bS p (l.take (i+1));rw[IA];by_cases hp:p=x.1
    .subst hp;rw[qe,Bool.true_or,if_pos rfl];simp only[true_iff];omega
    .rw[cP hp,ze,if_neg (λh=>hp h.symm),zd];exact hm.has p p0 p1,λp p0 p1 hh=>by
    rw[ID];show _=(p,(bS p (l.take (i+1)),dh p (l.take (i+1))));rw[IA,sE];by_cases hp:p=x.1
    .subst hp;rw[qe,j5,if_pos rfl,if_pos rfl]
    .rw[Fw,cP hp,ze]at hh;rw[cP hp,j6,if_neg (λh=>hp h.symm),if_neg (λh=>hp h.symm),zd,zd];exact hm.get p p0 p1 hh⟩
  rw[show ((i+1:Nat):Int)=(i:Int)+1 by omega]at e;exact⟨m',e,gY⟩
structure UV(np:Nat)(u v:Int->Int):Prop where
 u0:∀p,0<=u p
 u1:∀p,u p<=4294967296
 v0:∀p,u p<=v p
 v1:∀p,v p<=8*u p
theorem IM{np:Nat}{u v:Int->Int}(h:UV np u v):∀x∈fB np u v,FD np x:=by
 intro x hx;rw[Qp]at hx;obtain⟨k,hk,rfl⟩:=jn.1 hx;obtain⟨k0,k1,hu⟩:=IK.1 hk;have:=h.u1 k;have:=h.v0 k;have:=h.v1 k;exact⟨k0,k1,hu,by show u k<=8589934592;omega,by show u k<=v k;omega,by show v k<=8*u k;omega⟩
theorem Qs(np:Nat)(u v:Int->Int):(fB np u v).length<=np:=by
 have:=List.length_filterMap_le (λ(p:Nat)=>if 0<u p then some ((p:Int),(u p,v p)) else none) (List.range np);simpa[fB]using this
theorem YO(np:Nat)(u v:Int->Int):(fB np u v).Pairwise λx y=>x.1<y.1:=by
 rw[Qp,List.pairwise_map];exact Qo u np
theorem FE{u v:Int->Int}(p:Int):∀np,bS p (fB np u v)=(if 0<=p/\p<(np:Int)/\0<u p then u p else 0)/\dh p (fB np u v)=(if 0<=p/\p<(np:Int)/\0<u p then v p else 0)
 |0=>by
  rw[if_neg (by omega),if_neg (by omega)];exact⟨rfl,rfl⟩
 |n+1=>by
  obtain⟨i1,i2⟩:=FE (u:=u) (v:=v) p n
  have e:fB (n+1) u v=fB n u v++(if 0<u n then [((n:Int),(u n,v n))] else []):=by
   unfold fB;rw[List.range_succ,List.filterMap_append];congr 1;simp only[qn,List.filterMap_nil];split
   .rename_i hq;split at hq
    .simp at hq
    .rename_i h;rw[if_neg h]
   .rename_i z hq;split at hq
    .rename_i h;simp only[j4]at hq;subst hq;rw[if_pos h]
    .simp at hq
  rw[e,FC,IL,i1,i2];by_cases hp:p=(n:Int)
  .subst hp;rw[if_neg (show¬(0<=(n:Int)/\(n:Int)<(n:Int)/\0<u n) fromλh=>by omega),if_neg (show¬(0<=(n:Int)/\(n:Int)<(n:Int)/\0<u n) fromλh=>by omega)];by_cases hu:0<u (n:Int)
   .rw[if_pos hu,if_pos ⟨by omega,by omega,hu⟩,if_pos ⟨by omega,by omega,hu⟩];simp[bS,dh]
   .rw[if_neg hu,if_neg (by omega),if_neg (by omega)];simp[bS,dh]
  .have e2:bS p (if 0<u (n:Int) then [((n:Int),(u n,v n))] else [])=0/\dh p (if 0<u (n:Int) then [((n:Int),(u n,v n))] else [])=0:=by
    split
    .simp only[bS,dh,if_neg (λh:(n:Int)=p=>hp h.symm)];exact⟨rfl,rfl⟩
    .exact⟨rfl,rfl⟩
   rw[e2.1,e2.2,zd,zd];constructor
   .by_cases hq:0<=p/\p<(n:Int)/\0<u p
    .rw[if_pos hq,if_pos ⟨hq.1,by omega,hq.2.2⟩]
    .rw[if_neg hq,if_neg (λh=>hq ⟨h.1,by omega,h.2.2⟩)]
   .by_cases hq:0<=p/\p<(n:Int)/\0<u p
    .rw[if_pos hq,if_pos ⟨hq.1,by omega,hq.2.2⟩]
    .rw[if_neg hq,if_neg (λh=>hq ⟨h.1,by omega,h.2.2⟩)]
theorem YP{np:Nat}(ow:np<=32){u1 v1 u2 v2:Int->Int}(h1:UV np u1 v1)(h2:UV np u2 v2) :
  je4 (fB np u1 v1) (fB np u2 v2)=some (fB np (λp=>u1 p+u2 p) (λp=>v1 p+v2 p),0):=by
 have l1:=Qs np u1 v1;have l2:=Qs np u2 v2;have al:∀x∈fB np u1 v1++fB np u2 v2,FD np x:=λx hx=>(jm.1 hx).elim (IM h1 x) (IM h2 x)
 have hu:∀p,bS p (fB np u1 v1++fB np u2 v2)=(if 0<=p/\p<(np:Int) then u1 p+u2 p else 0)/\dh p (fB np u1 v1++fB np u2 v2)=(if 0<=p/\p<(np:Int) then v1 p+v2 p else 0):=λp=>by
  rw[FC,IL,(FE p np).1,(FE p np).1,(FE p np).2,(FE p np).2];have a1:=h1.u0 p;have a2:=h2.u0 p;have a3:=h1.v0 p;have a4:=h2.v0 p;have a5:=h1.v1 p;have a6:=h2.v1 p;by_cases hq:0<=p/\p<(np:Int)
  .simp only[hq.1,hq.2,q9,and_self,if_true];constructor<;>(split<;>split<;>omega)
  .rw[if_neg (λh=>hq ⟨h.1,h.2.1⟩),if_neg (λh=>hq ⟨h.1,h.2.1⟩),if_neg hq,if_neg (λh=>hq ⟨h.1,h.2.1⟩),if_neg (λh=>hq ⟨h.1,h.2.1⟩),if_neg hq];exact⟨rfl,rfl⟩
 obtain⟨m,e,hm⟩:=YN (np:=np) (l:=fB np u1 v1++fB np u2 v2) (by simp;omega) al (λp=>by
  have:=h1.u1 p;have:=h2.u1 p;rw[(hu p).1];split<;>omega) (fB np u1 v1++fB np u2 v2).length 0 [] (by omega) ⟨⟨by simp,by simp⟩,zg,λp _ _=>by simp[dN,bS],λp _ _ h=>by simp[dN]at h⟩
 have gI:sR m np (fB np u1 v1++fB np u2 v2).length (λp=>u1 p+u2 p) (λp=>v1 p+v2 p):=
  ⟨hm.ok,hm.nd,λp p0 p1=>by
   rw[hm.has p p0 p1];show 0<bS p _↔_;rw[(hu p).1,if_pos ⟨p0,p1⟩],λp p0 p1 hh=>by
   rw[hm.get p p0 p1 hh];show (p,(bS p _,dh p _))=_;rw[(hu p).1,(hu p).2,if_pos ⟨p0,p1⟩,if_pos ⟨p0,p1⟩]⟩
 have hL:=YK gI (by simp;omega) (by omega);simp only[je4,YM (by omega) (YO np u1 v1) ow (IM h1),YM (by omega) (YO np u2 v2) ow (IM h2),j3,jw,j6,jrW (a:=fB np u1 v1) (b:=fB np u2 v2) (by omega) (by omega)];rw[show Er (Int.ofNat (fB np u1 v1++fB np u2 v2).length) 0 [] (fB np u1 v1++fB np u2 v2)=_ from e];simp only[j3,rN,hL]
def iu(o:Int)(l:bA)(w:WL)(x:Int):Bool:=(List.range (l.length+1)).any λk=>decide (bh l k<=x)&&(decide (x<bh l (k+1))&&hasB ((x+cu o l k+259200)%604800) w)
theorem Qt{o:Int}{l:bA}(h:gU o l){w:WL}{x:Int}{k:Nat}(hk:k<=l.length)(h0:bh l k<=x)(h1:x<bh l (k+1)):iu o l w x=hasB ((x+cu o l k+259200)%604800) w:=by
 rw[yg];unfold iu;rw[qs];constructor
 .rintro⟨j,hj,hp⟩
  simp only[ja,jh]at hp;have:=yl.1 hj;have:j=k:=E5 h (by omega) hk hp.1 hp.2.1 h0 h1;subst this;exact hp.2.2
 .intro hp;exact⟨k,yl.2 (by omega),by simp only[ja,jh];exact⟨h0,h1,hp⟩⟩
theorem YQ{l:SL}{p:Int}(h:pC p l)(hp:0<=p)(hl:l.length<=1000000)(hb:∀u∈l,u.2<=8589934592):∀(n i:Nat)(s:Int),i+n=l.length->0<=s->s+ig (l.drop i)<=1000000000000->(∀u∈l,0<=u.1/\u.1<u.2)->
  Ek s l (l.length:Int) (i:Int)=some (s+ig (l.drop i))
 |0,i,s,hi,_,_,_=>by
  rw[Vh];simp only[j47];rw[ao (by omega),j6,aY,jd (by omega)];simp[ig]
 |n+1,i,s,hi,hs,mC,hu=>by
  have ak:i<l.length:=by omega
  have bk:l.getD i ((0:Int),(0:Int))=l[i]:=by simp[ak]
  have hui:=hu _ (ji ak);have hbi:=hb _ (ji ak);obtain⟨q,hq⟩:=Yz h (i+1);have bB:=Yy hq;rw[jb ak]at mC ⊢;simp only[ig]at mC ⊢;rw[Vh];simp only[j47];rw[ag (show (i:Int)<(l.length:Int) by omega),ba (by omega) (by omega)];simp only[j5,j7,bk];rw[aj (x:=(i:Int)+1) (by omega) (by omega),aj (x:=l[i].2-l[i].1) (by omega) (by omega),aj (x:=s+(l[i].2-l[i].1)) (by omega) (by omega),aP];have:=YQ h hp hl hb n (i+1) (s+(l[i].2-l[i].1)) (by omega) (by omega) (by omega) hu;rw[show s+(l[i].2-l[i].1+ig (l.drop (i+1)))=s+(l[i].2-l[i].1)+ig (l.drop (i+1)) by omega];exact this
theorem jxZ{l:SL}:∀{p:Int},bX p l->∀u∈l,p<u.1/\u.1<u.2:=by
 induction l with
 |nil=>intro p _ u hu;simp at hu
 |cons x r ih=>
  intro p h u hu;rcases jc.1 hu with rfl|hu
  .exact⟨h.1,h.2.1⟩
  .have:=ih h.2.2 u hu;have:=h.1;have:=h.2.1;omega
theorem YR{f:Int->Int}{a b:Int}(ha:0<=a)(hb:b<=8589934592){S:bF}(hS:eV f b none a S)(hl:S.length<=16384)(v:Int) :
  ∃out,j7d S v=some out/\bX (a-1) out/\(∀x,bI x out↔a<=x/\x<b/\f x=v)/\out.length<=16384/\∀u∈out,a<=u.1/\u.2<=b:=by
 have eE:(pD v S).length<=16384:=by unfold pD;rw[ka];have:=List.length_filter_le (λs:jP=>s.2.2==v) S;omega
 have tl:=Qn (v:=v) (S:=S) (by omega) S.length 0 [] (by omega) (by simp);rw[js,k5]at tl
 have Qu:∀u∈pD v S,a<=u.1/\u.2<=b/\u.1<u.2:=λu hu=>by
  obtain⟨s,hm,rfl⟩:=jn.1 hu;have hm:=(qx.1 hm).1;have hc:=hS.ch.mem _ hm;exact⟨hc.1,hc.2.2.1,hS.pos _ hm⟩
 obtain⟨out,e3,h1,h2,h3,h4⟩:=Fl (l:=pD v S) (by omega) (λu hu=>by have:=Qu u hu;omega) (lo:=a) (hi:=b) (λu hu _=>⟨(Qu u hu).1,(Qu u hu).2.1⟩);refine⟨out,?_,h1,λx=>(h2 x).trans (jzg hS),by omega,h4⟩;simp only[j7d];rw[show Ej v S (Int.ofNat S.length) 0 []=_ from tl];simp only[j3,e3]
theorem jy0{f:Int->Int}{a:Int}{N:Nat}(ha:0<=a)(hb:a+N<=8589934592)(hN:N<=604800*60){S:bF}(hS:eV f (a+N) none a S)(hl:S.length<=16384){v:Int}{T:SL}(hT:j7d S v=some T)
  {o:Int}{l:bA}(h:gU o l)(fM:l.length<=20){w:WL}{W:SL}(hw:gu 0 w)(iX:w.length<=14)(hW:j33 (o,l) w a (a+N)=some W) :
  ∃C,j7w T W=some C/\jcP C=some (bq (λx=>decide (f x=v)&&iu o l w x) a N):=by
 obtain⟨T',e1,t1,t2,t3,t4⟩:=YR ha hb hS hl v;rw[hT]at e1;cases e1;obtain⟨W',e2,w1,w2,w3,w4⟩:=PF h fM hw iX (M:=60) (by omega) ha (show a<=a+N by omega) hb (by omega);rw[hW]at e2;cases e2;have hWl:W.length<=14*61*21:=q7 w3 (qu (qu iX (by omega)) (by omega));obtain⟨C,e3,c1,c2,c3⟩:=Xv t1 w1 (by omega) (by omega)
 have gO:∀x,bI x C↔a<=x/\x<a+N/\f x=v/\iu o l w x=true:=by
  intro x;rw[c2 x,t2 x];constructor
  .rintro⟨⟨q1,q2,q3⟩,q4⟩
   obtain⟨k,hk,k1,k2⟩:=wM h (t:=x) (by omega) (by omega);exact⟨q1,q2,q3,by rw[Qt h hk k1 k2];exact(w4 k hk x q1 q2 k1 k2).1 q4⟩
  .rintro⟨q1,q2,q3,q4⟩
   obtain⟨k,hk,k1,k2⟩:=wM h (t:=x) (by omega) (by omega);rw[Qt h hk k1 k2]at q4;exact⟨⟨q1,q2,q3⟩,(w4 k hk x q1 q2 k1 k2).2 q4⟩
 have eb:=jxZ c1
 have B3:∀u∈C,u.2<=a+N:=λu hu=>by
  have hm:=eb u hu;have:=(gO (u.2-1)).1 ⟨u,hu,by omega,by omega⟩;omega
 have zL:=c1.ino;rw[show a-1+1=a by omega]at zL;have FF:ig C=bq (λx=>decide (f x=v)&&iu o l w x) a N:=by rw[Yx zL B3];refine Ql λx x1 x2=>?_;rw[yg,ja,decide_eq_true_iff,Fm];have:=gO x;unfold bI at this;rw[this];exact⟨λh=>h.2.2,λh=>⟨x1,x2,h⟩⟩
 have hr:=IH (λx=>decide (f x=v)&&iu o l w x) a N;have lp:=YQ zL ha (by omega) (λu hu=>by have:=B3 u hu;omega) C.length 0 0 (by omega) (by omega) (by rw[k5,FF];omega) (λu hu=>by have:=eb u hu;omega);refine⟨C,e3,?_⟩;simp only[jcP];rw[show Ek 0 C (Int.ofNat C.length) 0=_ from lp,k5,Int.zero_add,FF];rfl
end Go.Proofs.Pw
