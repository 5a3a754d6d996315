/- oa.View.Times: the Eg of a range in which a Eb is on oa. -/
import Derived.Test.YtaieocafhcjelaaGreatDPF
import Derived.Test.YtaieocafhcjelaaGreatDPG
noncomputable section
open Go Go.Lft
namespace Go.Proofs.Pw
theorem jAo{d:Int}(h:j2f d=some true):0<=d:=by
 apply jq;intro hd;simp only[j2f,j82,Vl,Vk,j3]at h;rw[aj (show d<0 by omega)]at h;simp at h
def oc(p:Int×(Int×Int))(d:Int):Int×Int:=
 (if d*86400-p.2.2>p.1 then d*86400-p.2.2 else p.1,if d*86400-p.2.2+86400<p.2.1 then d*86400-p.2.2+86400 else p.2.1)
theorem Vs{ds:List Int}(hd:∀d∈ds,0<=d/\d<=100000)(hl:ds.length<=64){p:Int×(Int×Int)}(hp : -64800<=p.2.2/\p.2.2<=64800){m q z:Int}{nm:ByteArray}{ps:List (Int×(Int×Int))}:∀(n i:Nat)(acc:SL),i+n=ds.length->acc.length+n<=1000000->
  xS m q ds (ds.length:Int) (i:Int) nm z ds p.1 p.2.1 p.2.2 acc ps=some (m,q,nm,z,ds,acc++(ds.drop i).map (oc p),ps)
 |0,i,acc,hi,_=>by
  rw[R8];simp only[j4i];rw[ak (by omega),j6,aW,jf (by omega)];simp
 |n+1,i,acc,hi,fc=>by
  have bF:i<ds.length:=by omega
  have bf:ds.getD i (0:Int)=ds[i]:=by simp[bF]
  have hdi:=hd _ (jg bF);rw[R8];simp only[j4i];rw[aj (by omega),aU (by omega) (by omega)];simp only[j5,j7,bf];rw[ah (x:=ds[i]*86400) (by omega) (by omega),ah (x:=ds[i]*86400-p.2.2) (by omega) (by omega),ah (x:=ds[i]*86400-p.2.2+86400) (by omega) (by omega),ah (x:=(i:Int)+1) (by omega) (by omega),aj (by simp[aS];omega),jc bF];simp only[j5,aF,kr];have:=Vs hd hl hp (m:=m) (q:=q) (z:=z) (nm:=nm) (ps:=ps) n (i+1) (acc++[oc p ds[i]]) (by omega) (by simp;omega);rw[jd]at this;exact this
theorem Vt{ds:List Int}(hd:∀d∈ds,0<=d/\d<=100000)(hl:ds.length<=64){z:Int}{nm:ByteArray}{ps:List (Int×(Int×Int))}(gC:∀p∈ps, -64800<=p.2.2/\p.2.2<=64800)(eY:ps.length<=100):∀(n i:Nat)(acc:SL),i+n=ps.length->acc.length<=64*i->
  xT (ps.length:Int) (i:Int) nm z ds acc ps=some (acc++(ps.drop i).flatMap λp=>ds.map (oc p))
 |0,i,acc,hi,_=>by
  rw[R9];simp only[j2c];rw[ak (by omega),j6,aW,jf (by omega)];simp
 |n+1,i,acc,hi,fc=>by
  have bF:i<ps.length:=by omega
  have bf:ps.getD i ((0:Int),((0:Int),(0:Int)))=ps[i]:=by simp[List.getD,bF]
  have h2:=Vs hd hl (gC _ (jg bF)) (m:=(ps.length:Int)) (q:=(i:Int)) (z:=z) (nm:=nm) (ps:=ps) ds.length 0 acc (by omega) (by omega);have ih:=Vt hd hl (z:=z) (nm:=nm) gC eY n (i+1) (acc++ds.map (oc ps[i])) (by omega) (by simp;omega);rw[R9];simp only[j2c];rw[aj (by omega),aU (by omega) (by omega)];simp only[j5,j7,bf,show Int.ofNat ds.length=(ds.length:Int) from rfl];rw[show xS (ps.length:Int) (i:Int) ds (ds.length:Int) 0 nm z ds ps[i].1 ps[i].2.1 ps[i].2.2 acc ps=_ from h2];simp only[j3,jw];rw[ah (x:=(i:Int)+1) (by omega) (by omega),aF,jc bF,qv,<-jd];exact ih
theorem Vu{α β:Type}(f:α->List β)(k:Nat)(hf:∀a,(f a).length=k):∀l:List α,(l.flatMap f).length=l.length*k
 |[]=>by simp
 |a::l=>by rw[qv,ja,Vu f k hf l,hf,jl,Nat.add_mul,Nat.one_mul];omega
theorem Vv{p:Int×(Int×Int)}{d x:Int}:((oc p d).1<=x/\x<(oc p d).2)↔(p.1<=x/\x<p.2.1)/\(x+p.2.2)/86400=d:=by
 simp only[oc];constructor
 .intro h;split at h<;>split at h<;>omega
 .intro h;split<;>split<;>omega
section
variable{zs:List cg}{ps:List dP}{cs:List bk}(hs:fe zs ps cs)
include hs
theorem jz4{x:bk}(hx:vN zs.length x){ss:List cM}{a b:Int}(ha:0<=a)(bz:a<=b)(hb:b<=8589934592){z:cg}(hz:zs.getD x.2.1.toNat (ByteArray.empty,((0:Int),([]:List bj)))=z) :
  ∃out,j2o ((zs,(ps,(cs,ss))),zs.map tb) x a b=some out/\bB (a-1) out/\out.length<=x.2.2.length*((tb z).2.length+1)/\
   ∀t d,a<=t->t<b->j1y (tb z) t=some d->(br t out↔d.1∈x.2.2):=by
 have hlen:(zs.map tb).length=zs.length:=kn ..;have hg:=GY (zs:=zs) hx.z0 hx.z1;have Nl:=jA hs.so.ok hx.z0 hx.z1;rw[hz]at hg Nl;have ht:=Nl.ztab.2;have gZ:(tb z).2.length<=20:=jyZ Nl;obtain⟨pc,e,pl,pm,Nn⟩:=U7 ht ha bz hb;have mQ:=hx.len;have hd:∀d∈x.2.2,0<=d/\d<=100000:=λd hd=>⟨jAo (hx.day d hd),Vm (hx.day d hd)⟩
 have CV:∀p∈pc, -64800<=p.2.2/\p.2.2<=64800:=λp hp=>by
  obtain⟨_,_,_,i,i1,i2,_⟩:=pm p hp;have:=ht.of0 i i1;have:=ht.of1 i i1;omega
 have l0:=Vt hd mQ (z:=x.2.1) (nm:=x.1) CV (by omega) pc.length 0 [] (by omega) (by simp);rw[jm,jw]at l0;have Vc:(pc.flatMap λp=>x.2.2.map (oc p)).length=pc.length*x.2.2.length:=Vu _ _ (λp=>kn ..) pc;have hm:pc.length*x.2.2.length<=((tb z).2.length+1)*x.2.2.length:=jv _ pl;have jS:((tb z).2.length+1)*x.2.2.length<=21*64:=z6 (by omega) mQ
 have dV:∀s∈(pc.flatMap λp=>x.2.2.map (oc p)),∃p∈pc,∃d∈x.2.2,s=oc p d:=λs h=>by
  obtain⟨p,hp,h⟩:=zi.1 h;obtain⟨d,hd,rfl⟩:=jt.1 h;exact⟨p,hp,d,hd,rfl⟩
 obtain⟨out,e2,s1,s2,s3,s4⟩:=Bd (l:=pc.flatMap λp=>x.2.2.map (oc p)) (by omega) (λs h=>by
  obtain⟨p,hp,d,Bf,rfl⟩:=dV s h;obtain⟨h1,h2,h3,_⟩:=pm p hp;have:=CV p hp;have:=hd d Bf;simp only[oc];refine⟨?_,?_,?_,?_⟩<;>split<;>omega) (lo:=a) (hi:=b) (λs h an=>by
  obtain⟨p,hp,d,Bf,rfl⟩:=dV s h;obtain⟨h1,h2,h3,_⟩:=pm p hp;simp only[oc]at an ⊢;refine⟨?_,?_⟩<;>split<;>omega)
 refine⟨out,?_,s1,by rw[Nat.mul_comm];omega,λt d h1 h2 nC=>?_⟩
 .simp only[j2o];rw[aU hx.z0 (by rw[hlen];exact hx.z1)];simp only[j5,hg,show j1X ((tb z).1,(tb z).2) a b=_ from e,j3,show Int.ofNat pc.length=(pc.length:Int) from rfl];rw[show xT (pc.length:Int) 0 x.1 x.2.1 x.2.2 [] pc=_ from l0];simp only[j3,e2]
 .obtain⟨k,hk,k1,k2⟩:=DJ ht (t:=t) (by omega) (by omega);have:=GH ht hk k1 k2;have GV:=nC.symm.trans this;simp only[j4]at GV;subst GV;dsimp only;rw[s2 t];constructor
  .rintro⟨s,dp,h3,h4⟩
   obtain⟨p,hp,d,Bf,rfl⟩:=dV s dp;obtain⟨c1,c2⟩:=Vv.1 ⟨h3,h4⟩;obtain⟨_,_,_,i,i1,i2,i3,i4⟩:=pm p hp;have:i=k:=GR ht i1 hk (t:=t) (by omega) (by omega) k1 k2;subst this;rw[<-i2,c2];exact Bf
  .intro Bf;obtain⟨p,hp,c1,c2⟩:=Nn t h1 h2;obtain⟨_,_,_,i,i1,i2,i3,i4⟩:=pm p hp;have:i=k:=GR ht i1 hk (t:=t) (by omega) (by omega) k1 k2;subst this;obtain⟨g1,g2⟩:=Vv.2 ⟨⟨c1,c2⟩,show (t+p.2.2)/86400=(t+cG z.2.1 (tb z).2 i)/86400 by rw[i2]⟩;exact⟨_,zi.2 ⟨p,hp,jt.2 ⟨_,Bf,rfl⟩⟩,g1,g2⟩
omit hs in
def aH(zs:List cg)(i:Int):cg:=zs.getD i.toNat (ByteArray.empty,((0:Int),([]:List bj)))
omit hs in
def mG(cs:List bk)(i:Int):bk:=cs.getD i.toNat (ByteArray.empty,((0:Int),([]:List Int)))
omit hs in
def fQ(z:cg)(t:Int):Int×Int:=(j1y (tb z) t).getD (0,0)
omit hs in
def kQ(d:Int×Int):Int:=(j5m d).getD 0
omit hs in
def bU(z:cg)(L:cb)(t:Int):Int:=(j3u (tb z) L t).getD (-1)
omit hs in
def qX(zs:List cg)(cs:List bk)(L:cb)(t:Int):Bool:=
 cond (L.2.2.2.2.2.2.2.2==0) true (decide ((fQ (aH zs (mG cs L.2.2.2.2.2.2.2.1).2.1) t).1∈(mG cs L.2.2.2.2.2.2.2.1).2.2)==(L.2.2.2.2.2.2.2.2==(2:Int)))
omit hs in
def gF(zs:List cg)(cs:List bk)(L:cb)(t:Int):Bool:=
 cond (decide (0<=bU (aH zs L.2.1) L t)) (cond (okW L.2.2.2.2.2.2.1 (kQ (fQ (aH zs L.2.1) t))) (qX zs cs L t) false) false
omit hs in
def cQ(zs:List cg)(cs:List bk)(L:cb)(t:Int):Int:=cond (gF zs cs L t) (qV L (bU (aH zs L.2.1) L t)) (-1)
omit hs in
theorem jz5{z:cg}(hz:ni z){t:Int}(h0:0<=t)(h1:t<=8589934592):j1y (tb z) t=some (fQ z t)/\j5m (fQ z t)=some (kQ (fQ z t)):=by
 obtain⟨d,s,hd,kR⟩:=jAf hz h0 h1;have:fQ z t=d:=by simp[fQ,hd]
 rw[this];exact⟨hd,by simp[kQ,kR]⟩
omit hs in
theorem tN{z:cg}(hz:ni z){L:cb}(hR:Rt L){t:Int}(h0:0<=t)(h1:t<=8589934592):j3u (tb z) L t=some (bU z L t)/\kO z.2.1 (tb z).2 L t (bU z L t):=by
 obtain⟨K,e,hK⟩:=jBg hz.ztab.2 hR h0 h1;have:bU z L t=K:=by simp only[bU,show j3u (tb z) L t=_ from e,q9]
 rw[this];exact⟨e,hK⟩
omit hs in
theorem Np{L:cb}{t:Int}(h:gF zs cs L t=true):0<=bU (aH zs L.2.1) L t:=by
 by_cases hk:0<=bU (aH zs L.2.1) L t
 .exact hk
 .unfold gF at h;rw[ak hk]at h;simp at h
theorem jz7{L:cb}(hL:fD zs.length ps.length cs.length L){t:Int}(_h0:0<=t)(_h1:t<=8589934592):(gF zs cs L t=true↔0<=cQ zs cs L t) /\ -1<=cQ zs cs L t/\cQ zs cs L t<ps.length:=by
 have rU:gF zs cs L t=true->0<=bU (aH zs L.2.1) L t:=Np;unfold cQ;have hp:=hs.so.p0;cases hc:gF zs cs L t with
 |false=>simp;omega
 |true=>
  have hk:=rU hc;have gj:=hL.m0;have q1:0<=Int.tmod (bU (aH zs L.2.1) L t) (L.2.2.2.2.2.1.length:Int):=Int.tmod_nonneg _ hk;have q2:Int.tmod (bU (aH zs L.2.1) L t) (L.2.2.2.2.2.1.length:Int)<(L.2.2.2.2.2.1.length:Int):=Int.tmod_lt_of_pos _ (by omega);have hi:(Int.tmod (bU (aH zs L.2.1) L t) (L.2.2.2.2.2.1.length:Int)).toNat<L.2.2.2.2.2.1.length:=by omega
  have e:qV L (bU (aH zs L.2.1) L t)=L.2.2.2.2.2.1[(Int.tmod (bU (aH zs L.2.1) L t) (L.2.2.2.2.2.1.length:Int)).toNat]:=by simp[qV,List.getD,hi]
  rw[j5,e];have:=hL.mem _ (jg hi);exact⟨⟨λ_=>this.1,λ_=>rfl⟩,by omega,this.2⟩
theorem jvC{L:cb}(hL:fD zs.length ps.length cs.length L){ss:List cM}{a b:Int}(ha:0<=a)(bz:a<=b)(hb:b<=8589934592){M:Nat}(hM:M<=60)(hlen:b-a<=604800*M) :
  ∃out,j4I ((zs,(ps,(cs,ss))),zs.map tb) L a b=some out/\bB (a-1) out/\(∀t,br t out↔a<=t/\t<b/\gF zs cs L t=true)/\
   out.length<=L.2.2.2.2.2.2.1.length*(M+1)*5+1+(if L.2.2.2.2.2.2.2.2=0 then 0 else (mG cs L.2.2.2.2.2.2.2.1).2.2.length*5):=by
 have Nq:=hL.rt2;have l7:(zs.map tb).length=zs.length:=kn ..;have hz:=jA hs.so.ok hL.z0 hL.z1;have hg:=GY (zs:=zs) hL.z0 hL.z1;have kB:=hL.wl;have gZ:(tb (aH zs L.2.1)).2.length<=4:=GZ hz;obtain⟨v,ev,hv⟩:=n4 hz.ztab.2 Nq (k:=0) (by omega) (by omega)
 have oH:∀t,a<=t->t<b->(0<=bU (aH zs L.2.1) L t↔QO (aH zs L.2.1).2.1 (tb (aH zs L.2.1)).2 L t 0):=λt h1 h2=>by
  have hK:=(tN hz Nq (t:=t) (by omega) (by omega)).2;constructor
  .intro hk;rcases hK with⟨hK,_⟩|⟨_,hq,_⟩
   .have:bU (aH zs L.2.1) L t = -1:=hK;omega
   .exact QO.le hz.ztab.2 Nq hk hq
  .intro hq;rcases hK with⟨_,hn⟩|⟨hk,_,_⟩
   .exact absurd hq hn
   .exact hk
 have sd:∀t,a<=t->t<b->¬QO (aH zs L.2.1).2.1 (tb (aH zs L.2.1)).2 L t 0->gF zs cs L t=false:=λt h1 h2 hq=>by
  unfold gF;rw[ak (λh=>hq ((oH t h1 h2).1 h))];rfl
 simp only[j4I];rw[aU hL.z0 (by rw[l7];exact hL.z1)];simp only[j5,hg];rw[show j1d ((tb (zs.getD L.2.1.toNat (ByteArray.empty,((0:Int),([]:List bj))))).1,(tb (zs.getD L.2.1.toNat (ByteArray.empty,((0:Int),([]:List bj))))).2) (L.1,L.2.1,(L.2.2.1.1,L.2.2.1.2),L.2.2.2.1,L.2.2.2.2.1,L.2.2.2.2.2.1,L.2.2.2.2.2.2.1,L.2.2.2.2.2.2.2.1,L.2.2.2.2.2.2.2.2) 0=_ from ev];simp only[j3]
 have nL:∀(P:∀t,a<=t->t<b->gF zs cs L t=false),∃out,some ([]:SL)=some out/\bB (a-1) out/\(∀t,br t out↔a<=t/\t<b/\gF zs cs L t=true)/\
   out.length<=L.2.2.2.2.2.2.1.length*(M+1)*5+1+(if L.2.2.2.2.2.2.2.2=0 then 0 else (mG cs L.2.2.2.2.2.2.2.1).2.2.length*5):=λP=>
  ⟨[],rfl,trivial,λt=>⟨λh=>absurd h gE,λ⟨h1,h2,h3⟩=>by rw[P t h1 h2]at h3;simp at h3⟩,kc _⟩
 cases hh:hO (zs.getD L.2.1.toNat (ByteArray.empty,((0:Int),([]:List bj)))).2.1 (tb (zs.getD L.2.1.toNat (ByteArray.empty,((0:Int),([]:List bj))))).2 L 0 with
 |none=>
  simp only[vi,jy,j5]
  exact nL λt h1 h2=>sd t h1 h2 (by
   rintro⟨u,hu,_⟩
   have fi:=hh.symm.trans hu;simp at fi)
 |some u=>
  have:=hv u hh;subst this
  have hq:∀t,QO (aH zs L.2.1).2.1 (tb (aH zs L.2.1)).2 L t 0↔v<=t:=λt=>⟨λ⟨u,hu,hut⟩=>by
   have fi:=hh.symm.trans hu;simp only[j4]at fi;omega,λh=>⟨v,hh,h⟩⟩
  simp only[zk,jr,j6];by_cases EY:v>=b
  .rw[aj EY];simp only[j5];exact nL λt h1 h2=>sd t h1 h2 (λh=>by have:=(hq t).1 h;omega)
  .rw[ak EY];simp only[j6];by_cases Eh:a>=b
   .rw[aj Eh];simp only[j5];exact nL λt h1 h2=>by omega
   .rw[ak Eh];simp only[j6];obtain⟨c,hc,Nr,rE,I3,wq⟩:∃c:Int,c=(if v>a then v else a)/\a<=c/\v<=c/\c<b/\∀t,a<=t->t<c->t<v:=⟨_,rfl,by split<;>omega,by split<;>omega,by split<;>omega,λt h1 h2=>by split at h2<;>omega⟩;rw[<-hc]
    obtain⟨A,Ei,od,Ns,Nt,Vw,hA6⟩:∃A:SL,((L.2.2.2.2.2.2.1.length:Int)>0->j2u (tb (aH zs L.2.1)) L.2.2.2.2.2.2.1 c b=some A)/\(¬(L.2.2.2.2.2.2.1.length:Int)>0->A=[(c,b)])/\bB (c-1) A/\
      (∀t,br t A->t<b)/\(∀t,c<=t->t<b->(br t A↔okW L.2.2.2.2.2.2.1 (kQ (fQ (aH zs L.2.1) t))=true))/\A.length<=L.2.2.2.2.2.2.1.length*(M+1)*5+1:=by
     by_cases hw:(L.2.2.2.2.2.2.1.length:Int)>0
     .obtain⟨A,e,s1,s2,s3,s4⟩:=Vb hz.ztab.2 (qg gZ (by omega)) hL.w kB hM (a:=c) (b:=b) (by omega) (by omega) hb (by omega);refine⟨A,λ_=>e,λh=>absurd hw h,s1,λt ⟨s,dp,h1,h2⟩=>by have:=(s2 s dp).2;omega,λt h1 h2=>?_,?_⟩
      .obtain⟨k,hk,k1,k2⟩:=DJ hz.ztab.2 (t:=t) (by omega) (by omega);rw[s4 k hk t h1 h2 k1 k2];have xc:fQ (aH zs L.2.1) t=((t+cG (aH zs L.2.1).2.1 (tb (aH zs L.2.1)).2 k)/86400,(t+cG (aH zs L.2.1).2.1 (tb (aH zs L.2.1)).2 k)%86400):=by unfold fQ;rw[show j1y (tb (aH zs L.2.1)) t=_ from GH hz.ztab.2 hk k1 k2];rfl
       have o0:=hz.ztab.2.of0 k hk;have o1:=hz.ztab.2.of1 k hk;have iu:kQ (fQ (aH zs L.2.1) t)=(t+cG (aH zs L.2.1).2.1 (tb (aH zs L.2.1)).2 k+259200)%604800:=by rw[xc];simp only[kQ,j5m];have o0' : -64800<=cG (aH zs L.2.1).2.1 (tb (aH zs L.2.1)).2 k:=o0;have o1':cG (aH zs L.2.1).2.1 (tb (aH zs L.2.1)).2 k<=64800:=o1;rw[T0 _ (by omega)];simp only[j3,q9];generalize cG (aH zs L.2.1).2.1 (tb (aH zs L.2.1)).2 k=o at *;rw[ah (x:=((t+o)/86400+3)%7*86400) (by omega) (by omega),ah (by omega) (by omega)];omega
       rw[iu];unfold okW;rw[aj hw];rfl
      .have:L.2.2.2.2.2.2.1.length*(M+1)*((tb (aH zs L.2.1)).2.length+1)<=L.2.2.2.2.2.2.1.length*(M+1)*5:=Nat.mul_le_mul_left _ (by omega);have s3':A.length<=L.2.2.2.2.2.2.1.length*(M+1)*((tb (aH zs L.2.1)).2.length+1):=s3;omega
     .refine⟨[(c,b)],λh=>absurd h hw,λ_=>rfl,⟨by dsimp only;omega,I3,trivial⟩,λt h=>?_,λt h1 h2=>?_,by simp⟩
      .rcases eM.1 h with h|h
       .exact h.2
       .exact absurd h gE
      .unfold okW;rw[ak hw];exact⟨λ_=>rfl,λ_=>eM.2 (.inl ⟨h1,h2⟩)⟩
    have hA7:A.length<=30000:=by have:L.2.2.2.2.2.2.1.length*(M+1)<=14*61:=z6 kB (by omega);omega
    have dq:∀out:SL,bB (c-1) out->(∀t,br t out->t<b)->(∀t,c<=t->t<b->(br t out↔br t A/\qX zs cs L t=true))->bB (a-1) out/\∀t,br t out↔a<=t/\t<b/\gF zs cs L t=true:=λout h1 h2 h3=>by
     refine⟨h1.weak (by omega),λt=>⟨λhx=>?_,λ⟨g1,g2,g3⟩=>?_⟩⟩
     .have l1:=bB.low h1 hx;have l2:=h2 t hx;refine⟨by omega,l2,?_⟩;have:=(h3 t (by omega) l2).1 hx;unfold gF;rw[aj ((oH t (by omega) l2).2 ((hq t).2 (by omega))),(Vw t (by omega) l2).1 this.1,this.2];rfl
     .have hk:=Np g3;have w8:=(hq t).1 ((oH t g1 g2).1 hk);have Vx:c<=t:=by apply jq;intro hn;have:=wq t g1 (by omega);omega
      refine(h3 t Vx g2).2 ⟨(Vw t Vx g2).2 ?_,?_⟩
      .unfold gF at g3;rw[aj hk]at g3;revert g3;cases okW L.2.2.2.2.2.2.1 (kQ (fQ (aH zs L.2.1) t))<;>simp
      .unfold gF at g3;rw[aj hk]at g3;revert g3;cases okW L.2.2.2.2.2.2.1 (kQ (fQ (aH zs L.2.1) t))<;>simp
    by_cases hm:L.2.2.2.2.2.2.2.2=0
    .have dg:=dq A Ns Nt (λt _ _=>by unfold qX;rw[dT hm];simp);rw[cJ (show¬L.2.2.2.2.2.2.2.2=1 by omega),cJ (show¬L.2.2.2.2.2.2.2.2=2 by omega),if_pos hm];simp only[j6];by_cases hw:(L.2.2.2.2.2.2.1.length:Int)>0
     .rw[show Int.ofNat L.2.2.2.2.2.2.1.length=(L.2.2.2.2.2.2.1.length:Int) from rfl,aj hw,j5,show j2u ((tb (zs.getD L.2.1.toNat (ByteArray.empty,((0:Int),([]:List bj))))).1,(tb (zs.getD L.2.1.toNat (ByteArray.empty,((0:Int),([]:List bj))))).2) L.2.2.2.2.2.2.1 c b=_ from Ei hw];simp only[j3];exact⟨A,rfl,dg.1,dg.2,by omega⟩
     .rw[show Int.ofNat L.2.2.2.2.2.2.1.length=(L.2.2.2.2.2.2.1.length:Int) from rfl,ak hw,j6,<-od hw];exact⟨A,rfl,dg.1,dg.2,by omega⟩
    .have dv:=hL.cal hm;have hx:=yJ hs dv.1 dv.2;have Fl:=jA hs.so.ok hx.z0 hx.z1;have hll2:(tb (aH zs (mG cs L.2.2.2.2.2.2.2.1).2.1)).2.length<=4:=GZ Fl;obtain⟨D,e2,d1,d2,d3⟩:=jz4 hs hx (ss:=ss) (a:=c) (b:=b) (by omega) (by omega) hb rfl
     have kS:D.length<=(mG cs L.2.2.2.2.2.2.2.1).2.2.length*5:=qg d2 (Nat.mul_le_mul_left _ (by
      have:(tb (aH zs (mG cs L.2.2.2.2.2.2.2.1).2.1)).2.length+1<=5:=by omega
      exact this))
     have hDl2:D.length<=2000:=by have:=hx.len;have h64:(mG cs L.2.2.2.2.2.2.2.1).2.2.length<=64:=this;omega
     have Vy:∀t,c<=t->t<b->(br t D↔(fQ (aH zs (mG cs L.2.2.2.2.2.2.2.1).2.1) t).1∈(mG cs L.2.2.2.2.2.2.2.1).2.2):=λt h1 h2=>d3 t _ h1 h2 (jz5 Fl (by omega) (by omega)).1;rw[if_neg hm,aU dv.1 dv.2];have Ej:L.2.2.2.2.2.2.2.2=1\/L.2.2.2.2.2.2.2.2=2:=by have:=hL.mode0;have:=hL.mode1;omega
     rcases Ej with fF|jS
     .obtain⟨out,e3,w1,w2,w3⟩:=Nj (by omega) Ns d1 (by omega)
      have dg:=dq out w1 (λt h=>Nt t ((w2 t).1 h).1) (λt h1 h2=>by
       rw[w2 t,Vy t h1 h2];unfold qX;rw[cJ hm,cJ (show¬L.2.2.2.2.2.2.2.2=2 by omega),j6];simp)
      rw[dT fF];simp only[j5];by_cases hw:(L.2.2.2.2.2.2.1.length:Int)>0
      .rw[show Int.ofNat L.2.2.2.2.2.2.1.length=(L.2.2.2.2.2.2.1.length:Int) from rfl,aj hw,j5,show j2u ((tb (zs.getD L.2.1.toNat (ByteArray.empty,((0:Int),([]:List bj))))).1,(tb (zs.getD L.2.1.toNat (ByteArray.empty,((0:Int),([]:List bj))))).2) L.2.2.2.2.2.2.1 c b=_ from Ei hw];simp only[j3];refine⟨out,?_,dg.1,dg.2,by omega⟩;rw[show j2o ((zs,(ps,(cs,ss))),zs.map tb) ((cs.getD L.2.2.2.2.2.2.2.1.toNat (ByteArray.empty,((0:Int),([]:List Int)))).1,(cs.getD L.2.2.2.2.2.2.2.1.toNat (ByteArray.empty,((0:Int),([]:List Int)))).2.1,(cs.getD L.2.2.2.2.2.2.2.1.toNat (ByteArray.empty,((0:Int),([]:List Int)))).2.2) c b=_ from e2];simp only[j3,e3]
      .rw[show Int.ofNat L.2.2.2.2.2.2.1.length=(L.2.2.2.2.2.2.1.length:Int) from rfl,ak hw,j6,<-od hw];refine⟨out,?_,dg.1,dg.2,by omega⟩;rw[show j2o ((zs,(ps,(cs,ss))),zs.map tb) ((cs.getD L.2.2.2.2.2.2.2.1.toNat (ByteArray.empty,((0:Int),([]:List Int)))).1,(cs.getD L.2.2.2.2.2.2.2.1.toNat (ByteArray.empty,((0:Int),([]:List Int)))).2.1,(cs.getD L.2.2.2.2.2.2.2.1.toNat (ByteArray.empty,((0:Int),([]:List Int)))).2.2) c b=_ from e2];simp only[j3,e3]
     .obtain⟨out,e3,w1,w2,w3⟩:=Vd Ns d1 (by omega) (by omega)
      have dg:=dq out w1 (λt h=>Nt t ((w2 t).1 h).1) (λt h1 h2=>by
       rw[w2 t,Vy t h1 h2];unfold qX;rw[cJ hm,dT jS,j6];simp)
      rw[cJ (show¬L.2.2.2.2.2.2.2.2=1 by omega),dT jS];simp only[j5,j6];by_cases hw:(L.2.2.2.2.2.2.1.length:Int)>0
      .rw[show Int.ofNat L.2.2.2.2.2.2.1.length=(L.2.2.2.2.2.2.1.length:Int) from rfl,aj hw,j5,show j2u ((tb (zs.getD L.2.1.toNat (ByteArray.empty,((0:Int),([]:List bj))))).1,(tb (zs.getD L.2.1.toNat (ByteArray.empty,((0:Int),([]:List bj))))).2) L.2.2.2.2.2.2.1 c b=_ from Ei hw];simp only[j3];refine⟨out,?_,dg.1,dg.2,by omega⟩;rw[show j2o ((zs,(ps,(cs,ss))),zs.map tb) ((cs.getD L.2.2.2.2.2.2.2.1.toNat (ByteArray.empty,((0:Int),([]:List Int)))).1,(cs.getD L.2.2.2.2.2.2.2.1.toNat (ByteArray.empty,((0:Int),([]:List Int)))).2.1,(cs.getD L.2.2.2.2.2.2.2.1.toNat (ByteArray.empty,((0:Int),([]:List Int)))).2.2) c b=_ from e2];simp only[j3,e3]
      .rw[show Int.ofNat L.2.2.2.2.2.2.1.length=(L.2.2.2.2.2.2.1.length:Int) from rfl,ak hw,j6,<-od hw];refine⟨out,?_,dg.1,dg.2,by omega⟩;rw[show j2o ((zs,(ps,(cs,ss))),zs.map tb) ((cs.getD L.2.2.2.2.2.2.2.1.toNat (ByteArray.empty,((0:Int),([]:List Int)))).1,(cs.getD L.2.2.2.2.2.2.2.1.toNat (ByteArray.empty,((0:Int),([]:List Int)))).2.1,(cs.getD L.2.2.2.2.2.2.2.1.toNat (ByteArray.empty,((0:Int),([]:List Int)))).2.2) c b=_ from e2];simp only[j3,e3]
end
end Go.Proofs.Pw
