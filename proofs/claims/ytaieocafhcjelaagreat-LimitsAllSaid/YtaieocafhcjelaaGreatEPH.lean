/- oh.View.Times: the Eu of a range in which a Eo is on oh. -/
import Derived.Test.YtaieocafhcjelaaGreatEPF
import Derived.Test.YtaieocafhcjelaaGreatEPG
noncomputable section
open Go Go.Lft
namespace Go.Proofs.Pw
theorem jAE{d:Int}(h:j2k d=some true):0<=d:=by
 apply jr;intro hd;simp only[j2k,j85,Vy,Vx,j3]at h;rw[aj (show d<0 by omega)]at h;simp at h
def oo(p:Int×(Int×Int))(d:Int):Int×Int:=
 (if d*86400-p.2.2>p.1 then d*86400-p.2.2 else p.1,if d*86400-p.2.2+86400<p.2.1 then d*86400-p.2.2+86400 else p.2.1)
theorem VF{ds:List Int}(hd:∀d∈ds,0<=d/\d<=100000)(hl:ds.length<=64){p:Int×(Int×Int)}(hp : -64800<=p.2.2/\p.2.2<=64800){m q z:Int}{nm:ByteArray}{ps:List (Int×(Int×Int))}:∀(n i:Nat)(acc:SL),i+n=ds.length->acc.length+n<=1000000->
  x8 m q ds (ds.length:Int) (i:Int) nm z ds p.1 p.2.1 p.2.2 acc ps=some (m,q,nm,z,ds,acc++(ds.drop i).map (oo p),ps)
 |0,i,acc,hi,_=>by
  rw[Sq];simp only[j4j];rw[al (by omega),j6,aW,jf (by omega)];simp
 |n+1,i,acc,hi,eT=>by
  have bF:i<ds.length:=by omega
  have bh:ds.getD i (0:Int)=ds[i]:=by simp[bF]
  have hdi:=hd _ (jh bF);rw[Sq];simp only[j4j];rw[aj (by omega),aX (by omega) (by omega)];simp only[j5,j7,bh];rw[ai (x:=ds[i]*86400) (by omega) (by omega),ai (x:=ds[i]*86400-p.2.2) (by omega) (by omega),ai (x:=ds[i]*86400-p.2.2+86400) (by omega) (by omega),ai (x:=(i:Int)+1) (by omega) (by omega),aj (by simp[aR];omega),jc bF];simp only[j5,aJ,kr];have:=VF hd hl hp (m:=m) (q:=q) (z:=z) (nm:=nm) (ps:=ps) n (i+1) (acc++[oo p ds[i]]) (by omega) (by simp;omega);rw[jd]at this;exact this
theorem VG{ds:List Int}(hd:∀d∈ds,0<=d/\d<=100000)(hl:ds.length<=64){z:Int}{nm:ByteArray}{ps:List (Int×(Int×Int))}(gG:∀p∈ps, -64800<=p.2.2/\p.2.2<=64800)(fv:ps.length<=100):∀(n i:Nat)(acc:SL),i+n=ps.length->acc.length<=64*i->
  x9 (ps.length:Int) (i:Int) nm z ds acc ps=some (acc++(ps.drop i).flatMap λp=>ds.map (oo p))
 |0,i,acc,hi,_=>by
  rw[Sr];simp only[j2h];rw[al (by omega),j6,aW,jf (by omega)];simp
 |n+1,i,acc,hi,eT=>by
  have bF:i<ps.length:=by omega
  have bh:ps.getD i ((0:Int),((0:Int),(0:Int)))=ps[i]:=by simp[List.getD,bF]
  have h2:=VF hd hl (gG _ (jh bF)) (m:=(ps.length:Int)) (q:=(i:Int)) (z:=z) (nm:=nm) (ps:=ps) ds.length 0 acc (by omega) (by omega);have ih:=VG hd hl (z:=z) (nm:=nm) gG fv n (i+1) (acc++ds.map (oo ps[i])) (by omega) (by simp;omega);rw[Sr];simp only[j2h];rw[aj (by omega),aX (by omega) (by omega)];simp only[j5,j7,bh,show Int.ofNat ds.length=(ds.length:Int) from rfl];rw[show x8 (ps.length:Int) (i:Int) ds (ds.length:Int) 0 nm z ds ps[i].1 ps[i].2.1 ps[i].2.2 acc ps=_ from h2];simp only[j3,jv];rw[ai (x:=(i:Int)+1) (by omega) (by omega),aJ,jc bF,qx,<-jd];exact ih
theorem VH{α β:Type}(f:α->List β)(k:Nat)(hf:∀a,(f a).length=k):∀l:List α,(l.flatMap f).length=l.length*k
 |[]=>by simp
 |a::l=>by rw[qx,ja,VH f k hf l,hf,jk,Nat.add_mul,Nat.one_mul];omega
theorem VI{p:Int×(Int×Int)}{d x:Int}:((oo p d).1<=x/\x<(oo p d).2)↔(p.1<=x/\x<p.2.1)/\(x+p.2.2)/86400=d:=by
 simp only[oo];constructor
 .intro h;split at h<;>split at h<;>omega
 .intro h;split<;>split<;>omega
section
variable{zs:List bY}{ps:List dB}{cs:List bf}(hs:eX zs ps cs)
include hs
theorem jzh{x:bf}(hx:vT zs.length x){ss:List cA}{a b:Int}(ha:0<=a)(bR:a<=b)(hb:b<=8589934592){z:bY}(hz:zs.getD x.2.1.toNat (ByteArray.empty,((0:Int),([]:List bm)))=z) :
  ∃out,j2s ((zs,(ps,(cs,ss))),zs.map tb) x a b=some out/\bK (a-1) out/\out.length<=x.2.2.length*((tb z).2.length+1)/\
   ∀t d,a<=t->t<b->j1B (tb z) t=some d->(bz t out↔d.1∈x.2.2):=by
 have hlen:(zs.map tb).length=zs.length:=kb ..;have hg:=G5 (zs:=zs) hx.z0 hx.z1;have NB:=jF hs.so.ok hx.z0 hx.z1;rw[hz]at hg NB;have ht:=NB.ztab.2;have ib:(tb z).2.length<=20:=jzc NB;obtain⟨pc,e,pl,pm,NC⟩:=Vj ht ha bR hb;have mU:=hx.len;have hd:∀d∈x.2.2,0<=d/\d<=100000:=λd hd=>⟨jAE (hx.day d hd),Vz (hx.day d hd)⟩
 have C2:∀p∈pc, -64800<=p.2.2/\p.2.2<=64800:=λp hp=>by
  obtain⟨_,_,_,i,i1,i2,_⟩:=pm p hp;have:=ht.of0 i i1;have:=ht.of1 i i1;omega
 have l0:=VG hd mU (z:=x.2.1) (nm:=x.1) C2 (by omega) pc.length 0 [] (by omega) (by simp);rw[jl,jv]at l0;have Vo:(pc.flatMap λp=>x.2.2.map (oo p)).length=pc.length*x.2.2.length:=VH _ _ (λp=>kb ..) pc;have hm:pc.length*x.2.2.length<=((tb z).2.length+1)*x.2.2.length:=jx _ pl;have jX:((tb z).2.length+1)*x.2.2.length<=21*64:=qw (by omega) mU
 have dY:∀s∈(pc.flatMap λp=>x.2.2.map (oo p)),∃p∈pc,∃d∈x.2.2,s=oo p d:=λs h=>by
  obtain⟨p,hp,h⟩:=zk.1 h;obtain⟨d,hd,rfl⟩:=ju.1 h;exact⟨p,hp,d,hd,rfl⟩
 obtain⟨out,e2,s1,s2,s3,s4⟩:=Bl (l:=pc.flatMap λp=>x.2.2.map (oo p)) (by omega) (λs h=>by
  obtain⟨p,hp,d,Bn,rfl⟩:=dY s h;obtain⟨h1,h2,h3,_⟩:=pm p hp;have:=C2 p hp;have:=hd d Bn;simp only[oo];refine⟨?_,?_,?_,?_⟩<;>split<;>omega) (lo:=a) (hi:=b) (λs h aq=>by
  obtain⟨p,hp,d,Bn,rfl⟩:=dY s h;obtain⟨h1,h2,h3,_⟩:=pm p hp;simp only[oo]at aq ⊢;refine⟨?_,?_⟩<;>split<;>omega)
 refine⟨out,?_,s1,by rw[Nat.mul_comm];omega,λt d h1 h2 nH=>?_⟩
 .simp only[j2s];rw[aX hx.z0 (by rw[hlen];exact hx.z1)];simp only[j5,hg,show j1Z ((tb z).1,(tb z).2) a b=_ from e,j3,show Int.ofNat pc.length=(pc.length:Int) from rfl];rw[show x9 (pc.length:Int) 0 x.1 x.2.1 x.2.2 [] pc=_ from l0];simp only[j3,e2]
 .obtain⟨k,hk,k1,k2⟩:=DW ht (t:=t) (by omega) (by omega);have:=GP ht hk k1 k2;have G2:=nH.symm.trans this;simp only[j4]at G2;subst G2;dsimp only;rw[s2 t];constructor
  .rintro⟨s,dr,h3,h4⟩
   obtain⟨p,hp,d,Bn,rfl⟩:=dY s dr;obtain⟨c1,c2⟩:=VI.1 ⟨h3,h4⟩;obtain⟨_,_,_,i,i1,i2,i3,i4⟩:=pm p hp;have:i=k:=GZ ht i1 hk (t:=t) (by omega) (by omega) k1 k2;subst this;rw[<-i2,c2];exact Bn
  .intro Bn;obtain⟨p,hp,c1,c2⟩:=NC t h1 h2;obtain⟨_,_,_,i,i1,i2,i3,i4⟩:=pm p hp;have:i=k:=GZ ht i1 hk (t:=t) (by omega) (by omega) k1 k2;subst this;obtain⟨g1,g2⟩:=VI.2 ⟨⟨c1,c2⟩,show (t+p.2.2)/86400=(t+cI z.2.1 (tb z).2 i)/86400 by rw[i2]⟩;exact⟨_,zk.2 ⟨p,hp,ju.2 ⟨_,Bn,rfl⟩⟩,g1,g2⟩
omit hs in
def aK(zs:List bY)(i:Int):bY:=zs.getD i.toNat (ByteArray.empty,((0:Int),([]:List bm)))
omit hs in
def mJ(cs:List bf)(i:Int):bf:=cs.getD i.toNat (ByteArray.empty,((0:Int),([]:List Int)))
omit hs in
def fU(z:bY)(t:Int):Int×Int:=(j1B (tb z) t).getD (0,0)
omit hs in
def kV(d:Int×Int):Int:=(j5l d).getD 0
omit hs in
def bV(z:bY)(L:cg)(t:Int):Int:=(j3v (tb z) L t).getD (-1)
omit hs in
def qZ(zs:List bY)(cs:List bf)(L:cg)(t:Int):Bool:=
 cond (L.2.2.2.2.2.2.2.2==0) true (decide ((fU (aK zs (mJ cs L.2.2.2.2.2.2.2.1).2.1) t).1∈(mJ cs L.2.2.2.2.2.2.2.1).2.2)==(L.2.2.2.2.2.2.2.2==(2:Int)))
omit hs in
def gK(zs:List bY)(cs:List bf)(L:cg)(t:Int):Bool:=
 cond (decide (0<=bV (aK zs L.2.1) L t)) (cond (okW L.2.2.2.2.2.2.1 (kV (fU (aK zs L.2.1) t))) (qZ zs cs L t) false) false
omit hs in
def cR(zs:List bY)(cs:List bf)(L:cg)(t:Int):Int:=cond (gK zs cs L t) (qX L (bV (aK zs L.2.1) L t)) (-1)
omit hs in
theorem jzi{z:bY}(hz:nq z){t:Int}(h0:0<=t)(h1:t<=8589934592):j1B (tb z) t=some (fU z t)/\j5l (fU z t)=some (kV (fU z t)):=by
 obtain⟨d,s,hd,Bo⟩:=jAv hz h0 h1;have:fU z t=d:=by simp[fU,hd]
 rw[this];exact⟨hd,by simp[kV,Bo]⟩
omit hs in
theorem tS{z:bY}(hz:nq z){L:cg}(hR:Rt L){t:Int}(h0:0<=t)(h1:t<=8589934592):j3v (tb z) L t=some (bV z L t)/\kT z.2.1 (tb z).2 L t (bV z L t):=by
 obtain⟨K,e,hK⟩:=jBy hz.ztab.2 hR h0 h1;have:bV z L t=K:=by simp only[bV,show j3v (tb z) L t=_ from e,kz]
 rw[this];exact⟨e,hK⟩
omit hs in
theorem ND{L:cg}{t:Int}(h:gK zs cs L t=true):0<=bV (aK zs L.2.1) L t:=by
 by_cases hk:0<=bV (aK zs L.2.1) L t
 .exact hk
 .unfold gK at h;rw[al hk]at h;simp at h
theorem jzk{L:cg}(hL:fI zs.length ps.length cs.length L){t:Int}(_h0:0<=t)(_h1:t<=8589934592):(gK zs cs L t=true↔0<=cR zs cs L t) /\ -1<=cR zs cs L t/\cR zs cs L t<ps.length:=by
 have rX:gK zs cs L t=true->0<=bV (aK zs L.2.1) L t:=ND;unfold cR;have hp:=hs.so.p0;cases hc:gK zs cs L t with
 |false=>simp;omega
 |true=>
  have hk:=rX hc;have gI:=hL.m0;have q1:0<=Int.tmod (bV (aK zs L.2.1) L t) (L.2.2.2.2.2.1.length:Int):=Int.tmod_nonneg _ hk;have q2:Int.tmod (bV (aK zs L.2.1) L t) (L.2.2.2.2.2.1.length:Int)<(L.2.2.2.2.2.1.length:Int):=Int.tmod_lt_of_pos _ (by omega);have hi:(Int.tmod (bV (aK zs L.2.1) L t) (L.2.2.2.2.2.1.length:Int)).toNat<L.2.2.2.2.2.1.length:=by omega
  have e:qX L (bV (aK zs L.2.1) L t)=L.2.2.2.2.2.1[(Int.tmod (bV (aK zs L.2.1) L t) (L.2.2.2.2.2.1.length:Int)).toNat]:=by simp[qX,List.getD,hi]
  rw[j5,e];have:=hL.mem _ (jh hi);exact⟨⟨λ_=>this.1,λ_=>rfl⟩,by omega,this.2⟩
theorem jvM{L:cg}(hL:fI zs.length ps.length cs.length L){ss:List cA}{a b:Int}(ha:0<=a)(bR:a<=b)(hb:b<=8589934592){M:Nat}(hM:M<=60)(hlen:b-a<=604800*M) :
  ∃out,j4G ((zs,(ps,(cs,ss))),zs.map tb) L a b=some out/\bK (a-1) out/\(∀t,bz t out↔a<=t/\t<b/\gK zs cs L t=true)/\
   out.length<=L.2.2.2.2.2.2.1.length*(M+1)*5+1+(if L.2.2.2.2.2.2.2.2=0 then 0 else (mJ cs L.2.2.2.2.2.2.2.1).2.2.length*5):=by
 have NF:=hL.rt2;have mc:(zs.map tb).length=zs.length:=kb ..;have hz:=jF hs.so.ok hL.z0 hL.z1;have hg:=G5 (zs:=zs) hL.z0 hL.z1;have kG:=hL.wl;have ib:(tb (aK zs L.2.1)).2.length<=4:=G6 hz;obtain⟨v,ev,hv⟩:=og hz.ztab.2 NF (k:=0) (by omega) (by omega)
 have oO:∀t,a<=t->t<b->(0<=bV (aK zs L.2.1) L t↔QO (aK zs L.2.1).2.1 (tb (aK zs L.2.1)).2 L t 0):=λt h1 h2=>by
  have hK:=(tS hz NF (t:=t) (by omega) (by omega)).2;constructor
  .intro hk;rcases hK with⟨hK,_⟩|⟨_,hq,_⟩
   .have:bV (aK zs L.2.1) L t = -1:=hK;omega
   .exact QO.le hz.ztab.2 NF hk hq
  .intro hq;rcases hK with⟨_,hn⟩|⟨hk,_,_⟩
   .exact absurd hq hn
   .exact hk
 have sj:∀t,a<=t->t<b->¬QO (aK zs L.2.1).2.1 (tb (aK zs L.2.1)).2 L t 0->gK zs cs L t=false:=λt h1 h2 hq=>by
  unfold gK;rw[al (λh=>hq ((oO t h1 h2).1 h))];rfl
 simp only[j4G];rw[aX hL.z0 (by rw[mc];exact hL.z1)];simp only[j5,hg];rw[show j1g ((tb (zs.getD L.2.1.toNat (ByteArray.empty,((0:Int),([]:List bm))))).1,(tb (zs.getD L.2.1.toNat (ByteArray.empty,((0:Int),([]:List bm))))).2) (L.1,L.2.1,(L.2.2.1.1,L.2.2.1.2),L.2.2.2.1,L.2.2.2.2.1,L.2.2.2.2.2.1,L.2.2.2.2.2.2.1,L.2.2.2.2.2.2.2.1,L.2.2.2.2.2.2.2.2) 0=_ from ev];simp only[j3]
 have nQ:∀(P:∀t,a<=t->t<b->gK zs cs L t=false),∃out,some ([]:SL)=some out/\bK (a-1) out/\(∀t,bz t out↔a<=t/\t<b/\gK zs cs L t=true)/\
   out.length<=L.2.2.2.2.2.2.1.length*(M+1)*5+1+(if L.2.2.2.2.2.2.2.2=0 then 0 else (mJ cs L.2.2.2.2.2.2.2.1).2.2.length*5):=λP=>
  ⟨[],rfl,trivial,λt=>⟨λh=>absurd h gJ,λ⟨h1,h2,h3⟩=>by rw[P t h1 h2]at h3;simp at h3⟩,kc _⟩
 cases hh:hO (zs.getD L.2.1.toNat (ByteArray.empty,((0:Int),([]:List bm)))).2.1 (tb (zs.getD L.2.1.toNat (ByteArray.empty,((0:Int),([]:List bm))))).2 L 0 with
 |none=>
  simp only[vp,k7,j5]
  exact nQ λt h1 h2=>sj t h1 h2 (by
   rintro⟨u,hu,_⟩
   have fo:=hh.symm.trans hu;simp at fo)
 |some u=>
  have:=hv u hh;subst this
  have hq:∀t,QO (aK zs L.2.1).2.1 (tb (aK zs L.2.1)).2 L t 0↔v<=t:=λt=>⟨λ⟨u,hu,hut⟩=>by
   have fo:=hh.symm.trans hu;simp only[j4]at fo;omega,λh=>⟨v,hh,h⟩⟩
  simp only[zo,jq,j6];by_cases Fc:v>=b
  .rw[aj Fc];simp only[j5];exact nQ λt h1 h2=>sj t h1 h2 (λh=>by have:=(hq t).1 h;omega)
  .rw[al Fc];simp only[j6];by_cases Ev:a>=b
   .rw[aj Ev];simp only[j5];exact nQ λt h1 h2=>by omega
   .rw[al Ev];simp only[j6];obtain⟨c,hc,NG,rI,Ja,wB⟩:∃c:Int,c=(if v>a then v else a)/\a<=c/\v<=c/\c<b/\∀t,a<=t->t<c->t<v:=⟨_,rfl,by split<;>omega,by split<;>omega,by split<;>omega,λt h1 h2=>by split at h2<;>omega⟩;rw[<-hc]
    obtain⟨A,Ew,oq,NH,NI,VJ,hA6⟩:∃A:SL,((L.2.2.2.2.2.2.1.length:Int)>0->j2x (tb (aK zs L.2.1)) L.2.2.2.2.2.2.1 c b=some A)/\(¬(L.2.2.2.2.2.2.1.length:Int)>0->A=[(c,b)])/\bK (c-1) A/\
      (∀t,bz t A->t<b)/\(∀t,c<=t->t<b->(bz t A↔okW L.2.2.2.2.2.2.1 (kV (fU (aK zs L.2.1) t))=true))/\A.length<=L.2.2.2.2.2.2.1.length*(M+1)*5+1:=by
     by_cases hw:(L.2.2.2.2.2.2.1.length:Int)>0
     .obtain⟨A,e,s1,s2,s3,s4⟩:=Vn hz.ztab.2 (qg ib (by omega)) hL.w kG hM (a:=c) (b:=b) (by omega) (by omega) hb (by omega);refine⟨A,λ_=>e,λh=>absurd hw h,s1,λt ⟨s,dr,h1,h2⟩=>by have:=(s2 s dr).2;omega,λt h1 h2=>?_,?_⟩
      .obtain⟨k,hk,k1,k2⟩:=DW hz.ztab.2 (t:=t) (by omega) (by omega);rw[s4 k hk t h1 h2 k1 k2];have xk:fU (aK zs L.2.1) t=((t+cI (aK zs L.2.1).2.1 (tb (aK zs L.2.1)).2 k)/86400,(t+cI (aK zs L.2.1).2.1 (tb (aK zs L.2.1)).2 k)%86400):=by unfold fU;rw[show j1B (tb (aK zs L.2.1)) t=_ from GP hz.ztab.2 hk k1 k2];rfl
       have o0:=hz.ztab.2.of0 k hk;have o1:=hz.ztab.2.of1 k hk;have iz:kV (fU (aK zs L.2.1) t)=(t+cI (aK zs L.2.1).2.1 (tb (aK zs L.2.1)).2 k+259200)%604800:=by rw[xk];simp only[kV,j5l];have o0' : -64800<=cI (aK zs L.2.1).2.1 (tb (aK zs L.2.1)).2 k:=o0;have o1':cI (aK zs L.2.1).2.1 (tb (aK zs L.2.1)).2 k<=64800:=o1;rw[Uc _ (by omega)];simp only[j3,kz];generalize cI (aK zs L.2.1).2.1 (tb (aK zs L.2.1)).2 k=o at *;rw[ai (x:=((t+o)/86400+3)%7*86400) (by omega) (by omega),ai (by omega) (by omega)];omega
       rw[iz];unfold okW;rw[aj hw];rfl
      .have:L.2.2.2.2.2.2.1.length*(M+1)*((tb (aK zs L.2.1)).2.length+1)<=L.2.2.2.2.2.2.1.length*(M+1)*5:=ve _ (by omega);have s3':A.length<=L.2.2.2.2.2.2.1.length*(M+1)*((tb (aK zs L.2.1)).2.length+1):=s3;omega
     .refine⟨[(c,b)],λh=>absurd h hw,λ_=>rfl,⟨by dsimp only;omega,Ja,trivial⟩,λt h=>?_,λt h1 h2=>?_,by simp⟩
      .rcases eY.1 h with h|h
       .exact h.2
       .exact absurd h gJ
      .unfold okW;rw[al hw];exact⟨λ_=>rfl,λ_=>eY.2 (.inl ⟨h1,h2⟩)⟩
    have hA7:A.length<=30000:=by have:L.2.2.2.2.2.2.1.length*(M+1)<=14*61:=qw kG (by omega);omega
    have dt:∀out:SL,bK (c-1) out->(∀t,bz t out->t<b)->(∀t,c<=t->t<b->(bz t out↔bz t A/\qZ zs cs L t=true))->bK (a-1) out/\∀t,bz t out↔a<=t/\t<b/\gK zs cs L t=true:=λout h1 h2 h3=>by
     refine⟨h1.weak (by omega),λt=>⟨λhx=>?_,λ⟨g1,g2,g3⟩=>?_⟩⟩
     .have l1:=bK.low h1 hx;have l2:=h2 t hx;refine⟨by omega,l2,?_⟩;have:=(h3 t (by omega) l2).1 hx;unfold gK;rw[aj ((oO t (by omega) l2).2 ((hq t).2 (by omega))),(VJ t (by omega) l2).1 this.1,this.2];rfl
     .have hk:=ND g3;have xf:=(hq t).1 ((oO t g1 g2).1 hk);have VK:c<=t:=by apply jr;intro hn;have:=wB t g1 (by omega);omega
      refine(h3 t VK g2).2 ⟨(VJ t VK g2).2 ?_,?_⟩
      .unfold gK at g3;rw[aj hk]at g3;revert g3;cases okW L.2.2.2.2.2.2.1 (kV (fU (aK zs L.2.1) t))<;>simp
      .unfold gK at g3;rw[aj hk]at g3;revert g3;cases okW L.2.2.2.2.2.2.1 (kV (fU (aK zs L.2.1) t))<;>simp
    by_cases hm:L.2.2.2.2.2.2.2.2=0
    .have dg:=dt A NH NI (λt _ _=>by unfold qZ;rw[ee hm];simp);rw[cP (show¬L.2.2.2.2.2.2.2.2=1 by omega),cP (show¬L.2.2.2.2.2.2.2.2=2 by omega),if_pos hm];simp only[j6];by_cases hw:(L.2.2.2.2.2.2.1.length:Int)>0
     .rw[show Int.ofNat L.2.2.2.2.2.2.1.length=(L.2.2.2.2.2.2.1.length:Int) from rfl,aj hw,j5,show j2x ((tb (zs.getD L.2.1.toNat (ByteArray.empty,((0:Int),([]:List bm))))).1,(tb (zs.getD L.2.1.toNat (ByteArray.empty,((0:Int),([]:List bm))))).2) L.2.2.2.2.2.2.1 c b=_ from Ew hw];simp only[j3];exact⟨A,rfl,dg.1,dg.2,by omega⟩
     .rw[show Int.ofNat L.2.2.2.2.2.2.1.length=(L.2.2.2.2.2.2.1.length:Int) from rfl,al hw,j6,<-oq hw];exact⟨A,rfl,dg.1,dg.2,by omega⟩
    .have dz:=hL.cal hm;have hx:=yR hs dz.1 dz.2;have Fz:=jF hs.so.ok hx.z0 hx.z1;have hll2:(tb (aK zs (mJ cs L.2.2.2.2.2.2.2.1).2.1)).2.length<=4:=G6 Fz;obtain⟨D,e2,d1,d2,d3⟩:=jzh hs hx (ss:=ss) (a:=c) (b:=b) (by omega) (by omega) hb rfl
     have kW:D.length<=(mJ cs L.2.2.2.2.2.2.2.1).2.2.length*5:=qg d2 (ve _ (by
      have:(tb (aK zs (mJ cs L.2.2.2.2.2.2.2.1).2.1)).2.length+1<=5:=by omega
      exact this))
     have hDl2:D.length<=2000:=by have:=hx.len;have h64:(mJ cs L.2.2.2.2.2.2.2.1).2.2.length<=64:=this;omega
     have VL:∀t,c<=t->t<b->(bz t D↔(fU (aK zs (mJ cs L.2.2.2.2.2.2.2.1).2.1) t).1∈(mJ cs L.2.2.2.2.2.2.2.1).2.2):=λt h1 h2=>d3 t _ h1 h2 (jzi Fz (by omega) (by omega)).1;rw[if_neg hm,aX dz.1 dz.2];have Ey:L.2.2.2.2.2.2.2.2=1\/L.2.2.2.2.2.2.2.2=2:=by have:=hL.mode0;have:=hL.mode1;omega
     rcases Ey with gj|jX
     .obtain⟨out,e3,w1,w2,w3⟩:=Ny (by omega) NH d1 (by omega)
      have dg:=dt out w1 (λt h=>NI t ((w2 t).1 h).1) (λt h1 h2=>by
       rw[w2 t,VL t h1 h2];unfold qZ;rw[cP hm,cP (show¬L.2.2.2.2.2.2.2.2=2 by omega),j6];simp)
      rw[ee gj];simp only[j5];by_cases hw:(L.2.2.2.2.2.2.1.length:Int)>0
      .rw[show Int.ofNat L.2.2.2.2.2.2.1.length=(L.2.2.2.2.2.2.1.length:Int) from rfl,aj hw,j5,show j2x ((tb (zs.getD L.2.1.toNat (ByteArray.empty,((0:Int),([]:List bm))))).1,(tb (zs.getD L.2.1.toNat (ByteArray.empty,((0:Int),([]:List bm))))).2) L.2.2.2.2.2.2.1 c b=_ from Ew hw];simp only[j3];refine⟨out,?_,dg.1,dg.2,by omega⟩;rw[show j2s ((zs,(ps,(cs,ss))),zs.map tb) ((cs.getD L.2.2.2.2.2.2.2.1.toNat (ByteArray.empty,((0:Int),([]:List Int)))).1,(cs.getD L.2.2.2.2.2.2.2.1.toNat (ByteArray.empty,((0:Int),([]:List Int)))).2.1,(cs.getD L.2.2.2.2.2.2.2.1.toNat (ByteArray.empty,((0:Int),([]:List Int)))).2.2) c b=_ from e2];simp only[j3,e3]
      .rw[show Int.ofNat L.2.2.2.2.2.2.1.length=(L.2.2.2.2.2.2.1.length:Int) from rfl,al hw,j6,<-oq hw];refine⟨out,?_,dg.1,dg.2,by omega⟩;rw[show j2s ((zs,(ps,(cs,ss))),zs.map tb) ((cs.getD L.2.2.2.2.2.2.2.1.toNat (ByteArray.empty,((0:Int),([]:List Int)))).1,(cs.getD L.2.2.2.2.2.2.2.1.toNat (ByteArray.empty,((0:Int),([]:List Int)))).2.1,(cs.getD L.2.2.2.2.2.2.2.1.toNat (ByteArray.empty,((0:Int),([]:List Int)))).2.2) c b=_ from e2];simp only[j3,e3]
     .obtain⟨out,e3,w1,w2,w3⟩:=Vp NH d1 (by omega) (by omega)
      have dg:=dt out w1 (λt h=>NI t ((w2 t).1 h).1) (λt h1 h2=>by
       rw[w2 t,VL t h1 h2];unfold qZ;rw[cP hm,ee jX,j6];simp)
      rw[cP (show¬L.2.2.2.2.2.2.2.2=1 by omega),ee jX];simp only[j5,j6];by_cases hw:(L.2.2.2.2.2.2.1.length:Int)>0
      .rw[show Int.ofNat L.2.2.2.2.2.2.1.length=(L.2.2.2.2.2.2.1.length:Int) from rfl,aj hw,j5,show j2x ((tb (zs.getD L.2.1.toNat (ByteArray.empty,((0:Int),([]:List bm))))).1,(tb (zs.getD L.2.1.toNat (ByteArray.empty,((0:Int),([]:List bm))))).2) L.2.2.2.2.2.2.1 c b=_ from Ew hw];simp only[j3];refine⟨out,?_,dg.1,dg.2,by omega⟩;rw[show j2s ((zs,(ps,(cs,ss))),zs.map tb) ((cs.getD L.2.2.2.2.2.2.2.1.toNat (ByteArray.empty,((0:Int),([]:List Int)))).1,(cs.getD L.2.2.2.2.2.2.2.1.toNat (ByteArray.empty,((0:Int),([]:List Int)))).2.1,(cs.getD L.2.2.2.2.2.2.2.1.toNat (ByteArray.empty,((0:Int),([]:List Int)))).2.2) c b=_ from e2];simp only[j3,e3]
      .rw[show Int.ofNat L.2.2.2.2.2.2.1.length=(L.2.2.2.2.2.2.1.length:Int) from rfl,al hw,j6,<-oq hw];refine⟨out,?_,dg.1,dg.2,by omega⟩;rw[show j2s ((zs,(ps,(cs,ss))),zs.map tb) ((cs.getD L.2.2.2.2.2.2.2.1.toNat (ByteArray.empty,((0:Int),([]:List Int)))).1,(cs.getD L.2.2.2.2.2.2.2.1.toNat (ByteArray.empty,((0:Int),([]:List Int)))).2.1,(cs.getD L.2.2.2.2.2.2.2.1.toNat (ByteArray.empty,((0:Int),([]:List Int)))).2.2) c b=_ from e2];simp only[j3,e3]
end
end Go.Proofs.Pw
