/- nT.View.Times: the qF of a range in which a Dj is on nT. -/
import Derived.Test.YtpbnnhakjhalaaaGreatLWPF
import Derived.Test.YtpbnnhakjhalaaaGreatLWPG
noncomputable section
open Go Go.Lft
namespace Go.Proofs.Pw
theorem jyW{d:Int}(h:j0t d=some true):0<=d:=by
 apply jm;intro hd;simp only[j0t,j4j,Gn,Gm,j3]at h;rw[ag (show d<0 by omega)]at h;simp at h
def nV(p:Int×(Int×Int))(d:Int):Int×Int:=
 (if d*86400-p.2.2>p.1 then d*86400-p.2.2 else p.1,if d*86400-p.2.2+86400<p.2.1 then d*86400-p.2.2+86400 else p.2.1)
theorem U5{ds:List Int}(hd:∀d∈ds,0<=d/\d<=100000)(hl:ds.length<=64){p:Int×(Int×Int)}(hp : -64800<=p.2.2/\p.2.2<=64800){m q z:Int}{nm:ByteArray}{ps:List (Int×(Int×Int))}:∀(n i:Nat)(acc:SL),i+n=ds.length->acc.length+n<=1000000->
  Cn m q ds (ds.length:Int) (i:Int) nm z ds p.1 p.2.1 p.2.2 acc ps=some (m,q,nm,z,ds,acc++(ds.drop i).map (nV p),ps)
 |0,i,acc,hi,_=>by
  rw[SB];simp only[j2y];rw[aj (by omega),j6,aY,jc (by omega)];simp
 |n+1,i,acc,hi,ei=>by
  have aX:i<ds.length:=by omega
  have bh:ds.getD i (0:Int)=ds[i]:=by simp[aX]
  have hdi:=hd _ (jh aX);rw[SB];simp only[j2y];rw[ag (by omega),aZ (by omega) (by omega)];simp only[j5,j7,bh];rw[ah (x:=ds[i]*86400) (by omega) (by omega),ah (x:=ds[i]*86400-p.2.2) (by omega) (by omega),ah (x:=ds[i]*86400-p.2.2+86400) (by omega) (by omega),ah (x:=(i:Int)+1) (by omega) (by omega),ag (by simp[aP];omega),jb aX];simp only[j5,aQ,ka];have:=U5 hd hl hp (m:=m) (q:=q) (z:=z) (nm:=nm) (ps:=ps) n (i+1) (acc++[nV p ds[i]]) (by omega) (by simp;omega);rw[jg]at this;exact this
theorem U6{ds:List Int}(hd:∀d∈ds,0<=d/\d<=100000)(hl:ds.length<=64){z:Int}{nm:ByteArray}{ps:List (Int×(Int×Int))}(fM:∀p∈ps, -64800<=p.2.2/\p.2.2<=64800)(iY:ps.length<=100):∀(n i:Nat)(acc:SL),i+n=ps.length->acc.length<=64*i->
  Co (ps.length:Int) (i:Int) nm z ds acc ps=some (acc++(ps.drop i).flatMap λp=>ds.map (nV p))
 |0,i,acc,hi,_=>by
  rw[SC];simp only[j2z];rw[aj (by omega),j6,aY,jc (by omega)];simp
 |n+1,i,acc,hi,ei=>by
  have aX:i<ps.length:=by omega
  have bh:ps.getD i ((0:Int),((0:Int),(0:Int)))=ps[i]:=by simp[List.getD,aX]
  have h2:=U5 hd hl (fM _ (jh aX)) (m:=(ps.length:Int)) (q:=(i:Int)) (z:=z) (nm:=nm) (ps:=ps) ds.length 0 acc (by omega) (by omega);have ih:=U6 hd hl (z:=z) (nm:=nm) fM iY n (i+1) (acc++ds.map (nV ps[i])) (by omega) (by simp;omega);rw[SC];simp only[j2z];rw[ag (by omega),aZ (by omega) (by omega)];simp only[j5,j7,bh,show Int.ofNat ds.length=(ds.length:Int) from rfl];rw[show Cn (ps.length:Int) (i:Int) ds (ds.length:Int) 0 nm z ds ps[i].1 ps[i].2.1 ps[i].2.2 acc ps=_ from h2];simp only[j3,kc];rw[ah (x:=(i:Int)+1) (by omega) (by omega),aQ,jb aX,qt,<-jg];exact ih
theorem U7{α β:Type}(f:α->List β)(k:Nat)(hf:∀a,(f a).length=k):∀l:List α,(l.flatMap f).length=l.length*k
 |[]=>by simp
 |a::l=>by rw[qt,je,U7 f k hf l,hf,jo,Nat.add_mul,Nat.one_mul];omega
theorem U8{p:Int×(Int×Int)}{d x:Int}:((nV p d).1<=x/\x<(nV p d).2)↔(p.1<=x/\x<p.2.1)/\(x+p.2.2)/86400=d:=by
 simp only[nV];constructor
 .intro h;split at h<;>split at h<;>omega
 .intro h;split<;>split<;>omega
section
variable{zs:List bI}{ps:List c9}{cs:List aW}(hs:cW zs ps cs)
include hs
theorem jxF{x:aW}(hx:sM zs.length x){ss:List dA}{a b:Int}(ha:0<=a)(cG:a<=b)(hb:b<=8589934592){z:bI}(hz:zs.getD x.2.1.toNat (ByteArray.empty,((0:Int),([]:List aU)))=z) :
  ∃out,j1N ((zs,(ps,(cs,ss))),zs.map tb) x a b=some out/\ca (a-1) out/\out.length<=x.2.2.length*((tb z).2.length+1)/\
   ∀t d,a<=t->t<b->j1P (tb z) t=some d->(bJ t out↔d.1∈x.2.2):=by
 have hlen:(zs.map tb).length=zs.length:=kb ..;have hg:=Ng (zs:=zs) hx.z0 hx.z1;have Nz:=lE hs.so.ok hx.z0 hx.z1;rw[hz]at hg Nz;have ht:=Nz.ztab.2;have gM:(tb z).2.length<=20:=jxB Nz;obtain⟨pc,e,pl,pm,NA⟩:=UN ht ha cG hb;have oq:=hx.len;have hd:∀d∈x.2.2,0<=d/\d<=100000:=λd hd=>⟨jyW (hx.day d hd),UZ (hx.day d hd)⟩
 have yh:∀p∈pc, -64800<=p.2.2/\p.2.2<=64800:=λp hp=>by
  obtain⟨_,_,_,i,i1,i2,_⟩:=pm p hp;have:=ht.of0 i i1;have:=ht.of1 i i1;omega
 have l0:=U6 hd oq (z:=x.2.1) (nm:=x.1) yh (by omega) pc.length 0 [] (by omega) (by simp);rw[jt,kc]at l0;have UR:(pc.flatMap λp=>x.2.2.map (nV p)).length=pc.length*x.2.2.length:=U7 _ _ (λp=>kb ..) pc;have hm:pc.length*x.2.2.length<=((tb z).2.length+1)*x.2.2.length:=jv _ pl;have iB:((tb z).2.length+1)*x.2.2.length<=21*64:=zf (by omega) oq
 have eF:∀s∈(pc.flatMap λp=>x.2.2.map (nV p)),∃p∈pc,∃d∈x.2.2,s=nV p d:=λs h=>by
  obtain⟨p,hp,h⟩:=zi.1 h;obtain⟨d,hd,rfl⟩:=jx.1 h;exact⟨p,hp,d,hd,rfl⟩
 obtain⟨out,e2,s1,s2,s3,s4⟩:=Gj (l:=pc.flatMap λp=>x.2.2.map (nV p)) (by omega) (λs h=>by
  obtain⟨p,hp,d,yN,rfl⟩:=eF s h;obtain⟨h1,h2,h3,_⟩:=pm p hp;have:=yh p hp;have:=hd d yN;simp only[nV];refine⟨?_,?_,?_,?_⟩<;>split<;>omega) (lo:=a) (hi:=b) (λs h au=>by
  obtain⟨p,hp,d,yN,rfl⟩:=eF s h;obtain⟨h1,h2,h3,_⟩:=pm p hp;simp only[nV]at au ⊢;refine⟨?_,?_⟩<;>split<;>omega)
 refine⟨out,?_,s1,by rw[Nat.mul_comm];omega,λt d h1 h2 mb=>?_⟩
 .simp only[j1N];rw[aZ hx.z0 (by rw[hlen];exact hx.z1)];simp only[j5,hg,show j1w ((tb z).1,(tb z).2) a b=_ from e,j3,show Int.ofNat pc.length=(pc.length:Int) from rfl];rw[show Co (pc.length:Int) 0 x.1 x.2.1 x.2.2 [] pc=_ from l0];simp only[j3,e2]
 .obtain⟨k,hk,k1,k2⟩:=CX ht (t:=t) (by omega) (by omega);have:=F0 ht hk k1 k2;have F8:=mb.symm.trans this;simp only[j4]at F8;subst F8;dsimp only;rw[s2 t];constructor
  .rintro⟨s,dI,h3,h4⟩
   obtain⟨p,hp,d,yN,rfl⟩:=eF s dI;obtain⟨c1,c2⟩:=U8.1 ⟨h3,h4⟩;obtain⟨_,_,_,i,i1,i2,i3,i4⟩:=pm p hp;have:i=k:=F7 ht i1 hk (t:=t) (by omega) (by omega) k1 k2;subst this;rw[<-i2,c2];exact yN
  .intro yN;obtain⟨p,hp,c1,c2⟩:=NA t h1 h2;obtain⟨_,_,_,i,i1,i2,i3,i4⟩:=pm p hp;have:i=k:=F7 ht i1 hk (t:=t) (by omega) (by omega) k1 k2;subst this;obtain⟨g1,g2⟩:=U8.2 ⟨⟨c1,c2⟩,show (t+p.2.2)/86400=(t+cp z.2.1 (tb z).2 i)/86400 by rw[i2]⟩;exact⟨_,zi.2 ⟨p,hp,jx.2 ⟨_,yN,rfl⟩⟩,g1,g2⟩
omit hs in
def aO(zs:List bI)(i:Int):bI:=zs.getD i.toNat (ByteArray.empty,((0:Int),([]:List aU)))
omit hs in
def nh(cs:List aW)(i:Int):aW:=cs.getD i.toNat (ByteArray.empty,((0:Int),([]:List Int)))
omit hs in
def fV(z:bI)(t:Int):Int×Int:=(j1P (tb z) t).getD (0,0)
omit hs in
def lF(d:Int×Int):Int:=(j5s d).getD 0
omit hs in
def bX(z:bI)(L:bM)(t:Int):Int:=(j3v (tb z) L t).getD (-1)
omit hs in
def qI(zs:List bI)(cs:List aW)(L:bM)(t:Int):Bool:=
 cond (L.2.2.2.2.2.2.2.2==0) true (decide ((fV (aO zs (nh cs L.2.2.2.2.2.2.2.1).2.1) t).1∈(nh cs L.2.2.2.2.2.2.2.1).2.2)==(L.2.2.2.2.2.2.2.2==(2:Int)))
omit hs in
def gP(zs:List bI)(cs:List aW)(L:bM)(t:Int):Bool:=
 cond (decide (0<=bX (aO zs L.2.1) L t)) (cond (okW L.2.2.2.2.2.2.1 (lF (fV (aO zs L.2.1) t))) (qI zs cs L t) false) false
omit hs in
def db(zs:List bI)(cs:List aW)(L:bM)(t:Int):Int:=cond (gP zs cs L t) (qG L (bX (aO zs L.2.1) L t)) (-1)
omit hs in
theorem jxG{z:bI}(hz:kE z){t:Int}(h0:0<=t)(h1:t<=8589934592):j1P (tb z) t=some (fV z t)/\j5s (fV z t)=some (lF (fV z t)):=by
 obtain⟨d,s,hd,Gq⟩:=jyM hz h0 h1;have:fV z t=d:=by simp[fV,hd]
 rw[this];exact⟨hd,by simp[lF,Gq]⟩
omit hs in
theorem sP{z:bI}(hz:kE z){L:bM}(hR:Rt L){t:Int}(h0:0<=t)(h1:t<=8589934592):j3v (tb z) L t=some (bX z L t)/\lD z.2.1 (tb z).2 L t (bX z L t):=by
 obtain⟨K,e,hK⟩:=jzH hz.ztab.2 hR h0 h1;have:bX z L t=K:=by simp only[bX,show j3v (tb z) L t=_ from e,zg]
 rw[this];exact⟨e,hK⟩
omit hs in
theorem NB{L:bM}{t:Int}(h:gP zs cs L t=true):0<=bX (aO zs L.2.1) L t:=by
 by_cases hk:0<=bX (aO zs L.2.1) L t
 .exact hk
 .unfold gP at h;rw[aj hk]at h;simp at h
theorem U9{L:bM}(hL:eX zs.length ps.length cs.length L){t:Int}(_h0:0<=t)(_h1:t<=8589934592):(gP zs cs L t=true↔0<=db zs cs L t) /\ -1<=db zs cs L t/\db zs cs L t<ps.length:=by
 have rv:gP zs cs L t=true->0<=bX (aO zs L.2.1) L t:=NB;unfold db;have hp:=hs.so.p0;cases hc:gP zs cs L t with
 |false=>simp;omega
 |true=>
  have hk:=rv hc;have uE:=hL.m0;have q1:0<=Int.tmod (bX (aO zs L.2.1) L t) (L.2.2.2.2.2.1.length:Int):=Int.tmod_nonneg _ hk;have q2:Int.tmod (bX (aO zs L.2.1) L t) (L.2.2.2.2.2.1.length:Int)<(L.2.2.2.2.2.1.length:Int):=Int.tmod_lt_of_pos _ (by omega);have hi:(Int.tmod (bX (aO zs L.2.1) L t) (L.2.2.2.2.2.1.length:Int)).toNat<L.2.2.2.2.2.1.length:=by omega
  have e:qG L (bX (aO zs L.2.1) L t)=L.2.2.2.2.2.1[(Int.tmod (bX (aO zs L.2.1) L t) (L.2.2.2.2.2.1.length:Int)).toNat]:=by simp[qG,List.getD,hi]
  rw[j5,e];have:=hL.mem _ (jh hi);exact⟨⟨λ_=>this.1,λ_=>rfl⟩,by omega,this.2⟩
theorem jug{L:bM}(hL:eX zs.length ps.length cs.length L){ss:List dA}{a b:Int}(ha:0<=a)(cG:a<=b)(hb:b<=8589934592){M:Nat}(hM:M<=60)(hlen:b-a<=604800*M) :
  ∃out,j6o ((zs,(ps,(cs,ss))),zs.map tb) L a b=some out/\ca (a-1) out/\(∀t,bJ t out↔a<=t/\t<b/\gP zs cs L t=true)/\
   out.length<=L.2.2.2.2.2.2.1.length*(M+1)*5+1+(if L.2.2.2.2.2.2.2.2=0 then 0 else (nh cs L.2.2.2.2.2.2.2.1).2.2.length*5):=by
 have NC:=hL.rt2;have gD:(zs.map tb).length=zs.length:=kb ..;have hz:=lE hs.so.ok hL.z0 hL.z1;have hg:=Ng (zs:=zs) hL.z0 hL.z1;have iX:=hL.wl;have gM:(tb (aO zs L.2.1)).2.length<=4:=Ns hz;obtain⟨v,ev,hv⟩:=nS hz.ztab.2 NC (k:=0) (by omega) (by omega)
 have og:∀t,a<=t->t<b->(0<=bX (aO zs L.2.1) L t↔QO (aO zs L.2.1).2.1 (tb (aO zs L.2.1)).2 L t 0):=λt h1 h2=>by
  have hK:=(sP hz NC (t:=t) (by omega) (by omega)).2;constructor
  .intro hk;rcases hK with⟨hK,_⟩|⟨_,hq,_⟩
   .have:bX (aO zs L.2.1) L t = -1:=hK;omega
   .exact QO.le hz.ztab.2 NC hk hq
  .intro hq;rcases hK with⟨_,hn⟩|⟨hk,_,_⟩
   .exact absurd hq hn
   .exact hk
 have rK:∀t,a<=t->t<b->¬QO (aO zs L.2.1).2.1 (tb (aO zs L.2.1)).2 L t 0->gP zs cs L t=false:=λt h1 h2 hq=>by
  unfold gP;rw[aj (λh=>hq ((og t h1 h2).1 h))];rfl
 simp only[j6o];rw[aZ hL.z0 (by rw[gD];exact hL.z1)];simp only[j5,hg];rw[show j0D ((tb (zs.getD L.2.1.toNat (ByteArray.empty,((0:Int),([]:List aU))))).1,(tb (zs.getD L.2.1.toNat (ByteArray.empty,((0:Int),([]:List aU))))).2) (L.1,L.2.1,(L.2.2.1.1,L.2.2.1.2),L.2.2.2.1,L.2.2.2.2.1,L.2.2.2.2.2.1,L.2.2.2.2.2.2.1,L.2.2.2.2.2.2.2.1,L.2.2.2.2.2.2.2.2) 0=_ from ev];simp only[j3]
 have nH:∀(P:∀t,a<=t->t<b->gP zs cs L t=false),∃out,some ([]:SL)=some out/\ca (a-1) out/\(∀t,bJ t out↔a<=t/\t<b/\gP zs cs L t=true)/\
   out.length<=L.2.2.2.2.2.2.1.length*(M+1)*5+1+(if L.2.2.2.2.2.2.2.2=0 then 0 else (nh cs L.2.2.2.2.2.2.2.1).2.2.length*5):=λP=>
  ⟨[],rfl,trivial,λt=>⟨λh=>absurd h gO,λ⟨h1,h2,h3⟩=>by rw[P t h1 h2]at h3;simp at h3⟩,k7 _⟩
 cases hh:hO (zs.getD L.2.1.toNat (ByteArray.empty,((0:Int),([]:List aU)))).2.1 (tb (zs.getD L.2.1.toNat (ByteArray.empty,((0:Int),([]:List aU))))).2 L 0 with
 |none=>
  simp only[vp,k5,j5]
  exact nH λt h1 h2=>rK t h1 h2 (by
   rintro⟨u,hu,_⟩
   have ea:=hh.symm.trans hu;simp at ea)
 |some u=>
  have:=hv u hh;subst this
  have hq:∀t,QO (aO zs L.2.1).2.1 (tb (aO zs L.2.1)).2 L t 0↔v<=t:=λt=>⟨λ⟨u,hu,hut⟩=>by
   have ea:=hh.symm.trans hu;simp only[j4]at ea;omega,λh=>⟨v,hh,h⟩⟩
  simp only[zo,jn,j6];by_cases DT:v>=b
  .rw[ag DT];simp only[j5];exact nH λt h1 h2=>rK t h1 h2 (λh=>by have:=(hq t).1 h;omega)
  .rw[aj DT];simp only[j6];by_cases Dn:a>=b
   .rw[ag Dn];simp only[j5];exact nH λt h1 h2=>by omega
   .rw[aj Dn];simp only[j6];obtain⟨c,hc,hca,lP,ID,u7⟩:∃c:Int,c=(if v>a then v else a)/\a<=c/\v<=c/\c<b/\∀t,a<=t->t<c->t<v:=⟨_,rfl,by split<;>omega,by split<;>omega,by split<;>omega,λt h1 h2=>by split at h2<;>omega⟩;rw[<-hc]
    obtain⟨A,ND,qJ,NF,NG,Va,hA6⟩:∃A:SL,((L.2.2.2.2.2.2.1.length:Int)>0->j4n (tb (aO zs L.2.1)) L.2.2.2.2.2.2.1 c b=some A)/\(¬(L.2.2.2.2.2.2.1.length:Int)>0->A=[(c,b)])/\ca (c-1) A/\
      (∀t,bJ t A->t<b)/\(∀t,c<=t->t<b->(bJ t A↔okW L.2.2.2.2.2.2.1 (lF (fV (aO zs L.2.1) t))=true))/\A.length<=L.2.2.2.2.2.2.1.length*(M+1)*5+1:=by
     by_cases hw:(L.2.2.2.2.2.2.1.length:Int)>0
     .obtain⟨A,e,s1,s2,s3,s4⟩:=jrZ hz.ztab.2 (kx gM (by omega)) hL.w iX hM (a:=c) (b:=b) (by omega) (by omega) hb (by omega);refine⟨A,λ_=>e,λh=>absurd hw h,s1,λt ⟨s,dI,h1,h2⟩=>by have:=(s2 s dI).2;omega,λt h1 h2=>?_,?_⟩
      .obtain⟨k,hk,k1,k2⟩:=CX hz.ztab.2 (t:=t) (by omega) (by omega);rw[s4 k hk t h1 h2 k1 k2];have wi:fV (aO zs L.2.1) t=((t+cp (aO zs L.2.1).2.1 (tb (aO zs L.2.1)).2 k)/86400,(t+cp (aO zs L.2.1).2.1 (tb (aO zs L.2.1)).2 k)%86400):=by unfold fV;rw[show j1P (tb (aO zs L.2.1)) t=_ from F0 hz.ztab.2 hk k1 k2];rfl
       have o0:=hz.ztab.2.of0 k hk;have o1:=hz.ztab.2.of1 k hk;have iI:lF (fV (aO zs L.2.1) t)=(t+cp (aO zs L.2.1).2.1 (tb (aO zs L.2.1)).2 k+259200)%604800:=by rw[wi];simp only[lF,j5s];have o0' : -64800<=cp (aO zs L.2.1).2.1 (tb (aO zs L.2.1)).2 k:=o0;have o1':cp (aO zs L.2.1).2.1 (tb (aO zs L.2.1)).2 k<=64800:=o1;rw[F2 _ (by omega)];simp only[j3,zg];generalize cp (aO zs L.2.1).2.1 (tb (aO zs L.2.1)).2 k=o at *;rw[ah (x:=((t+o)/86400+3)%7*86400) (by omega) (by omega),ah (by omega) (by omega)];omega
       rw[iI];unfold okW;rw[ag hw];rfl
      .have:L.2.2.2.2.2.2.1.length*(M+1)*((tb (aO zs L.2.1)).2.length+1)<=L.2.2.2.2.2.2.1.length*(M+1)*5:=Nat.mul_le_mul_left _ (by omega);have s3':A.length<=L.2.2.2.2.2.2.1.length*(M+1)*((tb (aO zs L.2.1)).2.length+1):=s3;omega
     .refine⟨[(c,b)],λh=>absurd h hw,λ_=>rfl,⟨by dsimp only;omega,ID,trivial⟩,λt h=>?_,λt h1 h2=>?_,by simp⟩
      .rcases eY.1 h with h|h
       .exact h.2
       .exact absurd h gO
      .unfold okW;rw[aj hw];exact⟨λ_=>rfl,λ_=>eY.2 (.inl ⟨h1,h2⟩)⟩
    have hA7:A.length<=30000:=by have:L.2.2.2.2.2.2.1.length*(M+1)<=14*61:=zf iX (by omega);omega
    have dF:∀out:SL,ca (c-1) out->(∀t,bJ t out->t<b)->(∀t,c<=t->t<b->(bJ t out↔bJ t A/\qI zs cs L t=true))->ca (a-1) out/\∀t,bJ t out↔a<=t/\t<b/\gP zs cs L t=true:=λout h1 h2 h3=>by
     refine⟨h1.weak (by omega),λt=>⟨λhx=>?_,λ⟨g1,g2,g3⟩=>?_⟩⟩
     .have l1:=ca.low h1 hx;have l2:=h2 t hx;refine⟨by omega,l2,?_⟩;have:=(h3 t (by omega) l2).1 hx;unfold gP;rw[ag ((og t (by omega) l2).2 ((hq t).2 (by omega))),(Va t (by omega) l2).1 this.1,this.2];rfl
     .have hk:=NB g3;have tI:=(hq t).1 ((og t g1 g2).1 hk);have Vb:c<=t:=by apply jm;intro hn;have:=u7 t g1 (by omega);omega
      refine(h3 t Vb g2).2 ⟨(Va t Vb g2).2 ?_,?_⟩
      .unfold gP at g3;rw[ag hk]at g3;revert g3;cases okW L.2.2.2.2.2.2.1 (lF (fV (aO zs L.2.1) t))<;>simp
      .unfold gP at g3;rw[ag hk]at g3;revert g3;cases okW L.2.2.2.2.2.2.1 (lF (fV (aO zs L.2.1) t))<;>simp
    by_cases hm:L.2.2.2.2.2.2.2.2=0
    .have bW:=dF A NF NG (λt _ _=>by unfold qI;rw[eA hm];simp);rw[cB (show¬L.2.2.2.2.2.2.2.2=1 by omega),cB (show¬L.2.2.2.2.2.2.2.2=2 by omega),if_pos hm];simp only[j6];by_cases hw:(L.2.2.2.2.2.2.1.length:Int)>0
     .rw[show Int.ofNat L.2.2.2.2.2.2.1.length=(L.2.2.2.2.2.2.1.length:Int) from rfl,ag hw,j5,show j4n ((tb (zs.getD L.2.1.toNat (ByteArray.empty,((0:Int),([]:List aU))))).1,(tb (zs.getD L.2.1.toNat (ByteArray.empty,((0:Int),([]:List aU))))).2) L.2.2.2.2.2.2.1 c b=_ from ND hw];simp only[j3];exact⟨A,rfl,bW.1,bW.2,by omega⟩
     .rw[show Int.ofNat L.2.2.2.2.2.2.1.length=(L.2.2.2.2.2.2.1.length:Int) from rfl,aj hw,j6,<-qJ hw];exact⟨A,rfl,bW.1,bW.2,by omega⟩
    .have dj:=hL.cal hm;have hx:=sO hs dj.1 dj.2;have Eb:=lE hs.so.ok hx.z0 hx.z1;have hll2:(tb (aO zs (nh cs L.2.2.2.2.2.2.2.1).2.1)).2.length<=4:=Ns Eb;obtain⟨D,e2,d1,d2,d3⟩:=jxF hs hx (ss:=ss) (a:=c) (b:=b) (by omega) (by omega) hb rfl
     have hDl:D.length<=(nh cs L.2.2.2.2.2.2.2.1).2.2.length*5:=kx d2 (Nat.mul_le_mul_left _ (by
      have:(tb (aO zs (nh cs L.2.2.2.2.2.2.2.1).2.1)).2.length+1<=5:=by omega
      exact this))
     have hDl2:D.length<=2000:=by have:=hx.len;have h64:(nh cs L.2.2.2.2.2.2.2.1).2.2.length<=64:=this;omega
     have Vc:∀t,c<=t->t<b->(bJ t D↔(fV (aO zs (nh cs L.2.2.2.2.2.2.2.1).2.1) t).1∈(nh cs L.2.2.2.2.2.2.2.1).2.2):=λt h1 h2=>d3 t _ h1 h2 (jxG Eb (by omega) (by omega)).1;rw[if_neg hm,aZ dj.1 dj.2];have Dp:L.2.2.2.2.2.2.2.2=1\/L.2.2.2.2.2.2.2.2=2:=by have:=hL.mode0;have:=hL.mode1;omega
     rcases Dp with gf|iB
     .obtain⟨out,e3,w1,w2,w3⟩:=Nx (by omega) NF d1 (by omega)
      have bW:=dF out w1 (λt h=>NG t ((w2 t).1 h).1) (λt h1 h2=>by
       rw[w2 t,Vc t h1 h2];unfold qI;rw[cB hm,cB (show¬L.2.2.2.2.2.2.2.2=2 by omega),j6];simp)
      rw[eA gf];simp only[j5];by_cases hw:(L.2.2.2.2.2.2.1.length:Int)>0
      .rw[show Int.ofNat L.2.2.2.2.2.2.1.length=(L.2.2.2.2.2.2.1.length:Int) from rfl,ag hw,j5,show j4n ((tb (zs.getD L.2.1.toNat (ByteArray.empty,((0:Int),([]:List aU))))).1,(tb (zs.getD L.2.1.toNat (ByteArray.empty,((0:Int),([]:List aU))))).2) L.2.2.2.2.2.2.1 c b=_ from ND hw];simp only[j3];refine⟨out,?_,bW.1,bW.2,by omega⟩;rw[show j1N ((zs,(ps,(cs,ss))),zs.map tb) ((cs.getD L.2.2.2.2.2.2.2.1.toNat (ByteArray.empty,((0:Int),([]:List Int)))).1,(cs.getD L.2.2.2.2.2.2.2.1.toNat (ByteArray.empty,((0:Int),([]:List Int)))).2.1,(cs.getD L.2.2.2.2.2.2.2.1.toNat (ByteArray.empty,((0:Int),([]:List Int)))).2.2) c b=_ from e2];simp only[j3,e3]
      .rw[show Int.ofNat L.2.2.2.2.2.2.1.length=(L.2.2.2.2.2.2.1.length:Int) from rfl,aj hw,j6,<-qJ hw];refine⟨out,?_,bW.1,bW.2,by omega⟩;rw[show j1N ((zs,(ps,(cs,ss))),zs.map tb) ((cs.getD L.2.2.2.2.2.2.2.1.toNat (ByteArray.empty,((0:Int),([]:List Int)))).1,(cs.getD L.2.2.2.2.2.2.2.1.toNat (ByteArray.empty,((0:Int),([]:List Int)))).2.1,(cs.getD L.2.2.2.2.2.2.2.1.toNat (ByteArray.empty,((0:Int),([]:List Int)))).2.2) c b=_ from e2];simp only[j3,e3]
     .obtain⟨out,e3,w1,w2,w3⟩:=juc NF d1 (by omega) (by omega)
      have bW:=dF out w1 (λt h=>NG t ((w2 t).1 h).1) (λt h1 h2=>by
       rw[w2 t,Vc t h1 h2];unfold qI;rw[cB hm,eA iB,j6];simp)
      rw[cB (show¬L.2.2.2.2.2.2.2.2=1 by omega),eA iB];simp only[j5,j6];by_cases hw:(L.2.2.2.2.2.2.1.length:Int)>0
      .rw[show Int.ofNat L.2.2.2.2.2.2.1.length=(L.2.2.2.2.2.2.1.length:Int) from rfl,ag hw,j5,show j4n ((tb (zs.getD L.2.1.toNat (ByteArray.empty,((0:Int),([]:List aU))))).1,(tb (zs.getD L.2.1.toNat (ByteArray.empty,((0:Int),([]:List aU))))).2) L.2.2.2.2.2.2.1 c b=_ from ND hw];simp only[j3];refine⟨out,?_,bW.1,bW.2,by omega⟩;rw[show j1N ((zs,(ps,(cs,ss))),zs.map tb) ((cs.getD L.2.2.2.2.2.2.2.1.toNat (ByteArray.empty,((0:Int),([]:List Int)))).1,(cs.getD L.2.2.2.2.2.2.2.1.toNat (ByteArray.empty,((0:Int),([]:List Int)))).2.1,(cs.getD L.2.2.2.2.2.2.2.1.toNat (ByteArray.empty,((0:Int),([]:List Int)))).2.2) c b=_ from e2];simp only[j3,e3]
      .rw[show Int.ofNat L.2.2.2.2.2.2.1.length=(L.2.2.2.2.2.2.1.length:Int) from rfl,aj hw,j6,<-qJ hw];refine⟨out,?_,bW.1,bW.2,by omega⟩;rw[show j1N ((zs,(ps,(cs,ss))),zs.map tb) ((cs.getD L.2.2.2.2.2.2.2.1.toNat (ByteArray.empty,((0:Int),([]:List Int)))).1,(cs.getD L.2.2.2.2.2.2.2.1.toNat (ByteArray.empty,((0:Int),([]:List Int)))).2.1,(cs.getD L.2.2.2.2.2.2.2.1.toNat (ByteArray.empty,((0:Int),([]:List Int)))).2.2) c b=_ from e2];simp only[j3,e3]
end
end Go.Proofs.Pw
