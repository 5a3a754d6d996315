/- px.View.Times: the r8 of a range in which a Fj is on px. -/
import Derived.Test.YtbpjdcbbmibehaaGreatLJPF
import Derived.Test.YtbpjdcbbmibehaaGreatLJPG
noncomputable section
open Go Go.Lft
namespace Go.Proofs.Pw
theorem jz2{d:Int}(h:j18 d=some true):0<=d:=by
 apply jp;intro hd;simp only[j18,j6a,XE,XC,j3]at h;rw[ag (show d<0 by omega)]at h;simp at h
def py(p:Int×(Int×Int))(d:Int):Int×Int:=
 (if d*86400-p.2.2>p.1 then d*86400-p.2.2 else p.1,if d*86400-p.2.2+86400<p.2.1 then d*86400-p.2.2+86400 else p.2.1)
theorem XK{ds:List Int}(hd:∀d∈ds,0<=d/\d<=100000)(hl:ds.length<=64){p:Int×(Int×Int)}(hp : -64800<=p.2.2/\p.2.2<=64800){m q z:Int}{nm:ByteArray}{ps:List (Int×(Int×Int))}:∀(n i:Nat)(acc:SL),i+n=ds.length->acc.length+n<=1000000->
  D7 m q ds (ds.length:Int) (i:Int) nm z ds p.1 p.2.1 p.2.2 acc ps=some (m,q,nm,z,ds,acc++(ds.drop i).map (py p),ps)
 |0,i,acc,hi,_=>by
  rw[UX];simp only[j2K];rw[ao (by omega),j6,aY,jd (by omega)];simp
 |n+1,i,acc,hi,eI=>by
  have bQ:i<ds.length:=by omega
  have bk:ds.getD i (0:Int)=ds[i]:=by simp[bQ]
  have hdi:=hd _ (ji bQ);rw[UX];simp only[j2K];rw[ag (by omega),ba (by omega) (by omega)];simp only[j5,j7,bk];rw[aj (x:=ds[i]*86400) (by omega) (by omega),aj (x:=ds[i]*86400-p.2.2) (by omega) (by omega),aj (x:=ds[i]*86400-p.2.2+86400) (by omega) (by omega),aj (x:=(i:Int)+1) (by omega) (by omega),ag (by simp[aQ];omega),jb bQ];simp only[j5,aP,jz];have:=XK hd hl hp (m:=m) (q:=q) (z:=z) (nm:=nm) (ps:=ps) n (i+1) (acc++[py p ds[i]]) (by omega) (by simp;omega);rw[jg]at this;exact this
theorem XL{ds:List Int}(hd:∀d∈ds,0<=d/\d<=100000)(hl:ds.length<=64){z:Int}{nm:ByteArray}{ps:List (Int×(Int×Int))}(fU:∀p∈ps, -64800<=p.2.2/\p.2.2<=64800)(kZ:ps.length<=100):∀(n i:Nat)(acc:SL),i+n=ps.length->acc.length<=64*i->
  D8 (ps.length:Int) (i:Int) nm z ds acc ps=some (acc++(ps.drop i).flatMap λp=>ds.map (py p))
 |0,i,acc,hi,_=>by
  rw[UY];simp only[j2L];rw[ao (by omega),j6,aY,jd (by omega)];simp
 |n+1,i,acc,hi,eI=>by
  have bQ:i<ps.length:=by omega
  have bk:ps.getD i ((0:Int),((0:Int),(0:Int)))=ps[i]:=by simp[List.getD,bQ]
  have h2:=XK hd hl (fU _ (ji bQ)) (m:=(ps.length:Int)) (q:=(i:Int)) (z:=z) (nm:=nm) (ps:=ps) ds.length 0 acc (by omega) (by omega);have ih:=XL hd hl (z:=z) (nm:=nm) fU kZ n (i+1) (acc++ds.map (py ps[i])) (by omega) (by simp;omega);rw[UY];simp only[j2L];rw[ag (by omega),ba (by omega) (by omega)];simp only[j5,j7,bk,show Int.ofNat ds.length=(ds.length:Int) from rfl];rw[show D7 (ps.length:Int) (i:Int) ds (ds.length:Int) 0 nm z ds ps[i].1 ps[i].2.1 ps[i].2.2 acc ps=_ from h2];simp only[j3,k5];rw[aj (x:=(i:Int)+1) (by omega) (by omega),aP,jb bQ,zk,<-jg];exact ih
theorem XM{α β:Type}(f:α->List β)(k:Nat)(hf:∀a,(f a).length=k):∀l:List α,(l.flatMap f).length=l.length*k
 |[]=>by simp
 |a::l=>by rw[zk,jf,XM f k hf l,hf,jl,Nat.add_mul,Nat.one_mul];omega
theorem XN{p:Int×(Int×Int)}{d x:Int}:((py p d).1<=x/\x<(py p d).2)↔(p.1<=x/\x<p.2.1)/\(x+p.2.2)/86400=d:=by
 simp only[py];constructor
 .intro h;split at h<;>split at h<;>omega
 .intro h;split<;>split<;>omega
section
variable{zs:List bP}{ps:List dm}{cs:List aO}(hs:cQ zs ps cs)
include hs
theorem jxH{x:aO}(hx:wO zs.length x){ss:List dD}{a b:Int}(ha:0<=a)(dj:a<=b)(hb:b<=8589934592){z:bP}(hz:zs.getD x.2.1.toNat (ByteArray.empty,((0:Int),([]:List aT)))=z) :
  ∃out,j20 ((zs,(ps,(cs,ss))),zs.map tb) x a b=some out/\bX (a-1) out/\out.length<=x.2.2.length*((tb z).2.length+1)/\
   ∀t d,a<=t->t<b->j22 (tb z) t=some d->(bI t out↔d.1∈x.2.2):=by
 have hlen:(zs.map tb).length=zs.length:=ka ..;have hg:=Px (zs:=zs) hx.z0 hx.z1;have zI:=mn hs.so.ok hx.z0 hx.z1;rw[hz]at hg zI;have ht:=zI.ztab.2;have fM:(tb z).2.length<=20:=Xu zI;obtain⟨pc,e,pl,pm,PM⟩:=Xp ht ha dj hb;have om:=hx.len;have hd:∀d∈x.2.2,0<=d/\d<=100000:=λd hd=>⟨jz2 (hx.day d hd),XF (hx.day d hd)⟩
 have yn:∀p∈pc, -64800<=p.2.2/\p.2.2<=64800:=λp hp=>by
  obtain⟨_,_,_,i,i1,i2,_⟩:=pm p hp;have:=ht.of0 i i1;have:=ht.of1 i i1;omega
 have l0:=XL hd om (z:=x.2.1) (nm:=x.1) yn (by omega) pc.length 0 [] (by omega) (by simp);rw[js,k5]at l0;have Xt:(pc.flatMap λp=>x.2.2.map (py p)).length=pc.length*x.2.2.length:=XM _ _ (λp=>ka ..) pc;have hm:pc.length*x.2.2.length<=((tb z).2.length+1)*x.2.2.length:=jv _ pl;have gI:((tb z).2.length+1)*x.2.2.length<=21*64:=qu (by omega) om
 have eb:∀s∈(pc.flatMap λp=>x.2.2.map (py p)),∃p∈pc,∃d∈x.2.2,s=py p d:=λs h=>by
  obtain⟨p,hp,h⟩:=vc.1 h;obtain⟨d,hd,rfl⟩:=jn.1 h;exact⟨p,hp,d,hd,rfl⟩
 obtain⟨out,e2,s1,s2,s3,s4⟩:=Fl (l:=pc.flatMap λp=>x.2.2.map (py p)) (by omega) (λs h=>by
  obtain⟨p,hp,d,Bw,rfl⟩:=eb s h;obtain⟨h1,h2,h3,_⟩:=pm p hp;have:=yn p hp;have:=hd d Bw;simp only[py];refine⟨?_,?_,?_,?_⟩<;>split<;>omega) (lo:=a) (hi:=b) (λs h ak=>by
  obtain⟨p,hp,d,Bw,rfl⟩:=eb s h;obtain⟨h1,h2,h3,_⟩:=pm p hp;simp only[py]at ak ⊢;refine⟨?_,?_⟩<;>split<;>omega)
 refine⟨out,?_,s1,by rw[Nat.mul_comm];omega,λt d h1 h2 mZ=>?_⟩
 .simp only[j20];rw[ba hx.z0 (by rw[hlen];exact hx.z1)];simp only[j5,hg,show j1F ((tb z).1,(tb z).2) a b=_ from e,j3,show Int.ofNat pc.length=(pc.length:Int) from rfl];rw[show D8 (pc.length:Int) 0 x.1 x.2.1 x.2.2 [] pc=_ from l0];simp only[j3,e2]
 .obtain⟨k,hk,k1,k2⟩:=wM ht (t:=t) (by omega) (by omega);have:=Ie ht hk k1 k2;have Iq:=mZ.symm.trans this;simp only[j4]at Iq;subst Iq;dsimp only;rw[s2 t];constructor
  .rintro⟨s,dP,h3,h4⟩
   obtain⟨p,hp,d,Bw,rfl⟩:=eb s dP;obtain⟨c1,c2⟩:=XN.1 ⟨h3,h4⟩;obtain⟨_,_,_,i,i1,i2,i3,i4⟩:=pm p hp;have:i=k:=E5 ht i1 hk (t:=t) (by omega) (by omega) k1 k2;subst this;rw[<-i2,c2];exact Bw
  .intro Bw;obtain⟨p,hp,c1,c2⟩:=PM t h1 h2;obtain⟨_,_,_,i,i1,i2,i3,i4⟩:=pm p hp;have:i=k:=E5 ht i1 hk (t:=t) (by omega) (by omega) k1 k2;subst this;obtain⟨g1,g2⟩:=XN.2 ⟨⟨c1,c2⟩,show (t+p.2.2)/86400=(t+cu z.2.1 (tb z).2 i)/86400 by rw[i2]⟩;exact⟨_,vc.2 ⟨p,hp,jn.2 ⟨_,Bw,rfl⟩⟩,g1,g2⟩
omit hs in
def aL(zs:List bP)(i:Int):bP:=zs.getD i.toNat (ByteArray.empty,((0:Int),([]:List aT)))
omit hs in
def oD(cs:List aO)(i:Int):aO:=cs.getD i.toNat (ByteArray.empty,((0:Int),([]:List Int)))
omit hs in
def gG(z:bP)(t:Int):Int×Int:=(j22 (tb z) t).getD (0,0)
omit hs in
def mo(d:Int×Int):Int:=(j5x d).getD 0
omit hs in
def cd(z:bP)(L:cb)(t:Int):Int:=(j3H (tb z) L t).getD (-1)
omit hs in
def sb(zs:List bP)(cs:List aO)(L:cb)(t:Int):Bool:=
 cond (L.2.2.2.2.2.2.2.2==0) true (decide ((gG (aL zs (oD cs L.2.2.2.2.2.2.2.1).2.1) t).1∈(oD cs L.2.2.2.2.2.2.2.1).2.2)==(L.2.2.2.2.2.2.2.2==(2:Int)))
omit hs in
def iq(zs:List bP)(cs:List aO)(L:cb)(t:Int):Bool:=
 cond (decide (0<=cd (aL zs L.2.1) L t)) (cond (okW L.2.2.2.2.2.2.1 (mo (gG (aL zs L.2.1) t))) (sb zs cs L t) false) false
omit hs in
def du(zs:List bP)(cs:List aO)(L:cb)(t:Int):Int:=cond (iq zs cs L t) (r9 L (cd (aL zs L.2.1) L t)) (-1)
omit hs in
theorem jxI{z:bP}(hz:pr z){t:Int}(h0:0<=t)(h1:t<=8589934592):j22 (tb z) t=some (gG z t)/\j5x (gG z t)=some (mo (gG z t)):=by
 obtain⟨d,s,hd,AO⟩:=jyS hz h0 h1;have:gG z t=d:=by simp[gG,hd]
 rw[this];exact⟨hd,by simp[mo,AO]⟩
omit hs in
theorem uH{z:bP}(hz:pr z){L:cb}(hR:Rt L){t:Int}(h0:0<=t)(h1:t<=8589934592):j3H (tb z) L t=some (cd z L t)/\mm z.2.1 (tb z).2 L t (cd z L t):=by
 obtain⟨K,e,hK⟩:=jzJ hz.ztab.2 hR h0 h1;have:cd z L t=K:=by simp only[cd,show j3H (tb z) L t=_ from e,vb]
 rw[this];exact⟨e,hK⟩
omit hs in
theorem PN{L:cb}{t:Int}(h:iq zs cs L t=true):0<=cd (aL zs L.2.1) L t:=by
 by_cases hk:0<=cd (aL zs L.2.1) L t
 .exact hk
 .unfold iq at h;rw[ao hk]at h;simp at h
theorem XO{L:cb}(hL:fR zs.length ps.length cs.length L){t:Int}(_h0:0<=t)(_h1:t<=8589934592):(iq zs cs L t=true↔0<=du zs cs L t) /\ -1<=du zs cs L t/\du zs cs L t<ps.length:=by
 have sQ:iq zs cs L t=true->0<=cd (aL zs L.2.1) L t:=PN;unfold du;have hp:=hs.so.p0;cases hc:iq zs cs L t with
 |false=>simp;omega
 |true=>
  have hk:=sQ hc;have yV:=hL.m0;have q1:0<=Int.tmod (cd (aL zs L.2.1) L t) (L.2.2.2.2.2.1.length:Int):=Int.tmod_nonneg _ hk;have q2:Int.tmod (cd (aL zs L.2.1) L t) (L.2.2.2.2.2.1.length:Int)<(L.2.2.2.2.2.1.length:Int):=Int.tmod_lt_of_pos _ (by omega);have hi:(Int.tmod (cd (aL zs L.2.1) L t) (L.2.2.2.2.2.1.length:Int)).toNat<L.2.2.2.2.2.1.length:=by omega
  have e:r9 L (cd (aL zs L.2.1) L t)=L.2.2.2.2.2.1[(Int.tmod (cd (aL zs L.2.1) L t) (L.2.2.2.2.2.1.length:Int)).toNat]:=by simp[r9,List.getD,hi]
  rw[j5,e];have:=hL.mem _ (ji hi);exact⟨⟨λ_=>this.1,λ_=>rfl⟩,by omega,this.2⟩
theorem jug{L:cb}(hL:fR zs.length ps.length cs.length L){ss:List dD}{a b:Int}(ha:0<=a)(dj:a<=b)(hb:b<=8589934592){M:Nat}(hM:M<=60)(hlen:b-a<=604800*M) :
  ∃out,j6f ((zs,(ps,(cs,ss))),zs.map tb) L a b=some out/\bX (a-1) out/\(∀t,bI t out↔a<=t/\t<b/\iq zs cs L t=true)/\
   out.length<=L.2.2.2.2.2.2.1.length*(M+1)*5+1+(if L.2.2.2.2.2.2.2.2=0 then 0 else (oD cs L.2.2.2.2.2.2.2.1).2.2.length*5):=by
 have PO:=hL.rt2;have jU:(zs.map tb).length=zs.length:=ka ..;have hz:=mn hs.so.ok hL.z0 hL.z1;have hg:=Px (zs:=zs) hL.z0 hL.z1;have iX:=hL.wl;have fM:(tb (aL zs L.2.1)).2.length<=4:=PG hz;obtain⟨v,ev,hv⟩:=pw hz.ztab.2 PO (k:=0) (by omega) (by omega)
 have pL:∀t,a<=t->t<b->(0<=cd (aL zs L.2.1) L t↔QO (aL zs L.2.1).2.1 (tb (aL zs L.2.1)).2 L t 0):=λt h1 h2=>by
  have hK:=(uH hz PO (t:=t) (by omega) (by omega)).2;constructor
  .intro hk;rcases hK with⟨hK,_⟩|⟨_,hq,_⟩
   .have:cd (aL zs L.2.1) L t = -1:=hK;omega
   .exact QO.le hz.ztab.2 PO hk hq
  .intro hq;rcases hK with⟨_,hn⟩|⟨hk,_,_⟩
   .exact absurd hq hn
   .exact hk
 have th:∀t,a<=t->t<b->¬QO (aL zs L.2.1).2.1 (tb (aL zs L.2.1)).2 L t 0->iq zs cs L t=false:=λt h1 h2 hq=>by
  unfold iq;rw[ao (λh=>hq ((pL t h1 h2).1 h))];rfl
 simp only[j6f];rw[ba hL.z0 (by rw[jU];exact hL.z1)];simp only[j5,hg];rw[show j0H ((tb (zs.getD L.2.1.toNat (ByteArray.empty,((0:Int),([]:List aT))))).1,(tb (zs.getD L.2.1.toNat (ByteArray.empty,((0:Int),([]:List aT))))).2) (L.1,L.2.1,(L.2.2.1.1,L.2.2.1.2),L.2.2.2.1,L.2.2.2.2.1,L.2.2.2.2.2.1,L.2.2.2.2.2.2.1,L.2.2.2.2.2.2.2.1,L.2.2.2.2.2.2.2.2) 0=_ from ev];simp only[j3]
 have oX:∀(P:∀t,a<=t->t<b->iq zs cs L t=false),∃out,some ([]:SL)=some out/\bX (a-1) out/\(∀t,bI t out↔a<=t/\t<b/\iq zs cs L t=true)/\
   out.length<=L.2.2.2.2.2.2.1.length*(M+1)*5+1+(if L.2.2.2.2.2.2.2.2=0 then 0 else (oD cs L.2.2.2.2.2.2.2.1).2.2.length*5):=λP=>
  ⟨[],rfl,trivial,λt=>⟨λh=>absurd h im,λ⟨h1,h2,h3⟩=>by rw[P t h1 h2]at h3;simp at h3⟩,k7 _⟩
 cases hh:hO (zs.getD L.2.1.toNat (ByteArray.empty,((0:Int),([]:List aT)))).2.1 (tb (zs.getD L.2.1.toNat (ByteArray.empty,((0:Int),([]:List aT))))).2 L 0 with
 |none=>
  simp only[yh,kf,j5]
  exact oX λt h1 h2=>th t h1 h2 (by
   rintro⟨u,hu,_⟩
   have dH:=hh.symm.trans hu;simp at dH)
 |some u=>
  have:=hv u hh;subst this
  have hq:∀t,QO (aL zs L.2.1).2.1 (tb (aL zs L.2.1)).2 L t 0↔v<=t:=λt=>⟨λ⟨u,hu,IA⟩=>by
   have dH:=hh.symm.trans hu;simp only[j4]at dH;omega,λh=>⟨v,hh,h⟩⟩
  simp only[ve,jw,j6];by_cases F6:v>=b
  .rw[ag F6];simp only[j5];exact oX λt h1 h2=>th t h1 h2 (λh=>by have:=(hq t).1 h;omega)
  .rw[ao F6];simp only[j6];by_cases Fq:a>=b
   .rw[ag Fq];simp only[j5];exact oX λt h1 h2=>by omega
   .rw[ao Fq];simp only[j6];obtain⟨c,hc,hca,iV,wk,pM⟩:∃c:Int,c=(if v>a then v else a)/\a<=c/\v<=c/\c<b/\∀t,a<=t->t<c->t<v:=⟨_,rfl,by split<;>omega,by split<;>omega,by split<;>omega,λt h1 h2=>by split at h2<;>omega⟩;rw[<-hc]
    obtain⟨A,PQ,kC,PR,PS,XP,hA6⟩:∃A:SL,((L.2.2.2.2.2.2.1.length:Int)>0->j33 (tb (aL zs L.2.1)) L.2.2.2.2.2.2.1 c b=some A)/\(¬(L.2.2.2.2.2.2.1.length:Int)>0->A=[(c,b)])/\bX (c-1) A/\
      (∀t,bI t A->t<b)/\(∀t,c<=t->t<b->(bI t A↔okW L.2.2.2.2.2.2.1 (mo (gG (aL zs L.2.1) t))=true))/\A.length<=L.2.2.2.2.2.2.1.length*(M+1)*5+1:=by
     by_cases hw:(L.2.2.2.2.2.2.1.length:Int)>0
     .obtain⟨A,e,s1,s2,s3,s4⟩:=PF hz.ztab.2 (q7 fM (by omega)) hL.w iX hM (a:=c) (b:=b) (by omega) (by omega) hb (by omega);refine⟨A,λ_=>e,λh=>absurd hw h,s1,λt ⟨s,dP,h1,h2⟩=>by have:=(s2 s dP).2;omega,λt h1 h2=>?_,?_⟩
      .obtain⟨k,hk,k1,k2⟩:=wM hz.ztab.2 (t:=t) (by omega) (by omega);rw[s4 k hk t h1 h2 k1 k2];have xN:gG (aL zs L.2.1) t=((t+cu (aL zs L.2.1).2.1 (tb (aL zs L.2.1)).2 k)/86400,(t+cu (aL zs L.2.1).2.1 (tb (aL zs L.2.1)).2 k)%86400):=by unfold gG;rw[show j22 (tb (aL zs L.2.1)) t=_ from Ie hz.ztab.2 hk k1 k2];rfl
       have o0:=hz.ztab.2.of0 k hk;have o1:=hz.ztab.2.of1 k hk;have jN:mo (gG (aL zs L.2.1) t)=(t+cu (aL zs L.2.1).2.1 (tb (aL zs L.2.1)).2 k+259200)%604800:=by rw[xN];simp only[mo,j5x];have o0' : -64800<=cu (aL zs L.2.1).2.1 (tb (aL zs L.2.1)).2 k:=o0;have o1':cu (aL zs L.2.1).2.1 (tb (aL zs L.2.1)).2 k<=64800:=o1;rw[Ih _ (by omega)];simp only[j3,vb];generalize cu (aL zs L.2.1).2.1 (tb (aL zs L.2.1)).2 k=o at *;rw[aj (x:=((t+o)/86400+3)%7*86400) (by omega) (by omega),aj (by omega) (by omega)];omega
       rw[jN];unfold okW;rw[ag hw];rfl
      .have:L.2.2.2.2.2.2.1.length*(M+1)*((tb (aL zs L.2.1)).2.length+1)<=L.2.2.2.2.2.2.1.length*(M+1)*5:=Nat.mul_le_mul_left _ (by omega);have s3':A.length<=L.2.2.2.2.2.2.1.length*(M+1)*((tb (aL zs L.2.1)).2.length+1):=s3;omega
     .refine⟨[(c,b)],λh=>absurd h hw,λ_=>rfl,⟨by dsimp only;omega,wk,trivial⟩,λt h=>?_,λt h1 h2=>?_,by simp⟩
      .rcases fA.1 h with h|h
       .exact h.2
       .exact absurd h im
      .unfold okW;rw[ao hw];exact⟨λ_=>rfl,λ_=>fA.2 (.inl ⟨h1,h2⟩)⟩
    have hA7:A.length<=30000:=by have:L.2.2.2.2.2.2.1.length*(M+1)<=14*61:=qu iX (by omega);omega
    have dV:∀out:SL,bX (c-1) out->(∀t,bI t out->t<b)->(∀t,c<=t->t<b->(bI t out↔bI t A/\sb zs cs L t=true))->bX (a-1) out/\∀t,bI t out↔a<=t/\t<b/\iq zs cs L t=true:=λout h1 h2 h3=>by
     refine⟨h1.weak (by omega),λt=>⟨λhx=>?_,λ⟨g1,g2,g3⟩=>?_⟩⟩
     .have l1:=bX.low h1 hx;have l2:=h2 t hx;refine⟨by omega,l2,?_⟩;have:=(h3 t (by omega) l2).1 hx;unfold iq;rw[ag ((pL t (by omega) l2).2 ((hq t).2 (by omega))),(XP t (by omega) l2).1 this.1,this.2];rfl
     .have hk:=PN g3;have sE:=(hq t).1 ((pL t g1 g2).1 hk);have XQ:c<=t:=by apply jp;intro hn;have:=pM t g1 (by omega);omega
      refine(h3 t XQ g2).2 ⟨(XP t XQ g2).2 ?_,?_⟩
      .unfold iq at g3;rw[ag hk]at g3;revert g3;cases okW L.2.2.2.2.2.2.1 (mo (gG (aL zs L.2.1) t))<;>simp
      .unfold iq at g3;rw[ag hk]at g3;revert g3;cases okW L.2.2.2.2.2.2.1 (mo (gG (aL zs L.2.1) t))<;>simp
    by_cases hm:L.2.2.2.2.2.2.2.2=0
    .have bY:=dV A PR PS (λt _ _=>by unfold sb;rw[ff hm];simp);rw[cP (show¬L.2.2.2.2.2.2.2.2=1 by omega),cP (show¬L.2.2.2.2.2.2.2.2=2 by omega),if_pos hm];simp only[j6];by_cases hw:(L.2.2.2.2.2.2.1.length:Int)>0
     .rw[show Int.ofNat L.2.2.2.2.2.2.1.length=(L.2.2.2.2.2.2.1.length:Int) from rfl,ag hw,j5,show j33 ((tb (zs.getD L.2.1.toNat (ByteArray.empty,((0:Int),([]:List aT))))).1,(tb (zs.getD L.2.1.toNat (ByteArray.empty,((0:Int),([]:List aT))))).2) L.2.2.2.2.2.2.1 c b=_ from PQ hw];simp only[j3];exact⟨A,rfl,bY.1,bY.2,by omega⟩
     .rw[show Int.ofNat L.2.2.2.2.2.2.1.length=(L.2.2.2.2.2.2.1.length:Int) from rfl,ao hw,j6,<-kC hw];exact⟨A,rfl,bY.1,bY.2,by omega⟩
    .have dM:=hL.cal hm;have hx:=uG hs dM.1 dM.2;have Gs:=mn hs.so.ok hx.z0 hx.z1;have Fs:(tb (aL zs (oD cs L.2.2.2.2.2.2.2.1).2.1)).2.length<=4:=PG Gs;obtain⟨D,e2,d1,d2,d3⟩:=jxH hs hx (ss:=ss) (a:=c) (b:=b) (by omega) (by omega) hb rfl
     have hDl:D.length<=(oD cs L.2.2.2.2.2.2.2.1).2.2.length*5:=q7 d2 (Nat.mul_le_mul_left _ (by
      have:(tb (aL zs (oD cs L.2.2.2.2.2.2.2.1).2.1)).2.length+1<=5:=by omega
      exact this))
     have hDl2:D.length<=2000:=by have:=hx.len;have h64:(oD cs L.2.2.2.2.2.2.2.1).2.2.length<=64:=this;omega
     have XR:∀t,c<=t->t<b->(bI t D↔(gG (aL zs (oD cs L.2.2.2.2.2.2.2.1).2.1) t).1∈(oD cs L.2.2.2.2.2.2.2.1).2.2):=λt h1 h2=>d3 t _ h1 h2 (jxI Gs (by omega) (by omega)).1;rw[if_neg hm,ba dM.1 dM.2];have Fu:L.2.2.2.2.2.2.2.2=1\/L.2.2.2.2.2.2.2.2=2:=by have:=hL.mode0;have:=hL.mode1;omega
     rcases Fu with gp|gI
     .obtain⟨out,e3,w1,w2,w3⟩:=PK (by omega) PR d1 (by omega)
      have bY:=dV out w1 (λt h=>PS t ((w2 t).1 h).1) (λt h1 h2=>by
       rw[w2 t,XR t h1 h2];unfold sb;rw[cP hm,cP (show¬L.2.2.2.2.2.2.2.2=2 by omega),j6];simp)
      rw[ff gp];simp only[j5];by_cases hw:(L.2.2.2.2.2.2.1.length:Int)>0
      .rw[show Int.ofNat L.2.2.2.2.2.2.1.length=(L.2.2.2.2.2.2.1.length:Int) from rfl,ag hw,j5,show j33 ((tb (zs.getD L.2.1.toNat (ByteArray.empty,((0:Int),([]:List aT))))).1,(tb (zs.getD L.2.1.toNat (ByteArray.empty,((0:Int),([]:List aT))))).2) L.2.2.2.2.2.2.1 c b=_ from PQ hw];simp only[j3];refine⟨out,?_,bY.1,bY.2,by omega⟩;rw[show j20 ((zs,(ps,(cs,ss))),zs.map tb) ((cs.getD L.2.2.2.2.2.2.2.1.toNat (ByteArray.empty,((0:Int),([]:List Int)))).1,(cs.getD L.2.2.2.2.2.2.2.1.toNat (ByteArray.empty,((0:Int),([]:List Int)))).2.1,(cs.getD L.2.2.2.2.2.2.2.1.toNat (ByteArray.empty,((0:Int),([]:List Int)))).2.2) c b=_ from e2];simp only[j3,e3]
      .rw[show Int.ofNat L.2.2.2.2.2.2.1.length=(L.2.2.2.2.2.2.1.length:Int) from rfl,ao hw,j6,<-kC hw];refine⟨out,?_,bY.1,bY.2,by omega⟩;rw[show j20 ((zs,(ps,(cs,ss))),zs.map tb) ((cs.getD L.2.2.2.2.2.2.2.1.toNat (ByteArray.empty,((0:Int),([]:List Int)))).1,(cs.getD L.2.2.2.2.2.2.2.1.toNat (ByteArray.empty,((0:Int),([]:List Int)))).2.1,(cs.getD L.2.2.2.2.2.2.2.1.toNat (ByteArray.empty,((0:Int),([]:List Int)))).2.2) c b=_ from e2];simp only[j3,e3]
     .obtain⟨out,e3,w1,w2,w3⟩:=Xv PR d1 (by omega) (by omega)
      have bY:=dV out w1 (λt h=>PS t ((w2 t).1 h).1) (λt h1 h2=>by
       rw[w2 t,XR t h1 h2];unfold sb;rw[cP hm,ff gI,j6];simp)
      rw[cP (show¬L.2.2.2.2.2.2.2.2=1 by omega),ff gI];simp only[j5,j6];by_cases hw:(L.2.2.2.2.2.2.1.length:Int)>0
      .rw[show Int.ofNat L.2.2.2.2.2.2.1.length=(L.2.2.2.2.2.2.1.length:Int) from rfl,ag hw,j5,show j33 ((tb (zs.getD L.2.1.toNat (ByteArray.empty,((0:Int),([]:List aT))))).1,(tb (zs.getD L.2.1.toNat (ByteArray.empty,((0:Int),([]:List aT))))).2) L.2.2.2.2.2.2.1 c b=_ from PQ hw];simp only[j3];refine⟨out,?_,bY.1,bY.2,by omega⟩;rw[show j20 ((zs,(ps,(cs,ss))),zs.map tb) ((cs.getD L.2.2.2.2.2.2.2.1.toNat (ByteArray.empty,((0:Int),([]:List Int)))).1,(cs.getD L.2.2.2.2.2.2.2.1.toNat (ByteArray.empty,((0:Int),([]:List Int)))).2.1,(cs.getD L.2.2.2.2.2.2.2.1.toNat (ByteArray.empty,((0:Int),([]:List Int)))).2.2) c b=_ from e2];simp only[j3,e3]
      .rw[show Int.ofNat L.2.2.2.2.2.2.1.length=(L.2.2.2.2.2.2.1.length:Int) from rfl,ao hw,j6,<-kC hw];refine⟨out,?_,bY.1,bY.2,by omega⟩;rw[show j20 ((zs,(ps,(cs,ss))),zs.map tb) ((cs.getD L.2.2.2.2.2.2.2.1.toNat (ByteArray.empty,((0:Int),([]:List Int)))).1,(cs.getD L.2.2.2.2.2.2.2.1.toNat (ByteArray.empty,((0:Int),([]:List Int)))).2.1,(cs.getD L.2.2.2.2.2.2.2.1.toNat (ByteArray.empty,((0:Int),([]:List Int)))).2.2) c b=_ from e2];simp only[j3,e3]
end
end Go.Proofs.Pw
