/- gH 1: every day up to the last one has a date. -/
import Derived.Test.YtllkgjaoejhneaaGreatCEPA
import Derived.Test.YtllkgjaoejhneaaGreatCEPC
import Derived.Test.YtllkgjaoejhneaaGreatCEPD
import Derived.KernelRfl
import Derived.Test.YtllkgjaoejhneaaGreatCEFns
import Derived.Test.YtllkgjaoejhneaaGreatCEPB
open _root_ renaming Int->A,List->F,Nat->G
open ByteArray renaming empty->D
open Option renaming some->E
open Int renaming mul_nonneg->H,mul_le_mul->I,lt_or_le->R,mul_comm->S,ofNat->W,mul_assoc->Y,tdiv->Z,tmod->À
open List renaming getD_eq_getElem?_getD->J,getElem_of_mem->O,getD->U
open Decidable renaming decide->M
open Go Go.Lft
namespace Go.Proofs.Pw
theorem Uu(day y:A)(vV:cY y<=day)(rN:day<cY (y+1))(h3:y<=1000000):∀(n:G)(k:A),k+n=y -> -1000000<=k->Fb day k=E y
 |0,k,hn,hk=>by
  rw[RK];have:k=y:=aa;subst this;simp only[j3Z,au (x:=k+1),ui (k+1) aa aa,ja,al (show¬cY (k+1)<=day by omega),jd,bd]
 |n+1,k,hn,hk=>by
  rw[RK];have:=sm (a:=k+1) (b:=y) aa;simp only[j3Z,au (x:=k+1),ui (k+1) aa aa,ja,ai (show cY (k+1)<=day by omega),jc,aZ];have ih:=Uu day y vV rN h3 n (k+1) aa aa;exact ih
theorem jwP(day y:A)(h1 : -365<=day)(h2:day<=1000000)(vV:cY y<=day)(rN:day<cY (y+1)):je4 day=E y:=by
 have hq:1970+day/366<=y /\ -1000000<=day/366/\y<=1000000:=by
  refine⟨?_,aa,?_⟩
  .rcases R y (1970+day/366) with h|h
   .have h':=sm (a:=y+1) (b:=1970+day/366) aa;exfalso;have:cY (1970+day/366)<=day:=by unfold cY;omega
    omega
   .exact h
  .rcases R 1000000 y with h|h
   .have:=sm (a:=1000000) (b:=y) aa;have h4:364000000<=cY 1000000:=by decide
    omega
   .exact h
 simp only[je4,Gy day 366 aa aa aa,ja];rw[au,Uu day y vV rN hq.2.2 (y-(1970+day/366)).toNat _ aa aa];rfl
theorem jwQ(d:G):∃y,1970<=y/\cY y<=d/\(d:A)<cY (y+1):=by
 induction d with
 |zero=>exact⟨1970,aa,by decide,by decide⟩
 |succ d ih=>
  obtain⟨y,h1,h2,h3⟩:=ih;by_cases h:((d+1:G):A)<cY (y+1)
  .exact⟨y,h1,aa,h⟩
  .have:=jxK (a:=y+1) (b:=y+1+1) aa;exact⟨y+1,aa,aa,aa⟩
theorem Uv(y r:A)(h0:0<=r):∀k:G,k<=12->r<cQ y (k+1)->∃m:A,1<=m/\m<=k/\cQ y m<=r/\r<cQ y m+dT y m
 |0,_,h=>by have:cQ y ((0:G)+1)=0:=rfl;omega
 |k+1,hk,h=>by
  by_cases h':r<cQ y (k+1)
  .obtain⟨m,h1,h2,h3⟩:=Uv y r h0 k aa h';exact⟨m,h1,aa,h3⟩
  .have:=wU y (k+1) aa aa;rw[show ((k+1:G):A)=(k:A)+1 from rfl]at h;exact⟨k+1,aa,aa,aa,aa⟩
theorem jyw(y:A):cQ y 13=365+gG y:=by unfold cQ;omega
theorem jv6(y r:A)(h0:0<=r)(h:r<365+gG y):∃m,1<=m/\m<=12/\cQ y m<=r/\r<cQ y m+dT y m:=
 Uv y r h0 12 (jz _) (by rw[show ((12:G):A)+1=13 from rfl,jyw];exact h)
theorem jwR(day:A)(h0:0<=day)(h1:day<98981):∃y m d,oe y m d/\num y m d=day/\cY y<=day/\day<cY (y+1)/\1<=m/\m<=12:=by
 obtain⟨y,vV,rN,Uw⟩:=jwQ day.toNat;rw[Int.toNat_of_nonneg h0]at rN Uw;have hs:=MP y;obtain⟨m,gq,gO,hm3,hm4⟩:=jv6 y (day-cY y) aa aa;refine⟨y,m,day-cY y-cQ y m+1,⟨vV,?_,aa,aa⟩,by unfold num;omega,rN,Uw,gq,gO⟩;rcases R 2240 y with h|h
 .have:=sm (a:=2241) (b:=y) aa;have:=MR;omega
 .exact h
theorem jxR{y m d:A}(h:oe y m d):cY y<=num y m d/\num y m d<cY (y+1)/\cQ y m<=num y m d-cY y/\num y m d-cY y<cQ y m+dT y m/\num y m d-cY y-cQ y m+1=d:=by
 have hm:=Db h;obtain⟨h1,h2,h3,h4⟩:=h;have hc:=wV y m;have:=wU y m hm.1 hm.2;have hs:=MP y;have:cQ y (m+1)<=365+gG y:=by have:=C8 y;unfold cQ;omega
 unfold num;omega
theorem Ux(y m r x1 x2 x3 x7:A)(gO:m<=12)(hr0:0<=r)(hr:r<dT y m):∀(n:G)(k:A),1<=k->k+n=m->
  Fc (r+cQ y m-cQ y k) x1 x2 x3 y k x7=E (r,x1,x2,x3,y,m,x7)
 |0,k,hk,hn=>by
  have:k=m:=aa;subst this;rw[RM];simp only[j3f,Da,ja];rw[al (show¬(r+cQ y k-cQ y k>=dT y k) by omega)];simp only[jd,bd];rw[show r+cQ y k-cQ y k=r by omega]
 |n+1,k,hk,hn=>by
  rw[RM];have hs:=wU y k hk aa
  have tQ:cQ y (k+1)<=cQ y m:=by
   have:∀(j:G),k+1+j<=12->cQ y (k+1)<=cQ y (k+1+j):=by
    intro j;induction j with
    |zero=>intro _;simp
    |succ j ih=>intro hj;have h1:=ih aa;have h2:=wU y (k+1+j) aa aa;have h3:=lF y (k+1+j);rw[show k+1+((j+1:G):A)=k+1+j+1 by omega];omega
   have:=this n aa;rwa[show k+1+(n:A)=m by omega]at this
  have c1:=wV y k;have c2:=wV y m;have c3:=lF y k;have c4:=lF y m;simp only[j3f,Da,ja];rw[ai (show r+cQ y m-cQ y k>=dT y k by omega)];simp only[jc,aZ];rw[au (x:=r+cQ y m-cQ y k-dT y k),au (x:=k+1),show r+cQ y m-cQ y k-dT y k=r+cQ y m-cQ y (k+1) by omega];exact Ux y m r x1 x2 x3 x7 gO hr0 hr n (k+1) aa aa
theorem jtF{y m d:A}(h:oe y m d):j5t (num y m d)=E ((y,m,d),0):=by
 have hm:=Db h;have hr:=wW h;obtain⟨i1,i2,i3,i4,i5⟩:=jxR h;have hd:=lF y m;have hc:=wV y m;simp only[j5t,ui 1970 aa aa,ui 2241 aa aa,ja,TN,MR];rw[al (show¬num y m d<0 by omega),jd,al (show¬num y m d>=98981 by omega),jd,jwP (num y m d) y aa aa i1 i2];simp only[ja,ui y (by have:=h.1;omega) (by have:=h.2.1;omega)];have hl:=Ux y m (num y m d-cY y-cQ y m) 0 0 0 0 hm.2 aa aa (m-1).toNat 1 aa aa;rw[show num y m d-cY y-cQ y m+cQ y m-cQ y 1=num y m d-cY y by (have:cQ y 1=0:=rfl);omega]at hl;rw[au (x:=num y m d-cY y),hl];simp only[ja];rw[i5,gu (by have:=h.2.2;omega) (by have:=h.2.2;omega)]
theorem jtG(day:A)(h:day<0\/98981<=day):j5t day=E ((0,0,0),1):=by
 simp only[j5t,ui 1970 aa aa,ui 2241 aa aa,ja,TN,MR];rcases h with h|h
 .rw[ai h];rfl
 .rw[al (show¬day<0 by omega),jd,ai (show day>=98981 by omega)];rfl
theorem xd(n:A):j1o n=E (M (0<=n)&&M (n<=98980)):=by
 by_cases h:0<=n/\n<=98980
 .obtain⟨y,m,d,hv,hn,_⟩:=jwR n h.1 aa;have:=jtF hv;rw[hn]at this;simp only[j1o,this,ja];rw[ai h.1,ai h.2];rfl
 .simp only[j1o,jtG n aa,ja];by_cases h0:0<=n
  .rw[ai h0,al (λh1=>h ⟨h0,h1⟩)];rfl
  .rw[al h0];rfl
structure yV(nz np nc:G)(l:bh):Prop where
 z0:0<=l.2.1
 z1:l.2.1<nz
 d0:1<=l.2.2.1.1
 d1:l.2.2.1.1<=98980
 c0:0<=l.2.2.1.2
 c1:l.2.2.1.2<=86399
 u0:0<=l.2.2.2.1
 u1:l.2.2.2.1<=2
 e0:1<=l.2.2.2.2.1
 e1:l.2.2.2.2.1<=400
 m0:l.2.2.2.2.2.1.length≠0
 m1:l.2.2.2.2.2.1.length<=12
 mem:∀m∈l.2.2.2.2.2.1,0<=m/\m<(np:A)
 w:jV 0 l.2.2.2.2.2.2.1
 wl:l.2.2.2.2.2.2.1.length<=14
 Dh:0<=l.2.2.2.2.2.2.2.2
 Di:l.2.2.2.2.2.2.2.2<=2
 cal:l.2.2.2.2.2.2.2.2≠0->0<=l.2.2.2.2.2.2.2.1/\l.2.2.2.2.2.2.2.1<(nc:A)
 Nb:l.2.2.2.2.2.2.2.2=0->l.2.2.2.2.2.2.2.1=0
structure ig(nz np nc:G)(l:bh):Prop extends yV nz np nc l where
 w3:l.2.2.2.2.2.2.1.length<=3
theorem yV.rt2{nz np nc:G}{L:bh}(h:yV nz np nc L):Rt L:=
 ⟨h.d0,by have:=h.d1;omega,h.c0,h.c1,h.u0,h.u1,h.e0,h.e1,λhm=>h.m0 (by rw[hm];rfl)⟩
theorem ig.rt2{nz np nc:G}{L:bh}(h:ig nz np nc L):Rt L:=
 ⟨h.d0,by have:=h.d1;omega,h.c0,h.c1,h.u0,h.u1,h.e0,h.e1,λhm=>h.m0 (by rw[hm];rfl)⟩
structure Nn(x:cO):Prop where
 f0:0<=x.2.2.2.1
 ft:x.2.2.2.1<x.2.2.2.2
 t1:x.2.2.2.2<=1000000000000
structure lG(zs:F bz)(ps:F cZ)(cs:F aT):Prop where
 ok:∀z∈zs,fA z
 ck:∀x∈cs,oh zs.length x
 zl:zs.length<=16
 pl:ps.length<=32
theorem mu{zs:F bz}{ps:F cZ}{cs:F aT}(hs:lG zs ps cs){i:A}(h0:0<=i)(h1:i<(cs.length:A)):oh zs.length (cs.getD i.toNat (D,((0:A),([]:F A)))):=by
 have hi:i.toNat<cs.length:=aa;rw[show cs.getD i.toNat (D,((0:A),([]:F A)))=cs[i.toNat] by simp[U,hi]];exact hs.ck _ (jq hi)
theorem jtH:j4h 2241=E 98981:=by kernel_rfl
theorem jtI:j4h 1970=E 0:=by kernel_rfl
theorem jxS{d:A}(h:j1o d=E true):0<=d:=by
 rw[xd]at h;simp only[jb,jh,jp]at h;omega
theorem Uy{L:bh}(h:Rt L):j8c L=E (dx L):=by
 have:=h.e0;have:=h.e1;simp only[j8c,dx];by_cases h2:L.2.2.2.1=2
 .rw[fi h2,jc,if_pos h2,au]
 .rw[cN h2,jd,if_neg h2]
def pS(r:Option (A×Bool))(x:Option A):Prop:=∃v,r=E (v,x.isSome)/\∀t,x=E t->v=t
theorem sw{o:A}{l:aW}(ht:gv o l){L:bh}(h:Rt L){k:A}(hk:0<=k)(eb:k<=8589934592):pS (j1m (o,l) L k) (hO o l L k):=by
 have hs:=h.step;have GJ:=h.d0;have nS:=h.d1;have gn:=h.c0;have eg:=h.c1;have qQ:=h.e0;have tF:=h.e1;have gW:j8c (L.1,L.2.1,(L.2.2.1.1,L.2.2.1.2),L.2.2.2.1,L.2.2.2.2.1,L.2.2.2.2.2.1,L.2.2.2.2.2.2.1,L.2.2.2.2.2.2.2.1,L.2.2.2.2.2.2.2.2)=_:=Uy h;simp only[pS,j1m,gW,ja];rw[al (show¬k>8589934592 by omega),jd];by_cases h0:L.2.2.2.1=0
 .have hF:=Nl ht (d:=L.2.2.1.1) (c:=L.2.2.1.2) aa aa gn eg;have gE:L.2.2.1.1*86400+L.2.2.1.2=dy L 0:=by unfold dy;omega
  have pT:0<=3600*L.2.2.2.2.1*k:=H aa hk;have gq:3600*L.2.2.2.2.1*k<=3600*400*8589934592:=I aa eb hk aa;rw[show (L.2.2.2.1 != 0)=false by rw[h0];rfl,jd,hF,gE];simp only[ja];unfold hO;rw[if_pos h0];cases hf:fO o l (dy L 0) with
  |none=>exact⟨_,rfl,λt h=>by simp at h⟩
  |some v=>
   have hv:=xc ht hf;simp only[qf,qy,jc,ja,gu (x:=3600*L.2.2.2.2.1) (show -9223372036854775808<=_ by omega) aa,gu (x:=3600*L.2.2.2.2.1*k) (show -9223372036854775808<=_ by omega) aa,gu (x:=v+3600*L.2.2.2.2.1*k) (show -9223372036854775808<=_ by omega) aa];by_cases hle:v+3600*L.2.2.2.2.1*k<=8589934592
   .rw[if_pos hle,ai hle];exact⟨_,rfl,λt h=>by simpa using h⟩
   .rw[if_neg hle,al hle];exact⟨_,rfl,λt h=>by simp at h⟩
 .have pT:0<=k*dx L:=H hk aa;have gq:k*dx L<=8589934592*2800:=I eb hs.2 aa aa;rw[show (L.2.2.2.1 != 0)=true by simp[h0],jc,au (x:=k*dx L),au (x:=L.2.2.1.1+k*dx L),Nl ht aa aa gn eg];simp only[ja];unfold hO;rw[if_neg h0];exact⟨_,rfl,λt h=>by have h:fO o l ((L.2.2.1.1+k*dx L)*86400+L.2.2.1.2)=E t:=h;rw[h];rfl⟩
theorem Dn{z:bz}{l:aW}(hz:Z4 z l){L:bh}(h:Rt L){k:A}(hk:0<=k)(eb:k<=8589934592):pS (j5E z L k) (hO z.2.1 l L k):=by
 have hs:=h.step;have GJ:=h.d0;have nS:=h.d1;have gn:=h.c0;have eg:=h.c1;have qQ:=h.e0;have tF:=h.e1;have vJ:=h.u1;have Uz:=h.u0;simp only[pS,j5E];have pT:0<=k*L.2.2.2.2.1:=H hk aa;have gq:k*L.2.2.2.2.1<=8589934592*400:=I eb aa aa aa;rw[au (x:=k*L.2.2.2.2.1)];by_cases h0:L.2.2.2.1=0
 .have hF:=GI hz (d:=L.2.2.1.1) (c:=L.2.2.1.2) aa gn eg;have gE:L.2.2.1.1*86400+L.2.2.1.2=dy L 0:=by unfold dy;omega
  rw[fi h0,jc,show j2V (z.1,(z.2.1,z.2.2)) (L.2.2.1.1,L.2.2.1.2)=_ from hF,gE];simp only[ja];have gl:k*L.2.2.2.2.1*3600=3600*L.2.2.2.2.1*k:=by rw[S,S k,Y]
  have gO:0<=3600*L.2.2.2.2.1*k:=H aa hk;have hm3:3600*L.2.2.2.2.1*k<=3600*400*8589934592:=I aa eb hk aa;rw[gl,au (x:=3600*L.2.2.2.2.1*k)];unfold hO;rw[if_pos h0];cases hf:fO z.2.1 l (dy L 0) with
  |none=>exact⟨_,rfl,λt h=>by simp at h⟩
  |some v=>
   have hv:=xc hz.2 hf;simp only[ja];rw[au (x:=v+3600*L.2.2.2.2.1*k),kv,jc];by_cases hle:v+3600*L.2.2.2.2.1*k<=8589934592
   .rw[if_pos hle,ai hle];exact⟨_,rfl,λt h=>by simpa using h⟩
   .rw[if_neg hle,al hle];exact⟨_,rfl,λt h=>by simp at h⟩
 .rw[cN h0,jd]
  have fin:∀n:A,n=k*dx L->0<=n->pS ((j2V (z.1,(z.2.1,z.2.2)) (L.2.2.1.1+n,L.2.2.1.2)).bind λr=>E (r.1,(r.2==(0:A)))) (hO z.2.1 l L k):=by
   intro n hn h9;have hF:=GI hz (d:=L.2.2.1.1+n) (c:=L.2.2.1.2) aa gn eg;rw[show j2V (z.1,(z.2.1,z.2.2)) (L.2.2.1.1+n,L.2.2.1.2)=_ from hF];unfold hO;rw[if_neg h0];have eh:(L.2.2.1.1+n)*86400+L.2.2.1.2=dy L k:=by rw[hn];rfl
   rw[eh];cases hf:fO z.2.1 l (dy L k) with
   |none=>exact⟨_,rfl,λt h=>by simp at h⟩
   |some v=>exact⟨_,rfl,λt h=>by simpa using h⟩
  by_cases h2:L.2.2.2.1=2
  .have xe:dx L=7*L.2.2.2.2.1:=by unfold dx;rw[if_pos h2]
   have e1:k*L.2.2.2.2.1*7=k*dx L:=by rw[xe,Y,S L.2.2.2.2.1 7]
   rw[fi h2,jc,au (x:=k*L.2.2.2.2.1*7),au (x:=L.2.2.1.1+k*L.2.2.2.2.1*7)];exact fin _ e1 aa
  .have xe:dx L=L.2.2.2.2.1:=by unfold dx;rw[if_neg h2]
   rw[cN h2,jd,au (x:=L.2.2.1.1+k*L.2.2.2.2.1)];exact fin _ (by rw[xe]) pT
theorem UA{o:A}{l:aW}(ht:gv o l){L:bh}(h:Rt L){t N:A}(hN:N<=8589934592)(gS:QO o l L t 0):∀n:G,(n:A)<=N->
  ∃k:A,Fj t (n:A) o l L.1 L.2.1 L.2.2.1.1 L.2.2.1.2 L.2.2.2.1 L.2.2.2.2.1 L.2.2.2.2.2.1 L.2.2.2.2.2.2.1 L.2.2.2.2.2.2.2.1 L.2.2.2.2.2.2.2.2=
   E (t,k,o,l,L.1,L.2.1,L.2.2.1.1,L.2.2.1.2,L.2.2.2.1,L.2.2.2.2.1,L.2.2.2.2.2.1,L.2.2.2.2.2.2.1,L.2.2.2.2.2.2.2.1,L.2.2.2.2.2.2.2.2)/\0<=k/\QO o l L t k
 |0,_=>by
  rw[RU];simp only[j2N];rw[al aa,jd,bd];exact⟨_,rfl,aa,gS⟩
 |n+1,hn=>by
  obtain⟨k,e,k0,k1⟩:=UA ht h hN gS n aa;obtain⟨v,hH,hv⟩:=sw ht h (k:=((n+1:G):A)) aa aa;rw[RU];simp only[j2N];rw[ai aa,jc,show j1m (o,l) (L.1,L.2.1,(L.2.2.1.1,L.2.2.1.2),L.2.2.2.1,L.2.2.2.2.1,L.2.2.2.2.2.1,L.2.2.2.2.2.2.1,L.2.2.2.2.2.2.2.1,L.2.2.2.2.2.2.2.2) ((n+1:G):A)=_ from hH];simp only[ja];rw[au (x:=((n+1:G):A)-1),show ((n+1:G):A)-1=(n:A) by omega];cases hx:hO o l L ((n+1:G):A) with
  |none=>simp only[zf,jd,aZ];exact⟨k,e,k0,k1⟩
  |some x=>
   have:=hv x hx;subst this;simp only[qy,jc];by_cases hc:v<=t
   .rw[ai hc,jc,bd];exact⟨_,rfl,aa,v,hx,hc⟩
   .rw[al hc,jd,aZ];exact⟨k,e,k0,k1⟩
theorem UB{o:A}{l:aW}(ht:gv o l){L:bh}(h:Rt L){t:A}:∀(n:G)(k:A),k+n=2386093->0<=k->QO o l L t k->
  ∃K:A,Fk t k o l L.1 L.2.1 L.2.2.1.1 L.2.2.1.2 L.2.2.2.1 L.2.2.2.2.1 L.2.2.2.2.2.1 L.2.2.2.2.2.2.1 L.2.2.2.2.2.2.2.1 L.2.2.2.2.2.2.2.2=E K/\0<=K/\QO o l L t K/\¬QO o l L t (K+1)
 |0,k,hn,hk,hq=>by
  obtain⟨v,hv,_⟩:=hq;have:=Dm ht h hk hv;omega
 |n+1,k,hn,hk,hq=>by
  obtain⟨v,hH,hv⟩:=sw ht h (k:=k+1) aa aa;rw[_7];simp only[j41];rw[au (x:=k+1),show j1m (o,l) (L.1,L.2.1,(L.2.2.1.1,L.2.2.1.2),L.2.2.2.1,L.2.2.2.2.1,L.2.2.2.2.2.1,L.2.2.2.2.2.2.1,L.2.2.2.2.2.2.2.1,L.2.2.2.2.2.2.2.2) (k+1)=_ from hH];simp only[ja];cases hx:hO o l L (k+1) with
  |none=>simp only[zf,jo,jc,bd];exact⟨k,rfl,hk,hq,λ⟨y,hy,_⟩=>by rw[hx]at hy;simp at hy⟩
  |some x=>
   have:=hv x hx;subst this;simp only[qy,jl,jd];by_cases hc:v>t
   .rw[ai hc,jc,bd];exact⟨k,rfl,hk,hq,λ⟨y,hy,yq⟩=>by rw[hx]at hy;simp at hy;omega⟩
   .rw[al hc,jd,aZ];exact UB ht h n (k+1) aa aa ⟨v,hx,aa⟩
theorem UC{o:A}{l:aW}{L:bh}(h:Rt L){t v:A}(h0:L.2.2.2.1=0)(ph:t<=8589934592)(hf:fO o l (dy L 0)=E v)(ya:v<=t)(hv0:0<=v) :
  sv o l L t ((t-v)/(3600*L.2.2.2.2.1))/\0<=(t-v)/(3600*L.2.2.2.2.1)/\(t-v)/(3600*L.2.2.2.2.1)<=8589934592:=by
 have qQ:=h.e0;have tF:=h.e1;have q0:0<=(t-v)/(3600*L.2.2.2.2.1):=vp aa aa;have q1:3600*L.2.2.2.2.1*((t-v)/(3600*L.2.2.2.2.1))<=t-v:=Int.mul_ediv_self_le aa;have q2:t-v<3600*L.2.2.2.2.1*((t-v)/(3600*L.2.2.2.2.1))+3600*L.2.2.2.2.1:=Int.lt_mul_ediv_self_add aa;have q3:(t-v)/(3600*L.2.2.2.2.1)<=t-v:=vd _ aa;generalize (t-v)/(3600*L.2.2.2.2.1)=K at *;refine⟨.inr ⟨q0,⟨v+3600*L.2.2.2.2.1*K,?_,aa⟩,?_⟩,q0,aa⟩
 .unfold hO;rw[if_pos h0,hf];simp only[ja];rw[if_pos aa]
 .rintro⟨y,hy,yq⟩
  unfold hO at hy;rw[if_pos h0,hf]at hy;simp only[ja,Int.mul_add,Int.mul_one]at hy;split at hy
  .simp at hy;omega
  .simp at hy
theorem UD{o:A}{l:aW}{L:bh}(h0:L.2.2.2.1=0){v:A}(hv:hO o l L 0=E v):fO o l (dy L 0)=E v:=by
 unfold hO at hv;rw[if_pos h0]at hv;cases hf:fO o l (dy L 0) with
 |none=>rw[hf]at hv;simp at hv
 |some x=>
  rw[hf]at hv;simp only[ja,Int.mul_zero,Int.add_zero]at hv;split at hv
  .simpa using hv
  .simp at hv
theorem jyx{o:A}{l:aW}(ht:gv o l){L:bh}(h:Rt L){t:A}(GK:0<=t)(ph:t<=8589934592):∃K:A,j3m (o,l) L t=E K/\sv o l L t K:=by
 have hs:=h.step;have GJ:=h.d0;have nS:=h.d1;have qQ:=h.e0;have tF:=h.e1;obtain⟨v0,hH,hv⟩:=sw ht h (k:=0) aa aa;have gW:j8c (L.1,L.2.1,(L.2.2.1.1,L.2.2.1.2),L.2.2.2.1,L.2.2.2.2.1,L.2.2.2.2.2.1,L.2.2.2.2.2.2.1,L.2.2.2.2.2.2.2.1,L.2.2.2.2.2.2.2.2)=_:=Uy h;simp only[j3m,show j1m (o,l) (L.1,L.2.1,(L.2.2.1.1,L.2.2.1.2),L.2.2.2.1,L.2.2.2.2.1,L.2.2.2.2.2.1,L.2.2.2.2.2.2.1,L.2.2.2.2.2.2.2.1,L.2.2.2.2.2.2.2.2) 0=_ from hH,gW,ja];cases hx:hO o l L 0 with
 |none=>simp only[zf,jo,jc];exact⟨-1,rfl,.inl ⟨rfl,λ⟨y,hy,_⟩=>by rw[hx]at hy;simp at hy⟩⟩
 |some v=>
  have:=hv v hx;subst this;simp only[qy,jl,jd];by_cases hc:v0>t
  .rw[ai hc,jc];exact⟨-1,rfl,.inl ⟨rfl,λ⟨y,hy,yq⟩=>by rw[hx]at hy;simp at hy;omega⟩⟩
  .rw[al hc,jd];have hq:QO o l L t 0:=⟨v0,hx,aa⟩;have Np:=Dm ht h (k:=0) aa hx;by_cases h0:L.2.2.2.1=0
   .obtain⟨s1,s2,s3⟩:=UC (o:=o) (l:=l) h h0 ph (UD h0 hx) aa Np.1;rw[fi h0,jc,au (x:=t-v0),au (x:=3600*L.2.2.2.2.1),cN (show¬3600*L.2.2.2.2.1=0 by omega),qs aa,au (x:=(t-v0)/(3600*L.2.2.2.2.1))];exact⟨_,rfl,s1⟩
   .obtain⟨j,hj,j1,j2⟩:=Gx ht GK ph;have o0:=ht.of0 j hj;have o1:=ht.of1 j hj;rw[cN h0,jd,MN ht hj j1 j2];simp only[ja];generalize Eb:(t+bL o l j)/86400=ld;rw[cN (show¬dx L=0 by omega),au (x:=ld-L.2.2.1.1)];simp only[jo,jc]
    obtain⟨n,hn,xR⟩:∃n:G,(if w64 (Z (ld-L.2.2.1.1) (dx L))>0 then w64 (Z (ld-L.2.2.1.1) (dx L)) else 0)=(n:A)/\(n:A)<=8589934592:=by
     by_cases xf:0<=ld-L.2.2.1.1
     .rw[qs xf];have q0:0<=(ld-L.2.2.1.1)/dx L:=vp xf aa;have q1:(ld-L.2.2.1.1)/dx L<=ld-L.2.2.1.1:=vd _ xf;rw[au];refine⟨((ld-L.2.2.1.1)/dx L).toNat,?_,?_⟩
      .split<;>omega
      .omega
     .have e:Z (ld-L.2.2.1.1) (dx L) = -((-(ld-L.2.2.1.1))/dx L):=by rw[<-qs aa,Int.neg_tdiv,Int.neg_neg]
      have q0:0<=(-(ld-L.2.2.1.1))/dx L:=vp aa aa;have q1:(-(ld-L.2.2.1.1))/dx L <= -(ld-L.2.2.1.1):=vd _ aa;rw[e,au,if_neg aa];exact⟨0,rfl,aa⟩
    rw[hn];obtain⟨k,e,k0,k1⟩:=UA ht h (Int.le_refl _) hq n xR;have wi:=k1;obtain⟨y,hy,_⟩:=wi;have bI:=Dm ht h k0 hy;obtain⟨K,e2,K0,K1,K2⟩:=UB ht h (t:=t) (2386093-k).toNat k aa k0 k1;simp only[e,ja,e2];exact⟨K,rfl,.inr ⟨K0,K1,K2⟩⟩
def tb(z:bz):A×aW:=(z.2.1,bV z.2.1 (dD (occs z.2.2)))
theorem fA.ztab{z:bz}(h:fA z):pP z (tb z).2:=MZ.tab (o:=z.2.1) (rs:=z.2.2) h z.1
theorem fA.zdif{z:bz}(h:fA z):Nc z.2.1 (tb z).2:=M1 _ _ _ (MZ.good h)
theorem fA.zref{z:bz}(h:fA z):pP z (tb z).2/\Z4 z (tb z).2/\Nc z.2.1 (tb z).2:=⟨h.ztab,MZ.r4 (o:=z.2.1) (rs:=z.2.2) h z.1,h.zdif⟩
theorem UE{zs:F bz}(h:∀z∈zs,fA z)(hl:zs.length<=100):∀(n i:G),i+n=zs.length->Ci zs (zs.length:A) (i:A) ((zs.take i).map tb)=E (zs.map tb)
 |0,i,hi=>by
  rw[RP];simp only[j3H];rw[al aa,jd,bd,List.take_of_length_le aa]
 |n+1,i,hi=>by
  have ay:i<zs.length:=aa;have bG:zs.getD i (D,((0:A),([]:F aP)))=zs[i]:=by simp[ay]
  have ht:=jyu (h zs[i] (jq ay)).ztab;have ih:=UE h hl n (i+1) aa;rw[List.take_add_one,ka ay,List.map_append]at ih;rw[RP];simp only[j3H];rw[ai aa,bR,au (x:=(i:A)+1)];simp only[jc,je,bG];rw[show jiV (zs[i].1,(zs[i].2.1,zs[i].2.2))=_ from ht];simp only[ja];rw[ai (by simp[aR];omega),jc,aZ];exact ih
theorem jwS{zs:F bz}(h:∀z∈zs,fA z)(hl:zs.length<=100){ps:F cZ}{cs:F aT}{ss:F cL}:jfT (zs,(ps,(cs,ss)))=E ((zs,(ps,(cs,ss))),zs.map tb):=by
 have lp:=UE h hl zs.length 0 aa;simp only[jfT,jeT,show W zs.length=(zs.length:A) from rfl];rw[show Ci zs (zs.length:A) 0 []=_ from lp];rfl
theorem Nq{zs:F bz}{i:A}(h0:0<=i)(h1:i<(zs.length:A)):U (zs.map tb) i.toNat ((0:A),([]:aW))=tb (zs.getD i.toNat (D,((0:A),([]:F aP)))):=by
 have ay:i.toNat<zs.length:=aa;simp[J,ay]
theorem gZ{zs:F bz}(h:∀z∈zs,fA z){i:A}(h0:0<=i)(h1:i<(zs.length:A)):fA (zs.getD i.toNat (D,((0:A),([]:F aP)))):=by
 have ay:i.toNat<zs.length:=aa;rw[J,ka ay];exact h _ (jq ay)
theorem jv7(a b:A):jaR a b=E (M (a<b)):=by
 simp only[jaR,j9w,ja,ji,jd]
theorem Nr{ds:F A}(hs:ds.Pairwise (· < ·))(hl:ds.length<=64){x:A}:∀(n a b:G),b-a<=n->a<=b->b<=ds.length->(∀i,(hi:i<ds.length)->i<a->ds[i]<x)->(∀i,(hi:i<ds.length)->b<=i->x<=ds[i])->
  ∃k:G,Fm ds x (ds.length:A) (a:A) (b:A)=E (ds,x,(ds.length:A),(k:A))/\k<=ds.length/\(∀i,(hi:i<ds.length)->i<k->ds[i]<x)/\∀i,(hi:i<ds.length)->k<=i->x<=ds[i]
 |n,a,b,hn,oK,hb,h1,h2=>by
  rw[_8];simp only[j1h];by_cases ay:a<b
  .have hm:IntKind.wrap .u64 ((a:A)+(b:A))=(a:A)+(b:A):=IntWalk.u64_in _ ⟨aa,aa⟩;have hd:Int.fdiv ((a:A)+(b:A)) 2=(((a+b)/2:G):A):=by rw[Int.fdiv_eq_ediv_of_nonneg _ aa];omega
   have AR:(a+b)/2<ds.length:=aa;have bG:ds.getD ((a+b)/2) (0:A)=ds[(a+b)/2]:=by simp[AR]
   rw[ai (show (a:A)<(b:A) by omega),au (x:=(a:A)+(b:A)),hm,hd,au (x:=(((a+b)/2:G):A)),bR,au (x:=(((a+b)/2:G):A)+1)];simp only[jc,je,bG,jv7,ja];cases n with
   |zero=>omega
   |succ n=>
    by_cases hc:ds[(a+b)/2]<x
    .rw[ai hc,jc,aZ];refine Nr hs hl n ((a+b)/2+1) b aa aa hb (λi hi hia=>?_) h2;by_cases he:i=(a+b)/2
     .subst he;exact hc
     .exact Int.lt_trans (List.pairwise_iff_getElem.1 hs i ((a+b)/2) hi AR aa) hc
    .rw[al hc,jd,aZ];refine Nr hs hl n a ((a+b)/2) aa aa aa h1 (λi hi hia=>?_);by_cases he:i=(a+b)/2
     .subst he;exact Int.not_lt.1 hc
     .exact Int.le_trans (Int.not_lt.1 hc) (Int.le_of_lt (List.pairwise_iff_getElem.1 hs ((a+b)/2) i AR hi aa))
  .have:a=b:=aa;subst this;rw[al aa,jd,bd];exact⟨a,rfl,hb,h1,h2⟩
theorem jyy{ds:F A}(hs:ds.Pairwise (· < ·))(hl:ds.length<=64)(x:A):∃i,j1c ds x=E (i,M (x∈ds)):=by
 obtain⟨k,e,hk,h1,h2⟩:=Nr hs hl (x:=x) ds.length 0 ds.length aa aa (jz _) (λi _ h=>aa) (λi hi h=>aa);rw[show ((0:G):A)=0 from rfl]at e;simp only[j1c,show W ds.length=(ds.length:A) from rfl,e,ja,je];by_cases lE:k<ds.length
 .have bG:ds.getD k (0:A)=ds[k]:=by simp[lE]
  rw[bR,ai (show (k:A)<(ds.length:A) by omega),bG];simp only[zj,jc];by_cases hx:ds[k]=x
  .rw[fi hx];rw[ai (show x∈ds from hx▸jq lE)];exact⟨_,rfl⟩
  .rw[cN hx]
   have hn:¬x∈ds:=by
    intro hm;obtain⟨i,hi,rfl⟩:=O hm;rcases vr i k with h|h|h
    .have:=h1 i hi h;omega
    .subst h;exact hx rfl
    .have a1:=h2 k lE (jz _);have a2:=List.pairwise_iff_getElem.1 hs k i lE hi h;omega
   rw[al hn];simp only[jd,j6M,ja,ji];exact⟨_,rfl⟩
 .have hn:¬x∈ds:=by intro hm;obtain⟨i,hi,rfl⟩:=O hm;have:=h1 i hi aa;omega
  rw[al hn,al (show¬(k:A)<(ds.length:A) by omega)];simp only[jo,vw,jc,jd,Bool.false_and];exact⟨_,rfl⟩
def okW(w:WL)(s:A):Bool:=cond (M ((w.length:A)>0)) (hasB s w) true
section
variable{zs:F bz}{ps:F cZ}{cs:F aT}{ss:F cL}(hz:∀z∈zs,fA z)
include hz
theorem jxV{L:bh}(hL:ig zs.length ps.length cs.length L)(lH:Rt L){t:A}(h0:0<=t)(h1:t<=8589934592){z:bz}(nV:zs.getD L.2.1.toNat (D,((0:A),([]:F aP)))=z)
  {s:A}{d:A×A}(hd:j0u (tb z) t=E d)(hs:j3n d=E s){K:A}(hK:j3m (tb z) L t=E K)(b:Bool)
  (cV:L.2.2.2.2.2.2.2.2=0->b=true)(Dp:L.2.2.2.2.2.2.2.2≠0->∃x:aT,cs.getD L.2.2.2.2.2.2.2.1.toNat (D,((0:A),([]:F A)))=x/\oh zs.length x/\∃d',j0u (tb (zs.getD x.2.1.toNat (D,((0:A),([]:F aP))))) t=E d'/\b=(M (d'.1∈x.2.2)==(L.2.2.2.2.2.2.2.2==(2:A)))) :
  ∃r,j5x ((zs,(ps,(cs,ss))),zs.map tb) L t=E (r,cond (M (0<=K)) (cond (okW L.2.2.2.2.2.2.1 s) b false) false)/\(cond (M (0<=K)) (cond (okW L.2.2.2.2.2.2.1 s) b false) false=true->r=K):=by
 have _:=hz;have _:=lH;have Ev:=hL.wl;have hlen:(zs.map tb).length=zs.length:=zi ..;have hg:=Nq (zs:=zs) hL.z0 hL.z1;rw[nV]at hg;simp only[j5x];rw[al (show¬t<0 by omega),al (show¬t>8589934592 by omega),cG hL.z0 (by rw[hlen];exact hL.z1)];simp only[jd,jc,hg];rw[show j3m ((tb z).1,(tb z).2) (L.1,L.2.1,(L.2.2.1.1,L.2.2.1.2),L.2.2.2.1,L.2.2.2.2.1,L.2.2.2.2.2.1,L.2.2.2.2.2.2.1,L.2.2.2.2.2.2.2.1,L.2.2.2.2.2.2.2.2) t=_ from hK];simp only[ja];by_cases hk:0<=K
 .rw[al (show¬K<0 by omega),ai hk];simp only[jd,jc,show W L.2.2.2.2.2.2.1.length=(L.2.2.2.2.2.2.1.length:A) from rfl]
  have tail:∃r,(cond (L.2.2.2.2.2.2.2.2==(0:A)) (E (K,true)) (cond (inR L.2.2.2.2.2.2.2.1 cs.length) (cond (inR (cs.getD L.2.2.2.2.2.2.2.1.toNat (D,((0:A),([]:F A)))).2.1 (zs.map tb).length) ((j0u ((U (zs.map tb) (cs.getD L.2.2.2.2.2.2.2.1.toNat (D,((0:A),([]:F A)))).2.1.toNat ((0:A),([]:aW))).1,(U (zs.map tb) (cs.getD L.2.2.2.2.2.2.2.1.toNat (D,((0:A),([]:F A)))).2.1.toNat ((0:A),([]:aW))).2) t).bind λr68=>
    (j1c (cs.getD L.2.2.2.2.2.2.2.1.toNat (D,((0:A),([]:F A)))).2.2 r68.1).bind λr70=>E (K,(r70.2==(L.2.2.2.2.2.2.2.2==(2:A))))) none) none))=E (r,b)/\(b=true->r=K):=by
   by_cases hm:L.2.2.2.2.2.2.2.2=0
   .rw[fi hm,jc,cV hm];exact⟨K,rfl,λ_=>rfl⟩
   .obtain⟨x,hx,yW,d',fL,hb⟩:=Dp hm;have hc:=hL.cal hm;obtain⟨i,hi⟩:=jyy yW.asc yW.len d'.1;have gh:=Nq (zs:=zs) yW.z0 yW.z1;rw[cN hm,jd,cG hc.1 hc.2,hx,cG yW.z0 (by rw[hlen];exact yW.z1)];simp only[jc,gh];rw[show j0u ((tb (zs.getD x.2.1.toNat (D,((0:A),([]:F aP))))).1,(tb (zs.getD x.2.1.toNat (D,((0:A),([]:F aP))))).2) t=_ from fL];simp only[ja,hi];rw[<-hb];exact⟨K,rfl,λ_=>rfl⟩
  by_cases hw:(L.2.2.2.2.2.2.1.length:A)>0
  .rw[ai hw,jc,show j0u ((tb z).1,(tb z).2) t=_ from hd];simp only[ja,show j3n (d.1,d.2)=_ from hs,jxM Ev,okW];rw[ai hw,jc];cases hh:hasB s L.2.2.2.2.2.2.1 with
   |true=>simp only[jl,jd,jc];exact tail
   |false=>exact⟨0,rfl,λh=>by simp at h⟩
  .simp only[okW];rw[al hw];simp only[jd,jc];exact tail
 .rw[ai (show K<0 by omega),al hk];exact⟨0,rfl,λh=>by simp at h⟩
def xg(L:bh)(K:A):Int:=L.2.2.2.2.2.1.getD (À K (L.2.2.2.2.2.1.length:A)).toNat 0
omit hz in
theorem jv8{v:eA×F (A×aW)}{L:bh}{t r K:A}{b:Bool}(hm:L.2.2.2.2.2.1.length≠0)(e:j5x v L t=E (r,b))(hr:b=true->r=K)(hK:b=true->0<=K) :
  j2p v L t=E (cond b (xg L K) (-1)):=by
 simp only[j2p,show j5x ((v.1.1,v.1.2.1,v.1.2.2.1,v.1.2.2.2),v.2) (L.1,L.2.1,(L.2.2.1.1,L.2.2.1.2),L.2.2.2.1,L.2.2.2.2.1,L.2.2.2.2.2.1,L.2.2.2.2.2.2.1,L.2.2.2.2.2.2.2.1,L.2.2.2.2.2.2.2.2) t=_ from e,ja];cases b with
 |false=>rfl
 |true=>have:=hr rfl;subst this;have hk:=hK rfl;have q1:0<=À r (L.2.2.2.2.2.1.length:A):=Int.tmod_nonneg _ hk;have q2:À r (L.2.2.2.2.2.1.length:A)<(L.2.2.2.2.2.1.length:A):=vk _ aa;simp only[jl,jd,jc,show W L.2.2.2.2.2.1.length=(L.2.2.2.2.2.1.length:A) from rfl,xg];rw[cN (show¬(L.2.2.2.2.2.1.length:A)=0 by omega),cG q1 q2];rfl
end
theorem jxW{z:bz}(hz:fA z){t:A}(h0:0<=t)(h1:t<=8589934592):∃d s,j0u (tb z) t=E d/\j3n d=E s:=by
 have ht:=hz.ztab;obtain⟨j,hj,j1,j2⟩:=Gx ht.2 h0 h1;have o0:=ht.2.of0 j hj;have o1:=ht.2.of1 j hj;obtain⟨s,hs⟩:∃s,j3n ((t+bL z.2.1 (tb z).2 j)/86400,(t+bL z.2.1 (tb z).2 j)%86400)=E s:=by simp only[j3n,TM,ja];exact⟨_,rfl⟩
 exact⟨_,s,MN ht.2 hj j1 j2,hs⟩
abbrev SL:=F (A×A)
def UF(x:A)(l:SL):Prop:=∃s∈l,s.1<=x/\x<s.2
def sx(p:A):SL->Prop
 |[]=>True
 |x::r=>p<x.1/\x.1<x.2/\sx x.2 r
section
variable{o:A}{l:aW}(h:gv o l)
include h
end
theorem sx.weak{p q:A}(hq:q<=p):∀{l:SL},sx p l->sx q l
 |[],_=>trivial
 |_::_,h=>⟨by have:=h.1;omega,h.2⟩
theorem sx.mem{p:A}:∀{l:SL},sx p l->∀s∈l,p<s.1/\s.1<s.2
 |[],_,s,hs=>by simp at hs
 |u::r,h,s,hs=>by
  rcases jm.1 hs with rfl|hs
  .exact⟨h.1,h.2.1⟩
  .have:=sx.mem h.2.2 s hs;have:=h.1;have:=h.2.1;omega
section
variable{B:SL}(hB:B.length<=10000000)
include hB
end
set_option linter.unusedSectionVars false
section
variable{l:SL}{p:A}(h:sx p l)(hp : -1<=p)(hl:l.length<=4096)(hb:∀u∈l,u.2<=8589934592)
include h hp hl hb
end
set_option linter.unusedSectionVars false
def GL(p:A):SL->Prop
 |[]=>True
 |x::r=>p<=x.1/\x.1<x.2/\GL x.2 r
theorem GL.weak{p q:A}(hq:q<=p):∀{l:SL},GL p l->GL q l
 |[],_=>trivial
 |_::_,h=>⟨by have:=h.1;omega,h.2⟩
end Go.Proofs.Pw
