/- eB 10: Cd of any Yx that is right. -/
import Derived.Test.YtllkgjaoejhneaaGreatSEPD
import Derived.Test.YtllkgjaoejhneaaGreatSEPA
import Derived.Test.YtllkgjaoejhneaaGreatSEPC
import Derived.KernelRfl
open _root_ renaming Int->p,List->A,Nat->B,Option->Z
open ByteArray renaming empty->q
open Option renaming some->u
open Int renaming mul_nonneg->D,mul_le_mul->E,lt_or_le->H,mul_comm->I,ofNat->M,mul_assoc->R,tdiv->S,tmod->U,mul_add->W,mul_one->X
open List renaming getD_eq_getElem?_getD->F,getD->J
open Decidable renaming decide->G
open Bool renaming true->O,false->Y
open Go Go.Lft
namespace Go.Proofs.Pw
structure Rt(L:bC):Prop where
 d0:1<=L.2.2.1.1
 d1:L.2.2.1.1<=100000
 c0:0<=L.2.2.1.2
 c1:L.2.2.1.2<=86399
 u0:0<=L.2.2.2.1
 u1:L.2.2.2.1<=2
 e0:1<=L.2.2.2.2.1
 e1:L.2.2.2.2.1<=400
 m0:L.2.2.2.2.2.1≠[]
theorem Rt.step{L:bC}(h:Rt L):1<=dB L/\dB L<=2800:=by
 have:=h.e0;have:=h.e1;unfold dB;split<;>omega
noncomputable def hO(o:p)(l:bg)(L:bC)(k:p):Z Int:=
 if L.2.2.2.1=0 then (fO o l (dp L 0)).bind λt=>if t+3600*L.2.2.2.2.1*k<=8589934592 then u (t+3600*L.2.2.2.2.1*k) else none
 else fO o l (dp L k)
section
variable{o:p}{l:bg}(ht:iD o l){L:bC}(h:Rt L)
include ht h
theorem zX{k t:p}(hk:0<=k)(he:hO o l L k=u t):0<=t/\t<=8589934592/\k<=2386092:=by
 have hs:=h.step;have Ju:=h.d0;have sR:=h.e0;have gI:=h.c0;unfold hO at he;by_cases h0:L.2.2.2.1=0
 .rw[if_pos h0]at he;cases hf:fO o l (dp L 0) with
  |none=>rw[hf]at he;simp at he
  |some v=>
   rw[hf]at he;simp only[ja]at he;have hv:=Cc ht hf;have hm:3600*k<=3600*L.2.2.2.2.1*k:=Int.mul_le_mul_of_nonneg_right aa hk;split at he
   .simp at he;omega
   .simp at he
 .rw[if_neg h0]at he;have hv:=Cc ht he;have hm:k*1<=k*dB L:=Int.mul_le_mul_of_nonneg_left hs.1 hk;unfold dp at hv;omega
theorem jys{k t:p}(he:hO o l L (k+1)=u t):∃v,hO o l L k=u v/\v<=t:=by
 have hs:=h.step;have sR:=h.e0;unfold hO at he ⊢;by_cases h0:L.2.2.2.1=0
 .rw[if_pos h0]at he ⊢;cases hf:fO o l (dp L 0) with
  |none=>rw[hf]at he;simp at he
  |some v=>
   rw[hf]at he;simp only[ja]at he ⊢;have hm:3600*L.2.2.2.2.1*(k+1)=3600*L.2.2.2.2.1*k+3600*L.2.2.2.2.1:=by rw[W,X]
   split at he
   .rw[if_pos aa];simp at he;exact⟨_,rfl,aa⟩
   .simp at he
 .rw[if_neg h0]at he ⊢;have hm:(k+1)*dB L=k*dB L+dB L:=by rw[Int.add_mul,Int.one_mul]
  exact jAA ht (by unfold dp;rw[hm];omega) he
def QO(o:p)(l:bg)(L:bC)(t k:p):Prop:=∃v,hO o l L k=u v/\v<=t
theorem QO.down{t:p}:∀(n:B){k:p},QO o l L t (k+n)->QO o l L t k
 |0,k,hq=>by rwa[show k+((0:B):p)=k by omega]at hq
 |n+1,k,hq=>by
  rw[show k+((n+1:B):p)=k+(n:p)+1 by omega]at hq;obtain⟨v,hv,tV⟩:=hq;obtain⟨v',gn,hl⟩:=jys ht h (k:=k+(n:p)) hv;exact QO.down n ⟨v',gn,aa⟩
theorem QO.le{t k j:p}(eJ:k<=j)(hq:QO o l L t j):QO o l L t k:=by
 refine QO.down ht h (j-k).toNat ?_;rwa[show k+(((j-k).toNat:B):p)=j by omega]
def kB(o:p)(l:bg)(L:bC)(t K:p):Prop:=(K = -1/\¬QO o l L t 0)\/(0<=K/\QO o l L t K/\¬QO o l L t (K+1))
theorem kB.uniq{t K K':p}(a:kB o l L t K)(b:kB o l L t K'):K=K':=by
 rcases a with⟨a1,a2⟩|⟨a1,a2,a3⟩<;>rcases b with⟨b1,b2⟩|⟨b1,b2,b3⟩
 .omega
 .exact absurd (QO.le ht h b1 b2) a2
 .exact absurd (QO.le ht h a1 a2) b2
 .rcases Int.lt_trichotomy K K' with au|heq|Cb
  .exact absurd (QO.le ht h aa b2) a3
  .exact heq
  .exact absurd (QO.le ht h aa a2) b3
theorem QO.day{t k:p}(h0:L.2.2.2.1≠0)(hq:QO o l L t k){j:B}(hj:j<=l.length):L.2.2.1.1+k*dB L<=(t+bj o l j)/86400+2:=by
 obtain⟨v,hv,tV⟩:=hq;unfold hO at hv;rw[if_neg h0]at hv;have:=Cc ht hv;have o0:=ht.of0 j hj;have gI:=h.c0;unfold dp at this;omega
end
theorem Yy(day y:p)(xT:dF y<=day)(tW:day<dF (y+1))(h3:y<=1000000):∀(n:B)(k:p),k+n=y -> -1000000<=k->Hs day k=u y
 |0,k,hn,hk=>by
  rw[Vn];have:k=y:=aa;subst this;simp only[j4B,ar (x:=k+1),wL (k+1) aa aa,ja,ak (show¬dF (k+1)<=day by omega),jd,ba]
 |n+1,k,hn,hk=>by
  rw[Vn];have:=uC (a:=k+1) (b:=y) aa;simp only[j4B,ar (x:=k+1),wL (k+1) aa aa,ja,ah (show dF (k+1)<=day by omega),jc,aV];have ih:=Yy day y xT tW h3 n (k+1) aa aa;exact ih
theorem jAB(day y:p)(h1 : -365<=day)(h2:day<=1000000)(xT:dF y<=day)(tW:day<dF (y+1)):jg1 day=u y:=by
 have hq:1970+day/366<=y /\ -1000000<=day/366/\y<=1000000:=by
  refine⟨?_,aa,?_⟩
  .rcases H y (1970+day/366) with h|h
   .have h':=uC (a:=y+1) (b:=1970+day/366) aa;exfalso;have:dF (1970+day/366)<=day:=by unfold dF;omega
    omega
   .exact h
  .rcases H 1000000 y with h|h
   .have:=uC (a:=1000000) (b:=y) aa;have h4:364000000<=dF 1000000:=by decide
    omega
   .exact h
 simp only[jg1,Jd day 366 aa aa aa,ja];rw[ar,Yy day y xT tW hq.2.2 (y-(1970+day/366)).toNat _ aa aa];rfl
theorem jAC(d:B):∃y,1970<=y/\dF y<=d/\(d:p)<dF (y+1):=by
 induction d with
 |zero=>exact⟨1970,aa,by decide,by decide⟩
 |succ d ih=>
  obtain⟨y,h1,h2,h3⟩:=ih;by_cases h:((d+1:B):p)<dF (y+1)
  .exact⟨y,h1,aa,h⟩
  .have:=jBJ (a:=y+1) (b:=y+1+1) aa;exact⟨y+1,aa,aa,aa⟩
theorem Yz(y r:p)(h0:0<=r):∀k:B,k<=12->r<du y (k+1)->∃m:p,1<=m/\m<=k/\du y m<=r/\r<du y m+eQ y m
 |0,_,h=>by have:du y ((0:B)+1)=0:=rfl;omega
 |k+1,hk,h=>by
  by_cases h':r<du y (k+1)
  .obtain⟨m,h1,h2,h3⟩:=Yz y r h0 k aa h';exact⟨m,h1,aa,h3⟩
  .have:=zO y (k+1) aa aa;rw[show ((k+1:B):p)=(k:p)+1 from rfl]at h;exact⟨k+1,aa,aa,aa,aa⟩
theorem jCL(y:p):du y 13=365+iQ y:=by unfold du;omega
theorem jyt(y r:p)(h0:0<=r)(h:r<365+iQ y):∃m,1<=m/\m<=12/\du y m<=r/\r<du y m+eQ y m:=
 Yz y r h0 12 (jy _) (by rw[show ((12:B):p)+1=13 from rfl,jCL];exact h)
theorem jAD(day:p)(h0:0<=day)(h1:day<98981):∃y m d,pU y m d/\num y m d=day/\dF y<=day/\day<dF (y+1)/\1<=m/\m<=12:=by
 obtain⟨y,xT,tW,YA⟩:=jAC day.toNat;rw[Int.toNat_of_nonneg h0]at tW YA;have hs:=P3 y;obtain⟨m,gZ,gV,YB,YC⟩:=jyt y (day-dF y) aa aa;refine⟨y,m,day-dF y-du y m+1,⟨xT,?_,aa,aa⟩,by unfold num;omega,tW,YA,gZ,gV⟩;rcases H 2240 y with h|h
 .have:=uC (a:=2241) (b:=y) aa;have:=P4;omega
 .exact h
theorem jBP{y m d:p}(h:pU y m d):dF y<=num y m d/\num y m d<dF (y+1)/\du y m<=num y m d-dF y/\num y m d-dF y<du y m+eQ y m/\num y m d-dF y-du y m+1=d:=by
 have hm:=Fm h;obtain⟨h1,h2,h3,h4⟩:=h;have hc:=zP y m;have:=zO y m hm.1 hm.2;have hs:=P3 y;have:du y (m+1)<=365+iQ y:=by have:=Fj y;unfold du;omega
 unfold num;omega
theorem YD(y m r x1 x2 x3 x7:p)(gV:m<=12)(hr0:0<=r)(hr:r<eQ y m):∀(n:B)(k:p),1<=k->k+n=m->
  Ht (r+du y m-du y k) x1 x2 x3 y k x7=u (r,x1,x2,x3,y,m,x7)
 |0,k,hk,hn=>by
  have:k=m:=aa;subst this;rw[Vo];simp only[j3N,Fl,ja];rw[ak (show¬(r+du y k-du y k>=eQ y k) by omega)];simp only[jd,ba];rw[show r+du y k-du y k=r by omega]
 |n+1,k,hk,hn=>by
  rw[Vo];have hs:=zO y k hk aa
  have wg:du y (k+1)<=du y m:=by
   have:∀(j:B),k+1+j<=12->du y (k+1)<=du y (k+1+j):=by
    intro j;induction j with
    |zero=>intro _;simp
    |succ j ih=>intro hj;have h1:=ih aa;have h2:=zO y (k+1+j) aa aa;have h3:=mP y (k+1+j);rw[show k+1+((j+1:B):p)=k+1+j+1 by omega];omega
   have:=this n aa;rwa[show k+1+(n:p)=m by omega]at this
  have c1:=zP y k;have c2:=zP y m;have c3:=mP y k;have c4:=mP y m;simp only[j3N,Fl,ja];rw[ah (show r+du y m-du y k>=eQ y k by omega)];simp only[jc,aV];rw[ar (x:=r+du y m-du y k-eQ y k),ar (x:=k+1),show r+du y m-du y k-eQ y k=r+du y m-du y (k+1) by omega];exact YD y m r x1 x2 x3 x7 gV hr0 hr n (k+1) aa aa
theorem jwJ{y m d:p}(h:pU y m d):j5t (num y m d)=u ((y,m,d),0):=by
 have hm:=Fm h;have hr:=zQ h;obtain⟨i1,i2,i3,i4,i5⟩:=jBP h;have hd:=mP y m;have hc:=zP y m;simp only[j5t,wL 1970 aa aa,wL 2241 aa aa,ja,XO,P4];rw[ak (show¬num y m d<0 by omega),jd,ak (show¬num y m d>=98981 by omega),jd,jAB (num y m d) y aa aa i1 i2];simp only[ja,wL y (by have:=h.1;omega) (by have:=h.2.1;omega)];have hl:=YD y m (num y m d-dF y-du y m) 0 0 0 0 hm.2 aa aa (m-1).toNat 1 aa aa;rw[show num y m d-dF y-du y m+du y m-du y 1=num y m d-dF y by (have:du y 1=0:=rfl);omega]at hl;rw[ar (x:=num y m d-dF y),hl];simp only[ja];rw[i5,ik (by have:=h.2.2;omega) (by have:=h.2.2;omega)]
theorem jwK(day:p)(h:day<0\/98981<=day):j5t day=u ((0,0,0),1):=by
 simp only[j5t,wL 1970 aa aa,wL 2241 aa aa,ja,XO,P4];rcases h with h|h
 .rw[ah h];rfl
 .rw[ak (show¬day<0 by omega),jd,ah (show day>=98981 by omega)];rfl
theorem wQ(n:p):j1c n=u (G (0<=n)&&G (n<=98980)):=by
 by_cases h:0<=n/\n<=98980
 .obtain⟨y,m,d,hv,hn,_⟩:=jAD n h.1 aa;have:=jwJ hv;rw[hn]at this;simp only[j1c,this,ja];rw[ah h.1,ah h.2];rfl
 .simp only[j1c,jwK n aa,ja];by_cases h0:0<=n
  .rw[ah h0,ak (λh1=>h ⟨h0,h1⟩)];rfl
  .rw[ak h0];rfl
structure Ce(nz np nc:B)(l:bC):Prop where
 z0:0<=l.2.1
 z1:l.2.1<nz
 d0:1<=l.2.2.1.1
 d1:l.2.2.1.1<=98980
 c0:0<=l.2.2.1.2
 c1:l.2.2.1.2<=86399
 u0:0<=l.2.2.2.1
 u1:l.2.2.2.1<=2
 e0:1<=l.2.2.2.2.1
 e1:l.2.2.2.2.1<=400
 m0:l.2.2.2.2.2.1.length≠0
 m1:l.2.2.2.2.2.1.length<=12
 mem:∀m∈l.2.2.2.2.2.1,0<=m/\m<(np:p)
 w:gF 0 l.2.2.2.2.2.2.1
 wl:l.2.2.2.2.2.2.1.length<=14
 mode0:0<=l.2.2.2.2.2.2.2.2
 mode1:l.2.2.2.2.2.2.2.2<=2
 cal:l.2.2.2.2.2.2.2.2≠0->0<=l.2.2.2.2.2.2.2.1/\l.2.2.2.2.2.2.2.1<(nc:p)
 Qj:l.2.2.2.2.2.2.2.2=0->l.2.2.2.2.2.2.2.1=0
structure iR(nz np nc:B)(l:bC):Prop extends Ce nz np nc l where
 w3:l.2.2.2.2.2.2.1.length<=3
theorem Ce.rt2{nz np nc:B}{L:bC}(h:Ce nz np nc L):Rt L:=
 ⟨h.d0,by have:=h.d1;omega,h.c0,h.c1,h.u0,h.u1,h.e0,h.e1,λhm=>h.m0 (by rw[hm];rfl)⟩
theorem iR.rt2{nz np nc:B}{L:bC}(h:iR nz np nc L):Rt L:=
 ⟨h.d0,by have:=h.d1;omega,h.c0,h.c1,h.u0,h.u1,h.e0,h.e1,λhm=>h.m0 (by rw[hm];rfl)⟩
structure Jv(x:dA):Prop where
 f0:0<=x.2.2.2.1
 ft:x.2.2.2.1<x.2.2.2.2
 t1:x.2.2.2.2<=1000000000000
structure nI(zs:A bS)(ps:A eu)(cs:A bq):Prop where
 ok:∀z∈zs,fR z
 ck:∀x∈cs,pV zs.length x
 zl:zs.length<=16
 pl:ps.length<=32
theorem lF{zs:A bS}{ps:A eu}{cs:A bq}(hs:nI zs ps cs){i:p}(h0:0<=i)(h1:i<(cs.length:p)):pV zs.length (cs.getD i.toNat (q,((0:p),([]:A p)))):=by
 have hi:i.toNat<cs.length:=aa;rw[show cs.getD i.toNat (q,((0:p),([]:A p)))=cs[i.toNat] by simp[J,hi]];exact hs.ck _ (ju hi)
theorem YE:j4X 2241=u 98981:=by kernel_rfl
theorem YF:j4X 1970=u 0:=by kernel_rfl
theorem jBQ{d:p}(h:j1c d=u O):d<=100000:=by
 rw[wQ]at h;simp only[jb,ji,jr]at h;omega
theorem jBR{d:p}(h:j1c d=u O):0<=d:=by
 rw[wQ]at h;simp only[jb,ji,jr]at h;omega
theorem YG{L:bC}(h:Rt L):j9p L=u (dB L):=by
 have:=h.e0;have:=h.e1;simp only[j9p,dB];by_cases h2:L.2.2.2.1=2
 .rw[fh h2,jc,if_pos h2,ar]
 .rw[cU h2,jd,if_neg h2]
def rZ(r:Z (p×Bool))(x:Z p):Prop:=∃v,r=u (v,x.isSome)/\∀t,x=u t->v=t
theorem ph{o:p}{l:bg}(ht:iD o l){L:bC}(h:Rt L){k:p}(hk:0<=k)(eR:k<=8589934592):rZ (j0Q (o,l) L k) (hO o l L k):=by
 have hs:=h.step;have Ju:=h.d0;have pG:=h.d1;have gI:=h.c0;have eS:=h.c1;have sR:=h.e0;have xP:=h.e1;have gQ:j9p (L.1,L.2.1,(L.2.2.1.1,L.2.2.1.2),L.2.2.2.1,L.2.2.2.2.1,L.2.2.2.2.2.1,L.2.2.2.2.2.2.1,L.2.2.2.2.2.2.2.1,L.2.2.2.2.2.2.2.2)=_:=YG h;simp only[rZ,j0Q,gQ,ja];rw[ak (show¬k>8589934592 by omega),jd];by_cases h0:L.2.2.2.1=0
 .have hF:=Yv ht (d:=L.2.2.1.1) (c:=L.2.2.1.2) aa aa gI eS;have iN:L.2.2.1.1*86400+L.2.2.1.2=dp L 0:=by unfold dp;omega
  have pj:0<=3600*L.2.2.2.2.1*k:=D aa hk;have gZ:3600*L.2.2.2.2.1*k<=3600*400*8589934592:=E aa eR hk aa;rw[show (L.2.2.2.1 != 0)=Y by rw[h0];rfl,jd,hF,iN];simp only[ja];unfold hO;rw[if_pos h0];cases hf:fO o l (dp L 0) with
  |none=>exact⟨_,rfl,λt h=>by simp at h⟩
  |some v=>
   have hv:=Cc ht hf;simp only[zj,zm,jc,ja,ik (x:=3600*L.2.2.2.2.1) (show -9223372036854775808<=_ by omega) aa,ik (x:=3600*L.2.2.2.2.1*k) (show -9223372036854775808<=_ by omega) aa,ik (x:=v+3600*L.2.2.2.2.1*k) (show -9223372036854775808<=_ by omega) aa];by_cases hle:v+3600*L.2.2.2.2.1*k<=8589934592
   .rw[if_pos hle,ah hle];exact⟨_,rfl,λt h=>by simpa using h⟩
   .rw[if_neg hle,ak hle];exact⟨_,rfl,λt h=>by simp at h⟩
 .have pj:0<=k*dB L:=D hk aa;have gZ:k*dB L<=8589934592*2800:=E eR hs.2 aa aa;rw[show (L.2.2.2.1 != 0)=O by simp[h0],jc,ar (x:=k*dB L),ar (x:=L.2.2.1.1+k*dB L),Yv ht aa aa gI eS];simp only[ja];unfold hO;rw[if_neg h0];exact⟨_,rfl,λt h=>by have h:fO o l ((L.2.2.1.1+k*dB L)*86400+L.2.2.1.2)=u t:=h;rw[h];rfl⟩
theorem Fs{z:bS}{l:bg}(hz:Z4 z l){L:bC}(h:Rt L){k:p}(hk:0<=k)(eR:k<=8589934592):rZ (j6H z L k) (hO z.2.1 l L k):=by
 have hs:=h.step;have Ju:=h.d0;have pG:=h.d1;have gI:=h.c0;have eS:=h.c1;have sR:=h.e0;have xP:=h.e1;have AV:=h.u1;have hu0:=h.u0;simp only[rZ,j6H];have pj:0<=k*L.2.2.2.2.1:=D hk aa;have gZ:k*L.2.2.2.2.1<=8589934592*400:=E eR aa aa aa;rw[ar (x:=k*L.2.2.2.2.1)];by_cases h0:L.2.2.2.1=0
 .have hF:=Qt hz (d:=L.2.2.1.1) (c:=L.2.2.1.2) aa gI eS;have iN:L.2.2.1.1*86400+L.2.2.1.2=dp L 0:=by unfold dp;omega
  rw[fh h0,jc,show j4L (z.1,(z.2.1,z.2.2)) (L.2.2.1.1,L.2.2.1.2)=_ from hF,iN];simp only[ja];have iu:k*L.2.2.2.2.1*3600=3600*L.2.2.2.2.1*k:=by rw[I,I k,R]
  have gV:0<=3600*L.2.2.2.2.1*k:=D aa hk;have YB:3600*L.2.2.2.2.1*k<=3600*400*8589934592:=E aa eR hk aa;rw[iu,ar (x:=3600*L.2.2.2.2.1*k)];unfold hO;rw[if_pos h0];cases hf:fO z.2.1 l (dp L 0) with
  |none=>exact⟨_,rfl,λt h=>by simp at h⟩
  |some v=>
   have hv:=Cc hz.2 hf;simp only[ja];rw[ar (x:=v+3600*L.2.2.2.2.1*k),ql,jc];by_cases hle:v+3600*L.2.2.2.2.1*k<=8589934592
   .rw[if_pos hle,ah hle];exact⟨_,rfl,λt h=>by simpa using h⟩
   .rw[if_neg hle,ak hle];exact⟨_,rfl,λt h=>by simp at h⟩
 .rw[cU h0,jd]
  have fin:∀n:p,n=k*dB L->0<=n->rZ ((j4L (z.1,(z.2.1,z.2.2)) (L.2.2.1.1+n,L.2.2.1.2)).bind λr=>u (r.1,(r.2==(0:p)))) (hO z.2.1 l L k):=by
   intro n hn kK;have hF:=Qt hz (d:=L.2.2.1.1+n) (c:=L.2.2.1.2) aa gI eS;rw[show j4L (z.1,(z.2.1,z.2.2)) (L.2.2.1.1+n,L.2.2.1.2)=_ from hF];unfold hO;rw[if_neg h0];have eN:(L.2.2.1.1+n)*86400+L.2.2.1.2=dp L k:=by rw[hn];rfl
   rw[eN];cases hf:fO z.2.1 l (dp L k) with
   |none=>exact⟨_,rfl,λt h=>by simp at h⟩
   |some v=>exact⟨_,rfl,λt h=>by simpa using h⟩
  by_cases h2:L.2.2.2.1=2
  .have zY:dB L=7*L.2.2.2.2.1:=by unfold dB;rw[if_pos h2]
   have e1:k*L.2.2.2.2.1*7=k*dB L:=by rw[zY,R,I L.2.2.2.2.1 7]
   rw[fh h2,jc,ar (x:=k*L.2.2.2.2.1*7),ar (x:=L.2.2.1.1+k*L.2.2.2.2.1*7)];exact fin _ e1 aa
  .have zY:dB L=L.2.2.2.2.1:=by unfold dB;rw[if_neg h2]
   rw[cU h2,jd,ar (x:=L.2.2.1.1+k*L.2.2.2.2.1)];exact fin _ (by rw[zY]) pj
theorem YH{o:p}{l:bg}(ht:iD o l){L:bC}(h:Rt L){t N:p}(hN:N<=8589934592)(jA:QO o l L t 0):∀n:B,(n:p)<=N->
  ∃k:p,HD t (n:p) o l L.1 L.2.1 L.2.2.1.1 L.2.2.1.2 L.2.2.2.1 L.2.2.2.2.1 L.2.2.2.2.2.1 L.2.2.2.2.2.2.1 L.2.2.2.2.2.2.2.1 L.2.2.2.2.2.2.2.2=
   u (t,k,o,l,L.1,L.2.1,L.2.2.1.1,L.2.2.1.2,L.2.2.2.1,L.2.2.2.2.1,L.2.2.2.2.2.1,L.2.2.2.2.2.2.1,L.2.2.2.2.2.2.2.1,L.2.2.2.2.2.2.2.2)/\0<=k/\QO o l L t k
 |0,_=>by
  rw[VD];simp only[j3c];rw[ak aa,jd,ba];exact⟨_,rfl,aa,jA⟩
 |n+1,hn=>by
  obtain⟨k,e,k0,k1⟩:=YH ht h hN jA n aa;obtain⟨v,hH,hv⟩:=ph ht h (k:=((n+1:B):p)) aa aa;rw[VD];simp only[j3c];rw[ah aa,jc,show j0Q (o,l) (L.1,L.2.1,(L.2.2.1.1,L.2.2.1.2),L.2.2.2.1,L.2.2.2.2.1,L.2.2.2.2.2.1,L.2.2.2.2.2.2.1,L.2.2.2.2.2.2.2.1,L.2.2.2.2.2.2.2.2) ((n+1:B):p)=_ from hH];simp only[ja];rw[ar (x:=((n+1:B):p)-1),show ((n+1:B):p)-1=(n:p) by omega];cases hx:hO o l L ((n+1:B):p) with
  |none=>simp only[ve,jd,aV];exact⟨k,e,k0,k1⟩
  |some x=>
   have:=hv x hx;subst this;simp only[zm,jc];by_cases hc:v<=t
   .rw[ah hc,jc,ba];exact⟨_,rfl,aa,v,hx,hc⟩
   .rw[ak hc,jd,aV];exact⟨k,e,k0,k1⟩
theorem YI{o:p}{l:bg}(ht:iD o l){L:bC}(h:Rt L){t:p}:∀(n:B)(k:p),k+n=2386093->0<=k->QO o l L t k->
  ∃K:p,HE t k o l L.1 L.2.1 L.2.2.1.1 L.2.2.1.2 L.2.2.2.1 L.2.2.2.2.1 L.2.2.2.2.2.1 L.2.2.2.2.2.2.1 L.2.2.2.2.2.2.2.1 L.2.2.2.2.2.2.2.2=u K/\0<=K/\QO o l L t K/\¬QO o l L t (K+1)
 |0,k,hn,hk,hq=>by
  obtain⟨v,hv,_⟩:=hq;have:=zX ht h hk hv;omega
 |n+1,k,hn,hk,hq=>by
  obtain⟨v,hH,hv⟩:=ph ht h (k:=k+1) aa aa;rw[jh4];simp only[j4D];rw[ar (x:=k+1),show j0Q (o,l) (L.1,L.2.1,(L.2.2.1.1,L.2.2.1.2),L.2.2.2.1,L.2.2.2.2.1,L.2.2.2.2.2.1,L.2.2.2.2.2.2.1,L.2.2.2.2.2.2.2.1,L.2.2.2.2.2.2.2.2) (k+1)=_ from hH];simp only[ja];cases hx:hO o l L (k+1) with
  |none=>simp only[ve,jv,jc,ba];exact⟨k,rfl,hk,hq,λ⟨y,hy,_⟩=>by rw[hx]at hy;simp at hy⟩
  |some x=>
   have:=hv x hx;subst this;simp only[zm,jk,jd];by_cases hc:v>t
   .rw[ah hc,jc,ba];exact⟨k,rfl,hk,hq,λ⟨y,hy,Bv⟩=>by rw[hx]at hy;simp at hy;omega⟩
   .rw[ak hc,jd,aV];exact YI ht h n (k+1) aa aa ⟨v,hx,aa⟩
theorem YJ{o:p}{l:bg}{L:bC}(h:Rt L){t v:p}(h0:L.2.2.2.1=0)(rk:t<=8589934592)(hf:fO o l (dp L 0)=u v)(tV:v<=t)(hv0:0<=v) :
  kB o l L t ((t-v)/(3600*L.2.2.2.2.1))/\0<=(t-v)/(3600*L.2.2.2.2.1)/\(t-v)/(3600*L.2.2.2.2.1)<=8589934592:=by
 have sR:=h.e0;have xP:=h.e1;have q0:0<=(t-v)/(3600*L.2.2.2.2.1):=yx aa aa;have q1:3600*L.2.2.2.2.1*((t-v)/(3600*L.2.2.2.2.1))<=t-v:=Int.mul_ediv_self_le aa;have q2:t-v<3600*L.2.2.2.2.1*((t-v)/(3600*L.2.2.2.2.1))+3600*L.2.2.2.2.1:=Int.lt_mul_ediv_self_add aa;have q3:(t-v)/(3600*L.2.2.2.2.1)<=t-v:=yl _ aa;generalize (t-v)/(3600*L.2.2.2.2.1)=K at *;refine⟨.inr ⟨q0,⟨v+3600*L.2.2.2.2.1*K,?_,aa⟩,?_⟩,q0,aa⟩
 .unfold hO;rw[if_pos h0,hf];simp only[ja];rw[if_pos aa]
 .rintro⟨y,hy,Bv⟩
  unfold hO at hy;rw[if_pos h0,hf]at hy;simp only[ja,W,X]at hy;split at hy
  .simp at hy;omega
  .simp at hy
theorem YK{o:p}{l:bg}{L:bC}(h0:L.2.2.2.1=0){v:p}(hv:hO o l L 0=u v):fO o l (dp L 0)=u v:=by
 unfold hO at hv;rw[if_pos h0]at hv;cases hf:fO o l (dp L 0) with
 |none=>rw[hf]at hv;simp at hv
 |some x=>
  rw[hf]at hv;simp only[ja,Int.mul_zero,Int.add_zero]at hv;split at hv
  .simpa using hv
  .simp at hv
theorem jCM{o:p}{l:bg}(ht:iD o l){L:bC}(h:Rt L){t:p}(Jw:0<=t)(rk:t<=8589934592):∃K:p,j26 (o,l) L t=u K/\kB o l L t K:=by
 have hs:=h.step;have Ju:=h.d0;have pG:=h.d1;have sR:=h.e0;have xP:=h.e1;obtain⟨v0,hH,hv⟩:=ph ht h (k:=0) aa aa;have gQ:j9p (L.1,L.2.1,(L.2.2.1.1,L.2.2.1.2),L.2.2.2.1,L.2.2.2.2.1,L.2.2.2.2.2.1,L.2.2.2.2.2.2.1,L.2.2.2.2.2.2.2.1,L.2.2.2.2.2.2.2.2)=_:=YG h;simp only[j26,show j0Q (o,l) (L.1,L.2.1,(L.2.2.1.1,L.2.2.1.2),L.2.2.2.1,L.2.2.2.2.1,L.2.2.2.2.2.1,L.2.2.2.2.2.2.1,L.2.2.2.2.2.2.2.1,L.2.2.2.2.2.2.2.2) 0=_ from hH,gQ,ja];cases hx:hO o l L 0 with
 |none=>simp only[ve,jv,jc];exact⟨-1,rfl,.inl ⟨rfl,λ⟨y,hy,_⟩=>by rw[hx]at hy;simp at hy⟩⟩
 |some v=>
  have:=hv v hx;subst this;simp only[zm,jk,jd];by_cases hc:v0>t
  .rw[ah hc,jc];exact⟨-1,rfl,.inl ⟨rfl,λ⟨y,hy,Bv⟩=>by rw[hx]at hy;simp at hy;omega⟩⟩
  .rw[ak hc,jd];have hq:QO o l L t 0:=⟨v0,hx,aa⟩;have Qu:=zX ht h (k:=0) aa hx;by_cases h0:L.2.2.2.1=0
   .obtain⟨s1,s2,s3⟩:=YJ (o:=o) (l:=l) h h0 rk (YK h0 hx) aa Qu.1;rw[fh h0,jc,ar (x:=t-v0),ar (x:=3600*L.2.2.2.2.1),cU (show¬3600*L.2.2.2.2.1=0 by omega),ze aa,ar (x:=(t-v0)/(3600*L.2.2.2.2.1))];exact⟨_,rfl,s1⟩
   .obtain⟨j,hj,j1,j2⟩:=sT ht Jw rk;have o0:=ht.of0 j hj;have o1:=ht.of1 j hj;rw[cU h0,jd,B6 ht hj j1 j2];simp only[ja];generalize Gt:(t+bj o l j)/86400=ld;rw[cU (show¬dB L=0 by omega),ar (x:=ld-L.2.2.1.1)];simp only[jv,jc]
    obtain⟨n,hn,xD⟩:∃n:B,(if w64 (S (ld-L.2.2.1.1) (dB L))>0 then w64 (S (ld-L.2.2.1.1) (dB L)) else 0)=(n:p)/\(n:p)<=8589934592:=by
     by_cases mD:0<=ld-L.2.2.1.1
     .rw[ze mD];have q0:0<=(ld-L.2.2.1.1)/dB L:=yx mD aa;have q1:(ld-L.2.2.1.1)/dB L<=ld-L.2.2.1.1:=yl _ mD;rw[ar];refine⟨((ld-L.2.2.1.1)/dB L).toNat,?_,?_⟩
      .split<;>omega
      .omega
     .have e:S (ld-L.2.2.1.1) (dB L) = -((-(ld-L.2.2.1.1))/dB L):=by rw[<-ze aa,Int.neg_tdiv,Int.neg_neg]
      have q0:0<=(-(ld-L.2.2.1.1))/dB L:=yx aa aa;have q1:(-(ld-L.2.2.1.1))/dB L <= -(ld-L.2.2.1.1):=yl _ aa;rw[e,ar,if_neg aa];exact⟨0,rfl,aa⟩
    rw[hn];obtain⟨k,e,k0,k1⟩:=YH ht h (kx _) hq n xD;have yG:=k1;obtain⟨y,hy,_⟩:=yG;have bO:=zX ht h k0 hy;obtain⟨K,e2,K0,K1,K2⟩:=YI ht h (t:=t) (2386093-k).toNat k aa k0 k1;simp only[e,ja,e2];exact⟨K,rfl,.inr ⟨K0,K1,K2⟩⟩
def tb(z:bS):p×bg:=(z.2.1,cj z.2.1 (dE (occs z.2.2)))
theorem fR.ztab{z:bS}(h:fR z):rV z (tb z).2:=MZ.tab (o:=z.2.1) (rs:=z.2.2) h z.1
theorem fR.zdif{z:bS}(h:fR z):Qk z.2.1 (tb z).2:=Qc _ _ _ (MZ.good h)
theorem fR.zref{z:bS}(h:fR z):rV z (tb z).2/\Z4 z (tb z).2/\Qk z.2.1 (tb z).2:=⟨h.ztab,MZ.r4 (o:=z.2.1) (rs:=z.2.2) h z.1,h.zdif⟩
theorem YL{zs:A bS}(h:∀z∈zs,fR z)(hl:zs.length<=100):∀(n i:B),i+n=zs.length->Ev zs (zs.length:p) (i:p) ((zs.take i).map tb)=u (zs.map tb)
 |0,i,hi=>by
  rw[Vq];simp only[j4i];rw[ak aa,jd,ba,List.take_of_length_le aa]
 |n+1,i,hi=>by
  have au:i<zs.length:=aa;have bm:zs.getD i (q,((0:p),([]:A aH)))=zs[i]:=by simp[au]
  have ht:=jCJ (h zs[i] (ju au)).ztab;have ih:=YL h hl n (i+1) aa;rw[yd,kb au,List.map_append]at ih;rw[Vq];simp only[j4i];rw[ah aa,bP,ar (x:=(i:p)+1)];simp only[jc,je,bm];rw[show jle (zs[i].1,(zs[i].2.1,zs[i].2.2))=_ from ht];simp only[ja];rw[ah (by simp[aF];omega),jc,aV];exact ih
theorem jAE{zs:A bS}(h:∀z∈zs,fR z)(hl:zs.length<=100){ps:A eu}{cs:A bq}{ss:A dC}:ji0 (zs,(ps,(cs,ss)))=u ((zs,(ps,(cs,ss))),zs.map tb):=by
 have lp:=YL h hl zs.length 0 aa;simp only[ji0,jh1,show M zs.length=(zs.length:p) from rfl];rw[show Ev zs (zs.length:p) 0 []=_ from lp];rfl
theorem Ft{zs:A bS}{i:p}(h0:0<=i)(h1:i<(zs.length:p)):J (zs.map tb) i.toNat ((0:p),([]:bg))=tb (zs.getD i.toNat (q,((0:p),([]:A aH)))):=by
 have au:i.toNat<zs.length:=aa;simp[F,au]
theorem fT{zs:A bS}(h:∀z∈zs,fR z){i:p}(h0:0<=i)(h1:i<(zs.length:p)):fR (zs.getD i.toNat (q,((0:p),([]:A aH)))):=by
 have au:i.toNat<zs.length:=aa;rw[F,kb au];exact h _ (ju au)
theorem jyu(a b:p):jcy a b=u (G (a<b)):=by
 simp only[jcy,jaS,ja,jm,jd]
theorem Qv{ds:A p}(hs:ds.Pairwise (· < ·))(hl:ds.length<=64){x:p}:∀(n a b:B),b-a<=n->a<=b->b<=ds.length->(∀i,(hi:i<ds.length)->i<a->ds[i]<x)->(∀i,(hi:i<ds.length)->b<=i->x<=ds[i])->
  ∃k:B,HG ds x (ds.length:p) (a:p) (b:p)=u (ds,x,(ds.length:p),(k:p))/\k<=ds.length/\(∀i,(hi:i<ds.length)->i<k->ds[i]<x)/\∀i,(hi:i<ds.length)->k<=i->x<=ds[i]
 |n,a,b,hn,cX,hb,h1,h2=>by
  rw[j8G];simp only[j1v];by_cases au:a<b
  .have hm:IntKind.wrap .u64 ((a:p)+(b:p))=(a:p)+(b:p):=IntWalk.u64_in _ ⟨aa,aa⟩;have hd:Int.fdiv ((a:p)+(b:p)) 2=(((a+b)/2:B):p):=by rw[Int.fdiv_eq_ediv_of_nonneg _ aa];omega
   have AX:(a+b)/2<ds.length:=aa;have bm:ds.getD ((a+b)/2) (0:p)=ds[(a+b)/2]:=by simp[AX]
   rw[ah (show (a:p)<(b:p) by omega),ar (x:=(a:p)+(b:p)),hm,hd,ar (x:=(((a+b)/2:B):p)),bP,ar (x:=(((a+b)/2:B):p)+1)];simp only[jc,je,bm,jyu,ja];cases n with
   |zero=>omega
   |succ n=>
    by_cases hc:ds[(a+b)/2]<x
    .rw[ah hc,jc,aV];refine Qv hs hl n ((a+b)/2+1) b aa aa hb (λi hi sV=>?_) h2;by_cases he:i=(a+b)/2
     .subst he;exact hc
     .exact Int.lt_trans (vi.1 hs i ((a+b)/2) hi AX aa) hc
    .rw[ak hc,jd,aV];refine Qv hs hl n a ((a+b)/2) aa aa aa h1 (λi hi sV=>?_);by_cases he:i=(a+b)/2
     .subst he;exact Int.not_lt.1 hc
     .exact z8 (Int.not_lt.1 hc) (Int.le_of_lt (vi.1 hs ((a+b)/2) i AX hi aa))
  .have:a=b:=aa;subst this;rw[ak aa,jd,ba];exact⟨a,rfl,hb,h1,h2⟩
theorem jCN{ds:A p}(hs:ds.Pairwise (· < ·))(hl:ds.length<=64)(x:p):∃i,j1n ds x=u (i,G (x∈ds)):=by
 obtain⟨k,e,hk,h1,h2⟩:=Qv hs hl (x:=x) ds.length 0 ds.length aa aa (jy _) (λi _ h=>aa) (λi hi h=>aa);rw[show ((0:B):p)=0 from rfl]at e;simp only[j1n,show M ds.length=(ds.length:p) from rfl,e,ja,je];by_cases iz:k<ds.length
 .have bm:ds.getD k (0:p)=ds[k]:=by simp[iz]
  rw[bP,ah (show (k:p)<(ds.length:p) by omega),bm];simp only[zv,jc];by_cases hx:ds[k]=x
  .rw[fh hx];rw[ah (show x∈ds from hx▸ju iz)];exact⟨_,rfl⟩
  .rw[cU hx]
   have hn:¬x∈ds:=by
    intro hm;obtain⟨i,hi,rfl⟩:=yn hm;rcases vp i k with h|h|h
    .have:=h1 i hi h;omega
    .subst h;exact hx rfl
    .have a1:=h2 k iz (jy _);have a2:=vi.1 hs k i iz hi h;omega
   rw[ak hn];simp only[jd,j7Q,ja,jm];exact⟨_,rfl⟩
 .have hn:¬x∈ds:=by intro hm;obtain⟨i,hi,rfl⟩:=yn hm;have:=h1 i hi aa;omega
  rw[ak hn,ak (show¬(k:p)<(ds.length:p) by omega)];simp only[jv,Bool.or_true,jc,jd,Bool.false_and];exact⟨_,rfl⟩
def okW(w:WL)(s:p):Bool:=cond (G ((w.length:p)>0)) (hasB s w) O
section
variable{zs:A bS}{ps:A eu}{cs:A bq}{ss:A dC}(hz:∀z∈zs,fR z)
include hz
theorem jBU{L:bC}(hL:iR zs.length ps.length cs.length L)(mR:Rt L){t:p}(h0:0<=t)(h1:t<=8589934592){z:bS}(pI:zs.getD L.2.1.toNat (q,((0:p),([]:A aH)))=z)
  {s:p}{d:p×p}(hd:j0o (tb z) t=u d)(hs:j37 d=u s){K:p}(hK:j26 (tb z) L t=u K)(b:Bool)
  (cA:L.2.2.2.2.2.2.2.2=0->b=O)(Fu:L.2.2.2.2.2.2.2.2≠0->∃x:bq,cs.getD L.2.2.2.2.2.2.2.1.toNat (q,((0:p),([]:A p)))=x/\pV zs.length x/\∃d',j0o (tb (zs.getD x.2.1.toNat (q,((0:p),([]:A aH))))) t=u d'/\b=(G (d'.1∈x.2.2)==(L.2.2.2.2.2.2.2.2==(2:p)))) :
  ∃r,j48 ((zs,(ps,(cs,ss))),zs.map tb) L t=u (r,cond (G (0<=K)) (cond (okW L.2.2.2.2.2.2.1 s) b Y) Y)/\(cond (G (0<=K)) (cond (okW L.2.2.2.2.2.2.1 s) b Y) Y=O->r=K):=by
 have _:=hz;have _:=mR;have ub:=hL.wl;have hlen:(zs.map tb).length=zs.length:=ky ..;have hg:=Ft (zs:=zs) hL.z0 hL.z1;rw[pI]at hg;simp only[j48];rw[ak (show¬t<0 by omega),ak (show¬t>8589934592 by omega),cb hL.z0 (by rw[hlen];exact hL.z1)];simp only[jd,jc,hg];rw[show j26 ((tb z).1,(tb z).2) (L.1,L.2.1,(L.2.2.1.1,L.2.2.1.2),L.2.2.2.1,L.2.2.2.2.1,L.2.2.2.2.2.1,L.2.2.2.2.2.2.1,L.2.2.2.2.2.2.2.1,L.2.2.2.2.2.2.2.2) t=_ from hK];simp only[ja];by_cases hk:0<=K
 .rw[ak (show¬K<0 by omega),ah hk];simp only[jd,jc,show M L.2.2.2.2.2.2.1.length=(L.2.2.2.2.2.2.1.length:p) from rfl]
  have tail:∃r,(cond (L.2.2.2.2.2.2.2.2==(0:p)) (u (K,O)) (cond (inR L.2.2.2.2.2.2.2.1 cs.length) (cond (inR (cs.getD L.2.2.2.2.2.2.2.1.toNat (q,((0:p),([]:A p)))).2.1 (zs.map tb).length) ((j0o ((J (zs.map tb) (cs.getD L.2.2.2.2.2.2.2.1.toNat (q,((0:p),([]:A p)))).2.1.toNat ((0:p),([]:bg))).1,(J (zs.map tb) (cs.getD L.2.2.2.2.2.2.2.1.toNat (q,((0:p),([]:A p)))).2.1.toNat ((0:p),([]:bg))).2) t).bind λr68=>
    (j1n (cs.getD L.2.2.2.2.2.2.2.1.toNat (q,((0:p),([]:A p)))).2.2 r68.1).bind λr70=>u (K,(r70.2==(L.2.2.2.2.2.2.2.2==(2:p))))) none) none))=u (r,b)/\(b=O->r=K):=by
   by_cases hm:L.2.2.2.2.2.2.2.2=0
   .rw[fh hm,jc,cA hm];exact⟨K,rfl,λ_=>rfl⟩
   .obtain⟨x,hx,Cf,d',fW,hb⟩:=Fu hm;have hc:=hL.cal hm;obtain⟨i,hi⟩:=jCN Cf.asc Cf.len d'.1;have gC:=Ft (zs:=zs) Cf.z0 Cf.z1;rw[cU hm,jd,cb hc.1 hc.2,hx,cb Cf.z0 (by rw[hlen];exact Cf.z1)];simp only[jc,gC];rw[show j0o ((tb (zs.getD x.2.1.toNat (q,((0:p),([]:A aH))))).1,(tb (zs.getD x.2.1.toNat (q,((0:p),([]:A aH))))).2) t=_ from fW];simp only[ja,hi];rw[<-hb];exact⟨K,rfl,λ_=>rfl⟩
  by_cases hw:(L.2.2.2.2.2.2.1.length:p)>0
  .rw[ah hw,jc,show j0o ((tb z).1,(tb z).2) t=_ from hd];simp only[ja,show j37 (d.1,d.2)=_ from hs,jBL ub,okW];rw[ah hw,jc];cases hh:hasB s L.2.2.2.2.2.2.1 with
   |true=>simp only[jk,jd,jc];exact tail
   |false=>exact⟨0,rfl,λh=>by simp at h⟩
  .simp only[okW];rw[ak hw];simp only[jd,jc];exact tail
 .rw[ah (show K<0 by omega),ak hk];exact⟨0,rfl,λh=>by simp at h⟩
def nJ(L:bC)(K:p):Int:=L.2.2.2.2.2.1.getD (U K (L.2.2.2.2.2.1.length:p)).toNat 0
omit hz in
theorem jyv{v:gw×A (p×bg)}{L:bC}{t r K:p}{b:Bool}(hm:L.2.2.2.2.2.1.length≠0)(e:j48 v L t=u (r,b))(hr:b=O->r=K)(hK:b=O->0<=K) :
  j27 v L t=u (cond b (nJ L K) (-1)):=by
 simp only[j27,show j48 ((v.1.1,v.1.2.1,v.1.2.2.1,v.1.2.2.2),v.2) (L.1,L.2.1,(L.2.2.1.1,L.2.2.1.2),L.2.2.2.1,L.2.2.2.2.1,L.2.2.2.2.2.1,L.2.2.2.2.2.2.1,L.2.2.2.2.2.2.2.1,L.2.2.2.2.2.2.2.2) t=_ from e,ja];cases b with
 |false=>rfl
 |true=>have:=hr rfl;subst this;have hk:=hK rfl;have q1:0<=U r (L.2.2.2.2.2.1.length:p):=ya _ hk;have q2:U r (L.2.2.2.2.2.1.length:p)<(L.2.2.2.2.2.1.length:p):=vd _ aa;simp only[jk,jd,jc,show M L.2.2.2.2.2.1.length=(L.2.2.2.2.2.1.length:p) from rfl,nJ];rw[cU (show¬(L.2.2.2.2.2.1.length:p)=0 by omega),cb q1 q2];rfl
end
theorem jBV{z:bS}(hz:fR z){t:p}(h0:0<=t)(h1:t<=8589934592):∃d s,j0o (tb z) t=u d/\j37 d=u s:=by
 have ht:=hz.ztab;obtain⟨j,hj,j1,j2⟩:=sT ht.2 h0 h1;have o0:=ht.2.of0 j hj;have o1:=ht.2.of1 j hj;obtain⟨s,hs⟩:∃s,j37 ((t+bj z.2.1 (tb z).2 j)/86400,(t+bj z.2.1 (tb z).2 j)%86400)=u s:=by simp only[j37,XN,ja];exact⟨_,rfl⟩
 exact⟨_,s,B6 ht.2 hj j1 j2,hs⟩
end Go.Proofs.Pw
