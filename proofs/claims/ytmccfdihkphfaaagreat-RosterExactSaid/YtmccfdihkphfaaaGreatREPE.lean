/- eP 10: CL of any _5 that is right. -/
import Derived.Test.YtmccfdihkphfaaaGreatREPD
import Derived.Test.YtmccfdihkphfaaaGreatREPA
import Derived.Test.YtmccfdihkphfaaaGreatREPC
import Derived.KernelRfl
open _root_ renaming Int->p,List->A,Nat->B,Option->Z
open ByteArray renaming empty->q
open Option renaming some->u
open Int renaming mul_nonneg->D,mul_le_mul->E,lt_or_le->H,mul_comm->I,ofNat->M,mul_assoc->R,tdiv->S,tmod->U,mul_add->W,mul_one->X
open List renaming getD_eq_getElem?_getD->F,getD->J
open Decidable renaming decide->G
open Bool renaming true->O,false->Y
open Go Go.Lft
namespace Go.Proofs.Pw
structure Rt(L:bA):Prop where
 d0:1<=L.2.2.1.1
 d1:L.2.2.1.1<=100000
 c0:0<=L.2.2.1.2
 c1:L.2.2.1.2<=86399
 u0:0<=L.2.2.2.1
 u1:L.2.2.2.1<=2
 e0:1<=L.2.2.2.2.1
 e1:L.2.2.2.2.1<=400
 m0:L.2.2.2.2.2.1≠[]
theorem Rt.step{L:bA}(h:Rt L):1<=dG L/\dG L<=2800:=by
 have:=h.e0;have:=h.e1;unfold dG;split<;>omega
noncomputable def hO(o:p)(l:bh)(L:bA)(k:p):Z Int:=
 if L.2.2.2.1=0 then (fO o l (dx L 0)).bind λt=>if t+3600*L.2.2.2.2.1*k<=8589934592 then u (t+3600*L.2.2.2.2.1*k) else none
 else fO o l (dx L k)
section
variable{o:p}{l:bh}(ht:iF o l){L:bA}(h:Rt L)
include ht h
theorem AE{k t:p}(hk:0<=k)(he:hO o l L k=u t):0<=t/\t<=8589934592/\k<=2386092:=by
 have hs:=h.step;have KN:=h.d0;have pO:=h.e0;have gT:=h.c0;unfold hO at he;by_cases h0:L.2.2.2.1=0
 .rw[if_pos h0]at he;cases hf:fO o l (dx L 0) with
  |none=>rw[hf]at he;simp at he
  |some v=>
   rw[hf]at he;simp only[j4]at he;have hv:=CK ht hf;have hm:3600*k<=3600*L.2.2.2.2.1*k:=Int.mul_le_mul_of_nonneg_right aa hk;split at he
   .simp at he;omega
   .simp at he
 .rw[if_neg h0]at he;have hv:=CK ht he;have hm:k*1<=k*dG L:=Int.mul_le_mul_of_nonneg_left hs.1 hk;unfold dx at hv;omega
theorem jBV{k t:p}(he:hO o l L (k+1)=u t):∃v,hO o l L k=u v/\v<=t:=by
 have hs:=h.step;have pO:=h.e0;unfold hO at he ⊢;by_cases h0:L.2.2.2.1=0
 .rw[if_pos h0]at he ⊢;cases hf:fO o l (dx L 0) with
  |none=>rw[hf]at he;simp at he
  |some v=>
   rw[hf]at he;simp only[j4]at he ⊢;have hm:3600*L.2.2.2.2.1*(k+1)=3600*L.2.2.2.2.1*k+3600*L.2.2.2.2.1:=by rw[W,X]
   split at he
   .rw[if_pos aa];simp at he;exact⟨_,rfl,aa⟩
   .simp at he
 .rw[if_neg h0]at he ⊢;have hm:(k+1)*dG L=k*dG L+dG L:=by rw[Int.add_mul,Int.one_mul]
  exact jE6 ht (by unfold dx;rw[hm];omega) he
def QO(o:p)(l:bh)(L:bA)(t k:p):Prop:=∃v,hO o l L k=u v/\v<=t
theorem QO.down{t:p}:∀(n:B){k:p},QO o l L t (k+n)->QO o l L t k
 |0,k,hq=>by rwa[show k+((0:B):p)=k by omega]at hq
 |n+1,k,hq=>by
  rw[show k+((n+1:B):p)=k+(n:p)+1 by omega]at hq;obtain⟨v,hv,uH⟩:=hq;obtain⟨v',gC,hl⟩:=jBV ht h (k:=k+(n:p)) hv;exact QO.down n ⟨v',gC,aa⟩
theorem QO.le{t k j:p}(eY:k<=j)(hq:QO o l L t j):QO o l L t k:=by
 refine QO.down ht h (j-k).toNat ?_;rwa[show k+(((j-k).toNat:B):p)=j by omega]
def kV(o:p)(l:bh)(L:bA)(t K:p):Prop:=(K = -1/\¬QO o l L t 0)\/(0<=K/\QO o l L t K/\¬QO o l L t (K+1))
theorem kV.uniq{t K K':p}(a:kV o l L t K)(b:kV o l L t K'):K=K':=by
 rcases a with⟨a1,a2⟩|⟨a1,a2,a3⟩<;>rcases b with⟨b1,b2⟩|⟨b1,b2,b3⟩
 .omega
 .exact absurd (QO.le ht h b1 b2) a2
 .exact absurd (QO.le ht h a1 a2) b2
 .rcases Int.lt_trichotomy K K' with aq|heq|CJ
  .exact absurd (QO.le ht h aa b2) a3
  .exact heq
  .exact absurd (QO.le ht h aa a2) b3
theorem QO.day{t k:p}(h0:L.2.2.2.1≠0)(hq:QO o l L t k){j:B}(hj:j<=l.length):L.2.2.1.1+k*dG L<=(t+bm o l j)/86400+2:=by
 obtain⟨v,hv,uH⟩:=hq;unfold hO at hv;rw[if_neg h0]at hv;have:=CK ht hv;have o0:=ht.of0 j hj;have gT:=h.c0;unfold dx at this;omega
end
theorem _6(day y:p)(yH:dN y<=day)(uL:day<dN (y+1))(h3:y<=1000000):∀(n:B)(k:p),k+n=y -> -1000000<=k->IC day k=u y
 |0,k,hn,hk=>by
  rw[XA];have:k=y:=aa;subst this;simp only[j53,ar (x:=k+1),xp (k+1) aa aa,j4,an (show¬dN (k+1)<=day by omega),j7,aW]
 |n+1,k,hn,hk=>by
  rw[XA];have:=vF (a:=k+1) (b:=y) aa;simp only[j53,ar (x:=k+1),xp (k+1) aa aa,j4,ag (show dN (k+1)<=day by omega),j6,aS];have ih:=_6 day y yH uL h3 n (k+1) aa aa;exact ih
theorem jE7(day y:p)(h1 : -365<=day)(h2:day<=1000000)(yH:dN y<=day)(uL:day<dN (y+1)):ji4 day=u y:=by
 have hq:1970+day/366<=y /\ -1000000<=day/366/\y<=1000000:=by
  refine⟨?_,aa,?_⟩
  .rcases H y (1970+day/366) with h|h
   .have h':=vF (a:=y+1) (b:=1970+day/366) aa;exfalso;have:dN (1970+day/366)<=day:=by unfold dN;omega
    omega
   .exact h
  .rcases H 1000000 y with h|h
   .have:=vF (a:=1000000) (b:=y) aa;have h4:364000000<=dN 1000000:=by decide
    omega
   .exact h
 simp only[ji4,Ky day 366 aa aa aa,j4];rw[ar,_6 day y yH uL hq.2.2 (y-(1970+day/366)).toNat _ aa aa];rfl
theorem jE8(d:B):∃y,1970<=y/\dN y<=d/\(d:p)<dN (y+1):=by
 induction d with
 |zero=>exact⟨1970,aa,by decide,by decide⟩
 |succ d ih=>
  obtain⟨y,h1,h2,h3⟩:=ih;by_cases h:((d+1:B):p)<dN (y+1)
  .exact⟨y,h1,aa,h⟩
  .have:=jFq (a:=y+1) (b:=y+1+1) aa;exact⟨y+1,aa,aa,aa⟩
theorem _7(y r:p)(h0:0<=r):∀k:B,k<=12->r<dB y (k+1)->∃m:p,1<=m/\m<=k/\dB y m<=r/\r<dB y m+fa y m
 |0,_,h=>by have:dB y ((0:B)+1)=0:=rfl;omega
 |k+1,hk,h=>by
  by_cases h':r<dB y (k+1)
  .obtain⟨m,h1,h2,h3⟩:=_7 y r h0 k aa h';exact⟨m,h1,aa,h3⟩
  .have:=Au y (k+1) aa aa;rw[show ((k+1:B):p)=(k:p)+1 from rfl]at h;exact⟨k+1,aa,aa,aa,aa⟩
theorem jGG(y:p):dB y 13=365+jG y:=by unfold dB;omega
theorem jBW(y r:p)(h0:0<=r)(h:r<365+jG y):∃m,1<=m/\m<=12/\dB y m<=r/\r<dB y m+fa y m:=
 _7 y r h0 12 (jq _) (by rw[show ((12:B):p)+1=13 from rfl,jGG];exact h)
theorem jE9(day:p)(h0:0<=day)(h1:day<98981):∃y m d,qO y m d/\num y m d=day/\dN y<=day/\day<dN (y+1)/\1<=m/\m<=12:=by
 obtain⟨y,yH,uL,_8⟩:=jE8 day.toNat;rw[Int.toNat_of_nonneg h0]at uL _8;have hs:=RB y;obtain⟨m,ic,ie,_9,a_⟩:=jBW y (day-dN y) aa aa;refine⟨y,m,day-dN y-dB y m+1,⟨yH,?_,aa,aa⟩,by unfold num;omega,uL,_8,ic,ie⟩;rcases H 2240 y with h|h
 .have:=vF (a:=2241) (b:=y) aa;have:=RC;omega
 .exact h
theorem jFw{y m d:p}(h:qO y m d):dN y<=num y m d/\num y m d<dN (y+1)/\dB y m<=num y m d-dN y/\num y m d-dN y<dB y m+fa y m/\num y m d-dN y-dB y m+1=d:=by
 have hm:=Ge h;obtain⟨h1,h2,h3,h4⟩:=h;have hc:=Av y m;have:=Au y m hm.1 hm.2;have hs:=RB y;have:dB y (m+1)<=365+jG y:=by have:=Gb y;unfold dB;omega
 unfold num;omega
theorem b_(y m r x1 x2 x3 x7:p)(ie:m<=12)(hr0:0<=r)(hr:r<fa y m):∀(n:B)(k:p),1<=k->k+n=m->
  ID (r+dB y m-dB y k) x1 x2 x3 y k x7=u (r,x1,x2,x3,y,m,x7)
 |0,k,hk,hn=>by
  have:k=m:=aa;subst this;rw[XB];simp only[j49,Gd,j4];rw[an (show¬(r+dB y k-dB y k>=fa y k) by omega)];simp only[j7,aW];rw[show r+dB y k-dB y k=r by omega]
 |n+1,k,hk,hn=>by
  rw[XB];have hs:=Au y k hk aa
  have wT:dB y (k+1)<=dB y m:=by
   have:∀(j:B),k+1+j<=12->dB y (k+1)<=dB y (k+1+j):=by
    intro j;induction j with
    |zero=>intro _;simp
    |succ j ih=>intro hj;have h1:=ih aa;have h2:=Au y (k+1+j) aa aa;have h3:=nF y (k+1+j);rw[show k+1+((j+1:B):p)=k+1+j+1 by omega];omega
   have:=this n aa;rwa[show k+1+(n:p)=m by omega]at this
  have c1:=Av y k;have c2:=Av y m;have c3:=nF y k;have c4:=nF y m;simp only[j49,Gd,j4];rw[ag (show r+dB y m-dB y k>=fa y k by omega)];simp only[j6,aS];rw[ar (x:=r+dB y m-dB y k-fa y k),ar (x:=k+1),show r+dB y m-dB y k-fa y k=r+dB y m-dB y (k+1) by omega];exact b_ y m r x1 x2 x3 x7 ie hr0 hr n (k+1) aa aa
theorem jA2{y m d:p}(h:qO y m d):j6a (num y m d)=u ((y,m,d),0):=by
 have hm:=Ge h;have hr:=Aw h;obtain⟨i1,i2,i3,i4,i5⟩:=jFw h;have hd:=nF y m;have hc:=Av y m;simp only[j6a,xp 1970 aa aa,xp 2241 aa aa,j4,_l,RC];rw[an (show¬num y m d<0 by omega),j7,an (show¬num y m d>=98981 by omega),j7,jE7 (num y m d) y aa aa i1 i2];simp only[j4,xp y (by have:=h.1;omega) (by have:=h.2.1;omega)];have hl:=b_ y m (num y m d-dN y-dB y m) 0 0 0 0 hm.2 aa aa (m-1).toNat 1 aa aa;rw[show num y m d-dN y-dB y m+dB y m-dB y 1=num y m d-dN y by (have:dB y 1=0:=rfl);omega]at hl;rw[ar (x:=num y m d-dN y),hl];simp only[j4];rw[i5,gX (by have:=h.2.2;omega) (by have:=h.2.2;omega)]
theorem jA3(day:p)(h:day<0\/98981<=day):j6a day=u ((0,0,0),1):=by
 simp only[j6a,xp 1970 aa aa,xp 2241 aa aa,j4,_l,RC];rcases h with h|h
 .rw[ag h];rfl
 .rw[an (show¬day<0 by omega),j7,ag (show day>=98981 by omega)];rfl
theorem xv(n:p):j1g n=u (G (0<=n)&&G (n<=98980)):=by
 by_cases h:0<=n/\n<=98980
 .obtain⟨y,m,d,hv,hn,_⟩:=jE9 n h.1 aa;have:=jA2 hv;rw[hn]at this;simp only[j1g,this,j4];rw[ag h.1,ag h.2];rfl
 .simp only[j1g,jA3 n aa,j4];by_cases h0:0<=n
  .rw[ag h0,an (λh1=>h ⟨h0,h1⟩)];rfl
  .rw[an h0];rfl
structure CM(nz np nc:B)(l:bA):Prop where
 z0:0<=l.2.1
 z1:l.2.1<nz
 d0:1<=l.2.2.1.1
 d1:l.2.2.1.1<=98980
 c0:0<=l.2.2.1.2
 c1:l.2.2.1.2<=86399
 u0:0<=l.2.2.2.1
 u1:l.2.2.2.1<=2
 e0:1<=l.2.2.2.2.1
 e1:l.2.2.2.2.1<=400
 m0:l.2.2.2.2.2.1.length≠0
 m1:l.2.2.2.2.2.1.length<=12
 mem:∀m∈l.2.2.2.2.2.1,0<=m/\m<(np:p)
 w:gO 0 l.2.2.2.2.2.2.1
 wl:l.2.2.2.2.2.2.1.length<=14
 mode0:0<=l.2.2.2.2.2.2.2.2
 mode1:l.2.2.2.2.2.2.2.2<=2
 cal:l.2.2.2.2.2.2.2.2≠0->0<=l.2.2.2.2.2.2.2.1/\l.2.2.2.2.2.2.2.1<(nc:p)
 RS:l.2.2.2.2.2.2.2.2=0->l.2.2.2.2.2.2.2.1=0
structure iw(nz np nc:B)(l:bA):Prop extends CM nz np nc l where
 w3:l.2.2.2.2.2.2.1.length<=3
theorem CM.rt2{nz np nc:B}{L:bA}(h:CM nz np nc L):Rt L:=
 ⟨h.d0,by have:=h.d1;omega,h.c0,h.c1,h.u0,h.u1,h.e0,h.e1,λhm=>h.m0 (by rw[hm];rfl)⟩
theorem iw.rt2{nz np nc:B}{L:bA}(h:iw nz np nc L):Rt L:=
 ⟨h.d0,by have:=h.d1;omega,h.c0,h.c1,h.u0,h.u1,h.e0,h.e1,λhm=>h.m0 (by rw[hm];rfl)⟩
structure Gk(x:cO):Prop where
 f0:0<=x.2.2.2.1
 ft:x.2.2.2.1<x.2.2.2.2
 t1:x.2.2.2.2<=1000000000000
structure lz(zs:A bH)(ps:A dr)(cs:A bd):Prop where
 ok:∀z∈zs,gj z
 ck:∀x∈cs,qP zs.length x
 zl:zs.length<=16
 pl:ps.length<=32
theorem ml{zs:A bH}{ps:A dr}{cs:A bd}(hs:lz zs ps cs){i:p}(h0:0<=i)(h1:i<(cs.length:p)):qP zs.length (cs.getD i.toNat (q,((0:p),([]:A p)))):=by
 have hi:i.toNat<cs.length:=aa;rw[show cs.getD i.toNat (q,((0:p),([]:A p)))=cs[i.toNat] by simp[J,hi]];exact hs.ck _ (jl hi)
theorem c_:j5w 2241=u 98981:=by kernel_rfl
theorem d_:j5w 1970=u 0:=by kernel_rfl
theorem jFx{d:p}(h:j1g d=u O):d<=100000:=by
 rw[xv]at h;simp only[j5,jd,jj]at h;omega
theorem jFy{d:p}(h:j1g d=u O):0<=d:=by
 rw[xv]at h;simp only[j5,jd,jj]at h;omega
theorem e_{L:bA}(h:Rt L):jaw L=u (dG L):=by
 have:=h.e0;have:=h.e1;simp only[jaw,dG];by_cases h2:L.2.2.2.1=2
 .rw[dI h2,j6,if_pos h2,ar]
 .rw[cG h2,j7,if_neg h2]
def sL(r:Z (p×Bool))(x:Z p):Prop:=∃v,r=u (v,x.isSome)/\∀t,x=u t->v=t
theorem pT{o:p}{l:bh}(ht:iF o l){L:bA}(h:Rt L){k:p}(hk:0<=k)(fp:k<=8589934592):sL (j0V (o,l) L k) (hO o l L k):=by
 have hs:=h.step;have KN:=h.d0;have qD:=h.d1;have gT:=h.c0;have eU:=h.c1;have pO:=h.e0;have yD:=h.e1;have gg:jaw (L.1,L.2.1,(L.2.2.1.1,L.2.2.1.2),L.2.2.2.1,L.2.2.2.2.1,L.2.2.2.2.2.1,L.2.2.2.2.2.2.1,L.2.2.2.2.2.2.2.1,L.2.2.2.2.2.2.2.2)=_:=e_ h;simp only[sL,j0V,gg,j4];rw[an (show¬k>8589934592 by omega),j7];by_cases h0:L.2.2.2.1=0
 .have hF:=_3 ht (d:=L.2.2.1.1) (c:=L.2.2.1.2) aa aa gT eU;have jD:L.2.2.1.1*86400+L.2.2.1.2=dx L 0:=by unfold dx;omega
  have pU:0<=3600*L.2.2.2.2.1*k:=D aa hk;have ic:3600*L.2.2.2.2.1*k<=3600*400*8589934592:=E aa fp hk aa;rw[show (L.2.2.2.1 != 0)=Y by rw[h0];rfl,j7,hF,jD];simp only[j4];unfold hO;rw[if_pos h0];cases hf:fO o l (dx L 0) with
  |none=>exact⟨_,rfl,λt h=>by simp at h⟩
  |some v=>
   have hv:=CK ht hf;simp only[z6,za,j6,j4,gX (x:=3600*L.2.2.2.2.1) (show -9223372036854775808<=_ by omega) aa,gX (x:=3600*L.2.2.2.2.1*k) (show -9223372036854775808<=_ by omega) aa,gX (x:=v+3600*L.2.2.2.2.1*k) (show -9223372036854775808<=_ by omega) aa];by_cases hle:v+3600*L.2.2.2.2.1*k<=8589934592
   .rw[if_pos hle,ag hle];exact⟨_,rfl,λt h=>by simpa using h⟩
   .rw[if_neg hle,an hle];exact⟨_,rfl,λt h=>by simp at h⟩
 .have pU:0<=k*dG L:=D hk aa;have ic:k*dG L<=8589934592*2800:=E fp hs.2 aa aa;rw[show (L.2.2.2.1 != 0)=O by simp[h0],j6,ar (x:=k*dG L),ar (x:=L.2.2.1.1+k*dG L),_3 ht aa aa gT eU];simp only[j4];unfold hO;rw[if_neg h0];exact⟨_,rfl,λt h=>by have h:fO o l ((L.2.2.1.1+k*dG L)*86400+L.2.2.1.2)=u t:=h;rw[h];rfl⟩
theorem Gl{z:bH}{l:bh}(hz:Z4 z l){L:bA}(h:Rt L){k:p}(hk:0<=k)(fp:k<=8589934592):sL (j7x z L k) (hO z.2.1 l L k):=by
 have hs:=h.step;have KN:=h.d0;have qD:=h.d1;have gT:=h.c0;have eU:=h.c1;have pO:=h.e0;have yD:=h.e1;have BD:=h.u1;have Xa:=h.u0;simp only[sL,j7x];have pU:0<=k*L.2.2.2.2.1:=D hk aa;have ic:k*L.2.2.2.2.1<=8589934592*400:=E fp aa aa aa;rw[ar (x:=k*L.2.2.2.2.1)];by_cases h0:L.2.2.2.1=0
 .have hF:=R3 hz (d:=L.2.2.1.1) (c:=L.2.2.1.2) aa gT eU;have jD:L.2.2.1.1*86400+L.2.2.1.2=dx L 0:=by unfold dx;omega
  rw[dI h0,j6,show j5h (z.1,(z.2.1,z.2.2)) (L.2.2.1.1,L.2.2.1.2)=_ from hF,jD];simp only[j4];have iK:k*L.2.2.2.2.1*3600=3600*L.2.2.2.2.1*k:=by rw[I,I k,R]
  have ie:0<=3600*L.2.2.2.2.1*k:=D aa hk;have _9:3600*L.2.2.2.2.1*k<=3600*400*8589934592:=E aa fp hk aa;rw[iK,ar (x:=3600*L.2.2.2.2.1*k)];unfold hO;rw[if_pos h0];cases hf:fO z.2.1 l (dx L 0) with
  |none=>exact⟨_,rfl,λt h=>by simp at h⟩
  |some v=>
   have hv:=CK hz.2 hf;simp only[j4];rw[ar (x:=v+3600*L.2.2.2.2.1*k),kp,j6];by_cases hle:v+3600*L.2.2.2.2.1*k<=8589934592
   .rw[if_pos hle,ag hle];exact⟨_,rfl,λt h=>by simpa using h⟩
   .rw[if_neg hle,an hle];exact⟨_,rfl,λt h=>by simp at h⟩
 .rw[cG h0,j7]
  have fin:∀n:p,n=k*dG L->0<=n->sL ((j5h (z.1,(z.2.1,z.2.2)) (L.2.2.1.1+n,L.2.2.1.2)).bind λr=>u (r.1,(r.2==(0:p)))) (hO z.2.1 l L k):=by
   intro n hn iE;have hF:=R3 hz (d:=L.2.2.1.1+n) (c:=L.2.2.1.2) aa gT eU;rw[show j5h (z.1,(z.2.1,z.2.2)) (L.2.2.1.1+n,L.2.2.1.2)=_ from hF];unfold hO;rw[if_neg h0];have eL:(L.2.2.1.1+n)*86400+L.2.2.1.2=dx L k:=by rw[hn];rfl
   rw[eL];cases hf:fO z.2.1 l (dx L k) with
   |none=>exact⟨_,rfl,λt h=>by simp at h⟩
   |some v=>exact⟨_,rfl,λt h=>by simpa using h⟩
  by_cases h2:L.2.2.2.1=2
  .have AF:dG L=7*L.2.2.2.2.1:=by unfold dG;rw[if_pos h2]
   have e1:k*L.2.2.2.2.1*7=k*dG L:=by rw[AF,R,I L.2.2.2.2.1 7]
   rw[dI h2,j6,ar (x:=k*L.2.2.2.2.1*7),ar (x:=L.2.2.1.1+k*L.2.2.2.2.1*7)];exact fin _ e1 aa
  .have AF:dG L=L.2.2.2.2.1:=by unfold dG;rw[if_neg h2]
   rw[cG h2,j7,ar (x:=L.2.2.1.1+k*L.2.2.2.2.1)];exact fin _ (by rw[AF]) pU
theorem f_{o:p}{l:bh}(ht:iF o l){L:bA}(h:Rt L){t N:p}(hN:N<=8589934592)(jP:QO o l L t 0):∀n:B,(n:p)<=N->
  ∃k:p,IQ t (n:p) o l L.1 L.2.1 L.2.2.1.1 L.2.2.1.2 L.2.2.2.1 L.2.2.2.2.1 L.2.2.2.2.2.1 L.2.2.2.2.2.2.1 L.2.2.2.2.2.2.2.1 L.2.2.2.2.2.2.2.2=
   u (t,k,o,l,L.1,L.2.1,L.2.2.1.1,L.2.2.1.2,L.2.2.2.1,L.2.2.2.2.1,L.2.2.2.2.2.1,L.2.2.2.2.2.2.1,L.2.2.2.2.2.2.2.1,L.2.2.2.2.2.2.2.2)/\0<=k/\QO o l L t k
 |0,_=>by
  rw[XV];simp only[j3w];rw[an aa,j7,aW];exact⟨_,rfl,aa,jP⟩
 |n+1,hn=>by
  obtain⟨k,e,k0,k1⟩:=f_ ht h hN jP n aa;obtain⟨v,hH,hv⟩:=pT ht h (k:=((n+1:B):p)) aa aa;rw[XV];simp only[j3w];rw[ag aa,j6,show j0V (o,l) (L.1,L.2.1,(L.2.2.1.1,L.2.2.1.2),L.2.2.2.1,L.2.2.2.2.1,L.2.2.2.2.2.1,L.2.2.2.2.2.2.1,L.2.2.2.2.2.2.2.1,L.2.2.2.2.2.2.2.2) ((n+1:B):p)=_ from hH];simp only[j4];rw[ar (x:=((n+1:B):p)-1),show ((n+1:B):p)-1=(n:p) by omega];cases hx:hO o l L ((n+1:B):p) with
  |none=>simp only[zm,j7,aS];exact⟨k,e,k0,k1⟩
  |some x=>
   have:=hv x hx;subst this;simp only[za,j6];by_cases hc:v<=t
   .rw[ag hc,j6,aW];exact⟨_,rfl,aa,v,hx,hc⟩
   .rw[an hc,j7,aS];exact⟨k,e,k0,k1⟩
theorem g_{o:p}{l:bh}(ht:iF o l){L:bA}(h:Rt L){t:p}:∀(n:B)(k:p),k+n=2386093->0<=k->QO o l L t k->
  ∃K:p,IU t k o l L.1 L.2.1 L.2.2.1.1 L.2.2.1.2 L.2.2.2.1 L.2.2.2.2.1 L.2.2.2.2.2.1 L.2.2.2.2.2.2.1 L.2.2.2.2.2.2.2.1 L.2.2.2.2.2.2.2.2=u K/\0<=K/\QO o l L t K/\¬QO o l L t (K+1)
 |0,k,hn,hk,hq=>by
  obtain⟨v,hv,_⟩:=hq;have:=AE ht h hk hv;omega
 |n+1,k,hn,hk,hq=>by
  obtain⟨v,hH,hv⟩:=pT ht h (k:=k+1) aa aa;rw[jj8];simp only[j56];rw[ar (x:=k+1),show j0V (o,l) (L.1,L.2.1,(L.2.2.1.1,L.2.2.1.2),L.2.2.2.1,L.2.2.2.2.1,L.2.2.2.2.2.1,L.2.2.2.2.2.2.1,L.2.2.2.2.2.2.2.1,L.2.2.2.2.2.2.2.2) (k+1)=_ from hH];simp only[j4];cases hx:hO o l L (k+1) with
  |none=>simp only[zm,jp,j6,aW];exact⟨k,rfl,hk,hq,λ⟨y,hy,_⟩=>by rw[hx]at hy;simp at hy⟩
  |some x=>
   have:=hv x hx;subst this;simp only[za,jc,j7];by_cases hc:v>t
   .rw[ag hc,j6,aW];exact⟨k,rfl,hk,hq,λ⟨y,hy,B0⟩=>by rw[hx]at hy;simp at hy;omega⟩
   .rw[an hc,j7,aS];exact g_ ht h n (k+1) aa aa ⟨v,hx,aa⟩
theorem h_{o:p}{l:bh}{L:bA}(h:Rt L){t v:p}(h0:L.2.2.2.1=0)(rR:t<=8589934592)(hf:fO o l (dx L 0)=u v)(uH:v<=t)(hv0:0<=v) :
  kV o l L t ((t-v)/(3600*L.2.2.2.2.1))/\0<=(t-v)/(3600*L.2.2.2.2.1)/\(t-v)/(3600*L.2.2.2.2.1)<=8589934592:=by
 have pO:=h.e0;have yD:=h.e1;have q0:0<=(t-v)/(3600*L.2.2.2.2.1):=yj aa aa;have q1:3600*L.2.2.2.2.1*((t-v)/(3600*L.2.2.2.2.1))<=t-v:=Int.mul_ediv_self_le aa;have q2:t-v<3600*L.2.2.2.2.1*((t-v)/(3600*L.2.2.2.2.1))+3600*L.2.2.2.2.1:=Int.lt_mul_ediv_self_add aa;have q3:(t-v)/(3600*L.2.2.2.2.1)<=t-v:=ya _ aa;generalize (t-v)/(3600*L.2.2.2.2.1)=K at *;refine⟨.inr ⟨q0,⟨v+3600*L.2.2.2.2.1*K,?_,aa⟩,?_⟩,q0,aa⟩
 .unfold hO;rw[if_pos h0,hf];simp only[j4];rw[if_pos aa]
 .rintro⟨y,hy,B0⟩
  unfold hO at hy;rw[if_pos h0,hf]at hy;simp only[j4,W,X]at hy;split at hy
  .simp at hy;omega
  .simp at hy
theorem i_{o:p}{l:bh}{L:bA}(h0:L.2.2.2.1=0){v:p}(hv:hO o l L 0=u v):fO o l (dx L 0)=u v:=by
 unfold hO at hv;rw[if_pos h0]at hv;cases hf:fO o l (dx L 0) with
 |none=>rw[hf]at hv;simp at hv
 |some x=>
  rw[hf]at hv;simp only[j4,Int.mul_zero,Int.add_zero]at hv;split at hv
  .simpa using hv
  .simp at hv
theorem jGH{o:p}{l:bh}(ht:iF o l){L:bA}(h:Rt L){t:p}(KO:0<=t)(rR:t<=8589934592):∃K:p,j2o (o,l) L t=u K/\kV o l L t K:=by
 have hs:=h.step;have KN:=h.d0;have qD:=h.d1;have pO:=h.e0;have yD:=h.e1;obtain⟨v0,hH,hv⟩:=pT ht h (k:=0) aa aa;have gg:jaw (L.1,L.2.1,(L.2.2.1.1,L.2.2.1.2),L.2.2.2.1,L.2.2.2.2.1,L.2.2.2.2.2.1,L.2.2.2.2.2.2.1,L.2.2.2.2.2.2.2.1,L.2.2.2.2.2.2.2.2)=_:=e_ h;simp only[j2o,show j0V (o,l) (L.1,L.2.1,(L.2.2.1.1,L.2.2.1.2),L.2.2.2.1,L.2.2.2.2.1,L.2.2.2.2.2.1,L.2.2.2.2.2.2.1,L.2.2.2.2.2.2.2.1,L.2.2.2.2.2.2.2.2) 0=_ from hH,gg,j4];cases hx:hO o l L 0 with
 |none=>simp only[zm,jp,j6];exact⟨-1,rfl,.inl ⟨rfl,λ⟨y,hy,_⟩=>by rw[hx]at hy;simp at hy⟩⟩
 |some v=>
  have:=hv v hx;subst this;simp only[za,jc,j7];by_cases hc:v0>t
  .rw[ag hc,j6];exact⟨-1,rfl,.inl ⟨rfl,λ⟨y,hy,B0⟩=>by rw[hx]at hy;simp at hy;omega⟩⟩
  .rw[an hc,j7];have hq:QO o l L t 0:=⟨v0,hx,aa⟩;have R4:=AE ht h (k:=0) aa hx;by_cases h0:L.2.2.2.1=0
   .obtain⟨s1,s2,s3⟩:=h_ (o:=o) (l:=l) h h0 rR (i_ h0 hx) aa R4.1;rw[dI h0,j6,ar (x:=t-v0),ar (x:=3600*L.2.2.2.2.1),cG (show¬3600*L.2.2.2.2.1=0 by omega),qt aa,ar (x:=(t-v0)/(3600*L.2.2.2.2.1))];exact⟨_,rfl,s1⟩
   .obtain⟨j,hj,j1,j2⟩:=tI ht KO rR;have o0:=ht.of0 j hj;have o1:=ht.of1 j hj;rw[cG h0,j7,CE ht hj j1 j2];simp only[j4];generalize Ht:(t+bm o l j)/86400=ld;rw[cG (show¬dG L=0 by omega),ar (x:=ld-L.2.2.1.1)];simp only[jp,j6]
    obtain⟨n,hn,yp⟩:∃n:B,(if w64 (S (ld-L.2.2.1.1) (dG L))>0 then w64 (S (ld-L.2.2.1.1) (dG L)) else 0)=(n:p)/\(n:p)<=8589934592:=by
     by_cases ni:0<=ld-L.2.2.1.1
     .rw[qt ni];have q0:0<=(ld-L.2.2.1.1)/dG L:=yj ni aa;have q1:(ld-L.2.2.1.1)/dG L<=ld-L.2.2.1.1:=ya _ ni;rw[ar];refine⟨((ld-L.2.2.1.1)/dG L).toNat,?_,?_⟩
      .split<;>omega
      .omega
     .have e:S (ld-L.2.2.1.1) (dG L) = -((-(ld-L.2.2.1.1))/dG L):=by rw[<-qt aa,Int.neg_tdiv,Int.neg_neg]
      have q0:0<=(-(ld-L.2.2.1.1))/dG L:=yj aa aa;have q1:(-(ld-L.2.2.1.1))/dG L <= -(ld-L.2.2.1.1):=ya _ aa;rw[e,ar,if_neg aa];exact⟨0,rfl,aa⟩
    rw[hn];obtain⟨k,e,k0,k1⟩:=f_ ht h (k8 _) hq n yp;have tA:=k1;obtain⟨y,hy,_⟩:=tA;have cg:=AE ht h k0 hy;obtain⟨K,e2,K0,K1,K2⟩:=g_ ht h (t:=t) (2386093-k).toNat k aa k0 k1;simp only[e,j4,e2];exact⟨K,rfl,.inr ⟨K0,K1,K2⟩⟩
def tb(z:bH):p×bh:=(z.2.1,cC z.2.1 (dM (occs z.2.2)))
theorem gj.ztab{z:bH}(h:gj z):sE z (tb z).2:=MZ.tab (o:=z.2.1) (rs:=z.2.2) h z.1
theorem gj.zdif{z:bH}(h:gj z):RT z.2.1 (tb z).2:=RK _ _ _ (MZ.good h)
theorem gj.zref{z:bH}(h:gj z):sE z (tb z).2/\Z4 z (tb z).2/\RT z.2.1 (tb z).2:=⟨h.ztab,MZ.r4 (o:=z.2.1) (rs:=z.2.2) h z.1,h.zdif⟩
theorem j_{zs:A bH}(h:∀z∈zs,gj z)(hl:zs.length<=100):∀(n i:B),i+n=zs.length->E7 zs (zs.length:p) (i:p) ((zs.take i).map tb)=u (zs.map tb)
 |0,i,hi=>by
  rw[XE];simp only[j4B];rw[an aa,j7,aW,List.take_of_length_le aa]
 |n+1,i,hi=>by
  have aq:i<zs.length:=aa;have bc:zs.getD i (q,((0:p),([]:A aL)))=zs[i]:=by simp[aq]
  have ht:=jGE (h zs[i] (jl aq)).ztab;have ih:=j_ h hl n (i+1) aa;rw[qb,jo aq,List.map_append]at ih;rw[XE];simp only[j4B];rw[ag aa,bE,ar (x:=(i:p)+1)];simp only[j6,j8,bc];rw[show jnQ (zs[i].1,(zs[i].2.1,zs[i].2.2))=_ from ht];simp only[j4];rw[ag (by simp[aG];omega),j6,aS];exact ih
theorem jEa{zs:A bH}(h:∀z∈zs,gj z)(hl:zs.length<=100){ps:A dr}{cs:A bd}{ss:A cN}:jk8 (zs,(ps,(cs,ss)))=u ((zs,(ps,(cs,ss))),zs.map tb):=by
 have lp:=j_ h hl zs.length 0 aa;simp only[jk8,jj6,show M zs.length=(zs.length:p) from rfl];rw[show E7 zs (zs.length:p) 0 []=_ from lp];rfl
theorem Gm{zs:A bH}{i:p}(h0:0<=i)(h1:i<(zs.length:p)):J (zs.map tb) i.toNat ((0:p),([]:bh))=tb (zs.getD i.toNat (q,((0:p),([]:A aL)))):=by
 have aq:i.toNat<zs.length:=aa;simp[F,aq]
theorem gm{zs:A bH}(h:∀z∈zs,gj z){i:p}(h0:0<=i)(h1:i<(zs.length:p)):gj (zs.getD i.toNat (q,((0:p),([]:A aL)))):=by
 have aq:i.toNat<zs.length:=aa;rw[F,jo aq];exact h _ (jl aq)
theorem jBX(a b:p):je4 a b=u (G (a<b)):=by
 simp only[je4,jce,j4,jf,j7]
theorem KP{ds:A p}(hs:ds.Pairwise (· < ·))(hl:ds.length<=64){x:p}:∀(n a b:B),b-a<=n->a<=b->b<=ds.length->(∀i,(hi:i<ds.length)->i<a->ds[i]<x)->(∀i,(hi:i<ds.length)->b<=i->x<=ds[i])->
  ∃k:B,IV ds x (ds.length:p) (a:p) (b:p)=u (ds,x,(ds.length:p),(k:p))/\k<=ds.length/\(∀i,(hi:i<ds.length)->i<k->ds[i]<x)/\∀i,(hi:i<ds.length)->k<=i->x<=ds[i]
 |n,a,b,hn,cF,hb,h1,h2=>by
  rw[j9L];simp only[j1B];by_cases aq:a<b
  .have hm:IntKind.wrap .u64 ((a:p)+(b:p))=(a:p)+(b:p):=IntWalk.u64_in _ ⟨aa,aa⟩;have hd:Int.fdiv ((a:p)+(b:p)) 2=(((a+b)/2:B):p):=by rw[Int.fdiv_eq_ediv_of_nonneg _ aa];omega
   have BF:(a+b)/2<ds.length:=aa;have bc:ds.getD ((a+b)/2) (0:p)=ds[(a+b)/2]:=by simp[BF]
   rw[ag (show (a:p)<(b:p) by omega),ar (x:=(a:p)+(b:p)),hm,hd,ar (x:=(((a+b)/2:B):p)),bE,ar (x:=(((a+b)/2:B):p)+1)];simp only[j6,j8,bc,jBX,j4];cases n with
   |zero=>omega
   |succ n=>
    by_cases hc:ds[(a+b)/2]<x
    .rw[ag hc,j6,aS];refine KP hs hl n ((a+b)/2+1) b aa aa hb (λi hi tJ=>?_) h2;by_cases he:i=(a+b)/2
     .subst he;exact hc
     .exact Int.lt_trans (qc.1 hs i ((a+b)/2) hi BF aa) hc
    .rw[an hc,j7,aS];refine KP hs hl n a ((a+b)/2) aa aa aa h1 (λi hi tJ=>?_);by_cases he:i=(a+b)/2
     .subst he;exact Int.not_lt.1 hc
     .exact qs (Int.not_lt.1 hc) (Int.le_of_lt (qc.1 hs ((a+b)/2) i BF hi aa))
  .have:a=b:=aa;subst this;rw[an aa,j7,aW];exact⟨a,rfl,hb,h1,h2⟩
theorem jGI{ds:A p}(hs:ds.Pairwise (· < ·))(hl:ds.length<=64)(x:p):∃i,j0u ds x=u (i,G (x∈ds)):=by
 obtain⟨k,e,hk,h1,h2⟩:=KP hs hl (x:=x) ds.length 0 ds.length aa aa (jq _) (λi _ h=>aa) (λi hi h=>aa);rw[show ((0:B):p)=0 from rfl]at e;simp only[j0u,show M ds.length=(ds.length:p) from rfl,e,j4,j8];by_cases ir:k<ds.length
 .have bc:ds.getD k (0:p)=ds[k]:=by simp[ir]
  rw[bE,ag (show (k:p)<(ds.length:p) by omega),bc];simp only[z8,j6];by_cases hx:ds[k]=x
  .rw[dI hx];rw[ag (show x∈ds from hx▸jl ir)];exact⟨_,rfl⟩
  .rw[cG hx]
   have hn:¬x∈ds:=by
    intro hm;obtain⟨i,hi,rfl⟩:=qw hm;rcases v8 i k with h|h|h
    .have:=h1 i hi h;omega
    .subst h;exact hx rfl
    .have a1:=h2 k ir (jq _);have a2:=qc.1 hs k i ir hi h;omega
   rw[an hn];simp only[j7,j6B,j4,jf];exact⟨_,rfl⟩
 .have hn:¬x∈ds:=by intro hm;obtain⟨i,hi,rfl⟩:=qw hm;have:=h1 i hi aa;omega
  rw[an hn,an (show¬(k:p)<(ds.length:p) by omega)];simp only[jp,yb,j6,j7,ym];exact⟨_,rfl⟩
def okW(w:WL)(s:p):Bool:=cond (G ((w.length:p)>0)) (hasB s w) O
section
variable{zs:A bH}{ps:A dr}{cs:A bd}{ss:A cN}(hz:∀z∈zs,gj z)
include hz
theorem jFB{L:bA}(hL:iw zs.length ps.length cs.length L)(nH:Rt L){t:p}(h0:0<=t)(h1:t<=8589934592){z:bH}(uj:zs.getD L.2.1.toNat (q,((0:p),([]:A aL)))=z)
  {s:p}{d:p×p}(hd:j0p (tb z) t=u d)(hs:j3p d=u s){K:p}(hK:j2o (tb z) L t=u K)(b:Bool)
  (cH:L.2.2.2.2.2.2.2.2=0->b=O)(Gn:L.2.2.2.2.2.2.2.2≠0->∃x:bd,cs.getD L.2.2.2.2.2.2.2.1.toNat (q,((0:p),([]:A p)))=x/\qP zs.length x/\∃d',j0p (tb (zs.getD x.2.1.toNat (q,((0:p),([]:A aL))))) t=u d'/\b=(G (d'.1∈x.2.2)==(L.2.2.2.2.2.2.2.2==(2:p)))) :
  ∃r,j7q ((zs,(ps,(cs,ss))),zs.map tb) L t=u (r,cond (G (0<=K)) (cond (okW L.2.2.2.2.2.2.1 s) b Y) Y)/\(cond (G (0<=K)) (cond (okW L.2.2.2.2.2.2.1 s) b Y) Y=O->r=K):=by
 have _:=hz;have _:=nH;have uQ:=hL.wl;have hlen:(zs.map tb).length=zs.length:=kc ..;have hg:=Gm (zs:=zs) hL.z0 hL.z1;rw[uj]at hg;simp only[j7q];rw[an (show¬t<0 by omega),an (show¬t>8589934592 by omega),bU hL.z0 (by rw[hlen];exact hL.z1)];simp only[j7,j6,hg];rw[show j2o ((tb z).1,(tb z).2) (L.1,L.2.1,(L.2.2.1.1,L.2.2.1.2),L.2.2.2.1,L.2.2.2.2.1,L.2.2.2.2.2.1,L.2.2.2.2.2.2.1,L.2.2.2.2.2.2.2.1,L.2.2.2.2.2.2.2.2) t=_ from hK];simp only[j4];by_cases hk:0<=K
 .rw[an (show¬K<0 by omega),ag hk];simp only[j7,j6,show M L.2.2.2.2.2.2.1.length=(L.2.2.2.2.2.2.1.length:p) from rfl]
  have tail:∃r,(cond (L.2.2.2.2.2.2.2.2==(0:p)) (u (K,O)) (cond (inR L.2.2.2.2.2.2.2.1 cs.length) (cond (inR (cs.getD L.2.2.2.2.2.2.2.1.toNat (q,((0:p),([]:A p)))).2.1 (zs.map tb).length) ((j0p ((J (zs.map tb) (cs.getD L.2.2.2.2.2.2.2.1.toNat (q,((0:p),([]:A p)))).2.1.toNat ((0:p),([]:bh))).1,(J (zs.map tb) (cs.getD L.2.2.2.2.2.2.2.1.toNat (q,((0:p),([]:A p)))).2.1.toNat ((0:p),([]:bh))).2) t).bind λr68=>
    (j0u (cs.getD L.2.2.2.2.2.2.2.1.toNat (q,((0:p),([]:A p)))).2.2 r68.1).bind λr70=>u (K,(r70.2==(L.2.2.2.2.2.2.2.2==(2:p))))) none) none))=u (r,b)/\(b=O->r=K):=by
   by_cases hm:L.2.2.2.2.2.2.2.2=0
   .rw[dI hm,j6,cH hm];exact⟨K,rfl,λ_=>rfl⟩
   .obtain⟨x,hx,CN,d',h9,hb⟩:=Gn hm;have hc:=hL.cal hm;obtain⟨i,hi⟩:=jGI CN.asc CN.len d'.1;have gw:=Gm (zs:=zs) CN.z0 CN.z1;rw[cG hm,j7,bU hc.1 hc.2,hx,bU CN.z0 (by rw[hlen];exact CN.z1)];simp only[j6,gw];rw[show j0p ((tb (zs.getD x.2.1.toNat (q,((0:p),([]:A aL))))).1,(tb (zs.getD x.2.1.toNat (q,((0:p),([]:A aL))))).2) t=_ from h9];simp only[j4,hi];rw[<-hb];exact⟨K,rfl,λ_=>rfl⟩
  by_cases hw:(L.2.2.2.2.2.2.1.length:p)>0
  .rw[ag hw,j6,show j0p ((tb z).1,(tb z).2) t=_ from hd];simp only[j4,show j3p (d.1,d.2)=_ from hs,jFs uQ,okW];rw[ag hw,j6];cases hh:hasB s L.2.2.2.2.2.2.1 with
   |true=>simp only[jc,j7,j6];exact tail
   |false=>exact⟨0,rfl,λh=>by simp at h⟩
  .simp only[okW];rw[an hw];simp only[j7,j6];exact tail
 .rw[ag (show K<0 by omega),an hk];exact⟨0,rfl,λh=>by simp at h⟩
def ox(L:bA)(K:p):Int:=L.2.2.2.2.2.1.getD (U K (L.2.2.2.2.2.1.length:p)).toNat 0
omit hz in
theorem jBZ{v:fP×A (p×bh)}{L:bA}{t r K:p}{b:Bool}(hm:L.2.2.2.2.2.1.length≠0)(e:j7q v L t=u (r,b))(hr:b=O->r=K)(hK:b=O->0<=K) :
  j2Z v L t=u (cond b (ox L K) (-1)):=by
 simp only[j2Z,show j7q ((v.1.1,v.1.2.1,v.1.2.2.1,v.1.2.2.2),v.2) (L.1,L.2.1,(L.2.2.1.1,L.2.2.1.2),L.2.2.2.1,L.2.2.2.2.1,L.2.2.2.2.2.1,L.2.2.2.2.2.2.1,L.2.2.2.2.2.2.2.1,L.2.2.2.2.2.2.2.2) t=_ from e,j4];cases b with
 |false=>rfl
 |true=>have:=hr rfl;subst this;have hk:=hK rfl;have q1:0<=U r (L.2.2.2.2.2.1.length:p):=vr _ hk;have q2:U r (L.2.2.2.2.2.1.length:p)<(L.2.2.2.2.2.1.length:p):=zk _ aa;simp only[jc,j7,j6,show M L.2.2.2.2.2.1.length=(L.2.2.2.2.2.1.length:p) from rfl,ox];rw[cG (show¬(L.2.2.2.2.2.1.length:p)=0 by omega),bU q1 q2];rfl
end
theorem jFC{z:bH}(hz:gj z){t:p}(h0:0<=t)(h1:t<=8589934592):∃d s,j0p (tb z) t=u d/\j3p d=u s:=by
 have ht:=hz.ztab;obtain⟨j,hj,j1,j2⟩:=tI ht.2 h0 h1;have o0:=ht.2.of0 j hj;have o1:=ht.2.of1 j hj;obtain⟨s,hs⟩:∃s,j3p ((t+bm z.2.1 (tb z).2 j)/86400,(t+bm z.2.1 (tb z).2 j)%86400)=u s:=by simp only[j3p,_k,j4];exact⟨_,rfl⟩
 exact⟨_,s,CE ht.2 hj j1 j2,hs⟩
end Go.Proofs.Pw
