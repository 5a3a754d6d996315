/- Chapter 1: every day up to the last one has a date. -/
import Derived.Test.YtmlokiiopbjgfaaGreatEEPA
import Derived.Test.YtmlokiiopbjgfaaGreatEEPB
import Derived.KernelRfl
import Derived.Test.YtmlokiiopbjgfaaGreatEEFns
import Derived.Test.YtmlokiiopbjgfaaGreatEELD
open _root_ renaming Int->A,List->E,Nat->I,Option->M,ByteArray->Ä
open ByteArray renaming empty->D,ext->Ù
open Option renaming some->F,isSome_some->O,isSome_none->Á,none->Í
open Decidable renaming decide->G
open Int renaming tdiv_eq_ediv_of_nonneg->H,ofNat->J,ediv_le_self->W,ediv_nonneg->X,mul_nonneg->Y,mul_le_mul->Z,lt_mul_ediv_self_add->Å,lt_or_le->Ë,tdiv->Ì,le_trans->Ñ,le_of_lt->Ò,mul_comm->Ó,tmod->Ô,le_refl->Õ
open Bool renaming true->R,not_true->U,not_false->À,false->Ç,false_and->Î
open List renaming getElem_mem->S,getD_eq_getElem?_getD->Â,getD->Ã,getElem?_eq_getElem->Æ,getElem_of_mem->É,drop_zero->Ï
open Nat renaming le_refl->È
noncomputable section
open Go Go.Lft
namespace Go.Proofs.Pw
theorem jpA(day y:A)(hy1:cnt y<=day)(hy2:day<cnt (y+1))(h3:y<=1000000):∀(n:I)(k:A),k+n=y -> -1000000<=k->jau day k=F y
 |0,k,hn,hk=>by
  rw[jbb];have:k=y:=omg_;subst this;simp(disch:=omega)only[j3W,j9F (k+1) omg_ omg_,S0]
 |n+1,k,hn,hk=>by
  rw[jbb];have:=j9E (a:=k+1) (b:=y) omg_;simp(disch:=omega)only[j3W,j9F (k+1) omg_ omg_,S0];have ih:=jpA day y hy1 hy2 h3 n (k+1) omg_ omg_;exact ih
theorem jsG(day y:A)(h1 : -365<=day)(h2:day<=1000000)(hy1:cnt y<=day)(hy2:day<cnt (y+1)):jce day=F y:=by
 have hq:1970+day/366<=y /\ -1000000<=day/366/\y<=1000000:=by
  refine⟨?_,omg_,?_⟩
  .rcases Ë y (1970+day/366) with h|h
   .have h':=j9E (a:=y+1) (b:=1970+day/366) omg_;exfalso;have:cnt (1970+day/366)<=day:=by unfold cnt;omega
    omega
   .exact h
  .rcases Ë 1000000 y with h|h
   .have:=j9E (a:=1000000) (b:=y) omg_;have h4:364000000<=cnt 1000000:=by decide
    omega
   .exact h
 simp only[jce,jfF day 366 omg_ omg_ omg_,j0];rw[j0d,jpA day y hy1 hy2 hq.2.2 (y-(1970+day/366)).toNat _ omg_ omg_];rfl
theorem jsH(d:I):∃y,1970<=y/\cnt y<=d/\(d:A)<cnt (y+1):=by
 induction d with
 |zero=>exact⟨1970,omg_,by decide,by decide⟩
 |succ d ih=>
  obtain⟨y,h1,h2,h3⟩:=ih;by_cases h:((d+1:I):A)<cnt (y+1)
  .exact⟨y,h1,omg_,h⟩
  .have:=ju0 (a:=y+1) (b:=y+1+1) omg_;exact⟨y+1,omg_,omg_,omg_⟩
theorem jgM(y r:A)(h0:0<=r):∀k:I,k<=12->r<cum y (k+1)->∃m:A,1<=m/\m<=k/\cum y m<=r/\r<cum y m+dim y m
 |0,_,h=>by have:cum y ((0:I)+1)=0:=rfl;omega
 |k+1,hk,h=>by
  by_cases h':r<cum y (k+1)
  .obtain⟨m,h1,h2,h3⟩:=jgM y r h0 k omg_ h';exact⟨m,h1,omg_,h3⟩
  .have:=jb0 y (k+1) omg_ omg_;rw[show ((k+1:I):A)=(k:A)+1 from rfl]at h;exact⟨k+1,omg_,omg_,omg_,omg_⟩
theorem juM(y:A):cum y 13=365+j8A y:=by unfold cum;omega
theorem jqX(y r:A)(h0:0<=r)(h:r<365+j8A y):∃m,1<=m/\m<=12/\cum y m<=r/\r<cum y m+dim y m:=
 jgM y r h0 12 (È _) (by rw[show ((12:I):A)+1=13 from rfl,juM];exact h)
theorem jsI(day:A)(h0:0<=day)(h1:day<98981):∃y m d,jfn y m d/\num y m d=day/\cnt y<=day/\day<cnt (y+1)/\1<=m/\m<=12:=by
 obtain⟨y,hy1,hy2,hy3⟩:=jsH day.toNat;rw[Int.toNat_of_nonneg h0]at hy2 hy3;have hs:=jiN y;obtain⟨m,hm1,hm2,hm3,hm4⟩:=jqX y (day-cnt y) omg_ omg_;refine⟨y,m,day-cnt y-cum y m+1,⟨hy1,?_,omg_,omg_⟩,by unfold num;omega,hy2,hy3,hm1,hm2⟩;rcases Ë 2240 y with h|h
 .have:=j9E (a:=2241) (b:=y) omg_;have:=jlx;omega
 .exact h
theorem ju8{y m d:A}(h:jfn y m d):cnt y<=num y m d/\num y m d<cnt (y+1)/\cum y m<=num y m d-cnt y/\num y m d-cnt y<cum y m+dim y m/\num y m d-cnt y-cum y m+1=d:=by
 have hm:=j97 h;obtain⟨h1,h2,h3,h4⟩:=h;have hc:=j96 y m;have:=jb0 y m hm.1 hm.2;have hs:=jiN y;have:cum y (m+1)<=365+j8A y:=by have:=jeb y;unfold cum;omega
 unfold num;omega
theorem jks(y m r x1 x2 x3 x7:A)(hm2:m<=12)(hr0:0<=r)(hr:r<dim y m):∀(n:I)(k:A),1<=k->k+n=m->
  j8Q (r+cum y m-cum y k) x1 x2 x3 y k x7=F (r,x1,x2,x3,y,m,x7)
 |0,k,hk,hn=>by
  have:k=m:=omg_;subst this;rw[j9s];simp(disch:=omega)only[j3l,jgG,S0];rw[show r+cum y k-cum y k=r by omega]
 |n+1,k,hk,hn=>by
  rw[j9s];have hs:=jb0 y k hk omg_
  have hmono:cum y (k+1)<=cum y m:=by
   have:∀(j:I),k+1+j<=12->cum y (k+1)<=cum y (k+1+j):=by
    intro j;induction j with
    |zero=>intro _;simp
    |succ j ih=>intro hj;have h1:=ih omg_;have h2:=jb0 y (k+1+j) omg_ omg_;have h3:=j3v y (k+1+j);rw[show k+1+((j+1:I):A)=k+1+j+1 by omega];omega
   have:=this n omg_;rwa[show k+1+(n:A)=m by omega]at this
  have c1:=j96 y k;have c2:=j96 y m;have c3:=j3v y k;have c4:=j3v y m;simp only[j3l,jgG,j0];rw[j00 (show r+cum y m-cum y k>=dim y k by omega)];simp only[j4,j08];rw[j0d (x:=r+cum y m-cum y k-dim y k),j0d (x:=k+1),show r+cum y m-cum y k-dim y k=r+cum y m-cum y (k+1) by omega];exact jks y m r x1 x2 x3 x7 hm2 hr0 hr n (k+1) omg_ omg_
theorem jpB{y m d:A}(h:jfn y m d):j6x (num y m d)=F ((y,m,d),0):=by
 have hm:=j97 h;have hr:=j98 h;obtain⟨i1,i2,i3,i4,i5⟩:=ju8 h;have hd:=j3v y m;have hc:=j96 y m;simp(disch:=omega)only[j6x,j9F 1970 omg_ omg_,j9F 2241 omg_ omg_,jpm,jlx,jsG (num y m d) y omg_ omg_ i1 i2,S0];simp only[j0,j9F y (by have:=h.1;omega) (by have:=h.2.1;omega)];have hl:=jks y m (num y m d-cnt y-cum y m) 0 0 0 0 hm.2 omg_ omg_ (m-1).toNat 1 omg_ omg_;rw[show num y m d-cnt y-cum y m+cum y m-cum y 1=num y m d-cnt y by (have:cum y 1=0:=rfl);omega]at hl;rw[j0d (x:=num y m d-cnt y),hl];simp only[j0];rw[i5,j5Z (by have:=h.2.2;omega) (by have:=h.2.2;omega)]
theorem jpC(day:A)(h:day<0\/98981<=day):j6x day=F ((0,0,0),1):=by
 simp only[j6x,j9F 1970 omg_ omg_,j9F 2241 omg_ omg_,j0,jpm,jlx];rcases h with h|h
 .rw[j00 h];rfl
 .rw[j01 (show¬day<0 by omega),j5,j00 (show day>=98981 by omega)];rfl
theorem jeU(n:A):j2P n=F (G (0<=n)&&G (n<=98980)):=by
 by_cases h:0<=n/\n<=98980
 .obtain⟨y,m,d,hv,hn,_⟩:=jsI n h.1 omg_;have:=jpB hv;rw[hn]at this;simp(disch:=omega)only[j2P,this,S0];rfl
 .simp only[j2P,jpC n omg_,j0];by_cases h0:0<=n
  .simp(disch:=omega)only[S0];rfl
  .rw[j01 h0];rfl
structure LC0(nz np nc:I)(l:j0c):Prop where
 z0:0<=l.2.1
 z1:l.2.1<nz
 d0:1<=l.2.2.1.1
 d1:l.2.2.1.1<=98980
 c0:0<=l.2.2.1.2
 c1:l.2.2.1.2<=86399
 u0:0<=l.2.2.2.1
 u1:l.2.2.2.1<=2
 e0:1<=l.2.2.2.2.1
 e1:l.2.2.2.2.1<=400
 m0:l.2.2.2.2.2.1.length≠0
 m1:l.2.2.2.2.2.1.length<=12
 mem:∀m∈l.2.2.2.2.2.1,0<=m/\m<(np:A)
 w:WOk 0 l.2.2.2.2.2.2.1
 wl:l.2.2.2.2.2.2.1.length<=14
 mode0:0<=l.2.2.2.2.2.2.2.2
 mode1:l.2.2.2.2.2.2.2.2<=2
 cal:l.2.2.2.2.2.2.2.2≠0->0<=l.2.2.2.2.2.2.2.1/\l.2.2.2.2.2.2.2.1<(nc:A)
 cal0:l.2.2.2.2.2.2.2.2=0->l.2.2.2.2.2.2.2.1=0
structure LC1(nz np nc:I)(l:j0c):Prop extends LC0 nz np nc l where
 w3:l.2.2.2.2.2.2.1.length<=3
theorem LC0.rt2{nz np nc:I}{L:j0c}(h:LC0 nz np nc L):Rt L:=
 ⟨h.d0,by have:=h.d1;omega,h.c0,h.c1,h.u0,h.u1,h.e0,h.e1,λhm=>h.m0 (by rw[hm];rfl)⟩
theorem LC1.rt2{nz np nc:I}{L:j0c}(h:LC1 nz np nc L):Rt L:=
 ⟨h.d0,by have:=h.d1;omega,h.c0,h.c1,h.u0,h.u1,h.e0,h.e1,λhm=>h.m0 (by rw[hm];rfl)⟩
structure EC0(x:j0H):Prop where
 f0:0<=x.2.2.2.1
 ft:x.2.2.2.1<x.2.2.2.2
 t1:x.2.2.2.2<=1000000000000
structure GOk(zs:E j0O)(ps:E j0r)(cs:E CalT):Prop where
 ok:∀z∈zs,ZOk z
 ck:∀x∈cs,CCk zs.length x
 zl:zs.length<=16
 pl:ps.length<=32
theorem cget{zs:E j0O}{ps:E j0r}{cs:E CalT}(hs:GOk zs ps cs){i:A}(h0:0<=i)(h1:i<(cs.length:A)):CCk zs.length (cs.getD i.toNat (D,0,[])):=by
 have hi:i.toNat<cs.length:=omg_;rw[show cs.getD i.toNat (D,0,[])=cs[i.toNat] by simp[Ã,hi]];exact hs.ck _ (S hi)
theorem jmw{L:j0c}(h:Rt L):j7t L=F (j3A L):=by
 have:=h.e0;have:=h.e1;grind[j7t,j3A,S0]
def HVal(r:M (A×Bool))(x:M A):Prop:=∃v,r=F (v,x.isSome)/\∀t,x=F t->v=t
theorem recH{o:A}{l:TrL}(ht:TOk o l){L:j0c}(h:Rt L){k:A}(hk:0<=k)(hk2:k<=8589934592):HVal (j1R (o,l) L k) (hO o l L k):=by
 have hs:=h.step;have hd0:=h.d0;have hd1:=h.d1;have hc0:=h.c0;have hc1:=h.c1;have he0:=h.e0;have he1:=h.e1;have hstep:j7t (L.1,L.2.1,(L.2.2.1.1,L.2.2.1.2),L.2.2.2.1,L.2.2.2.2.1,L.2.2.2.2.2.1,L.2.2.2.2.2.2.1,L.2.2.2.2.2.2.2.1,L.2.2.2.2.2.2.2.2)=_:=jmw h;simp only[HVal,j1R,hstep,j0];rw[j01 (show¬k>8589934592 by omega),j5];by_cases h0:L.2.2.2.1=0
 .have hF:=jkr ht (d:=L.2.2.1.1) (c:=L.2.2.1.2) omg_ omg_ hc0 hc1;have hs0:L.2.2.1.1*86400+L.2.2.1.2=sLoc L 0:=by unfold sLoc;omega
  have hm0:0<=3600*L.2.2.2.2.1*k:=Y omg_ hk;have hm1:3600*L.2.2.2.2.1*k<=3600*400*8589934592:=Z omg_ hk2 hk omg_;rw[show (L.2.2.2.1 != 0)=Ç by rw[h0];rfl,j5,hF,hs0];simp only[j0];unfold hO;rw[if_pos h0];cases hf:fO o l (sLoc L 0) with
  |none=>simp_all
  |some v=>
   have hv:=jnA ht hf;simp(disch:=omega)only[Option.getD_some,S0];by_cases hle:v+3600*L.2.2.2.2.1*k<=8589934592
   .simp_all
   .rw[if_neg hle,j01 hle]
    simp_all
 .have hm0:0<=k*j3A L:=Y hk omg_;have hm1:k*j3A L<=8589934592*2800:=Z hk2 hs.2 omg_ omg_;rw[show (L.2.2.2.1 != 0)=R by simp[h0],j4,j0d (x:=k*j3A L),j0d (x:=L.2.2.1.1+k*j3A L),jkr ht omg_ omg_ hc0 hc1];simp only[j0];unfold hO;rw[if_neg h0];exact⟨_,rfl,λt h=>by have h:fO o l ((L.2.2.1.1+k*j3A L)*86400+L.2.2.1.2)=F t:=h;rw[h];rfl⟩
theorem r10H{z:j0O}{l:TrL}(hz:Z4 z l){L:j0c}(h:Rt L){k:A}(hk:0<=k)(hk2:k<=8589934592):HVal (j7V z L k) (hO z.2.1 l L k):=by
 have hs:=h.step;have hd0:=h.d0;have hd1:=h.d1;have hc0:=h.c0;have hc1:=h.c1;have he0:=h.e0;have he1:=h.e1;have hu1:=h.u1;have hu0:=h.u0;simp only[HVal,j7V];have hm0:0<=k*L.2.2.2.2.1:=Y hk omg_;have hm1:k*L.2.2.2.2.1<=8589934592*400:=Z hk2 omg_ omg_ omg_;rw[j0d (x:=k*L.2.2.2.2.1)];by_cases h0:L.2.2.2.1=0
 .have hF:=jde hz (d:=L.2.2.1.1) (c:=L.2.2.1.2) omg_ hc0 hc1;have hs0:L.2.2.1.1*86400+L.2.2.1.2=sLoc L 0:=by unfold sLoc;omega
  rw[j9g h0,j4,show j4f (z.1,z.2.1,z.2.2) (L.2.2.1.1,L.2.2.1.2)=_ from hF,hs0];simp only[j0];have hcm:k*L.2.2.2.2.1*3600=3600*L.2.2.2.2.1*k:=by grind
  have hm2:0<=3600*L.2.2.2.2.1*k:=Y omg_ hk;have hm3:3600*L.2.2.2.2.1*k<=3600*400*8589934592:=Z omg_ hk2 hk omg_;simp(disch:=omega)only[hcm,S0];unfold hO;rw[if_pos h0];cases hf:fO z.2.1 l (sLoc L 0) with
  |none=>simp_all
  |some v=>
   have hv:=jnA hz.2 hf;simp(disch:=omega)only[S0];by_cases hle:v+3600*L.2.2.2.2.1*k<=8589934592
   .simp_all
   .rw[if_neg hle,j01 hle]
    simp_all
 .rw[j55 h0,j5]
  have fin:∀n:A,n=k*j3A L->0<=n->HVal ((j4f (z.1,z.2.1,z.2.2) (L.2.2.1.1+n,L.2.2.1.2)).bind λr=>F (r.1,(r.2==(0:A)))) (hO z.2.1 l L k):=by
   intro n hn hn0;have hF:=jde hz (d:=L.2.2.1.1+n) (c:=L.2.2.1.2) omg_ hc0 hc1;rw[show j4f (z.1,z.2.1,z.2.2) (L.2.2.1.1+n,L.2.2.1.2)=_ from hF];unfold hO;rw[if_neg h0];have hsl:(L.2.2.1.1+n)*86400+L.2.2.1.2=sLoc L k:=by rw[hn];rfl
   rw[hsl];cases hf:fO z.2.1 l (sLoc L k) with
   |none=>exact⟨_,rfl,λt h=>by simp at h⟩
   |some v=>exact⟨_,rfl,λt h=>by simpa using h⟩
  by_cases h2:L.2.2.2.1=2
  .have hsd:j3A L=7*L.2.2.2.2.1:=by grind[j3A]
   have e1:k*L.2.2.2.2.1*7=k*j3A L:=by grind
   simp(disch:=omega)only[S0];exact fin _ e1 omg_
  .have hsd:j3A L=L.2.2.2.2.1:=by grind[j3A]
   simp(disch:=omega)only[S0];exact fin _ (by rw[hsd]) hm0
theorem ju9{o:A}{l:TrL}(ht:TOk o l){L:j0c}(h:Rt L){t N:A}(hN:N<=8589934592)(hfirst:QO o l L t 0):∀n:I,(n:A)<=N->
  ∃k:A,j6f t (n:A) o l L.1 L.2.1 L.2.2.1.1 L.2.2.1.2 L.2.2.2.1 L.2.2.2.2.1 L.2.2.2.2.2.1 L.2.2.2.2.2.2.1 L.2.2.2.2.2.2.2.1 L.2.2.2.2.2.2.2.2=
   F (t,k,o,l,L.1,L.2.1,L.2.2.1.1,L.2.2.1.2,L.2.2.2.1,L.2.2.2.2.1,L.2.2.2.2.2.1,L.2.2.2.2.2.2.1,L.2.2.2.2.2.2.2.1,L.2.2.2.2.2.2.2.2)/\0<=k/\QO o l L t k
 |0,_=>by
  grind[j8S,j2Y,S0]
 |n+1,hn=>by
  obtain⟨k,e,k0,k1⟩:=ju9 ht h hN hfirst n omg_;obtain⟨v,hH,hv⟩:=recH ht h (k:=((n+1:I):A)) omg_ omg_;rw[j8S];simp only[j2Y];rw[j00 omg_,j4,show j1R (o,l) (L.1,L.2.1,(L.2.2.1.1,L.2.2.1.2),L.2.2.2.1,L.2.2.2.2.1,L.2.2.2.2.2.1,L.2.2.2.2.2.2.1,L.2.2.2.2.2.2.2.1,L.2.2.2.2.2.2.2.2) ((n+1:I):A)=_ from hH];simp only[j0];rw[j0d (x:=((n+1:I):A)-1),show ((n+1:I):A)-1=(n:A) by omega];cases hx:hO o l L ((n+1:I):A) with
  |none=>grind[j08]
  |some x=>
   have:=hv x hx;subst this;simp only[O,j4];by_cases hc:v<=t
   .rw[j00 hc,j4,j0f];exact⟨_,rfl,omg_,v,hx,hc⟩
   grind[j08]
theorem jua{o:A}{l:TrL}(ht:TOk o l){L:j0c}(h:Rt L){t:A}:∀(n:I)(k:A),k+n=2386093->0<=k->QO o l L t k->
  ∃K:A,j8a t k o l L.1 L.2.1 L.2.2.1.1 L.2.2.1.2 L.2.2.2.1 L.2.2.2.2.1 L.2.2.2.2.2.1 L.2.2.2.2.2.2.1 L.2.2.2.2.2.2.2.1 L.2.2.2.2.2.2.2.2=F K/\0<=K/\QO o l L t K/\¬QO o l L t (K+1)
 |0,k,hn,hk,hq=>by
  obtain⟨v,hv,_⟩:=hq;have:=jsF ht h hk hv;omega
 |n+1,k,hn,hk,hq=>by
  obtain⟨v,hH,hv⟩:=recH ht h (k:=k+1) omg_ omg_;rw[jcZ];simp(disch:=omega)only[j4a,show j1R (o,l) (L.1,L.2.1,(L.2.2.1.1,L.2.2.1.2),L.2.2.2.1,L.2.2.2.2.1,L.2.2.2.2.2.1,L.2.2.2.2.2.2.1,L.2.2.2.2.2.2.2.1,L.2.2.2.2.2.2.2.2) (k+1)=_ from hH,S0];cases hx:hO o l L (k+1) with
  |none=>simp only[Á,À,j4,j0f];exact⟨k,rfl,hk,hq,λ⟨y,hy,_⟩=>by simp_all⟩
  |some x=>
   have:=hv x hx;subst this;simp only[O,U,j5];by_cases hc:v>t
   .rw[j00 hc,j4,j0f];exact⟨k,rfl,hk,hq,λ⟨y,hy,hyt⟩=>by grind⟩
   .rw[j01 hc,j5,j08];exact jua ht h n (k+1) omg_ omg_ ⟨v,hx,omg_⟩
theorem jmx{o:A}{l:TrL}{L:j0c}(h:Rt L){t v:A}(h0:L.2.2.2.1=0)(htt:t<=8589934592)(hf:fO o l (sLoc L 0)=F v)(hvt:v<=t)(hv0:0<=v) :
  ShO o l L t ((t-v)/(3600*L.2.2.2.2.1))/\0<=(t-v)/(3600*L.2.2.2.2.1)/\(t-v)/(3600*L.2.2.2.2.1)<=8589934592:=by
 have he0:=h.e0;have he1:=h.e1;have q0:0<=(t-v)/(3600*L.2.2.2.2.1):=X omg_ omg_;have q1:3600*L.2.2.2.2.1*((t-v)/(3600*L.2.2.2.2.1))<=t-v:=Int.mul_ediv_self_le omg_;have q2:t-v<3600*L.2.2.2.2.1*((t-v)/(3600*L.2.2.2.2.1))+3600*L.2.2.2.2.1:=Å omg_;have q3:(t-v)/(3600*L.2.2.2.2.1)<=t-v:=W _ omg_;generalize (t-v)/(3600*L.2.2.2.2.1)=K at *;refine⟨.inr ⟨q0,⟨v+3600*L.2.2.2.2.1*K,?_,omg_⟩,?_⟩,q0,omg_⟩
 .grind[hO]
 .rintro⟨y,hy,hyt⟩
  grind[hO]
theorem jpD{o:A}{l:TrL}{L:j0c}(h0:L.2.2.2.1=0){v:A}(hv:hO o l L 0=F v):fO o l (sLoc L 0)=F v:=by
 unfold hO at hv;rw[if_pos h0]at hv;cases hf:fO o l (sLoc L 0)<;>simp_all
theorem juN{o:A}{l:TrL}(ht:TOk o l){L:j0c}(h:Rt L){t:A}(h0t:0<=t)(htt:t<=8589934592):∃K:A,j4b (o,l) L t=F K/\ShO o l L t K:=by
 have hs:=h.step;have hd0:=h.d0;have hd1:=h.d1;have he0:=h.e0;have he1:=h.e1;obtain⟨v0,hH,hv⟩:=recH ht h (k:=0) omg_ omg_;have hstep:j7t (L.1,L.2.1,(L.2.2.1.1,L.2.2.1.2),L.2.2.2.1,L.2.2.2.2.1,L.2.2.2.2.2.1,L.2.2.2.2.2.2.1,L.2.2.2.2.2.2.2.1,L.2.2.2.2.2.2.2.2)=_:=jmw h;simp only[j4b,show j1R (o,l) (L.1,L.2.1,(L.2.2.1.1,L.2.2.1.2),L.2.2.2.1,L.2.2.2.2.1,L.2.2.2.2.2.1,L.2.2.2.2.2.2.1,L.2.2.2.2.2.2.2.1,L.2.2.2.2.2.2.2.2) 0=_ from hH,hstep,j0];cases hx:hO o l L 0 with
 |none=>simp only[Á,À,j4];exact⟨-1,rfl,.inl ⟨rfl,λ⟨y,hy,_⟩=>by simp_all⟩⟩
 |some v=>
  have:=hv v hx;subst this;simp only[O,U,j5];by_cases hc:v0>t
  .rw[j00 hc,j4];exact⟨-1,rfl,.inl ⟨rfl,λ⟨y,hy,hyt⟩=>by grind⟩⟩
  .rw[j01 hc,j5];have hq:QO o l L t 0:=⟨v0,hx,omg_⟩;have hva:=jsF ht h (k:=0) omg_ hx;by_cases h0:L.2.2.2.1=0
   .obtain⟨s1,s2,s3⟩:=jmx (o:=o) (l:=l) h h0 htt (jpD h0 hx) omg_ hva.1;simp(disch:=omega)only[H,S0];exact⟨_,rfl,s1⟩
   .obtain⟨j,hj,j1,j2⟩:=jfE ht h0t htt;have o0:=ht.of0 j hj;have o1:=ht.of1 j hj;rw[j55 h0,j5,jiM ht hj j1 j2];simp only[j0];generalize hld:(t+tof o l j)/86400=ld;rw[j55 (show¬j3A L=0 by omega),j0d (x:=ld-L.2.2.1.1)];simp only[À,j4]
    obtain⟨n,hn,hn2⟩:∃n:I,(if w64 (Ì (ld-L.2.2.1.1) (j3A L))>0 then w64 (Ì (ld-L.2.2.1.1) (j3A L)) else 0)=(n:A)/\(n:A)<=8589934592:=by
     by_cases hneg:0<=ld-L.2.2.1.1
     .rw[H hneg];have q0:0<=(ld-L.2.2.1.1)/j3A L:=X hneg omg_;have q1:(ld-L.2.2.1.1)/j3A L<=ld-L.2.2.1.1:=W _ hneg;rw[j0d];refine⟨((ld-L.2.2.1.1)/j3A L).toNat,?_,?_⟩
      .split<;>omega
      .omega
     .have e:Ì (ld-L.2.2.1.1) (j3A L) = -((-(ld-L.2.2.1.1))/j3A L):=by grind[Int.neg_tdiv]
      have q0:0<=(-(ld-L.2.2.1.1))/j3A L:=X omg_ omg_;have q1:(-(ld-L.2.2.1.1))/j3A L <= -(ld-L.2.2.1.1):=W _ omg_;simp(disch:=omega)only[if_neg,S0];grind
    rw[hn];obtain⟨k,e,k0,k1⟩:=ju9 ht h (Õ _) hq n hn2;have hkb:=k1;obtain⟨y,hy,_⟩:=hkb;have hkk:=jsF ht h k0 hy;obtain⟨K,e2,K0,K1,K2⟩:=jua ht h (t:=t) (2386093-k).toNat k omg_ k0 k1;simp only[e,j0,e2];exact⟨K,rfl,.inr ⟨K0,K1,K2⟩⟩
def tb(z:j0O):A×TrL:=(z.2.1,outT z.2.1 (j4z (occs z.2.2)))
theorem ZOk.ztab{z:j0O}(h:ZOk z):ZTab z (tb z).2:=MZ.tab (o:=z.2.1) (rs:=z.2.2) h z.1
theorem ZOk.zdif{z:j0O}(h:ZOk z):Dif z.2.1 (tb z).2:=jlB _ _ _ (MZ.good h)
theorem ZOk.zref{z:j0O}(h:ZOk z):ZTab z (tb z).2/\Z4 z (tb z).2/\Dif z.2.1 (tb z).2:=⟨h.ztab,MZ.r4 (o:=z.2.1) (rs:=z.2.2) h z.1,h.zdif⟩
theorem jpE{zs:E j0O}(h:∀z∈zs,ZOk z)(hl:zs.length<=100):∀(n i:I),i+n=zs.length->j7z zs (zs.length:A) (i:A) ((zs.take i).map tb)=F (zs.map tb)
 |0,i,hi=>by
  rw[ja9];simp(disch:=omega)only[j3N,List.take_of_length_le,S0]
 |n+1,i,hi=>by
  have hlt:i<zs.length:=omg_;have hgd:zs.getD i (D,0,[])=zs[i]:=by simp[hlt]
  have ht:=juK (h zs[i] (S hlt)).ztab;have ih:=jpE h hl n (i+1) omg_;rw[List.take_add_one,Æ hlt,List.map_append]at ih;rw[ja9];simp(disch:=omega)only[j3N,show jgm (zs[i].1,zs[i].2.1,zs[i].2.2)=_ from ht,S0];rw[j00 (by simp[j06];omega),j4,j08];exact ih
theorem jsJ{zs:E j0O}(h:∀z∈zs,ZOk z)(hl:zs.length<=100){ps:E j0r}{cs:E CalT}{ss:E j0q}:jdC (zs,ps,cs,ss)=F ((zs,ps,cs,ss),zs.map tb):=by
 have lp:=jpE h hl zs.length 0 omg_;simp(disch:=omega)only[jdC,jcX,S0];rw[show j7z zs (zs.length:A) 0 []=_ from lp];rfl
theorem jrs{zs:E j0O}{i:A}(h0:0<=i)(h1:i<(zs.length:A)):Ã (zs.map tb) i.toNat (0,[])=tb (zs.getD i.toNat (D,0,[])):=by
 have hlt:i.toNat<zs.length:=omg_;simp[Â,hlt]
theorem zget{zs:E j0O}(h:∀z∈zs,ZOk z){i:A}(h0:0<=i)(h1:i<(zs.length:A)):ZOk (zs.getD i.toNat (D,0,[])):=by
 have hlt:i.toNat<zs.length:=omg_;rw[Â,Æ hlt];exact h _ (S hlt)
theorem jqY(a b:A):j9w a b=F (G (a<b)):=by
 simp only[j9w,j8t,j0,bne_self_eq_false,j5]
theorem jsK{ds:E A}(hs:ds.Pairwise (· < ·))(hl:ds.length<=64){x:A}:∀(n a b:I),b-a<=n->a<=b->b<=ds.length->(∀i,(hi:i<ds.length)->i<a->ds[i]<x)->(∀i,(hi:i<ds.length)->b<=i->x<=ds[i])->
  ∃k:I,j2Z ds x (ds.length:A) (a:A) (b:A)=F (ds,x,(ds.length:A),(k:A))/\k<=ds.length/\(∀i,(hi:i<ds.length)->i<k->ds[i]<x)/\∀i,(hi:i<ds.length)->k<=i->x<=ds[i]
 |n,a,b,hn,hab,hb,h1,h2=>by
  rw[j6O];simp only[j1d];by_cases hlt:a<b
  .have hm:IntKind.wrap .u64 ((a:A)+(b:A))=(a:A)+(b:A):=IntWalk.u64_in _ ⟨omg_,omg_⟩;have hd:Int.fdiv ((a:A)+(b:A)) 2=(((a+b)/2:I):A):=by rw[Int.fdiv_eq_ediv_of_nonneg _ omg_];omega
   have hml:(a+b)/2<ds.length:=omg_;have hgd:ds.getD ((a+b)/2) (0:A)=ds[(a+b)/2]:=by simp[hml]
   simp(disch:=omega)only[hm,hd,jqY,S0];cases n with
   |zero=>omega
   |succ n=>
    by_cases hc:ds[(a+b)/2]<x
    .rw[j00 hc,j4,j08];refine jsK hs hl n ((a+b)/2+1) b omg_ omg_ hb (λi hi hia=>?_) h2;by_cases he:i=(a+b)/2
     .subst he;exact hc
     .exact Int.lt_trans (List.pairwise_iff_getElem.1 hs i ((a+b)/2) hi hml omg_) hc
    .rw[j01 hc,j5,j08];refine jsK hs hl n a ((a+b)/2) omg_ omg_ omg_ h1 (λi hi hia=>?_);by_cases he:i=(a+b)/2
     .subst he;exact Int.not_lt.1 hc
     .exact Ñ (Int.not_lt.1 hc) (Ò (List.pairwise_iff_getElem.1 hs ((a+b)/2) i hml hi omg_))
  .have:a=b:=omg_;subst this;rw[j01 omg_,j5,j0f];exact⟨a,rfl,hb,h1,h2⟩
theorem juO{ds:E A}(hs:ds.Pairwise (· < ·))(hl:ds.length<=64)(x:A):∃i,j1v ds x=F (i,G (x∈ds)):=by
 obtain⟨k,e,hk,h1,h2⟩:=jsK hs hl (x:=x) ds.length 0 ds.length omg_ omg_ (È _) (λi _ h=>omg_) (λi hi h=>omg_);rw[show ((0:I):A)=0 from rfl]at e;simp only[j1v,show J ds.length=(ds.length:A) from rfl,e,j0,j6];by_cases hkl:k<ds.length
 .have hgd:ds.getD k (0:A)=ds[k]:=by simp[hkl]
  rw[j1g,j00 (show (k:A)<(ds.length:A) by omega),hgd];simp only[Bool.true_or,j4];by_cases hx:ds[k]=x
  .rw[j9g hx];rw[j00 (show x∈ds from hx▸S hkl)];exact⟨_,rfl⟩
  .rw[j55 hx]
   have hn:¬x∈ds:=by
    intro hm;obtain⟨i,hi,rfl⟩:=É hm;rcases Nat.lt_trichotomy i k with h|h|h
    .have:=h1 i hi h;omega
    .subst h;exact hx rfl
    .have a1:=h2 k hkl (È _);have a2:=List.pairwise_iff_getElem.1 hs k i hkl hi h;omega
   rw[j01 hn];simp only[j5,j6g,j0,bne_self_eq_false];exact⟨_,rfl⟩
 .have hn:¬x∈ds:=by intro hm;obtain⟨i,hi,rfl⟩:=É hm;have:=h1 i hi omg_;omega
  rw[j01 hn,j01 (show¬(k:A)<(ds.length:A) by omega)];simp only[À,Bool.or_true,j4,j5,Î];exact⟨_,rfl⟩
def okW(w:WL)(s:A):Bool:=cond (G ((w.length:A)>0)) (hasB s w) R
section
variable{zs:E j0O}{ps:E j0r}{cs:E CalT}{ss:E j0q}(hz:∀z∈zs,ZOk z)
include hz
theorem jub{L:j0c}(hL:LC1 zs.length ps.length cs.length L)(hRt:Rt L){t:A}(h0:0<=t)(h1:t<=8589934592){z:j0O}(hzz:zs.getD L.2.1.toNat (D,0,[])=z)
  {s:A}{d:A×A}(hd:j0N (tb z) t=F d)(hs:j3y d=F s){K:A}(hK:j4b (tb z) L t=F K)(b:Bool)
  (hcal:L.2.2.2.2.2.2.2.2=0->b=R)(hcal2:L.2.2.2.2.2.2.2.2≠0->∃x:CalT,cs.getD L.2.2.2.2.2.2.2.1.toNat (D,0,[])=x/\CCk zs.length x/\∃d',j0N (tb (zs.getD x.2.1.toNat (D,0,[]))) t=F d'/\b=(G (d'.1∈x.2.2)==(L.2.2.2.2.2.2.2.2==(2:A)))) :
  ∃r,j3D ((zs,ps,cs,ss),zs.map tb) L t=F (r,cond (G (0<=K)) (cond (okW L.2.2.2.2.2.2.1 s) b Ç) Ç)/\(cond (G (0<=K)) (cond (okW L.2.2.2.2.2.2.1 s) b Ç) Ç=R->r=K):=by
 have _:=hz;have _:=hRt;have hwl:=hL.wl;have hlen:(zs.map tb).length=zs.length:=List.length_map ..;have hg:=jrs (zs:=zs) hL.z0 hL.z1;rw[hzz]at hg;simp only[j3D,j6P];rw[j01 (show¬t<0 by omega),j01 (show¬t>8589934592 by omega),j2M hL.z0 (by rw[hlen];exact hL.z1)];simp only[j5,j4,hg];rw[show j4b ((tb z).1,(tb z).2) (L.1,L.2.1,(L.2.2.1.1,L.2.2.1.2),L.2.2.2.1,L.2.2.2.2.1,L.2.2.2.2.2.1,L.2.2.2.2.2.2.1,L.2.2.2.2.2.2.2.1,L.2.2.2.2.2.2.2.2) t=_ from hK];simp only[j0];by_cases hk:0<=K
 .rw[j01 (show¬K<0 by omega),j00 hk];simp only[j5,j4,show J L.2.2.2.2.2.2.1.length=(L.2.2.2.2.2.2.1.length:A) from rfl]
  have tail:∃r,(cond (L.2.2.2.2.2.2.2.2==(0:A)) (F (K,R)) (cond (inR L.2.2.2.2.2.2.2.1 cs.length) (cond (inR (cs.getD L.2.2.2.2.2.2.2.1.toNat (D,0,[])).2.1 (zs.map tb).length) ((j0N ((Ã (zs.map tb) (cs.getD L.2.2.2.2.2.2.2.1.toNat (D,(0:A),([]:E A))).2.1.toNat (0,[])).1,(Ã (zs.map tb) (cs.getD L.2.2.2.2.2.2.2.1.toNat (D,(0:A),([]:E A))).2.1.toNat (0,[])).2) t).bind λr68=>
    (j1v (cs.getD L.2.2.2.2.2.2.2.1.toNat (D,0,[])).2.2 r68.1).bind λr70=>F (K,(r70.2==(L.2.2.2.2.2.2.2.2==(2:A))))) Í) Í))=F (r,b)/\(b=R->r=K):=by
   by_cases hm:L.2.2.2.2.2.2.2.2=0
   .rw[j9g hm,j4,hcal hm];exact⟨K,rfl,λ_=>rfl⟩
   .obtain⟨x,hx,hxc,d',hd',hb⟩:=hcal2 hm;have hc:=hL.cal hm;obtain⟨i,hi⟩:=juO hxc.asc hxc.len d'.1;have hg2:=jrs (zs:=zs) hxc.z0 hxc.z1;rw[j55 hm,j5,j2M hc.1 hc.2,hx,j2M hxc.z0 (by rw[hlen];exact hxc.z1)];simp only[j4,hg2];rw[show j0N ((tb (zs.getD x.2.1.toNat (D,0,[]))).1,(tb (zs.getD x.2.1.toNat (D,0,[]))).2) t=_ from hd'];simp only[j0,hi];rw[<-hb];exact⟨K,rfl,λ_=>rfl⟩
  by_cases hw:(L.2.2.2.2.2.2.1.length:A)>0
  .rw[j00 hw,j4,show j0N ((tb z).1,(tb z).2) t=_ from hd];simp only[j0,show j3y (d.1,d.2)=_ from hs,ju3 hwl,okW];rw[j00 hw,j4];cases hh:hasB s L.2.2.2.2.2.2.1 with
   |true=>simp only[U,j5,j4];exact tail
   |false=>exact⟨0,rfl,λh=>by simp at h⟩
  .simp only[okW];rw[j01 hw];simp only[j5,j4];exact tail
 .rw[j00 (show K<0 by omega),j01 hk];exact⟨0,rfl,λh=>by simp at h⟩
def whoL(L:j0c)(K:A):Int:=L.2.2.2.2.2.1.getD (Ô K (L.2.2.2.2.2.1.length:A)).toNat 0
omit hz in
theorem jqZ{v:CfgT×E (A×TrL)}{L:j0c}{t r K:A}{b:Bool}(hm:L.2.2.2.2.2.1.length≠0)(e:j3D v L t=F (r,b))(hr:b=R->r=K)(hK:b=R->0<=K) :
  j1S v L t=F (cond b (whoL L K) (-1)):=by
 simp only[j1S,show j3D ((v.1.1,v.1.2.1,v.1.2.2.1,v.1.2.2.2),v.2) (L.1,L.2.1,(L.2.2.1.1,L.2.2.1.2),L.2.2.2.1,L.2.2.2.2.1,L.2.2.2.2.2.1,L.2.2.2.2.2.2.1,L.2.2.2.2.2.2.2.1,L.2.2.2.2.2.2.2.2) t=_ from e,j0];cases b with
 |false=>rfl
 |true=>have:=hr rfl;subst this;have hk:=hK rfl;have q1:0<=Ô r (L.2.2.2.2.2.1.length:A):=Int.tmod_nonneg _ hk;have q2:Ô r (L.2.2.2.2.2.1.length:A)<(L.2.2.2.2.2.1.length:A):=Int.tmod_lt_of_pos _ omg_;simp only[U,j5,j4,show J L.2.2.2.2.2.1.length=(L.2.2.2.2.2.1.length:A) from rfl,whoL];rw[j55 (show¬(L.2.2.2.2.2.1.length:A)=0 by omega),j2M q1 q2];rfl
end
theorem juc{z:j0O}(hz:ZOk z){t:A}(h0:0<=t)(h1:t<=8589934592):∃d s,j0N (tb z) t=F d/\j3y d=F s:=by
 have ht:=hz.ztab;obtain⟨j,hj,j1,j2⟩:=jfE ht.2 h0 h1;have o0:=ht.2.of0 j hj;have o1:=ht.2.of1 j hj;obtain⟨s,hs⟩:∃s,j3y ((t+tof z.2.1 (tb z).2 j)/86400,(t+tof z.2.1 (tb z).2 j)%86400)=F s:=by simp only[j3y,jhL,j0];exact⟨_,rfl⟩
 exact⟨_,s,jiM ht.2 hj j1 j2,hs⟩
abbrev SL:=E (A×A)
def inS(x:A)(l:SL):Prop:=∃s∈l,s.1<=x/\x<s.2
def StS(p:A):SL->Prop
 |[]=>True
 |x::r=>p<x.1/\x.1<x.2/\StS x.2 r
section
variable{o:A}{l:TrL}(h:TOk o l)
include h
end
theorem StS.weak{p q:A}(hq:q<=p):∀{l:SL},StS p l->StS q l
 |[],_=>trivial
 |_::_,h=>⟨by have:=h.1;omega,h.2⟩
theorem StS.mem{p:A}:∀{l:SL},StS p l->∀s∈l,p<s.1/\s.1<s.2
 |[],_,s,hs=>by simp at hs
 |u::r,h,s,hs=>by
  rcases List.mem_cons.1 hs with rfl|hs
  .exact⟨h.1,h.2.1⟩
  .have:=StS.mem h.2.2 s hs;have:=h.1;have:=h.2.1;omega
section
variable{B:SL}(hB:B.length<=10000000)
include hB
end
set_option linter.unusedSectionVars false
section
variable{l:SL}{p:A}(h:StS p l)(hp : -1<=p)(hl:l.length<=4096)(hb:∀u∈l,u.2<=8589934592)
include h hp hl hb
end
set_option linter.unusedSectionVars false
def InO(p:A):SL->Prop
 |[]=>True
 |x::r=>p<=x.1/\x.1<x.2/\InO x.2 r
theorem InO.weak{p q:A}(hq:q<=p):∀{l:SL},InO p l->InO q l
 |[],_=>trivial
 |_::_,h=>⟨by have:=h.1;omega,h.2⟩
section
variable{zs:E j0O}{ps:E j0r}{cs:E CalT}(hs:GOk zs ps cs)
include hs
end
def jfo(es:E j0H)(p t:A):Bool:=es.any λx=>x.1==0&&(x.2.1==p&&(G (x.2.2.2.1<=t)&&G (t<x.2.2.2.2)))
theorem jud{es:E j0H}{p t:A}(hl:es.length<=1000):∀(n i:I),i+n=es.length->∃r,j13 es p t (es.length:A) (i:A)=F r/\
  match r with
  |.inl k=>0<=k/\jfo (es.drop i) p t=R
  |.inr _=>jfo (es.drop i) p t=Ç
 |0,i,hi=>by
  rw[j2V];simp only[j0z];rw[j01 omg_,j5,j0f,List.drop_of_length_le omg_];exact⟨_,rfl,rfl⟩
 |n+1,i,hi=>by
  have hlt:i<es.length:=omg_;have hgd:es.getD i (0,0,0,0,0)=es[i]:=by simp[Ã,hlt]
  rw[j2V];simp only[j0z,jaG];rw[j00 omg_,j1g,j0d (x:=(i:A)+1)];simp only[j4,j6,hgd,j0];rw[List.drop_eq_getElem_cons hlt];have e:(cond (cond (cond (es[i].1==(0:A)) (es[i].2.1==p) Ç) (G (es[i].2.2.2.1<=t)) Ç) (G (t<es[i].2.2.2.2)) Ç)=(es[i].1==0&&(es[i].2.1==p&&(G (es[i].2.2.2.1<=t)&&G (t<es[i].2.2.2.2)))):=by cases es[i].1==(0:A)<;>cases es[i].2.1==p<;>cases G (es[i].2.2.2.1<=t)<;>rfl
  rw[e];have ha:jfo (es[i]::es.drop (i+1)) p t=((es[i].1==0&&(es[i].2.1==p&&(G (es[i].2.2.2.1<=t)&&G (t<es[i].2.2.2.2))))||jfo (es.drop (i+1)) p t):=rfl;rw[ha];cases hx:(es[i].1==0&&(es[i].2.1==p&&(G (es[i].2.2.2.1<=t)&&G (t<es[i].2.2.2.2)))) with
  |true=>rw[j4,j0f];exact⟨_,rfl,omg_,rfl⟩
  |false=>rw[j5,j08];obtain⟨r,e1,e2⟩:=jud (es:=es) (p:=p) (t:=t) hl n (i+1) omg_;exact⟨r,e1,by simpa using e2⟩
theorem jsL{nm:Ä}{ls:E j0c}{es:E j0H}{p t:A}(hl:es.length<=1000):jch (nm,ls,es) p t=F (jfo es p t):=by
 obtain⟨r,e1,e2⟩:=jud (p:=p) (t:=t) hl es.length 0 omg_;simp only[jch,j1D,j2b,show J es.length=(es.length:A) from rfl];rw[show j13 es p t (es.length:A) 0=_ from e1];cases r with
 |inl k=>simp only[Ï]at e2;simp only[j0,j6J,e2.2];rw[j00 (show k>=0 from e2.1)]
 |inr u=>simp only[Ï]at e2;simp only[j0,j3Q,e2];rfl
def topI(good:I->Bool):I->M I
 |0=>Í
 |n+1=>cond (good n) (F n) (topI good n)
def jed(es:E j0H)(t:A)(Pf:I->A)(i:I):Bool:=G (0<=Pf i) && !jfo es (Pf i) t
theorem jrt{ls:E j0c}{zs:E j0O}{ps:E j0r}{cs:E CalT}{ss:E j0q}{tbs:E (A×TrL)}{nm:Ä}{es:E j0H}{t b6 b7:A}{Pf:I->A}(hl:es.length<=1000)
  (hP:∀i (h:i<ls.length),j1S ((zs,ps,cs,ss),tbs) ls[i] t=F (Pf i)):∀n:I,n<=ls.length->
  j6h (n:A) ls zs ps cs ss tbs nm ls es t b6 b7=F (match topI (jed es t Pf) n with|some i=> .inr ((i:A),Pf i)|none=> .inl (b6,b7))
 |0,hn=>by
  rw[j8T];simp only[j30];rw[j00 omg_,j4,j0f];rfl
 |n+1,hn=>by
  have hlt:n<ls.length:=omg_;have hgd:ls.getD n (D,0,(0,0),0,0,[],[],0,0)=ls[n]:=by simp[Ã,hlt]
  have ih:=jrt (nm:=nm) (b6:=b6) (b7:=b7) hl hP n omg_;have hp:=hP n hlt;rw[j8T];simp only[j30];rw[j01 omg_,j00 (show ((n+1:I):A)<=J ls.length by simp;omega),show ((n+1:I):A)-1=(n:A) by omega];simp only[j4,j5,j6,hgd];rw[show j1S ((zs,ps,cs,ss),tbs) (ls[n].1,ls[n].2.1,(ls[n].2.2.1.1,ls[n].2.2.1.2),ls[n].2.2.2.1,ls[n].2.2.2.2.1,ls[n].2.2.2.2.2.1,ls[n].2.2.2.2.2.2.1,ls[n].2.2.2.2.2.2.2.1,ls[n].2.2.2.2.2.2.2.2) t=_ from hp];simp only[j0,topI,jed];by_cases h0:0<=Pf n
  .rw[j01 (show¬Pf n<0 by omega),j00 h0];simp only[j5,jsL hl,j0,Bool.true_and];cases jfo es (Pf n) t with
   |true=>simp only[U,j5,j08];exact ih
   |false=>rfl
  .rw[j00 (show Pf n<0 by omega),j01 h0];simp only[j4,Î,j5,j08];exact ih
theorem jhQ{ls:E j0c}{zs:E j0O}{ps:E j0r}{cs:E CalT}{ss:E j0q}{tbs:E (A×TrL)}{nm:Ä}{es:E j0H}{t:A}{Pf:I->A}(hl:es.length<=1000)
  (hP:∀i (h:i<ls.length),j1S ((zs,ps,cs,ss),tbs) ls[i] t=F (Pf i)) :
  j5P ((zs,ps,cs,ss),tbs) (nm,ls,es) t=F (match topI (jed es t Pf) ls.length with|some i=>((i:A),Pf i)|none=>((-1:A),(-1:A))):=by
 have lp:=jrt (nm:=nm) (b6:=0) (b7:=0) hl hP ls.length (È _);simp only[j5P,j1Z,j0];rw[show j6h (J ls.length) ls zs ps cs ss tbs nm ls es t 0 0=_ from lp];cases topI (jed es t Pf) ls.length with
 |none=>rfl
 |some i=>rfl
section
variable{zs:E j0O}{ps:E j0r}{cs:E CalT}{ss:E j0q}
def topP(es:E j0H)(t:A)(Pf:I->A)(n:I):Int:=match topI (jed es t Pf) n with
 |some i=>Pf i
 |none=> -1
def topN(es:E j0H)(t:A)(Pf:I->A)(n:I):Int:=match topI (jed es t Pf) n with
 |some i=>i
 |none=> -1
end
instance(L:j0c):Decidable (Rt L):=
 decidable_of_iff (1<=L.2.2.1.1/\L.2.2.1.1<=100000/\0<=L.2.2.1.2/\L.2.2.1.2<=86399/\0<=L.2.2.2.1/\L.2.2.2.1<=2/\1<=L.2.2.2.2.1/\L.2.2.2.2.1<=400/\L.2.2.2.2.2.1≠[])
  ⟨λ⟨a,b,c,d,e,f,g,h,i⟩=>⟨a,b,c,d,e,f,g,h,i⟩,λ⟨a,b,c,d,e,f,g,h,i⟩=>⟨a,b,c,d,e,f,g,h,i⟩⟩
section
variable{z:j0O}{l:TrL}(h4:Z4 z l)
include h4
theorem jlE(L:j0c):jdL z L=F (if Rt L then 0 else 8):=by
 have hc:j5F (z.1,z.2.1,z.2.2)=F 0:=by simp only[j5F,show j0x (z.1,z.2.1,z.2.2)=_ from h4.1,j0]
 simp only[jdL,hc,j0,bne_self_eq_false,j5]
 have key:(cond (cond (cond (cond (cond (cond (cond (cond (G (L.2.2.1.1<1)) R (G (L.2.2.1.1>100000))) R (G (L.2.2.1.2<0))) R (G (L.2.2.1.2>=86400))) R (G (L.2.2.2.1<0))) R (G (L.2.2.2.1>2))) R (G (L.2.2.2.2.1<1))) R (G (L.2.2.2.2.1>400))) R (J L.2.2.2.2.2.1.length==0)) = !G (Rt L):=by
  have hlen:(J L.2.2.2.2.2.1.length==0)=G (L.2.2.2.2.2.1=[]):=by
   cases L.2.2.2.2.2.1 with
   |nil=>rfl
   |cons x r=>simp;omega
  rw[hlen];rw[Bool.eq_iff_iff];simp only[Bool.not_eq_true',decide_eq_false_iff_not];constructor
  .intro hh h;have a1:=h.d0;have a2:=h.d1;have a3:=h.c0;have a4:=h.c1;have a5:=h.u0;have a6:=h.u1;have a7:=h.e0;have a8:=h.e1;rw[j01 (show¬L.2.2.1.1<1 by omega),j01 (show¬L.2.2.1.1>100000 by omega),j01 (show¬L.2.2.1.2<0 by omega),j01 (show¬L.2.2.1.2>=86400 by omega),j01 (show¬L.2.2.2.1<0 by omega),j01 (show¬L.2.2.2.1>2 by omega),j01 (show¬L.2.2.2.2.1<1 by omega),j01 (show¬L.2.2.2.2.1>400 by omega),j01 h.m0]at hh;simp at hh
  .intro hn;by_cases a1:L.2.2.1.1<1
   .rw[j00 a1];rfl
   rw[j01 a1];by_cases a2:L.2.2.1.1>100000
   .rw[j00 a2];rfl
   rw[j01 a2];by_cases a3:L.2.2.1.2<0
   .rw[j00 a3];rfl
   rw[j01 a3];by_cases a4:L.2.2.1.2>=86400
   .rw[j00 a4];rfl
   rw[j01 a4];by_cases a5:L.2.2.2.1<0
   .rw[j00 a5];rfl
   rw[j01 a5];by_cases a6:L.2.2.2.1>2
   .rw[j00 a6];rfl
   rw[j01 a6];by_cases a7:L.2.2.2.2.1<1
   .rw[j00 a7];rfl
   rw[j01 a7];by_cases a8:L.2.2.2.2.1>400
   .rw[j00 a8];rfl
   rw[j01 a8];by_cases a9:L.2.2.2.2.2.1=[]
   .rw[j00 a9];rfl
   exact absurd ⟨omg_,omg_,omg_,omg_,omg_,omg_,omg_,omg_,a9⟩ hn
 rw[key];by_cases h:Rt L
 .rw[j00 h,if_pos h];rfl
 .rw[j01 h,if_neg h];rfl
end
theorem jru{z:j0O}{l:TrL}(hz:Z4 z l){L:j0c}(h:Rt L){t N:A}(hN:N<=8589934592):∀n:I,(n:A)<=N->
  ∃K:A,j6z t ((n:A)-1) z.1 z.2.1 z.2.2 L.1 L.2.1 L.2.2.1.1 L.2.2.1.2 L.2.2.2.1 L.2.2.2.2.1 L.2.2.2.2.2.1 L.2.2.2.2.2.2.1 L.2.2.2.2.2.2.2.1 L.2.2.2.2.2.2.2.2=F K/\
   (K = -1\/0<=K/\QO z.2.1 l L t K)/\K<n/\∀j:A,K<j->0<=j->j<n->¬QO z.2.1 l L t j
 |0,_=>by
  rw[jbY];simp(disch:=omega)only[j4v,S0];exact⟨_,rfl,.inl omg_,omg_,λj h1 h2 h3=>omg_⟩
 |n+1,hn=>by
  obtain⟨K,e,k0,k1,k2⟩:=jru hz h (t:=t) hN n omg_;obtain⟨v,hH,hv⟩:=r10H hz h (k:=(n:A)) omg_ omg_;rw[jbY,show ((n+1:I):A)-1=(n:A) by omega];simp(disch:=omega)only[j4v,show j7V (z.1,z.2.1,z.2.2) (L.1,L.2.1,(L.2.2.1.1,L.2.2.1.2),L.2.2.2.1,L.2.2.2.2.1,L.2.2.2.2.2.1,L.2.2.2.2.2.2.1,L.2.2.2.2.2.2.2.1,L.2.2.2.2.2.2.2.2) (n:A)=_ from hH,S0]
  have down:¬QO z.2.1 l L t (n:A)->(lpK (F (Sum.inl (t,(n:A)-1,z.1,z.2.1,z.2.2,L.1,L.2.1,L.2.2.1.1,L.2.2.1.2,L.2.2.2.1,L.2.2.2.2.1,L.2.2.2.2.2.1,L.2.2.2.2.2.2.1,L.2.2.2.2.2.2.2.1,L.2.2.2.2.2.2.2.2)):M ((A×A×Ä×A×E Rule×Ä×A×A×A×A×A×E A×WL×A×A) ⊕ A)) (λh=>j6z h.1 h.2.1 h.2.2.1 h.2.2.2.1 h.2.2.2.2.1 h.2.2.2.2.2.1 h.2.2.2.2.2.2.1 h.2.2.2.2.2.2.2.1 h.2.2.2.2.2.2.2.2.1 h.2.2.2.2.2.2.2.2.2.1 h.2.2.2.2.2.2.2.2.2.2.1 h.2.2.2.2.2.2.2.2.2.2.2.1 h.2.2.2.2.2.2.2.2.2.2.2.2.1 h.2.2.2.2.2.2.2.2.2.2.2.2.2.1 h.2.2.2.2.2.2.2.2.2.2.2.2.2.2))=F K/\∀j:A,K<j->0<=j->j<((n+1:I):A)->¬QO z.2.1 l L t j:=by
   intro hq;refine⟨by rw[j08];exact e,λj h1 h2 h3=>?_⟩;by_cases hjn:j<n
   .exact k2 j h1 h2 hjn
   .rw[show j=(n:A) by omega];exact hq
  cases hx:hO z.2.1 l L (n:A) with
  |none=>
   simp only[Á,j5];obtain⟨d1,d2⟩:=down λ⟨y,hy,_⟩=>by rw[hx]at hy;simp at hy
   exact⟨K,d1,k0,omg_,d2⟩
  |some x=>
   have:=hv x hx;subst this;simp only[O,j4];by_cases hc:v<=t
   .rw[j00 hc,j4,j0f];exact⟨_,rfl,.inr ⟨omg_,v,hx,hc⟩,omg_,λj h1 h2 h3=>omg_⟩
   .rw[j01 hc,j5];obtain⟨d1,d2⟩:=down λ⟨y,hy,hyt⟩=>by rw[hx]at hy;simp at hy;omega
    exact⟨K,d1,k0,omg_,d2⟩
theorem juP{z:j0O}{l:TrL}(hz:Z4 z l){L:j0c}(h:Rt L){t:A}(h0t:0<=t)(htt:t<=8589934592):∃K:A,jdN z L t=F K/\ShO z.2.1 l L t K:=by
 have hs:=h.step;have hd0:=h.d0;have hd1:=h.d1;have he0:=h.e0;have he1:=h.e1;have hc0:=h.c0;have hc1:=h.c1;simp only[jdN];by_cases h0:L.2.2.2.1=0
 .have hF:=jde hz (d:=L.2.2.1.1) (c:=L.2.2.1.2) omg_ hc0 hc1;have hs0:L.2.2.1.1*86400+L.2.2.1.2=sLoc L 0:=by unfold sLoc;omega
  rw[j9g h0,j4,show j4f (z.1,z.2.1,z.2.2) (L.2.2.1.1,L.2.2.1.2)=_ from hF,hs0];simp only[j0]
  have nq:(∀v,fO z.2.1 l (sLoc L 0)=F v->t<v)->¬QO z.2.1 l L t 0:=by
   rintro hn ⟨y,hy,hyt⟩
   have:=hn y (jpD h0 hy);omega
  cases hf:fO z.2.1 l (sLoc L 0) with
  |none=>exact⟨-1,rfl,.inl ⟨rfl,nq λv hv=>by rw[hf]at hv;simp at hv⟩⟩
  |some v=>
   have hva:=jnA hz.2 hf;simp only[beq_self_eq_true,j4];by_cases hc:v<=t
   .obtain⟨s1,s2,s3⟩:=jmx (o:=z.2.1) (l:=l) h h0 htt hf hc hva.2.1;simp(disch:=omega)only[H,S0];exact⟨_,rfl,s1⟩
   .rw[j01 hc];exact⟨-1,rfl,.inl ⟨rfl,nq λv' hv=>by rw[hf]at hv;simp at hv;omega⟩⟩
 .obtain⟨j,hj,j1,j2⟩:=jfE hz.2 h0t htt;have o0:=hz.2.of0 j hj;have o1:=hz.2.of1 j hj;have eT:=jmu hz (t:=t) h0t htt hj j1 j2;rw[j55 h0,j5,show j4m (z.1,z.2.1,z.2.2) t=_ from eT];simp only[j0];have hday:∀k:A,QO z.2.1 l L t k->L.2.2.1.1+k*j3A L<=(t+tof z.2.1 l j)/86400+2:=λk hq=>QO.day hz.2 h h0 hq hj;generalize hld:(t+tof z.2.1 l j)/86400=ld at hday;rw[j0d (x:=ld+2),j0d (x:=ld+2-L.2.2.1.1)]
  have fin:∀st:A,st=j3A L->∃K:A,((j6z t (w64 (Ì (if (0:A)>ld+2-L.2.2.1.1 then (0:A) else ld+2-L.2.2.1.1) st)) z.1 z.2.1 z.2.2 L.1 L.2.1 L.2.2.1.1 L.2.2.1.2 L.2.2.2.1 L.2.2.2.2.1 L.2.2.2.2.2.1 L.2.2.2.2.2.2.1 L.2.2.2.2.2.2.2.1 L.2.2.2.2.2.2.2.2).bind λq0=>F q0)=F K/\ShO z.2.1 l L t K:=by
   rintro st rfl
   obtain⟨m,hm,hm0,hm1⟩:∃m:A,(if (0:A)>ld+2-L.2.2.1.1 then (0:A) else ld+2-L.2.2.1.1)=m/\0<=m/\m<=1000000:=⟨_,rfl,by split<;>omega,by split<;>omega⟩;have hml:ld+2-L.2.2.1.1<=m:=by rw[<-hm];split<;>omega
   rw[hm,H hm0];have q0:0<=m/j3A L:=X hm0 omg_;have q1:m/j3A L<=m:=W _ hm0;have q2:m<j3A L*(m/j3A L)+j3A L:=Å omg_;rw[j0d];generalize m/j3A L=km at *;obtain⟨K,e,k0,k1,k2⟩:=jru hz h (t:=t) (Õ _) (km+1).toNat omg_;rw[show (((km+1).toNat:I):A)-1=km by omega]at e;rw[e];refine⟨K,rfl,?_⟩
   have top:¬QO z.2.1 l L t (K+1):=by
    by_cases hK:K+1<=km
    .exact k2 (K+1) omg_ (by rcases k0 with k0|k0<;>omega) omg_
    .intro hq;have hd:=hday _ hq;have hkk:K=km:=omg_;rw[hkk,Int.add_mul,Int.one_mul]at hd;have:j3A L*km=km*j3A L:=Ó _ _;omega
   rcases k0 with k0|k0
   .subst k0;exact .inl ⟨rfl,top⟩
   .exact .inr ⟨k0.1,k0.2,top⟩
  by_cases h2:L.2.2.2.1=2
  .have hsd:j3A L=7*L.2.2.2.2.1:=by unfold j3A;rw[if_pos h2]
   simp(disch:=omega)only[S0];exact fin _ (by rw[hsd,Ó])
  .have hsd:j3A L=L.2.2.2.2.1:=by unfold j3A;rw[if_neg h2]
   simp(disch:=omega)only[S0];exact fin _ hsd.symm
abbrev SgT:=A×A×A
abbrev SgL:=E SgT
def Ch(f:A->A)(b:A):A->SgL->Prop
 |a,[]=>a=b
 |a,s::r=>s.1=a/\a<=s.2.1/\(∀t,a<=t->t<s.2.1->f t=s.2.2)/\Ch f b s.2.1 r
def Cov(f:A->A)(b:A):M A->A->SgL->Prop
 |_,a,[]=>a=b
 |q,a,s::r=>s.1=a/\a<s.2.1/\q≠F s.2.2/\(∀t,a<=t->t<s.2.1->f t=s.2.2)/\Cov f b (F s.2.2) s.2.1 r
theorem Ch.le{f:A->A}{b:A}:∀{l:SgL}{a:A},Ch f b a l->a<=b
 |[],_,h=>Int.le_of_eq h
 |_::_,_,h=>Ñ h.2.1 h.2.2.2.le
theorem Ch.app{f:A->A}{b c:A}:∀{l r:SgL}{a:A},Ch f b a l->Ch f c b r->Ch f c a (l++r)
 |[],_,_,h,h'=>by have h:_=_:=h;subst h;exact h'
 |_::_,_,_,h,h'=>⟨h.1,h.2.1,h.2.2.1,h.2.2.2.app h'⟩
theorem Ch.snoc{f:A->A}{b c p:A}{l:SgL}{a:A}(h:Ch f b a l)(hbc:b<=c)(hp:∀t,b<=t->t<c->f t=p):Ch f c a (l++[(b,c,p)]):=
 h.app ⟨rfl,hbc,hp,rfl⟩
theorem Cov.ch{f:A->A}{b:A}:∀{l:SgL}{q:M A}{a:A},Cov f b q a l->Ch f b a l
 |[],_,_,h=>h
 |_::_,_,_,h=>⟨h.1,Ò h.2.1,h.2.2.2.1,h.2.2.2.2.ch⟩
theorem Cov.uniq{f:A->A}{b:A}:∀{l l':SgL}{q:M A}{a:A},Cov f b q a l->Cov f b q a l'->l=l'
 |[],[],_,_,_,_=>rfl
 |[],_::_,_,_,h,h'=>by have:=h'.2.1;have:=h'.2.2.2.2.ch.le;have h:_=_:=h;omega
 |_::_,[],_,_,h,h'=>by have:=h.2.1;have:=h.2.2.2.2.ch.le;have h':_=_:=h';omega
 |s::r,s'::r',q,a,h,h'=>by
  obtain⟨h1,h2,h3,h4,h5⟩:=h;obtain⟨g1,g2,g3,g4,g5⟩:=h';have hp:s.2.2=s'.2.2:=by grind
  have ht:s.2.1=s'.2.1:=by
   apply Classical.byContradiction;intro hne;by_cases hlt:s.2.1<s'.2.1
   .match r,h5 with
    |[],h5=>have:=g5.ch.le;have h5:_=_:=h5;omega
    |u::v,h5=>have e1:=h5.2.2.2.1 s.2.1 omg_ h5.2.1;have e2:=g4 s.2.1 omg_ hlt;exact h5.2.2.1 (by rw[<-e1,e2,hp])
   .match r',g5 with
    |[],g5=>have:=h5.ch.le;have g5:_=_:=g5;omega
    |u::v,g5=>have e1:=g5.2.2.2.1 s'.2.1 omg_ g5.2.1;have e2:=h4 s'.2.1 omg_ omg_;exact g5.2.2.1 (by rw[<-e1,e2,hp])
  have hs:s=s':=Prod.ext (by rw[h1,g1]) (Prod.ext ht hp);subst hs;rw[h5.uniq g5]
def lstP:M A->SgL->M A
 |q,[]=>q
 |_,s::r=>lstP (F s.2.2) r
theorem jkt:∀(l:SgL)(q:M A)(s:SgT),lstP q (l++[s])=F s.2.2
 |[],_,_=>rfl
 |_::r,_,s=>jkt r _ s
theorem Cov.snoc{f:A->A}{b c p:A}:∀{l:SgL}{q:M A}{a:A},Cov f b q a l->b<c->lstP q l≠F p->(∀t,b<=t->t<c->f t=p)->Cov f c q a (l++[(b,c,p)])
 |[],_,_,h,hbc,hl,hp=>by have h:_=_:=h;subst h;exact⟨rfl,hbc,hl,hp,rfl⟩
 |_::_,_,_,h,hbc,hl,hp=>⟨h.1,h.2.1,h.2.2.1,h.2.2.2.1,h.2.2.2.2.snoc hbc hl hp⟩
theorem Cov.ext{f:A->A}{b c x p:A}:∀{l:SgL}{q:M A}{a:A},Cov f b q a (l++[(x,b,p)])->b<=c->(∀t,b<=t->t<c->f t=p)->Cov f c q a (l++[(x,c,p)])
 |[],_,_,h,hbc,hp=>⟨h.1,by have:=h.2.1;grind,h.2.2.1,λt h1 h2=>by
  by_cases ht:t<b
  .exact h.2.2.2.1 t h1 ht
  simp_all,rfl⟩
 |_::_,_,_,h,hbc,hp=>⟨h.1,h.2.1,h.2.2.1,h.2.2.2.1,h.2.2.2.2.ext hbc hp⟩
def mgA(out:SgL)(s:SgT):SgL:=
 if s.2.1<=s.1 then out else match out.getLast? with
  |some x=>if x.2.1=s.1/\x.2.2=s.2.2 then out.dropLast++[(x.1,s.2.1,x.2.2)] else out++[s]
  |none=>out++[s]
theorem jue{f:A->A}{a b:A}{out:SgL}(h:Cov f b Í a out){s:SgT}(h1:s.1=b)(h2:b<=s.2.1)(h3:∀t,b<=t->t<s.2.1->f t=s.2.2):Cov f s.2.1 Í a (mgA out s):=by
 obtain⟨x,y,p⟩:=s;dsimp only at h1 h2 h3 ⊢;subst h1;unfold mgA;dsimp only;by_cases hxy:y<=x
 .grind
 .rw[if_neg hxy];rcases List.eq_nil_or_concat out with rfl|⟨l,u,rfl⟩
  .exact h.snoc omg_ (by simp[lstP]) h3
  .rw[List.concat_eq_append]at h ⊢;rw[List.getLast?_append];simp only[List.getLast?_singleton,Option.some_or];by_cases hu:u.2.1=x/\u.2.2=p
   .rw[if_pos hu,List.dropLast_concat];obtain⟨u1,u2,u3⟩:=u;dsimp only at hu ⊢;obtain⟨rfl,rfl⟩:=hu;exact h.ext h2 h3
   .rw[if_neg hu];refine h.snoc omg_ ?_ h3;rw[jkt];intro e;have hp:u.2.2=p:=by simpa using e
    refine hu ⟨?_,hp⟩
    have:∀(l:SgL)(q:M A)(a:A),Cov f x q a (l++[u])->u.2.1=x:=by
     intro l;induction l with
     |nil=>intro q a h;exact h.2.2.2.2
     |cons v r ih=>intro q a h;exact ih _ _ h.2.2.2.2
    exact this l _ _ h
theorem jrv{f:A->A}{b:A}:∀(l:SgL){a c:A}{out:SgL},Cov f c Í a out->Ch f b c l->Cov f b Í a (l.foldl mgA out)
 |[],_,_,_,h,h'=>by have h':_=_:=h';subst h';exact h
 |s::r,_,_,_,h,h'=>jrv r (jue h h'.1 h'.2.1 h'.2.2.1) h'.2.2.2
theorem Ch.cov{f:A->A}{a b:A}{l:SgL}(h:Ch f b a l):Cov f b Í a (l.foldl mgA []):=jrv l (show Cov f a Í a [] from rfl) h
theorem Ch.mem{f:A->A}{b:A}:∀{l:SgL}{a:A},Ch f b a l->∀s∈l,a<=s.1/\s.1<=s.2.1/\s.2.1<=b/\∀t,s.1<=t->t<s.2.1->f t=s.2.2
 |[],_,_,s,hs=>by simp at hs
 |u::r,a,h,s,hs=>by
  obtain⟨h1,h2,h3,h4⟩:=h;rcases List.mem_cons.1 hs with rfl|hs
  .exact⟨omg_,omg_,h4.le,λt t1 t2=>h3 t omg_ t2⟩
  .have:=h4.mem s hs;grind
theorem Ch.has{f:A->A}{b:A}:∀{l:SgL}{a:A},Ch f b a l->∀x,a<=x->x<b->∃s∈l,s.1<=x/\x<s.2.1
 |[],_,h,x,h1,h2=>by have h:_=_:=h;omega
 |u::r,a,h,x,h1,h2=>by
  obtain⟨g1,g2,g3,g4⟩:=h;by_cases hx:x<u.2.1
  .simp_all
  .obtain⟨s,hs,e⟩:=g4.has x omg_ h2;grind
theorem Ch.congr{f g:A->A}{b:A}:∀{l:SgL}{a:A},Ch f b a l->(∀t,a<=t->t<b->f t=g t)->Ch g b a l
 |[],_,h,_=>h
 |u::r,a,h,hg=>by
  obtain⟨g1,g2,g3,g4⟩:=h;have:=g4.le;exact⟨g1,g2,λt t1 t2=>by grind,g4.congr (λt t1 t2=>hg t omg_ t2)⟩
theorem Cov.pos{f:A->A}{b:A}:∀{l:SgL}{q:M A}{a:A},Cov f b q a l->∀s∈l,s.1<s.2.1
 |[],_,_,_,s,hs=>by simp at hs
 |u::r,_,a,h,s,hs=>by
  rcases List.mem_cons.1 hs with rfl|hs
  .have:=h.1;have:=h.2.1;omega
  .exact h.2.2.2.2.pos s hs
section
variable{zs:E j0O}{ps:E j0r}{cs:E CalT}(hs:GOk zs ps cs)
include hs
omit hs in
def zAt(zs:E j0O)(i:A):j0O:=zs.getD i.toNat (D,0,[])
omit hs in
def cAt(cs:E CalT)(i:A):CalT:=cs.getD i.toNat (D,0,[])
omit hs in
def locD(z:j0O)(t:A):A×Int:=(j0N (tb z) t).getD (0,0)
omit hs in
def secD(d:A×A):Int:=(j3y d).getD 0
omit hs in
def shK(z:j0O)(L:j0c)(t:A):Int:=(j4b (tb z) L t).getD (-1)
omit hs in
def calB(zs:E j0O)(cs:E CalT)(L:j0c)(t:A):Bool:=
 cond (L.2.2.2.2.2.2.2.2==0) R (G ((locD (zAt zs (cAt cs L.2.2.2.2.2.2.2.1).2.1) t).1∈(cAt cs L.2.2.2.2.2.2.2.1).2.2)==(L.2.2.2.2.2.2.2.2==(2:A)))
omit hs in
def onX(zs:E j0O)(cs:E CalT)(L:j0c)(t:A):Bool:=
 cond (G (0<=shK (zAt zs L.2.1) L t)) (cond (okW L.2.2.2.2.2.2.1 (secD (locD (zAt zs L.2.1) t))) (calB zs cs L t) Ç) Ç
omit hs in
def perX(zs:E j0O)(cs:E CalT)(L:j0c)(t:A):Int:=cond (onX zs cs L t) (whoL L (shK (zAt zs L.2.1) L t)) (-1)
omit hs in
theorem jlF{z:j0O}(hz:ZOk z){t:A}(h0:0<=t)(h1:t<=8589934592):j0N (tb z) t=F (locD z t)/\j3y (locD z t)=F (secD (locD z t)):=by
 grind[juc,locD,secD]
omit hs in
theorem jrw{z:j0O}(hz:ZOk z){L:j0c}(hR:Rt L){t:A}(h0:0<=t)(h1:t<=8589934592):j4b (tb z) L t=F (shK z L t)/\ShO z.2.1 (tb z).2 L t (shK z L t):=by
 obtain⟨K,e,hK⟩:=juN hz.ztab.2 hR h0 h1;grind[shK,tb]
omit hs in
theorem juQ{L:j0c}{t:A}(h:onX zs cs L t=R):0<=shK (zAt zs L.2.1) L t:=by
 grind[onX]
theorem juR{L:j0c}(hL:LC1 zs.length ps.length cs.length L){ss:E j0q}{t:A}(h0:0<=t)(h1:t<=8589934592) :
  (∃r,j3D ((zs,ps,cs,ss),zs.map tb) L t=F (r,onX zs cs L t))/\j1S ((zs,ps,cs,ss),zs.map tb) L t=F (perX zs cs L t)/\(onX zs cs L t=R->0<=shK (zAt zs L.2.1) L t):=by
 have hRt:=hL.rt2;have hz:=zget hs.ok hL.z0 hL.z1;obtain⟨hd,hsc⟩:=jlF hz h0 h1;obtain⟨eK,hK⟩:=jrw hz hRt h0 h1
 have hon:onX zs cs L t=R->0<=shK (zAt zs L.2.1) L t:=λh=>by
  by_cases hk:0<=shK (zAt zs L.2.1) L t
  .exact hk
  .unfold onX at h;rw[j01 hk]at h;simp at h
 obtain⟨r,er,hr⟩:=jub (ps:=ps) (ss:=ss) hs.ok hL hRt h0 h1 rfl hd hsc eK (calB zs cs L t) (λh=>by unfold calB;rw[j9g h];rfl) (λh=>⟨_,rfl,cget hs (hL.cal h).1 (hL.cal h).2,_,(jlF (zget hs.ok (cget hs (hL.cal h).1 (hL.cal h).2).z0 (cget hs (hL.cal h).1 (hL.cal h).2).z1) h0 h1).1,by
  unfold calB;rw[j55 h];rfl⟩)
 exact⟨⟨r,er⟩,jqZ hL.m0 er hr hon,hon⟩
end
section
variable{zs:E j0O}{ps:E j0r}{cs:E CalT}(hs:GOk zs ps cs)
include hs
end
section
variable{zs:E j0O}{ps:E j0r}{cs:E CalT}(hs:GOk zs ps cs)
include hs
end
theorem jmy{x y:Ä}(h:x≠y):(x.toList==y.toList)=false:=by
 rw[ByteArray.toList_eq,ByteArray.toList_eq];exact Bool.eq_false_iff.2 λhh=>h (Ù (Array.toList_inj.mp (eq_of_beq hh)))
theorem jpF:j8I=F 98980:=by kernel_rfl
section
variable{zs:E j0O}{ps:E j0r}{cs:E CalT}{ss:E j0q}
theorem jpG{w:WL}(h:WOk 0 w)(hl:w.length<=14):∀(n i:I),i+n=w.length->j7T w (i:A)=F (.inr ())
 |0,i,hi=>by
  rw[j6Y];simp(disch:=omega)only[j2U,S0]
 |n+1,i,hi=>by
  have hi':i<w.length:=omg_;have hg:=jpu h i hi';have ih:=jpG h hl n (i+1) omg_;rw[j6Y];simp only[j2U,show J w.length=(w.length:A) from rfl];rw[j00 omg_,j1g];simp only[j4,j6];rw[j01 (show¬(w.getD i (0,0)).1<0 by omega),j01 (show¬(w.getD i (0,0)).1>=(w.getD i (0,0)).2 by omega),j01 (show¬(w.getD i (0,0)).2>604800 by omega),j0d (x:=(i:A)+1)];simp only[j5];by_cases h0:(i:A)>0
  .obtain⟨k,rfl⟩:∃k,i=k+1:=⟨i-1,omg_⟩;have hgap:=jpv h k omg_;rw[j00 h0,j4,j0d (x:=((k+1:I):A)-1),show ((k+1:I):A)-1=(k:A) by omega,j2M (show (0:A)<=(k:A) by omega) omg_];simp only[j4,j6];rw[j01 (show¬(w.getD (k+1) (0,0)).1<(w.getD k (0,0)).2 by omega),j5,j08];exact ih
  .rw[j01 h0,j5,j08];exact ih
theorem r5ck{w:WL}(h:WOk 0 w)(hl:w.length<=14):j6Z w=F 0:=by
 simp only[j6Z,show J w.length=(w.length:A) from rfl];rw[j01 omg_,j5,show j7T w 0=_ from jpG h hl w.length 0 omg_];rfl
end
end Go.Proofs.Pw
