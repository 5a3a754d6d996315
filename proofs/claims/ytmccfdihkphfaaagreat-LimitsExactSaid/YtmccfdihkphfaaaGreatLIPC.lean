/- Chapter 10: handovers of any layer that is right. -/
import Derived.Test.YtmccfdihkphfaaaGreatLIPB
import Derived.Test.YtmccfdihkphfaaaGreatLIPA
import Derived.KernelRfl
import Derived.Test.YtmccfdihkphfaaaGreatLIFns
open _root_ renaming Int->B,Nat->F,List->G,Option->Ö
open Option renaming some->D,isSome_some->X,isSome_none->Í
open List renaming drop_eq_getElem_cons->H,take_add_one->J,getElem_mem->O,getD_eq_getElem?_getD->Z,getElem?_eq_getElem->À,nil_append->Æ,filter_eq_self->Ê,getElem_of_mem->Ë,length->Ð,length_cons->Ñ,drop_zero->Ò,getD->Õ
open ByteArray renaming empty->I
open Nat renaming le_trans->R,mul_le_mul->Ç
open Int renaming mul_nonneg->S,mul_le_mul->U,tdiv_eq_ediv_of_nonneg->Y,ediv_le_self->Â,lt_or_le->Ä,ediv_nonneg->Å,le_refl->Ï,ofNat->Ó,tdiv->Ô
open Bool renaming not_false->W,true->È,not_true->É,and_eq_true->Î
open Or renaming inl->Ã,inr->Ì
open Go Go.Lft
namespace Go.Proofs.Pw
structure Rt(L:j0f):Prop where
 d0:1<=L.2.2.1.1
 d1:L.2.2.1.1<=100000
 c0:0<=L.2.2.1.2
 c1:L.2.2.1.2<=86399
 u0:0<=L.2.2.2.1
 u1:L.2.2.2.1<=2
 e0:1<=L.2.2.2.2.1
 e1:L.2.2.2.2.1<=400
 m0:L.2.2.2.2.2.1≠[]
theorem Rt.step{L:j0f}(h:Rt L):1<=j4c L/\j4c L<=2800:=by
 have:=h.e0;have:=h.e1;unfold j4c;split<;>omega
noncomputable def hO(o:B)(l:TrL)(L:j0f)(k:B):Ö Int:=
 if L.2.2.2.1=0 then (fO o l (sLoc L 0)).bind λt=>if t+3600*L.2.2.2.2.1*k<=8589934592 then D (t+3600*L.2.2.2.2.1*k) else none
 else fO o l (sLoc L k)
section
variable{o:B}{l:TrL}(ht:TOk o l){L:j0f}(h:Rt L)
include ht h
theorem jsw{k t:B}(hk:0<=k)(he:hO o l L k=D t):0<=t/\t<=8589934592/\k<=2386092:=by
 have hs:=h.step;have hd0:=h.d0;have he0:=h.e0;have hc0:=h.c0;unfold hO at he;by_cases h0:L.2.2.2.1=0
 .rw[if_pos h0]at he;cases hf:fO o l (sLoc L 0) with
  |none=>rw[hf]at he;simp at he
  |some v=>
   rw[hf]at he;simp only[j4]at he;have hv:=jve ht hf;have hm:3600*k<=3600*L.2.2.2.2.1*k:=Int.mul_le_mul_of_nonneg_right omg_ hk;split at he
   .simp at he;omega
   .simp at he
 .rw[if_neg h0]at he;have hv:=jve ht he;have hm:k*1<=k*j4c L:=Int.mul_le_mul_of_nonneg_left hs.1 hk;unfold sLoc at hv;omega
theorem jzA{k t:B}(he:hO o l L (k+1)=D t):∃v,hO o l L k=D v/\v<=t:=by
 have hs:=h.step;have he0:=h.e0;unfold hO at he ⊢;by_cases h0:L.2.2.2.1=0
 .rw[if_pos h0]at he ⊢;cases hf:fO o l (sLoc L 0) with
  |none=>rw[hf]at he;simp at he
  |some v=>
   rw[hf]at he;simp only[j4]at he ⊢;have hm:3600*L.2.2.2.2.1*(k+1)=3600*L.2.2.2.2.1*k+3600*L.2.2.2.2.1:=by rw[Int.mul_add,Int.mul_one]
   split at he
   .rw[if_pos omg_];simp at he;exact⟨_,rfl,omg_⟩
   .simp at he
 .rw[if_neg h0]at he ⊢;have hm:(k+1)*j4c L=k*j4c L+j4c L:=by rw[Int.add_mul,Int.one_mul]
  exact jC8 ht (by unfold sLoc;rw[hm];omega) he
def QO(o:B)(l:TrL)(L:j0f)(t k:B):Prop:=∃v,hO o l L k=D v/\v<=t
theorem QO.down{t:B}:∀(n:F){k:B},QO o l L t (k+n)->QO o l L t k
 |0,k,hq=>by rwa[show k+((0:F):B)=k by omega]at hq
 |n+1,k,hq=>by
  rw[show k+((n+1:F):B)=k+(n:B)+1 by omega]at hq;obtain⟨v,hv,hvt⟩:=hq;obtain⟨v',hv',hl⟩:=jzA ht h (k:=k+(n:B)) hv;exact QO.down n ⟨v',hv',omg_⟩
theorem QO.le{t k j:B}(hkj:k<=j)(hq:QO o l L t j):QO o l L t k:=by
 refine QO.down ht h (j-k).toNat ?_;rwa[show k+(((j-k).toNat:F):B)=j by omega]
def ShO(o:B)(l:TrL)(L:j0f)(t K:B):Prop:=(K = -1/\¬QO o l L t 0)\/(0<=K/\QO o l L t K/\¬QO o l L t (K+1))
theorem ShO.uniq{t K K':B}(a:ShO o l L t K)(b:ShO o l L t K'):K=K':=by
 rcases a with⟨a1,a2⟩|⟨a1,a2,a3⟩<;>rcases b with⟨b1,b2⟩|⟨b1,b2,b3⟩
 .omega
 .exact absurd (QO.le ht h b1 b2) a2
 .exact absurd (QO.le ht h a1 a2) b2
 .rcases Int.lt_trichotomy K K' with hlt|heq|hgt
  .exact absurd (QO.le ht h omg_ b2) a3
  .exact heq
  .exact absurd (QO.le ht h omg_ a2) b3
theorem QO.day{t k:B}(h0:L.2.2.2.1≠0)(hq:QO o l L t k){j:F}(hj:j<=l.length):L.2.2.1.1+k*j4c L<=(t+tof o l j)/86400+2:=by
 obtain⟨v,hv,hvt⟩:=hq;unfold hO at hv;rw[if_neg h0]at hv;have:=jve ht hv;have o0:=ht.of0 j hj;have hc0:=h.c0;unfold sLoc at this;omega
end
theorem jxk(day y:B)(hy1:cnt y<=day)(hy2:day<cnt (y+1))(h3:y<=1000000):∀(n:F)(k:B),k+n=y -> -1000000<=k->jfj day k=D y
 |0,k,hn,hk=>by
  rw[jfQ];have:k=y:=omg_;subst this;simp(disch:=omega)only[j5Y,je6 (k+1) omg_ omg_,S0]
 |n+1,k,hn,hk=>by
  rw[jfQ];have:=je5 (a:=k+1) (b:=y) omg_;simp(disch:=omega)only[j5Y,je6 (k+1) omg_ omg_,S0];have ih:=jxk day y hy1 hy2 h3 n (k+1) omg_ omg_;exact ih
theorem jC9(day y:B)(h1 : -365<=day)(h2:day<=1000000)(hy1:cnt y<=day)(hy2:day<cnt (y+1)):jhg day=D y:=by
 have hq:1970+day/366<=y /\ -1000000<=day/366/\y<=1000000:=by
  refine⟨?_,omg_,?_⟩
  .rcases Ä y (1970+day/366) with h|h
   .have h':=je5 (a:=y+1) (b:=1970+day/366) omg_;exfalso;have:cnt (1970+day/366)<=day:=by unfold cnt;omega
    omega
   .exact h
  .rcases Ä 1000000 y with h|h
   .have:=je5 (a:=1000000) (b:=y) omg_;have h4:364000000<=cnt 1000000:=by decide
    omega
   .exact h
 simp only[jhg,jlr day 366 omg_ omg_ omg_,j4];rw[j07,jxk day y hy1 hy2 hq.2.2 (y-(1970+day/366)).toNat _ omg_ omg_];rfl
theorem jCa(d:F):∃y,1970<=y/\cnt y<=d/\(d:B)<cnt (y+1):=by
 induction d with
 |zero=>exact⟨1970,omg_,by decide,by decide⟩
 |succ d ih=>
  obtain⟨y,h1,h2,h3⟩:=ih;by_cases h:((d+1:F):B)<cnt (y+1)
  .exact⟨y,h1,omg_,h⟩
  .have:=jDD (a:=y+1) (b:=y+1+1) omg_;exact⟨y+1,omg_,omg_,omg_⟩
theorem jmZ(y r:B)(h0:0<=r):∀k:F,k<=12->r<cum y (k+1)->∃m:B,1<=m/\m<=k/\cum y m<=r/\r<cum y m+dim y m
 |0,_,h=>by have:cum y ((0:F)+1)=0:=rfl;omega
 |k+1,hk,h=>by
  by_cases h':r<cum y (k+1)
  .obtain⟨m,h1,h2,h3⟩:=jmZ y r h0 k omg_ h';exact⟨m,h1,omg_,h3⟩
  .have:=jfG y (k+1) omg_ omg_;rw[show ((k+1:F):B)=(k:B)+1 from rfl]at h;exact⟨k+1,omg_,omg_,omg_,omg_⟩
theorem jFi(y:B):cum y 13=365+jcA y:=by unfold cum;omega
theorem jzB(y r:B)(h0:0<=r)(h:r<365+jcA y):∃m,1<=m/\m<=12/\cum y m<=r/\r<cum y m+dim y m:=
 jmZ y r h0 12 (Nat.le_refl _) (by rw[show ((12:F):B)+1=13 from rfl,jFi];exact h)
theorem jCb(day:B)(h0:0<=day)(h1:day<98981):∃y m d,jl9 y m d/\num y m d=day/\cnt y<=day/\day<cnt (y+1)/\1<=m/\m<=12:=by
 obtain⟨y,hy1,hy2,hy3⟩:=jCa day.toNat;rw[Int.toNat_of_nonneg h0]at hy2 hy3;have hs:=jpc y;obtain⟨m,hm1,hm2,hm3,hm4⟩:=jzB y (day-cnt y) omg_ omg_;refine⟨y,m,day-cnt y-cum y m+1,⟨hy1,?_,omg_,omg_⟩,by unfold num;omega,hy2,hy3,hm1,hm2⟩;rcases Ä 2240 y with h|h
 .have:=je5 (a:=2241) (b:=y) omg_;have:=jsq;omega
 .exact h
theorem jDJ{y m d:B}(h:jl9 y m d):cnt y<=num y m d/\num y m d<cnt (y+1)/\cum y m<=num y m d-cnt y/\num y m d-cnt y<cum y m+dim y m/\num y m d-cnt y-cum y m+1=d:=by
 have hm:=jdn h;obtain⟨h1,h2,h3,h4⟩:=h;have hc:=jdm y m;have:=jfG y m hm.1 hm.2;have hs:=jpc y;have:cum y (m+1)<=365+jcA y:=by have:=jjF y;unfold cum;omega
 unfold num;omega
theorem jr9(y m r x1 x2 x3 x7:B)(hm2:m<=12)(hr0:0<=r)(hr:r<dim y m):∀(n:F)(k:B),1<=k->k+n=m->
  jcS (r+cum y m-cum y k) x1 x2 x3 y k x7=D (r,x1,x2,x3,y,m,x7)
 |0,k,hk,hn=>by
  have:k=m:=omg_;subst this;rw[jdI];simp(disch:=omega)only[j4Y,jmS,S0];rw[show r+cum y k-cum y k=r by omega]
 |n+1,k,hk,hn=>by
  rw[jdI];have hs:=jfG y k hk omg_
  have hmono:cum y (k+1)<=cum y m:=by
   have:∀(j:F),k+1+j<=12->cum y (k+1)<=cum y (k+1+j):=by
    intro j;induction j with
    |zero=>intro _;simp
    |succ j ih=>intro hj;have h1:=ih omg_;have h2:=jfG y (k+1+j) omg_ omg_;have h3:=j5e y (k+1+j);rw[show k+1+((j+1:F):B)=k+1+j+1 by omega];omega
   have:=this n omg_;rwa[show k+1+(n:B)=m by omega]at this
  have c1:=jdm y k;have c2:=jdm y m;have c3:=j5e y k;have c4:=j5e y m;simp only[j4Y,jmS,j4];rw[j00 (show r+cum y m-cum y k>=dim y k by omega)];simp only[j6,j04];rw[j07 (x:=r+cum y m-cum y k-dim y k),j07 (x:=k+1),show r+cum y m-cum y k-dim y k=r+cum y m-cum y (k+1) by omega];exact jr9 y m r x1 x2 x3 x7 hm2 hr0 hr n (k+1) omg_ omg_
theorem jxl{y m d:B}(h:jl9 y m d):j6W (num y m d)=D ((y,m,d),0):=by
 have hm:=jdn h;have hr:=jdo h;obtain⟨i1,i2,i3,i4,i5⟩:=jDJ h;have hd:=j5e y m;have hc:=jdm y m;simp(disch:=omega)only[j6W,je6 1970 omg_ omg_,je6 2241 omg_ omg_,jx7,jsq,jC9 (num y m d) y omg_ omg_ i1 i2,S0];simp only[j4,je6 y (by have:=h.1;omega) (by have:=h.2.1;omega)];have hl:=jr9 y m (num y m d-cnt y-cum y m) 0 0 0 0 hm.2 omg_ omg_ (m-1).toNat 1 omg_ omg_;rw[show num y m d-cnt y-cum y m+cum y m-cum y 1=num y m d-cnt y by (have:cum y 1=0:=rfl);omega]at hl;rw[j07 (x:=num y m d-cnt y),hl];simp only[j4];rw[i5,j24 (by have:=h.2.2;omega) (by have:=h.2.2;omega)]
theorem jxm(day:B)(h:day<0\/98981<=day):j6W day=D ((0,0,0),1):=by
 simp only[j6W,je6 1970 omg_ omg_,je6 2241 omg_ omg_,j4,jx7,jsq];rcases h with h|h
 .rw[j00 h];rfl
 .rw[j01 (show¬day<0 by omega),j7,j00 (show day>=98981 by omega)];rfl
theorem jh4(n:B):j1N n=D (decide (0<=n)&&decide (n<=98980)):=by
 by_cases h:0<=n/\n<=98980
 .obtain⟨y,m,d,hv,hn,_⟩:=jCb n h.1 omg_;have:=jxl hv;rw[hn]at this;simp(disch:=omega)only[j1N,this,S0];rfl
 .simp only[j1N,jxm n omg_,j4];by_cases h0:0<=n
  .simp(disch:=omega)only[S0];rfl
  .rw[j01 h0];rfl
structure LC0(nz np nc:F)(l:j0f):Prop where
 z0:0<=l.2.1
 z1:l.2.1<nz
 d0:1<=l.2.2.1.1
 d1:l.2.2.1.1<=98980
 c0:0<=l.2.2.1.2
 c1:l.2.2.1.2<=86399
 u0:0<=l.2.2.2.1
 u1:l.2.2.2.1<=2
 e0:1<=l.2.2.2.2.1
 e1:l.2.2.2.2.1<=400
 m0:l.2.2.2.2.2.1.length≠0
 m1:l.2.2.2.2.2.1.length<=12
 mem:∀m∈l.2.2.2.2.2.1,0<=m/\m<(np:B)
 w:WOk 0 l.2.2.2.2.2.2.1
 wl:l.2.2.2.2.2.2.1.length<=14
 mode0:0<=l.2.2.2.2.2.2.2.2
 mode1:l.2.2.2.2.2.2.2.2<=2
 cal:l.2.2.2.2.2.2.2.2≠0->0<=l.2.2.2.2.2.2.2.1/\l.2.2.2.2.2.2.2.1<(nc:B)
 cal0:l.2.2.2.2.2.2.2.2=0->l.2.2.2.2.2.2.2.1=0
structure LC1(nz np nc:F)(l:j0f):Prop extends LC0 nz np nc l where
 w3:l.2.2.2.2.2.2.1.length<=3
theorem LC0.rt2{nz np nc:F}{L:j0f}(h:LC0 nz np nc L):Rt L:=
 ⟨h.d0,by have:=h.d1;omega,h.c0,h.c1,h.u0,h.u1,h.e0,h.e1,λhm=>h.m0 (by rw[hm];rfl)⟩
theorem LC1.rt2{nz np nc:F}{L:j0f}(h:LC1 nz np nc L):Rt L:=
 ⟨h.d0,by have:=h.d1;omega,h.c0,h.c1,h.u0,h.u1,h.e0,h.e1,λhm=>h.m0 (by rw[hm];rfl)⟩
structure EC0(x:j3b):Prop where
 f0:0<=x.2.2.2.1
 ft:x.2.2.2.1<x.2.2.2.2
 t1:x.2.2.2.2<=1000000000000
structure GOk(zs:G j0K)(ps:G j0k)(cs:G CalT):Prop where
 ok:∀z∈zs,ZOk z
 ck:∀x∈cs,CCk zs.length x
 zl:zs.length<=16
 pl:ps.length<=32
theorem cget{zs:G j0K}{ps:G j0k}{cs:G CalT}(hs:GOk zs ps cs){i:B}(h0:0<=i)(h1:i<(cs.length:B)):CCk zs.length (cs.getD i.toNat (I,0,[])):=by
 have hi:i.toNat<cs.length:=omg_;rw[show cs.getD i.toNat (I,0,[])=cs[i.toNat] by simp[Õ,hi]];exact hs.ck _ (O hi)
theorem jra:j6t 2241=D 98981:=by kernel_rfl
theorem jrb:j6t 1970=D 0:=by kernel_rfl
theorem jDK{d:B}(h:j1N d=D È):d<=100000:=by
 rw[jh4]at h;simp only[j5,Î,decide_eq_true_eq]at h;omega
theorem jDL{d:B}(h:j1N d=D È):0<=d:=by
 rw[jh4]at h;simp only[j5,Î,decide_eq_true_eq]at h;omega
theorem jtL{L:j0f}(h:Rt L):jaX L=D (j4c L):=by
 have:=h.e0;have:=h.e1;grind[jaX,j4c,S0]
def HVal(r:Ö (B×Bool))(x:Ö B):Prop:=∃v,r=D (v,x.isSome)/\∀t,x=D t->v=t
theorem recH{o:B}{l:TrL}(ht:TOk o l){L:j0f}(h:Rt L){k:B}(hk:0<=k)(hk2:k<=8589934592):HVal (j16 (o,l) L k) (hO o l L k):=by
 have hs:=h.step;have hd0:=h.d0;have hd1:=h.d1;have hc0:=h.c0;have hc1:=h.c1;have he0:=h.e0;have he1:=h.e1;have hstep:jaX (L.1,L.2.1,(L.2.2.1.1,L.2.2.1.2),L.2.2.2.1,L.2.2.2.2.1,L.2.2.2.2.2.1,L.2.2.2.2.2.2.1,L.2.2.2.2.2.2.2.1,L.2.2.2.2.2.2.2.2)=_:=jtL h;simp only[HVal,j16,hstep,j4];rw[j01 (show¬k>8589934592 by omega),j7];by_cases h0:L.2.2.2.1=0
 .have hF:=jr8 ht (d:=L.2.2.1.1) (c:=L.2.2.1.2) omg_ omg_ hc0 hc1;have hs0:L.2.2.1.1*86400+L.2.2.1.2=sLoc L 0:=by unfold sLoc;omega
  have hm0:0<=3600*L.2.2.2.2.1*k:=S omg_ hk;have hm1:3600*L.2.2.2.2.1*k<=3600*400*8589934592:=U omg_ hk2 hk omg_;rw[show (L.2.2.2.1 != 0)=false by rw[h0];rfl,j7,hF,hs0];simp only[j4];unfold hO;rw[if_pos h0];cases hf:fO o l (sLoc L 0) with
  |none=>simp_all
  |some v=>
   have hv:=jve ht hf;simp(disch:=omega)only[Option.getD_some,S0];by_cases hle:v+3600*L.2.2.2.2.1*k<=8589934592
   .simp_all
   .rw[if_neg hle,j01 hle]
    simp_all
 .have hm0:0<=k*j4c L:=S hk omg_;have hm1:k*j4c L<=8589934592*2800:=U hk2 hs.2 omg_ omg_;rw[show (L.2.2.2.1 != 0)=È by simp[h0],j6,j07 (x:=k*j4c L),j07 (x:=L.2.2.1.1+k*j4c L),jr8 ht omg_ omg_ hc0 hc1];simp only[j4];unfold hO;rw[if_neg h0];exact⟨_,rfl,λt h=>by have h:fO o l ((L.2.2.1.1+k*j4c L)*86400+L.2.2.1.2)=D t:=h;rw[h];rfl⟩
theorem r10H{z:j0K}{l:TrL}(hz:Z4 z l){L:j0f}(h:Rt L){k:B}(hk:0<=k)(hk2:k<=8589934592):HVal (j8r z L k) (hO z.2.1 l L k):=by
 have hs:=h.step;have hd0:=h.d0;have hd1:=h.d1;have hc0:=h.c0;have hc1:=h.c1;have he0:=h.e0;have he1:=h.e1;have hu1:=h.u1;have hu0:=h.u0;simp only[HVal,j8r];have hm0:0<=k*L.2.2.2.2.1:=S hk omg_;have hm1:k*L.2.2.2.2.1<=8589934592*400:=U hk2 omg_ omg_ omg_;rw[j07 (x:=k*L.2.2.2.2.1)];by_cases h0:L.2.2.2.1=0
 .have hF:=jiz hz (d:=L.2.2.1.1) (c:=L.2.2.1.2) omg_ hc0 hc1;have hs0:L.2.2.1.1*86400+L.2.2.1.2=sLoc L 0:=by unfold sLoc;omega
  rw[j8T h0,j6,show j68 (z.1,z.2.1,z.2.2) (L.2.2.1.1,L.2.2.1.2)=_ from hF,hs0];simp only[j4];have hcm:k*L.2.2.2.2.1*3600=3600*L.2.2.2.2.1*k:=by grind
  have hm2:0<=3600*L.2.2.2.2.1*k:=S omg_ hk;have hm3:3600*L.2.2.2.2.1*k<=3600*400*8589934592:=U omg_ hk2 hk omg_;simp(disch:=omega)only[hcm,S0];unfold hO;rw[if_pos h0];cases hf:fO z.2.1 l (sLoc L 0) with
  |none=>simp_all
  |some v=>
   have hv:=jve hz.2 hf;simp(disch:=omega)only[S0];by_cases hle:v+3600*L.2.2.2.2.1*k<=8589934592
   .simp_all
   .rw[if_neg hle,j01 hle]
    simp_all
 .rw[j3Z h0,j7]
  have fin:∀n:B,n=k*j4c L->0<=n->HVal ((j68 (z.1,z.2.1,z.2.2) (L.2.2.1.1+n,L.2.2.1.2)).bind λr=>D (r.1,(r.2==(0:B)))) (hO z.2.1 l L k):=by
   intro n hn hn0;have hF:=jiz hz (d:=L.2.2.1.1+n) (c:=L.2.2.1.2) omg_ hc0 hc1;rw[show j68 (z.1,z.2.1,z.2.2) (L.2.2.1.1+n,L.2.2.1.2)=_ from hF];unfold hO;rw[if_neg h0];have hsl:(L.2.2.1.1+n)*86400+L.2.2.1.2=sLoc L k:=by rw[hn];rfl
   rw[hsl];cases hf:fO z.2.1 l (sLoc L k) with
   |none=>exact⟨_,rfl,λt h=>by simp at h⟩
   |some v=>exact⟨_,rfl,λt h=>by simpa using h⟩
  by_cases h2:L.2.2.2.1=2
  .have hsd:j4c L=7*L.2.2.2.2.1:=by grind[j4c]
   have e1:k*L.2.2.2.2.1*7=k*j4c L:=by grind
   simp(disch:=omega)only[S0];exact fin _ e1 omg_
  .have hsd:j4c L=L.2.2.2.2.1:=by grind[j4c]
   simp(disch:=omega)only[S0];exact fin _ (by rw[hsd]) hm0
theorem jDM{o:B}{l:TrL}(ht:TOk o l){L:j0f}(h:Rt L){t N:B}(hN:N<=8589934592)(hfirst:QO o l L t 0):∀n:F,(n:B)<=N->
  ∃k:B,j9q t (n:B) o l L.1 L.2.1 L.2.2.1.1 L.2.2.1.2 L.2.2.2.1 L.2.2.2.2.1 L.2.2.2.2.2.1 L.2.2.2.2.2.2.1 L.2.2.2.2.2.2.2.1 L.2.2.2.2.2.2.2.2=
   D (t,k,o,l,L.1,L.2.1,L.2.2.1.1,L.2.2.1.2,L.2.2.2.1,L.2.2.2.2.1,L.2.2.2.2.2.1,L.2.2.2.2.2.2.1,L.2.2.2.2.2.2.2.1,L.2.2.2.2.2.2.2.2)/\0<=k/\QO o l L t k
 |0,_=>by
  grind[jcW,j4g,S0]
 |n+1,hn=>by
  obtain⟨k,e,k0,k1⟩:=jDM ht h hN hfirst n omg_;obtain⟨v,hH,hv⟩:=recH ht h (k:=((n+1:F):B)) omg_ omg_;rw[jcW];simp only[j4g];rw[j00 omg_,j6,show j16 (o,l) (L.1,L.2.1,(L.2.2.1.1,L.2.2.1.2),L.2.2.2.1,L.2.2.2.2.1,L.2.2.2.2.2.1,L.2.2.2.2.2.2.1,L.2.2.2.2.2.2.2.1,L.2.2.2.2.2.2.2.2) ((n+1:F):B)=_ from hH];simp only[j4];rw[j07 (x:=((n+1:F):B)-1),show ((n+1:F):B)-1=(n:B) by omega];cases hx:hO o l L ((n+1:F):B) with
  |none=>grind[j04]
  |some x=>
   have:=hv x hx;subst this;simp only[X,j6];by_cases hc:v<=t
   .rw[j00 hc,j6,j0e];exact⟨_,rfl,omg_,v,hx,hc⟩
   grind[j04]
theorem jDN{o:B}{l:TrL}(ht:TOk o l){L:j0f}(h:Rt L){t:B}:∀(n:F)(k:B),k+n=2386093->0<=k->QO o l L t k->
  ∃K:B,jbS t k o l L.1 L.2.1 L.2.2.1.1 L.2.2.1.2 L.2.2.2.1 L.2.2.2.2.1 L.2.2.2.2.2.1 L.2.2.2.2.2.2.1 L.2.2.2.2.2.2.2.1 L.2.2.2.2.2.2.2.2=D K/\0<=K/\QO o l L t K/\¬QO o l L t (K+1)
 |0,k,hn,hk,hq=>by
  obtain⟨v,hv,_⟩:=hq;have:=jsw ht h hk hv;omega
 |n+1,k,hn,hk,hq=>by
  obtain⟨v,hH,hv⟩:=recH ht h (k:=k+1) omg_ omg_;rw[jif];simp(disch:=omega)only[j61,show j16 (o,l) (L.1,L.2.1,(L.2.2.1.1,L.2.2.1.2),L.2.2.2.1,L.2.2.2.2.1,L.2.2.2.2.2.1,L.2.2.2.2.2.2.1,L.2.2.2.2.2.2.2.1,L.2.2.2.2.2.2.2.2) (k+1)=_ from hH,S0];cases hx:hO o l L (k+1) with
  |none=>simp only[Í,W,j6,j0e];exact⟨k,rfl,hk,hq,λ⟨y,hy,_⟩=>by simp_all⟩
  |some x=>
   have:=hv x hx;subst this;simp only[X,É,j7];by_cases hc:v>t
   .rw[j00 hc,j6,j0e];exact⟨k,rfl,hk,hq,λ⟨y,hy,hyt⟩=>by grind⟩
   .rw[j01 hc,j7,j04];exact jDN ht h n (k+1) omg_ omg_ ⟨v,hx,omg_⟩
theorem jtM{o:B}{l:TrL}{L:j0f}(h:Rt L){t v:B}(h0:L.2.2.2.1=0)(htt:t<=8589934592)(hf:fO o l (sLoc L 0)=D v)(hvt:v<=t)(hv0:0<=v) :
  ShO o l L t ((t-v)/(3600*L.2.2.2.2.1))/\0<=(t-v)/(3600*L.2.2.2.2.1)/\(t-v)/(3600*L.2.2.2.2.1)<=8589934592:=by
 have he0:=h.e0;have he1:=h.e1;have q0:0<=(t-v)/(3600*L.2.2.2.2.1):=Å omg_ omg_;have q1:3600*L.2.2.2.2.1*((t-v)/(3600*L.2.2.2.2.1))<=t-v:=Int.mul_ediv_self_le omg_;have q2:t-v<3600*L.2.2.2.2.1*((t-v)/(3600*L.2.2.2.2.1))+3600*L.2.2.2.2.1:=Int.lt_mul_ediv_self_add omg_;have q3:(t-v)/(3600*L.2.2.2.2.1)<=t-v:=Â _ omg_;generalize (t-v)/(3600*L.2.2.2.2.1)=K at *;refine⟨.inr ⟨q0,⟨v+3600*L.2.2.2.2.1*K,?_,omg_⟩,?_⟩,q0,omg_⟩
 .grind[hO]
 .rintro⟨y,hy,hyt⟩
  grind[hO]
theorem jxn{o:B}{l:TrL}{L:j0f}(h0:L.2.2.2.1=0){v:B}(hv:hO o l L 0=D v):fO o l (sLoc L 0)=D v:=by
 unfold hO at hv;rw[if_pos h0]at hv;cases hf:fO o l (sLoc L 0)<;>simp_all
theorem jFj{o:B}{l:TrL}(ht:TOk o l){L:j0f}(h:Rt L){t:B}(h0t:0<=t)(htt:t<=8589934592):∃K:B,j62 (o,l) L t=D K/\ShO o l L t K:=by
 have hs:=h.step;have hd0:=h.d0;have hd1:=h.d1;have he0:=h.e0;have he1:=h.e1;obtain⟨v0,hH,hv⟩:=recH ht h (k:=0) omg_ omg_;have hstep:jaX (L.1,L.2.1,(L.2.2.1.1,L.2.2.1.2),L.2.2.2.1,L.2.2.2.2.1,L.2.2.2.2.2.1,L.2.2.2.2.2.2.1,L.2.2.2.2.2.2.2.1,L.2.2.2.2.2.2.2.2)=_:=jtL h;simp only[j62,show j16 (o,l) (L.1,L.2.1,(L.2.2.1.1,L.2.2.1.2),L.2.2.2.1,L.2.2.2.2.1,L.2.2.2.2.2.1,L.2.2.2.2.2.2.1,L.2.2.2.2.2.2.2.1,L.2.2.2.2.2.2.2.2) 0=_ from hH,hstep,j4];cases hx:hO o l L 0 with
 |none=>simp only[Í,W,j6];exact⟨-1,rfl,.inl ⟨rfl,λ⟨y,hy,_⟩=>by simp_all⟩⟩
 |some v=>
  have:=hv v hx;subst this;simp only[X,É,j7];by_cases hc:v0>t
  .rw[j00 hc,j6];exact⟨-1,rfl,.inl ⟨rfl,λ⟨y,hy,hyt⟩=>by grind⟩⟩
  .rw[j01 hc,j7];have hq:QO o l L t 0:=⟨v0,hx,omg_⟩;have hva:=jsw ht h (k:=0) omg_ hx;by_cases h0:L.2.2.2.1=0
   .obtain⟨s1,s2,s3⟩:=jtM (o:=o) (l:=l) h h0 htt (jxn h0 hx) omg_ hva.1;simp(disch:=omega)only[Y,S0];exact⟨_,rfl,s1⟩
   .obtain⟨j,hj,j1,j2⟩:=jav ht h0t htt;have o0:=ht.of0 j hj;have o1:=ht.of1 j hj;rw[j3Z h0,j7,jhx ht hj j1 j2];simp only[j4];generalize hld:(t+tof o l j)/86400=ld;rw[j3Z (show¬j4c L=0 by omega),j07 (x:=ld-L.2.2.1.1)];simp only[W,j6]
    obtain⟨n,hn,hn2⟩:∃n:F,(if w64 (Ô (ld-L.2.2.1.1) (j4c L))>0 then w64 (Ô (ld-L.2.2.1.1) (j4c L)) else 0)=(n:B)/\(n:B)<=8589934592:=by
     by_cases hneg:0<=ld-L.2.2.1.1
     .rw[Y hneg];have q0:0<=(ld-L.2.2.1.1)/j4c L:=Å hneg omg_;have q1:(ld-L.2.2.1.1)/j4c L<=ld-L.2.2.1.1:=Â _ hneg;rw[j07];refine⟨((ld-L.2.2.1.1)/j4c L).toNat,?_,?_⟩
      .split<;>omega
      .omega
     .have e:Ô (ld-L.2.2.1.1) (j4c L) = -((-(ld-L.2.2.1.1))/j4c L):=by grind[Int.neg_tdiv]
      have q0:0<=(-(ld-L.2.2.1.1))/j4c L:=Å omg_ omg_;have q1:(-(ld-L.2.2.1.1))/j4c L <= -(ld-L.2.2.1.1):=Â _ omg_;simp(disch:=omega)only[if_neg,S0];grind
    rw[hn];obtain⟨k,e,k0,k1⟩:=jDM ht h (Ï _) hq n hn2;have hkb:=k1;obtain⟨y,hy,_⟩:=hkb;have hkk:=jsw ht h k0 hy;obtain⟨K,e2,K0,K1,K2⟩:=jDN ht h (t:=t) (2386093-k).toNat k omg_ k0 k1;simp only[e,j4,e2];exact⟨K,rfl,.inr ⟨K0,K1,K2⟩⟩
def tb(z:j0K):B×TrL:=(z.2.1,outT z.2.1 (j6x (occs z.2.2)))
theorem ZOk.ztab{z:j0K}(h:ZOk z):ZTab z (tb z).2:=MZ.tab (o:=z.2.1) (rs:=z.2.2) h z.1
theorem ZOk.zdif{z:j0K}(h:ZOk z):Dif z.2.1 (tb z).2:=jst _ _ _ (MZ.good h)
theorem ZOk.zref{z:j0K}(h:ZOk z):ZTab z (tb z).2/\Z4 z (tb z).2/\Dif z.2.1 (tb z).2:=⟨h.ztab,MZ.r4 (o:=z.2.1) (rs:=z.2.2) h z.1,h.zdif⟩
theorem jxo{zs:G j0K}(h:∀z∈zs,ZOk z)(hl:zs.length<=100):∀(n i:F),i+n=zs.length->jbc zs (zs.length:B) (i:B) ((zs.take i).map tb)=D (zs.map tb)
 |0,i,hi=>by
  rw[jeG];simp(disch:=omega)only[j5y,List.take_of_length_le,S0]
 |n+1,i,hi=>by
  have hlt:i<zs.length:=omg_;have hgd:zs.getD i (I,0,[])=zs[i]:=by simp[hlt]
  have ht:=jFg (h zs[i] (O hlt)).ztab;have ih:=jxo h hl n (i+1) omg_;rw[J,À hlt,List.map_append]at ih;rw[jeG];simp(disch:=omega)only[j5y,show jmg (zs[i].1,zs[i].2.1,zs[i].2.2)=_ from ht,S0];rw[j00 (by simp[j03];omega),j6,j04];exact ih
theorem jCc{zs:G j0K}(h:∀z∈zs,ZOk z)(hl:zs.length<=100){ps:G j0k}{cs:G CalT}{ss:G j0R}:jj0 (zs,ps,cs,ss)=D ((zs,ps,cs,ss),zs.map tb):=by
 have lp:=jxo h hl zs.length 0 omg_;simp(disch:=omega)only[jj0,jid,S0];rw[show jbc zs (zs.length:B) 0 []=_ from lp];rfl
theorem jtN{zs:G j0K}{i:B}(h0:0<=i)(h1:i<(zs.length:B)):Õ (zs.map tb) i.toNat (0,[])=tb (zs.getD i.toNat (I,0,[])):=by
 have hlt:i.toNat<zs.length:=omg_;simp[Z,hlt]
theorem zget{zs:G j0K}(h:∀z∈zs,ZOk z){i:B}(h0:0<=i)(h1:i<(zs.length:B)):ZOk (zs.getD i.toNat (I,0,[])):=by
 have hlt:i.toNat<zs.length:=omg_;rw[Z,À hlt];exact h _ (O hlt)
theorem jzC(a b:B):jdR a b=D (decide (a<b)):=by
 simp only[jdR,jcj,j4,bne_self_eq_false,j7]
theorem jCd{ds:G B}(hs:ds.Pairwise (· < ·))(hl:ds.length<=64){x:B}:∀(n a b:F),b-a<=n->a<=b->b<=ds.length->(∀i,(hi:i<ds.length)->i<a->ds[i]<x)->(∀i,(hi:i<ds.length)->b<=i->x<=ds[i])->
  ∃k:F,j4l ds x (ds.length:B) (a:B) (b:B)=D (ds,x,(ds.length:B),(k:B))/\k<=ds.length/\(∀i,(hi:i<ds.length)->i<k->ds[i]<x)/\∀i,(hi:i<ds.length)->k<=i->x<=ds[i]
 |n,a,b,hn,hab,hb,h1,h2=>by
  rw[ja5];simp only[j1P];by_cases hlt:a<b
  .have hm:IntKind.wrap .u64 ((a:B)+(b:B))=(a:B)+(b:B):=IntWalk.u64_in _ ⟨omg_,omg_⟩;have hd:Int.fdiv ((a:B)+(b:B)) 2=(((a+b)/2:F):B):=by rw[Int.fdiv_eq_ediv_of_nonneg _ omg_];omega
   have hml:(a+b)/2<ds.length:=omg_;have hgd:ds.getD ((a+b)/2) (0:B)=ds[(a+b)/2]:=by simp[hml]
   simp(disch:=omega)only[hm,hd,jzC,S0];cases n with
   |zero=>omega
   |succ n=>
    by_cases hc:ds[(a+b)/2]<x
    .rw[j00 hc,j6,j04];refine jCd hs hl n ((a+b)/2+1) b omg_ omg_ hb (λi hi hia=>?_) h2;by_cases he:i=(a+b)/2
     .subst he;exact hc
     .exact Int.lt_trans (List.pairwise_iff_getElem.1 hs i ((a+b)/2) hi hml omg_) hc
    .rw[j01 hc,j7,j04];refine jCd hs hl n a ((a+b)/2) omg_ omg_ omg_ h1 (λi hi hia=>?_);by_cases he:i=(a+b)/2
     .subst he;exact Int.not_lt.1 hc
     .exact Int.le_trans (Int.not_lt.1 hc) (Int.le_of_lt (List.pairwise_iff_getElem.1 hs ((a+b)/2) i hml hi omg_))
  .have:a=b:=omg_;subst this;rw[j01 omg_,j7,j0e];exact⟨a,rfl,hb,h1,h2⟩
def okW(w:WL)(s:B):Bool:=cond (decide ((w.length:B)>0)) (hasB s w) È
section
variable{zs:G j0K}{ps:G j0k}{cs:G CalT}{ss:G j0R}(hz:∀z∈zs,ZOk z)
include hz
def whoL(L:j0f)(K:B):Int:=L.2.2.2.2.2.1.getD (Int.tmod K (L.2.2.2.2.2.1.length:B)).toNat 0
end
theorem jDO{z:j0K}(hz:ZOk z){t:B}(h0:0<=t)(h1:t<=8589934592):∃d s,j1V (tb z) t=D d/\j5h d=D s:=by
 have ht:=hz.ztab;obtain⟨j,hj,j1,j2⟩:=jav ht.2 h0 h1;have o0:=ht.2.of0 j hj;have o1:=ht.2.of1 j hj;obtain⟨s,hs⟩:∃s,j5h ((t+tof z.2.1 (tb z).2 j)/86400,(t+tof z.2.1 (tb z).2 j)%86400)=D s:=by simp only[j5h,jo0,j4];exact⟨_,rfl⟩
 exact⟨_,s,jhx ht.2 hj j1 j2,hs⟩
abbrev SL:=G (B×B)
def inS(x:B)(l:SL):Prop:=∃s∈l,s.1<=x/\x<s.2
def StS(p:B):SL->Prop
 |[]=>True
 |x::r=>p<x.1/\x.1<x.2/\StS x.2 r
def Sml(l:SL):Prop:=∀s∈l, -1000000000000<=s.1/\s.1<=1000000000000 /\ -1000000000000<=s.2/\s.2<=1000000000000
theorem j2V{x:B}:¬inS x []:=by rintro⟨s,hs,_⟩;simp at hs
theorem j0i{x:B}{s:B×B}{l:SL}:inS x (s::l)↔(s.1<=x/\x<s.2)\/inS x l:=by
 constructor
 .rintro⟨u,hu,h⟩
  rcases List.mem_cons.1 hu with rfl|hu
  .exact Ã h
  .exact Ì ⟨u,hu,h⟩
 .rintro (h|⟨u,hu,h⟩)
  .exact⟨s,smp_,h⟩
  .exact⟨u,by simp[hu],h⟩
theorem jiA{x:B}{l r:SL}:inS x (l++r)↔inS x l\/inS x r:=by
 constructor
 .rintro⟨u,hu,h⟩
  rcases List.mem_append.1 hu with hu|hu
  .exact Ã ⟨u,hu,h⟩
  .exact Ì ⟨u,hu,h⟩
 .rintro (⟨u,hu,h⟩|⟨u,hu,h⟩)
  .exact⟨u,by simp[hu],h⟩
  .exact⟨u,by simp[hu],h⟩
def nE(s:B×B):Bool:= !(decide (s.2<=s.1))
theorem jAv{l:SL}(hl:l.length<=10000000):∀(n i:F),i+n=l.length->(∀s∈l.take i,nE s=È)->
  (∃j:F,j10 (l.length:B) (i:B) l=D (.inl ((j:B),l))/\j<l.length/\(∀s∈l.take j,nE s=È)/\nE (l.getD j (0,0))=false)\/
  (j10 (l.length:B) (i:B) l=D (.inr l)/\∀s∈l,nE s=È)
 |0,i,hi,h=>by
  grind[j47,j0D,j0e]
 |n+1,i,hi,h=>by
  rw[j47];simp only[j0D,j9Z];rw[j00 (show (i:B)<(l.length:B) by omega),j2j,j07 (x:=(i:B)+1)];simp only[j6,j8,j4];have hlt:i<l.length:=omg_;cases hc:decide ((l.getD i (0,0)).2<=(l.getD i (0,0)).1) with
  |true=>grind[j0e,nE]
  |false=>simp only[j7,j04];refine jAv hl n (i+1) omg_ λs hs=>?_;grind[J,nE]
theorem jxp{l:SL}(hl:l.length<=10000000):∀(n i j:F)(b:SL),j+n=l.length->i<=j->b.length=l.length->b.drop j=l.drop j->b.take i=(l.take j).filter nE->
  ∃(k:F)(b':SL),j1s (i:B) (j:B) b=D ((k:B),b')/\b'.length=l.length/\k<=l.length/\b'.take k=l.filter nE
 |0,i,j,b,hj,hij,hb,hd,ht=>by
  grind[j3Q,j0y,S0]
 |n+1,i,j,b,hj,hij,hb,hd,ht=>by
  have hlt:j<l.length:=omg_
  have hbj:b.getD j (0,0)=l[j]:=by
   have:b[j]? = l[j]? := by
    have h:=congrArg (λx=>x[0]?) hd;simpa[List.getElem?_drop]using h
   simp_all
  have hd':b.drop (j+1)=l.drop (j+1):=by have:=congrArg (List.drop 1) hd;grind[List.drop_drop]
  have htk:l.take (j+1)=l.take j++[l[j]]:=by simp_all
  rw[j3Q];simp(disch:=omega)only[j0y,j9Z,hbj,S0];cases hc:decide (l[j].2<=l[j].1) with
  |true=>simp only[É,j7,j04];refine jxp hl n i (j+1) b omg_ omg_ hb hd' ?_;grind[nE]
  |false=>simp only[W,j6,j04];refine jxp hl n (i+1) (j+1) _ omg_ omg_ (by simpa using hb) ?_ ?_;all_goals grind[List.drop_set_of_lt,J,List.take_set_of_le,nE]
theorem jxq{l:SL}(hl:l.length<=10000000):∃n m,j1O l=D (n,m)/\m.take n.toNat=l.filter nE:=by
 simp only[j1O,j3d,show Ó (Ð l)=(l.length:B) from rfl];rcases jAv hl l.length 0 omg_ smp_ with⟨j,e,hj,h1,h2⟩|⟨e,h⟩
 .rw[show ((0:F):B)=0 from rfl]at e;rw[e];simp only[j4,j8C];rw[j3Z omg_,j07 (x:=(j:B)+1)];have hgd:l.getD j (0,0)=l[j]:=by simp[hj]
  rw[hgd]at h2
  obtain⟨k,b,e2,hb,hk,ht⟩:=jxp hl (l.length-(j+1)) j (j+1) l omg_ omg_ rfl rfl (by
   grind[J,Ê])
  grind
 .rw[show ((0:F):B)=0 from rfl]at e;rw[e];simp only[j4,j8D,beq_self_eq_true,j6];grind[Ê,S0]
def mg1(e:B×B):SL->SL
 |[]=>[e]
 |s::r=>if s.1<=e.2 then mg1 (e.1,if s.2>e.2 then s.2 else e.2) r else e::mg1 s r
def mg:SL->SL
 |[]=>[]
 |s::r=>mg1 s r
theorem jCe{L:SL}(hL:L.length<=10000000):∀(n i:F)(A:SL)(e:B×B),i+n=L.length->A.length<i->
  jci (L.length:B) (i:B) (A++[e]) L=D (A++mg1 e (L.drop i))
 |0,i,A,e,hi,hA=>by
  rw[jbR];simp(disch:=omega)only[j4E,List.drop_of_length_le,S0];rfl
 |n+1,i,A,e,hi,hA=>by
  have hlt:i<L.length:=omg_;have hgd:L.getD i (0,0)=L[i]:=by simp[hlt]
  have hle:(A++[e]).length=A.length+1:=smp_;have hge:(A++[e]).getD A.length (0,0)=e:=smp_;rw[jbR,H hlt];simp only[j4E,mg1,show Ó (Ð (A++[e]))=((A.length:B)+1) from by rw[hle];rfl]
  rw[j00 (show (i:B)<(L.length:B) by omega),j2j,j00 (show (A.length:B)+1>0 by omega),j07 (x:=(A.length:B)+1-1),j07 (x:=(i:B)+1),
   j0B omg_ (by rw[hle];omega),show ((A.length:B)+1-1).toNat=A.length by omega]
  simp only[j6,j8,hgd,hge];by_cases hc:L[i].1<=e.2
  .simp(disch:=omega)only[if_pos hc,show (A++[e]).set A.length (e.1,if L[i].2>e.2 then L[i].2 else e.2)=A++[(e.1,if L[i].2>e.2 then L[i].2 else e.2)] by
    simp_all,S0]
   exact jCe hL n (i+1) A _ omg_ omg_
  .simp(disch:=omega)only[if_neg hc,S0];have:=jCe hL n (i+1) (A++[e]) L[i] omg_ (by rw[hle];omega)
   simp_all
theorem jFk{L:SL}(hL:L.length<=10000000):jci (L.length:B) 0 [] L=D (mg L):=by
 rw[jbR];simp only[j4E];cases L with
 |nil=>rw[j01 smp_,j7,j0e];rfl
 |cons s r=>simp(disch:=omega)only[S0];have:=jCe hL r.length 1 [] s sqo_ smp_;simpa[mg]using this
def Srt:SL->Prop
 |[]=>True
 |s::r=>(∀u∈r,s.1<=u.1)/\Srt r
theorem jxr:∀{r:SL}{e:B×B}{p:B},p<e.1->e.1<e.2->(∀s∈r,nE s=È)->Srt r->StS p (mg1 e r)
 |[],e,p,h1,h2,_,_=>⟨h1,h2,trivial⟩
 |s::r,e,p,h1,h2,h3,h4=>by
  simp only[mg1];have hs:s.1<s.2:=by have:=h3 s smp_;simp[nE]at this;omega
  split
  .exact jxr (by exact h1) (by dsimp only;split<;>omega) (λu hu=>h3 u (by simp[hu])) h4.2
  .exact⟨h1,h2,jxr omg_ hs (λu hu=>h3 u (by simp[hu])) h4.2⟩
theorem jxs{x:B}:∀{r:SL}{e:B×B},(∀s∈r,e.1<=s.1)->(∀s∈r,nE s=È)->Srt r->(inS x (mg1 e r)↔(e.1<=x/\x<e.2)\/inS x r)
 |[],e,_,_,_=>by simp[mg1,inS]
 |s::r,e,h1,h3,h4=>by
  have hs:s.1<s.2:=by have:=h3 s smp_;simp[nE]at this;omega
  have he:e.1<=s.1:=h1 s smp_;simp only[mg1];split
  .rw[jxs (e:=(e.1,if s.2>e.2 then s.2 else e.2)) (λu hu=>h1 u (by simp[hu])) (λu hu=>h3 u (by simp[hu])) h4.2,j0i];dsimp only;constructor
   .rintro (⟨a,b⟩|h)
    .split at b
     .by_cases hx:x<e.2
      .exact Ã ⟨a,hx⟩
      .exact Ì (Ã ⟨omg_,b⟩)
     .exact Ã ⟨a,b⟩
    .exact Ì (Ì h)
   .rintro (⟨a,b⟩|⟨a,b⟩|h)
    .exact Ã ⟨a,by split<;>omega⟩
    .exact Ã ⟨omg_,by split<;>omega⟩
    .exact Ì h
  .rw[j0i,jxs h4.1 (λu hu=>h3 u (by simp[hu])) h4.2,j0i]
theorem jsx:∀(r:SL)(e:B×B),(mg1 e r).length<=r.length+1
 |[],e=>by simp[mg1]
 |s::r,e=>by
  simp only[mg1];split
  .have:=jsx r (e.1,if s.2>e.2 then s.2 else e.2);simp only[Ñ];omega
  .have:=jsx r s;simp only[Ñ];omega
theorem jxt{lo hi:B}:∀{r:SL}{e:B×B},(lo<=e.1/\e.2<=hi)->(∀s∈r,lo<=s.1/\s.2<=hi)->∀u∈mg1 e r,lo<=u.1/\u.2<=hi
 |[],e,h1,h2=>by simp only[mg1];intro u hu;simp at hu;subst hu;exact h1
 |s::r,e,h1,h2=>by
  have hs:=h2 s smp_;simp only[mg1];split
  .exact jxt ⟨h1.1,by dsimp only;split<;>omega⟩ (λu hu=>h2 u (by simp[hu]))
  .intro u hu;rcases List.mem_cons.1 hu with rfl|hu
   .exact h1
   .exact jxt hs (λu hu=>h2 u (by simp[hu])) u hu
theorem jDP{L:SL}(h:L.Pairwise (λx y=>¬w64 (y.1-x.1)<0))(hb:Sml L):Srt L:=by
 induction L with
 |nil=>trivial
 |cons s r ih=>rw[List.pairwise_cons]at h;refine⟨λu hu=>?_,ih h.2 (λv hv=>hb v (by simp[hv]))⟩;have h1:=h.1 u hu;have h2:=hb s smp_;have h3:=hb u (by simp[hu]);grind[j24]
theorem jzD:Go.Sort.SWO (Go.Proofs.ltOf λ(x y:Go.Lft.Sml (.pair (.int .i64) (.int .i64)))=>(j8F x.1 y.1).getD 0):=by
 refine joT (λx=>x.1.1) (λx=>?_) _ λx y=>rfl;grind[j5O]
theorem jCf{l:SL}(hl:l.length<=10000000)(hb:Sml l):∃L,j1e l=D L/\L.Perm l/\Srt L:=by
 obtain⟨L,e,hp,hs⟩:=joR (a:= .pair (.int .i64) (.int .i64)) (cf:=λx y=>(j8F x y).getD 0) jzD (xs:=l) (λx hx=>by
  have:=hb x hx;grind[j5O]) omg_
 exact⟨L,e,hp,jDP hs λs hm=>hb s (hp.mem_iff.1 hm)⟩
theorem jhA{l:SL}(hl:l.length<=10000000)(hb:Sml l){lo hi:B}(hlo:∀s∈l,s.1<s.2->lo<=s.1/\s.2<=hi) :
  ∃out,j8G l=D out/\StS (lo-1) out/\(∀x,inS x out↔inS x l)/\out.length<=l.length/\∀u∈out,lo<=u.1/\u.2<=hi:=by
 obtain⟨n,m,e1,ht⟩:=jxq hl;have hfl:(l.filter nE).length<=l.length:=List.length_filter_le _ _;obtain⟨L,e2,hp,hs⟩:=jCf (l:=l.filter nE) omg_ (λs h=>hb s (List.mem_filter.1 h).1);have hLl:L.length=(l.filter nE).length:=hp.length_eq;have hLm:∀s,s∈L↔s∈l/\nE s=true:=λs=>hp.mem_iff.trans List.mem_filter
 have hLx:∀x,inS x L↔inS x l:=by
  intro x;constructor
  .rintro⟨s,h,h2⟩;exact⟨s,((hLm s).1 h).1,h2⟩
  .rintro⟨s,h,h2⟩;exact⟨s,(hLm s).2 ⟨h,by grind[nE]⟩,h2⟩
 have hne:∀s∈L,s.1<s.2:=λs h=>by grind[nE]
 refine⟨mg L,?_,?_⟩
 .simp(disch:=omega)only[j8G,j4e,Æ,e1,ht,e2,jFk (L:=L) omg_,S0]
 .cases L with
  |nil=>refine⟨trivial,λx=>hLx x,by simp[mg],by simp[mg]⟩
  |cons s r=>
   have h0:=hlo s ((hLm s).1 smp_).1 (hne s smp_);have hr:∀u∈r,nE u=true:=λu hu=>((hLm u).1 (by simp[hu])).2;refine⟨jxr omg_ (hne s smp_) hr hs.2,λx=>?_,?_,?_⟩
   .rw[<-hLx x,j0i];exact jxs hs.1 hr hs.2
   .grind[jsx,mg]
   .exact jxt h0 λu hu=>hlo u ((hLm u).1 (by simp[hu])).1 (hne u (by simp[hu]))
def pcf(o:B)(l:TrL)(a b:B)(k:F):F->G (B×B×B)
 |0=>[]
 |n+1=>if frm l (k+1)<b then (a,frm l (k+1),tof o l k)::pcf o l (frm l (k+1)) b (k+1) n else [(a,b,tof o l k)]
section
variable{o:B}{l:TrL}(h:TOk o l)
include h
theorem jAw{b:B}(hb:b<=8589934592):∀(n k:F)(a:B)(acc:G (B×B×B)),k+n=l.length+1->k<=l.length->frm l k<=a->a<frm l (k+1)->a<b->acc.length<=k->
  j3E a b o l acc=D (acc++pcf o l a b k n)
 |0,k,a,acc,hn,hk,_,_,_,_=>omg_
 |n+1,k,a,acc,hn,hk,h1,h2,hab,ha=>by
  have hlen:=h.len;rw[j2f];simp only[j0S,show Ó (Ð l)=(l.length:B) from rfl,pcf];rw[j00 hab];simp only[j6,jpb h hk h1 h2,jmQ h hk,j4];by_cases hkl:k<l.length
  .have hf:frm l (k+1)=(l.getD k (0,0)).1:=jau hkl;rw[j00 (show (k:B)<(l.length:B) by omega),j2j];simp only[j6,j8,<-hf];simp(disch:=omega)only[S0];by_cases hc:frm l (k+1)<b
   .rw[if_pos hc,if_pos hc];have:=jAw hb n (k+1) (frm l (k+1)) (acc++[(a,frm l (k+1),tof o l k)]) omg_ omg_ omg_ (h.frm_lt omg_) hc sqo_
    simp_all
   grind[j2f,j0S,j0e]
  .have hkk:k=l.length:=omg_;have hf:frm l (k+1)=8589934593:=by rw[hkk];exact j7U
   simp(disch:=omega)only[if_neg,S0];grind[j2f,j0S,j0e]
omit h in
theorem jxu:∀(n k:F)(a b:B),(pcf o l a b k n).length<=n
 |0,k,a,b=>by simp[pcf]
 |n+1,k,a,b=>by
  simp only[pcf];split
  .have:=jxu n (k+1) (frm l (k+1)) b;simp;omega
  .simp
theorem jxv{b:B}:∀(n k:F)(a:B),k+n=l.length+1->frm l k<=a->a<frm l (k+1)->a<b->
  ∀p∈pcf o l a b k n,a<=p.1/\p.1<p.2.1/\p.2.1<=b/\∃i,k<=i/\i<=l.length/\p.2.2=tof o l i/\frm l i<=p.1/\p.2.1<=frm l (i+1)
 |0,k,a,hn,h1,h2,hab,p,hp=>by simp[pcf]at hp
 |n+1,k,a,hn,h1,h2,hab,p,hp=>by
  simp only[pcf]at hp;split at hp
  .rename_i hc;rcases List.mem_cons.1 hp with rfl|hp
   .grind
   .cases n with
    |zero=>simp[pcf]at hp
    |succ n=>
    obtain⟨a1,a2,a3,i,i1,i2,i3⟩:=jxv (n+1) (k+1) (frm l (k+1)) omg_ (Ï _) (h.frm_lt omg_) hc p hp;grind
  grind
theorem jxw{b:B}(hb:b<=8589934592):∀(n k:F)(a:B),k+n=l.length+1->k<=l.length->frm l k<=a->a<frm l (k+1)->a<b->
  ∀x,a<=x->x<b->∃p∈pcf o l a b k n,p.1<=x/\x<p.2.1
 |0,k,a,hn,hk,h1,h2,hab,x,hx,hx2=>omg_
 |n+1,k,a,hn,hk,h1,h2,hab,x,hx,hx2=>by
  simp only[pcf];split
  .rename_i hc;by_cases hlt:x<frm l (k+1)
   .simp_all
   .have hkl:k+1<=l.length:=by grind[j7U]
    obtain⟨p,hp,hp2⟩:=jxw hb n (k+1) (frm l (k+1)) omg_ hkl (Ï _) (h.frm_lt hkl) hc x omg_ hx2;grind
  simp_all
theorem jAx{a b:B}(ha:0<=a)(hab:a<=b)(hb:b<=8589934592):∃ps,j31 (o,l) a b=D ps/\ps.length<=l.length+1/\
  (∀p∈ps,a<=p.1/\p.1<p.2.1/\p.2.1<=b/\∃i,i<=l.length/\p.2.2=tof o l i/\frm l i<=p.1/\p.2.1<=frm l (i+1))/\∀x,a<=x->x<b->∃p∈ps,p.1<=x/\x<p.2.1:=by
 simp only[j31];rcases Ä a b with hlt|hge
 .obtain⟨k,hk,h1,h2⟩:=jav h ha omg_;have:=jAw h hb (l.length+1-k) k a [] omg_ hk h1 h2 hlt smp_;rw[Æ]at this;rw[this];refine⟨_,rfl,?_,λp hp=>?_,jxw h hb _ k a omg_ hk h1 h2 hlt⟩
  .grind[jxu]
  .obtain⟨a1,a2,a3,i,_,i2⟩:=jxv h _ k a omg_ h1 h2 hlt p hp;grind
 .rw[j2f];simp(disch:=omega)only[j0S,S0];grind
end
def ent(f t st:B)(v:B×B):B×Int:=(if st+v.1>f then st+v.1 else f,if st+v.2<t then st+v.2 else t)
theorem jn0{s:B}:∀{w:WL},hasB s w=È↔∃v∈w,v.1<=s/\s<v.2
 |[]=>by simp[hasB]
 |x::r=>by
  simp only[hasB,List.mem_cons];cases hc:cond (decide (x.1<=s)) (decide (s<x.2)) false with
  |true=>
   simp only[j6,true_iff];refine⟨x,Ã rfl,?_⟩;by_cases h1:x.1<=s
   .rw[j00 h1,j6]at hc;exact⟨h1,of_decide_eq_true hc⟩
   .rw[j01 h1,j7]at hc;simp at hc
  |false=>
   simp only[j7];rw[jn0 (w:=r)];constructor
   .rintro⟨v,hv,h⟩;exact⟨v,Ì hv,h⟩
   .rintro⟨v,rfl|hv,h⟩
    .rw[j00 h.1,j00 h.2]at hc;simp at hc
    .exact⟨v,hv,h⟩
theorem jDQ{w:WL}(hw:WOk 0 w)(hl:w.length<=14){st f t q:B}(hst : -1000000<=st)(hst2:st<=8600000000)(a b:B)(ps:G (B×B×B)):∀(n i:F)(acc:SL),i+n=w.length->acc.length+n<=1000000->
  ja0 w st a b w (w.length:B) (i:B) f t q acc ps=D (w,st,a,b,f,t,q,acc++(w.drop i).map (ent f t st),ps)
 |0,i,acc,hi,_=>by
  grind[jdJ,j50,S0]
 |n+1,i,acc,hi,ha=>by
  have hlt:i<w.length:=omg_;have hgd:w.getD i (0,0)=w[i]:=by simp[hlt]
  have hg:=jix hw i hlt;rw[hgd]at hg;rw[jdJ];simp(disch:=omega)only[H hlt,j50,S0];have:=jDQ hw hl hst hst2 a b ps n (i+1) (acc++[ent f t st w[i]]) omg_ sqo_ (f:=f) (t:=t) (q:=q);rw[List.append_assoc]at this;exact this
theorem jFl{w:WL}(hw:WOk 0 w)(hl:w.length<=14){f t q:B}(hf:0<=f)(ht:t<=8589934592)(hft:f<t)(a b:B)(ps:G (B×B×B)):∀(m:F)(st:B)(acc:SL), -1000000<=st->t<=st+604800*m->acc.length+14*m<=900000->
  ∃E,jcT w st a b f t q acc ps=D (w,a,b,acc++E,ps)/\E.length<=w.length*m/\(∀s∈E,f<=s.1/\s.2<=t/\s.1<=100000000000 /\ -100000000000<=s.2)/\
   ∀x,inS x E↔f<=x/\x<t/\st<=x/\hasB ((x-st)%604800) w=true:=by
 intro m;induction m with
 |zero=>intro st acc hst hm _;rw[jdK];simp(disch:=omega)only[j51,S0];exact⟨[],smp_,smp_,smp_,λx=>⟨λh=>absurd h j2V,λh=>omg_⟩⟩
 |succ m ih=>
  intro st acc hst hm hacc;rw[jdK];simp(disch:=omega)only[j51,S0];by_cases hlt:st<t
  .have h4:=jDQ hw hl hst omg_ a b ps w.length 0 acc omg_ omg_ (f:=f) (t:=t) (q:=q);rw[show ((0:F):B)=0 from rfl,Ò]at h4;simp(disch:=omega)only[h4,S0];obtain⟨E,e,h1,h2,h3⟩:=ih (st+604800) (acc++w.map (ent f t st)) omg_ omg_ sqo_;refine⟨w.map (ent f t st)++E,?_,?_,?_,λx=>?_⟩
   .simp_all
   .grind
   .intro s hs;rcases List.mem_append.1 hs with hs|hs
    .obtain⟨v,hv,rfl⟩:=List.mem_map.1 hs;obtain⟨i,hi,rfl⟩:=Ë hv;have hg:=jix hw i hi;grind[ent]
    .exact h2 s hs
   .rw[jiA,h3 x];constructor
    .rintro (⟨s,hs,hx1,hx2⟩|⟨a1,a2,a3,a4⟩)
     .obtain⟨v,hv,rfl⟩:=List.mem_map.1 hs;have hv':=hv;obtain⟨i,hi,rfl⟩:=Ë hv;have hg:=jix hw i hi;rw[show w.getD i (0,0)=w[i] by simp[hi]]at hg;simp only[ent]at hx1 hx2;grind[jn0]
     grind
    .rintro⟨a1,a2,a3,a4⟩
     by_cases hx:st+604800<=x
     .grind
     .obtain⟨v,hv,c1,c2⟩:=jn0.1 a4;have e1:(x-st)%604800=x-st:=omg_;rw[e1]at c1 c2;refine Ã ⟨ent f t st v,List.mem_map.2 ⟨v,hv,rfl⟩,?_,?_⟩<;>simp only[ent]<;>split<;>omega
  .rw[j01 hlt,j7,j0e];exact⟨[],smp_,smp_,smp_,λx=>⟨λh=>absurd h j2V,λh=>omg_⟩⟩
theorem jDR{w:WL}(hw:WOk 0 w)(hl:w.length<=14){ps:G (B×B×B)}{M:F}(hM:M<=60)(hpl:ps.length<=30){lo hi:B}(hlo:0<=lo)(hhi:hi<=8589934592)
  (hps:∀p∈ps,lo<=p.1/\p.1<p.2.1/\p.2.1<=hi /\ -64800<=p.2.2/\p.2.2<=64800/\p.2.1-p.1<=604800*M):∀(n i:F)(acc:SL),i+n=ps.length->acc.length<=854*i->
  ∃E,jcU w (ps.length:B) (i:B) acc ps=D (acc++E)/\E.length<=w.length*(M+1)*n/\(∀s∈E,lo<=s.1/\s.2<=hi/\s.1<=100000000000 /\ -100000000000<=s.2)/\
   ∀x,inS x E↔∃p∈ps.drop i,p.1<=x/\x<p.2.1/\hasB ((x+p.2.2+259200)%604800) w=È
 |0,i,acc,hi,_=>by
  rw[jdL]
  simp_all[j52,S0,j2V]
 |n+1,i,acc,hi,hacc=>by
  have hlt:i<ps.length:=omg_;have hgd:ps.getD i (0,0,0)=ps[i]:=by simp[hlt]
  obtain⟨p1,p2,p3,p4,p5,p6⟩:=hps ps[i] (O hlt);have hwm:w.length*(M+1)<=854:=R (Ç hl (show M+1<=61 by omega)) (by decide);rw[jdL,H hlt];simp only[j52];simp(disch:=omega)only[jks,S0];generalize hst:ps[i].1+ps[i].2.2 - -259200-(ps[i].1+ps[i].2.2 - -259200)%604800 + -259200-ps[i].2.2=st;obtain⟨E1,e1,l1,b1,m1⟩:=jFl hw hl (f:=ps[i].1) (t:=ps[i].2.1) (q:=ps[i].2.2) omg_ omg_ p2 (ps.length:B) (i:B) ps (M+1) st acc omg_ omg_ omg_;rw[e1];simp only[j4];rw[j07 (x:=(i:B)+1),j04];obtain⟨E2,e2,l2,b2,m2⟩:=jDR hw hl hM hpl hlo hhi hps n (i+1) (acc++E1) omg_ sqo_;refine⟨E1++E2,?_,?_,?_,λx=>?_⟩
  .simp_all
  .grind
  .intro s hs;rcases List.mem_append.1 hs with hs|hs
   .have:=b1 s hs;omega
   .exact b2 s hs
  .rw[jiA,m1 x,m2 x];have key:∀x,ps[i].1<=x->(x-st)%604800=(x+ps[i].2.2+259200)%604800/\st<=x:=by intro x hx;omega
   constructor
   .rintro (⟨c1,c2,c3,c4⟩|⟨p,hp,h⟩)
    .grind
    .exact⟨p,List.mem_cons_of_mem _ hp,h⟩
   .rintro⟨p,hp,c1,c2,c3⟩
    rcases List.mem_cons.1 hp with rfl|hp;all_goals grind
theorem jo5{o:B}{l:TrL}(h:TOk o l)(hll:l.length<=20){w:WL}(hw:WOk 0 w)(hl:w.length<=14){M:F}(hM:M<=60){a b:B}(ha:0<=a)(hab:a<=b)(hb:b<=8589934592)(hlen:b-a<=604800*M) :
  ∃out,j4f (o,l) w a b=D out/\StS (a-1) out/\(∀u∈out,a<=u.1/\u.2<=b)/\out.length<=w.length*(M+1)*(l.length+1)/\
   ∀k,k<=l.length->∀x,a<=x->x<b->frm l k<=x->x<frm l (k+1)->(inS x out↔hasB ((x+tof o l k+259200)%604800) w=È):=by
 obtain⟨ps,e,pl,pm,pc⟩:=jAx h ha hab hb
 obtain⟨E,e1,l1,b1,m1⟩:=jDR hw hl hM (ps:=ps) omg_ (lo:=a) (hi:=b) ha hb (λp hp=>by
  obtain⟨h1,h2,h3,i,i1,i2,_⟩:=pm p hp;have:=h.of0 i i1;have:=h.of1 i i1;exact⟨h1,h2,h3,omg_,omg_,omg_⟩) ps.length 0 [] omg_ smp_
 rw[show ((0:F):B)=0 from rfl,Æ]at e1;have hwm:w.length*(M+1)<=854:=R (Ç hl (show M+1<=61 by omega)) (by decide);have hEl:E.length<=w.length*(M+1)*(l.length+1):=R l1 (Nat.mul_le_mul_left _ pl);have hEl2:E.length<=854*21:=R hEl (Ç hwm omg_);obtain⟨out,e2,s1,s2,s3,s4⟩:=jhA (l:=E) omg_ (λs hs=>by have:=b1 s hs;omega) (lo:=a) (hi:=b) (λs hs _=>⟨(b1 s hs).1,(b1 s hs).2.1⟩);refine⟨out,?_,s1,s4,omg_,λk hk x hx1 hx2 hk1 hk2=>?_⟩
 .simp(disch:=omega)only[j4f,e,e1,e2,S0]
 .rw[s2 x,m1 x,Ò];constructor
  .rintro⟨p,hp,c1,c2,c3⟩
   obtain⟨h1,h2,h3,i,i1,i2,i3,i4⟩:=pm p hp;have:i=k:=jhz h i1 hk (t:=x) omg_ omg_ hk1 hk2;subst this;rw[<-i2];exact c3
  .intro hx;obtain⟨p,hp,c1,c2⟩:=pc x hx1 hx2;obtain⟨h1,h2,h3,i,i1,i2,i3,i4⟩:=pm p hp;have:i=k:=jhz h i1 hk (t:=x) omg_ omg_ hk1 hk2;subst this;exact⟨p,hp,c1,c2,by rw[i2];exact hx⟩
theorem je8{o:B}{rs:G Rule}(hm:MZ o rs):(outT o (j6x (occs rs))).length<=4:=by
 grind[jpe,j6x,j9P,MZ.few]
theorem jCg{o:B}{rs:G Rule}(hm:MZ o rs):(outT o (j6x (occs rs))).length<=20:=R (je8 hm) omg_
end Go.Proofs.Pw
