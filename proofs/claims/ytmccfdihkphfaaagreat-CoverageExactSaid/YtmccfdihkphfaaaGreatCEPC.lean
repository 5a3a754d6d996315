/- Facts. -/
import Derived.Test.YtmccfdihkphfaaaGreatCEPB
import Derived.Test.YtmccfdihkphfaaaGreatCEPA
import Derived.KernelRfl
import Derived.Test.YtmccfdihkphfaaaGreatCEFns
open _root_ renaming Int->q,Nat->D,List->F,Option->Z
open Option renaming some->B
open List renaming take_of_length_le->E,getD_eq_getElem?_getD->G,length->O,getD->Å
open ByteArray renaming empty->H
open Int renaming lt_or_le->I,mul_nonneg->J,mul_le_mul->M,mul_comm->W,ofNat->X,mul_assoc->À,tdiv->Á,mul_add->Ã,mul_one->Ä
open Decidable renaming decide->R
open Or renaming inl->S,inr->U
open Go Go.Lft
namespace Go.Proofs.Pw
def yH(o:q)(l:bm)(s:q):Prop:=∀j,j<=l.length->aV l (j+1)<=s-bq o l j
noncomputable def fO(o:q)(l:bm)(s:q):Z Int:=open Classical in if h:∃t k,ou o l s t k then B (Classical.choose h) else none
theorem ou.uniq{o:q}{l:bm}{s t t':q}{k k':D}(f:ou o l s t k)(g:ou o l s t' k'):k=k'/\t=t':=by
 have hk:k=k':=by
  rcases v7 k k' with ao|heq|Bq
  .have:=g.bef k ao;have:=f.hks;omega
  .exact heq
  .have:=f.bef k' Bq;have:=g.hks;omega
 subst hk;exact⟨rfl,by rw[f.ht,g.ht]⟩
theorem ub{o:q}{l:bm}{s t:q}{k:D}(f:ou o l s t k):fO o l s=B t:=by
 have he:∃t k,ou o l s t k:=⟨t,k,f⟩;unfold fO;rw[dif_pos he];obtain⟨k',g⟩:=Classical.choose_spec he;rw[(g.uniq f).2]
theorem uc{o:q}{l:bm}{s:q}(db:yH o l s):fO o l s=none:=by
 unfold fO;rw[dif_neg]
 rintro⟨t,k,f⟩
 have:=db k f.hk;have:=f.hks;omega
theorem GV(o:q)(l:bm)(s:q):(∃t k,ou o l s t k)\/yH o l s:=by
 by_cases db:yH o l s
 .exact .inr db
 .left
  have:∃j,j<=l.length/\s-bq o l j<aV l (j+1):=by
   apply jt;intro hn
   exact db λj hj=>by
    rcases I (s-bq o l j) (aV l (j+1)) with h|h
    .exact absurd ⟨j,hj,h⟩ hn
    .exact h
  obtain⟨j,hj,hjs⟩:=this;obtain⟨a,⟨ha,haN⟩,sV⟩:=ID (λj=>s-bq o l j<aV l (j+1)/\j<=l.length) j ⟨hjs,hj⟩;refine⟨_,a,haN,ha,λi hi=>?_,rfl⟩;rcases I (s-bq o l i) (aV l (i+1)) with h'|h'
  .have:=sV i ⟨h',aa⟩;omega
  .exact h'
theorem K9{o:q}{l:bm}{s t:q}(he:fO o l s=B t):∃k,ou o l s t k:=by
 rcases GV o l s with⟨t',k,f⟩|db
 .rw[ub f]at he;simp at he;subst he;exact⟨k,f⟩
 .rw[uc db]at he;simp at he
section
variable{o:q}{l:bm}(h:ix o l)
include h
theorem Br{s t:q}(he:fO o l s=B t):s<=t+64800/\0<=t/\t<=8589934592:=by
 obtain⟨k,f⟩:=K9 he;obtain⟨p1,p2,p3⟩:=f.piece h;have o1:=h.of1 k f.hk;have g1:=h.frm_le (i:=0) (j:=k) aa (by have:=f.hk;omega);have e0:aV l 0=0:=lE;have e1:aV l (l.length+1)=8589934593:=lF;have g2:=h.frm_le (i:=k+1) (j:=l.length+1) (by have:=f.hk;omega) aa;omega
theorem Ue{s:q}(hs:8589934593+64800<=s):yH o l s:=λj hj=>by
 have o1:=h.of1 j hj;have e1:aV l (l.length+1)=8589934593:=lF;have g2:=h.frm_le (i:=j+1) (j:=l.length+1) aa aa;omega
theorem jH5{s s' t':q}(hs:s<=s')(he:fO o l s'=B t'):∃t,fO o l s=B t/\t<=t':=by
 obtain⟨k',g⟩:=K9 he;have g1:=g.hks;have bC:=g.hk;rcases GV o l s with⟨t,k,f⟩|db
 .refine⟨t,ub f,?_⟩;obtain⟨p1,p2,p3⟩:=f.piece h;obtain⟨q1,q2,q3⟩:=g.piece h;have f1:=f.ht;have g2:=g.ht;rcases v7 k k' with ao|heq|Bq
  .have:=h.frm_le (i:=k+1) (j:=k') aa aa;omega
  .subst heq;omega
  .have:=f.bef k' Bq;omega
 .have:=db k' bC;omega
theorem ϳ{d c s:q}(lJ:j5s (d,c)=B s)(jG : -1000000000000<=s)(kM:s<=1000000000000)(db:yH o l s) :
  ∀(n i:D),i+n=l.length+1->Js ((l.length+1:D):q) (i:q) d c (sa o l (l.length+1))=B (.inr ())
 |0,i,hi=>by
  rw[Jt];simp(disch:=omega)only[j1G,S0]
 |n+1,i,hi=>by
  have hlen:=h.len;have kL:i<=l.length:=aa;have o1:=h.of0 i kL;have o2:=h.of1 i kL;have hb:=db i kL;have ao:=h.frm_lt kL;rw[Jt];simp only[j1G];rw[ai (show (i:q)<((l.length+1:D):q) by omega),bL aa (by rw[Bd];omega)];simp only[j6,j8,TN (show i<l.length+1 by omega),lJ,j4,pc];rw[aQ (x:=s-bq o l i),aQ (x:=(i:q)+1)];have hm:(if s-bq o l i>aV l i then s-bq o l i else aV l i)=max (aV l i) (s-bq o l i):=by split<;>omega
  rw[hm,aC aa,j7,bg];exact ϳ lJ jG kM db n (i+1) aa
theorem Uf{d c s:q}(lJ:j5s (d,c)=B s)(jG : -1000000000000<=s)(kM:s<=1000000000000)(db:yH o l s):j1U (o,l) (d,c)=B (0,false):=by
 have:=ϳ h lJ jG kM db (l.length+1) 0 aa;simp(disch:=omega)only[j1U,ο h,Bd,S0];rw[show (0:q)=((0:D):q) from rfl,this];rfl
theorem Ug{d c:q}(hd : -1000000<=d)(iJ:d<=1000000000000000)(hc:0<=c)(fQ:c<=86399) :
  j1U (o,l) (d,c)=B ((fO o l (d*86400+c)).getD 0,(fO o l (d*86400+c)).isSome):=by
 by_cases hb:d<=1000000
 .rcases GV o l (d*86400+c) with⟨t,k,f⟩|db
  .have e:=jEu h hd hb aa aa f.hk f.hks f.bef;rw[<-f.ht]at e;rw[ub f];exact e
  .rw[uc db];exact Uf h (TO hd hb aa aa) aa aa db
 .have db:yH o l (d*86400+c):=Ue h aa;rw[uc db];by_cases gm:d<=1048576
  .have lJ:j5s (d,c)=B (d*86400+c):=by simp(disch:=omega)only[j5s,if_neg,S0]
   exact Uf h lJ aa aa db
  .have lJ:j5s (d,c)=B (1048576*86400+c):=by simp(disch:=omega)only[j5s,if_pos,S0]
   exact Uf h lJ aa aa (Ue h aa)
theorem ϴ{nm:ByteArray}{rs:F aO}{d c:q}(hd : -1000000<=d)(iJ:d<=1000000)(hc:0<=c)(fQ:c<=86399)(db:yH o l (d*86400+c)):∀(n j:D),j+n=l.length+1->
  yB ((j:q)-1) nm o rs d c l=B (.inr ())
 |0,j,hj=>by
  rw[Qc];simp(disch:=omega)only[j5x,S0]
 |n+1,j,hj=>by
  have hlen:=h.len;have uH:j<=l.length:=aa;have o1:=h.of0 j uH;have o2:=h.of1 j uH;have ao:=h.frm_lt uH;have hb:=db j uH;have ih:=ϴ (nm:=nm) (rs:=rs) hd iJ hc fQ db n (j+1) aa;rw[show ((j+1:D):q)-1=(j:q) by omega]at ih
  have key:∀A:Z ((q×ByteArray×q×F aO×q×q×bm) ⊕ ((q×q) ⊕ Unit)),
    A=(cond (R (max (aV l j) (d*86400+c-bq o l j)<aV l (j+1))) (B (.inr (.inl (max (aV l j) (d*86400+c-bq o l j),0)))) (B (.inl ((j:q),nm,o,rs,d,c,l))))->
    lpK A (λh=>yB h.1 h.2.1 h.2.2.1 h.2.2.2.1 h.2.2.2.2.1 h.2.2.2.2.2.1 h.2.2.2.2.2.2)=B (.inr ()):=by
   intro A hA;rw[hA,aC aa,j7,bg];exact ih
  rw[Qc];refine key _ ?_;simp only[j5x,show X (O l)=(l.length:q) from rfl];rw[ai (show (j:q)-1<(l.length:q) by omega)];simp only[show (j:q)-1+1=(j:q) by omega,aQ (x:=(j:q)),j8];rw[aQ (x:=d*86400),aQ (x:=d*86400+c)];have oK:∀a b:q,(if a>b then a else b)=max b a:=λa b=>aa;clear key;cases j with
  |zero=>
   have rq:bq o l 0=o:=rfl;have nM:aV l 0=0:=rfl;rw[aC (show¬((0:D):q)-1>=0 by omega)];rw[rq]at o1 o2 ⊢;rw[nM];simp only[j6,j7,aQ (x:=d*86400+c-o),oK];by_cases jO:0<l.length
   .have e:aV l (0+1)=eh l 0:=ia jO;rw[e];rw[ai (show ((0:D):q)<(l.length:q) by omega),cB];rfl
   .have ua:l.length=0:=aa;have e:aV l (0+1)=8589934593:=by have:=lF (l:=l);rwa[ua]at this
    rw[e];rw[aC (show¬((0:D):q)<(l.length:q) by omega)];rfl
  |succ i=>
   have kL:i<l.length:=aa;have rq:bq o l (i+1)=(l.getD i ((0:q),(0:q))).2:=rfl;have nM:aV l (i+1)=(l.getD i ((0:q),(0:q))).1:=ia kL;rw[show ((i+1:D):q)-1=(i:q) by omega,ai (show (i:q)>=0 by omega),cB];simp only[j6,j8,<-rq,<-nM];rw[aQ (x:=d*86400+c-bq o l (i+1))];simp only[oK];by_cases jO:i+1<l.length
   .have e:aV l (i+1+1)=(l.getD (i+1) ((0:q),(0:q))).1:=ia jO;rw[ai (show ((i+1:D):q)<(l.length:q) by omega),cB];simp only[j6,<-e]
   .have e:aV l (i+1+1)=8589934593:=by have:=lF (l:=l);rwa[show l.length+1=i+1+1 by omega]at this
    rw[aC (show¬((i+1:D):q)<(l.length:q) by omega),e];rfl
end
theorem La{z:bB}{l:bm}(h:Z4 z l){d c:q}(hd:1<=d)(hc:0<=c)(fQ:c<=86399) :
  j4A z (d,c)=B (match fO z.2.1 l (d*86400+c) with|some t=>(t,0)|none=>(0,10)):=by
 by_cases hb:d<=99422
 .rcases GV z.2.1 l (d*86400+c) with⟨t,k,f⟩|db
  .have e:=jAe h (d:=d) (c:=c) aa hb hc fQ f.hk f.hks f.bef;rw[<-f.ht]at e;rw[ub f];exact e
  .have:=ϴ h.2 (nm:=z.1) (rs:=z.2.2) (show -1000000<=d by omega) aa hc fQ db (l.length+1) 0 aa;rw[uc db];simp only[j4A,show j0a (z.1,(z.2.1,z.2.2))=_ from h.1,j4,je,j7,nn hc fQ,jg,Ud (show -2<=d by omega) hb];rw[aC (show¬d < -2 by omega),j7,show yB (-1) z.1 z.2.1 z.2.2 d c l=_ from this];rfl
 .rw[uc (Ue h.2 aa)];simp only[j4A,show j0a (z.1,(z.2.1,z.2.2))=_ from h.1,j4,je,j7,nn hc fQ,jg,jhc,Ua (show¬(-2<=d/\d<=99422) by omega)];rw[aC (show¬d < -2 by omega)];rfl
structure Rt(L:bt):Prop where
 d0:1<=L.2.2.1.1
 d1:L.2.2.1.1<=100000
 c0:0<=L.2.2.1.2
 c1:L.2.2.1.2<=86399
 u0:0<=L.2.2.2.1
 u1:L.2.2.2.1<=2
 e0:1<=L.2.2.2.2.1
 e1:L.2.2.2.2.1<=400
 m0:L.2.2.2.2.2.1≠[]
theorem Rt.step{L:bt}(h:Rt L):1<=dF L/\dF L<=2800:=by
 have:=h.e0;have:=h.e1;unfold dF;split<;>omega
noncomputable def hO(o:q)(l:bm)(L:bt)(k:q):Z Int:=
 if L.2.2.2.1=0 then (fO o l (dv L 0)).bind λt=>if t+3600*L.2.2.2.2.1*k<=8589934592 then B (t+3600*L.2.2.2.2.1*k) else none
 else fO o l (dv L k)
section
variable{o:q}{l:bm}(ht:ix o l){L:bt}(h:Rt L)
include ht h
theorem wX{k t:q}(hk:0<=k)(he:hO o l L k=B t):0<=t/\t<=8589934592/\k<=2386092:=by
 have hs:=h.step;have Lb:=h.d0;have uN:=h.e0;have ij:=h.c0;unfold hO at he;by_cases h0:L.2.2.2.1=0
 .rw[if_pos h0]at he;cases hf:fO o l (dv L 0) with
  |none=>rw[hf]at he;simp at he
  |some v=>
   rw[hf]at he;simp only[j4]at he;have hv:=Br ht hf;have hm:3600*k<=3600*L.2.2.2.2.1*k:=Int.mul_le_mul_of_nonneg_right aa hk;split at he
   .simp at he;omega
   .simp at he
 .rw[if_neg h0]at he;have hv:=Br ht he;have hm:k*1<=k*dF L:=Int.mul_le_mul_of_nonneg_left hs.1 hk;unfold dv at hv;omega
theorem jEE{k t:q}(he:hO o l L (k+1)=B t):∃v,hO o l L k=B v/\v<=t:=by
 have hs:=h.step;have uN:=h.e0;unfold hO at he ⊢;by_cases h0:L.2.2.2.1=0
 .rw[if_pos h0]at he ⊢;cases hf:fO o l (dv L 0) with
  |none=>rw[hf]at he;simp at he
  |some v=>
   rw[hf]at he;simp only[j4]at he ⊢;have hm:3600*L.2.2.2.2.1*(k+1)=3600*L.2.2.2.2.1*k+3600*L.2.2.2.2.1:=by rw[Ã,Ä]
   split at he
   .rw[if_pos aa];simp at he;exact⟨_,rfl,aa⟩
   .simp at he
 .rw[if_neg h0]at he ⊢;have hm:(k+1)*dF L=k*dF L+dF L:=by rw[Int.add_mul,Int.one_mul]
  exact jH5 ht (by unfold dv;rw[hm];omega) he
def QO(o:q)(l:bm)(L:bt)(t k:q):Prop:=∃v,hO o l L k=B v/\v<=t
theorem QO.down{t:q}:∀(n:D){k:q},QO o l L t (k+n)->QO o l L t k
 |0,k,hq=>by rwa[show k+((0:D):q)=k by omega]at hq
 |n+1,k,hq=>by
  rw[show k+((n+1:D):q)=k+(n:q)+1 by omega]at hq;obtain⟨v,hv,wc⟩:=hq;obtain⟨v',gP,hl⟩:=jEE ht h (k:=k+(n:q)) hv;exact QO.down n ⟨v',gP,aa⟩
theorem QO.le{t k j:q}(fN:k<=j)(hq:QO o l L t j):QO o l L t k:=by
 refine QO.down ht h (j-k).toNat ?_;rwa[show k+(((j-k).toNat:D):q)=j by omega]
def lK(o:q)(l:bm)(L:bt)(t K:q):Prop:=(K = -1/\¬QO o l L t 0)\/(0<=K/\QO o l L t K/\¬QO o l L t (K+1))
theorem lK.uniq{t K K':q}(a:lK o l L t K)(b:lK o l L t K'):K=K':=by
 rcases a with⟨a1,a2⟩|⟨a1,a2,a3⟩<;>rcases b with⟨b1,b2⟩|⟨b1,b2,b3⟩
 .omega
 .exact absurd (QO.le ht h b1 b2) a2
 .exact absurd (QO.le ht h a1 a2) b2
 .rcases Int.lt_trichotomy K K' with ao|heq|Bq
  .exact absurd (QO.le ht h aa b2) a3
  .exact heq
  .exact absurd (QO.le ht h aa a2) b3
theorem QO.day{t k:q}(h0:L.2.2.2.1≠0)(hq:QO o l L t k){j:D}(hj:j<=l.length):L.2.2.1.1+k*dF L<=(t+bq o l j)/86400+2:=by
 obtain⟨v,hv,wc⟩:=hq;unfold hO at hv;rw[if_neg h0]at hv;have:=Br ht hv;have o0:=ht.of0 j hj;have ij:=h.c0;unfold dv at this;omega
end
theorem ϵ(day y:q)(Aj:dW y<=day)(wh:day<dW (y+1))(h3:y<=1000000):∀(n:D)(k:q),k+n=y -> -1000000<=k->O9 day k=B y
 |0,k,hn,hk=>by
  rw[ZR];have:k=y:=aa;subst this;simp(disch:=omega)only[j66,yE (k+1) aa aa,S0]
 |n+1,k,hn,hk=>by
  rw[ZR];have:=wS (a:=k+1) (b:=y) aa;simp(disch:=omega)only[j66,yE (k+1) aa aa,S0];have ih:=ϵ day y Aj wh h3 n (k+1) aa aa;exact ih
theorem jH6(day y:q)(h1 : -365<=day)(h2:day<=1000000)(Aj:dW y<=day)(wh:day<dW (y+1)):jk4 day=B y:=by
 have hq:1970+day/366<=y /\ -1000000<=day/366/\y<=1000000:=by
  refine⟨?_,aa,?_⟩
  .rcases I y (1970+day/366) with h|h
   .have h':=wS (a:=y+1) (b:=1970+day/366) aa;exfalso;have:dW (1970+day/366)<=day:=by unfold dW;omega
    omega
   .exact h
  .rcases I 1000000 y with h|h
   .have:=wS (a:=1000000) (b:=y) aa;have h4:364000000<=dW 1000000:=by decide
    omega
   .exact h
 simp only[jk4,KT day 366 aa aa aa,j4];rw[aQ,ϵ day y Aj wh hq.2.2 (y-(1970+day/366)).toNat _ aa aa];rfl
theorem jH7(d:D):∃y,1970<=y/\dW y<=d/\(d:q)<dW (y+1):=by
 induction d with
 |zero=>exact⟨1970,aa,by decide,by decide⟩
 |succ d ih=>
  obtain⟨y,h1,h2,h3⟩:=ih;by_cases h:((d+1:D):q)<dW (y+1)
  .exact⟨y,h1,aa,h⟩
  .have:=jIy (a:=y+1) (b:=y+1+1) aa;exact⟨y+1,aa,aa,aa⟩
theorem Ϸ(y r:q)(h0:0<=r):∀k:D,k<=12->r<dP y (k+1)->∃m:q,1<=m/\m<=k/\dP y m<=r/\r<dP y m+gv y m
 |0,_,h=>by have:dP y ((0:D)+1)=0:=rfl;omega
 |k+1,hk,h=>by
  by_cases h':r<dP y (k+1)
  .obtain⟨m,h1,h2,h3⟩:=Ϸ y r h0 k aa h';exact⟨m,h1,aa,h3⟩
  .have:=Bf y (k+1) aa aa;rw[show ((k+1:D):q)=(k:q)+1 from rfl]at h;exact⟨k+1,aa,aa,aa,aa⟩
theorem jJS(y:q):dP y 13=365+jI y:=by unfold dP;omega
theorem jEF(y r:q)(h0:0<=r)(h:r<365+jI y):∃m,1<=m/\m<=12/\dP y m<=r/\r<dP y m+gv y m:=
 Ϸ y r h0 12 (jh _) (by rw[show ((12:D):q)+1=13 from rfl,jJS];exact h)
theorem jH8(day:q)(h0:0<=day)(h1:day<98981):∃y m d,sb y m d/\num y m d=day/\dW y<=day/\day<dW (y+1)/\1<=m/\m<=12:=by
 obtain⟨y,Aj,wh,ϸ⟩:=jH7 day.toNat;rw[Int.toNat_of_nonneg h0]at wh ϸ;have hs:=TQ y;obtain⟨m,gg,hQ,Ϲ,Ϻ⟩:=jEF y (day-dW y) aa aa;refine⟨y,m,day-dW y-dP y m+1,⟨Aj,?_,aa,aa⟩,by unfold num;omega,wh,ϸ,gg,hQ⟩;rcases I 2240 y with h|h
 .have:=wS (a:=2241) (b:=y) aa;have:=TR;omega
 .exact h
theorem jID{y m d:q}(h:sb y m d):dW y<=num y m d/\num y m d<dW (y+1)/\dP y m<=num y m d-dW y/\num y m d-dW y<dP y m+gv y m/\num y m d-dW y-dP y m+1=d:=by
 have hm:=GP h;obtain⟨h1,h2,h3,h4⟩:=h;have hc:=Bg y m;have:=Bf y m hm.1 hm.2;have hs:=TQ y;have:dP y (m+1)<=365+jI y:=by have:=GM y;unfold dP;omega
 unfold num;omega
theorem ϻ(y m r x1 x2 x3 x7:q)(hQ:m<=12)(hr0:0<=r)(hr:r<gv y m):∀(n:D)(k:q),1<=k->k+n=m->
  Pa (r+dP y m-dP y k) x1 x2 x3 y k x7=B (r,x1,x2,x3,y,m,x7)
 |0,k,hk,hn=>by
  have:k=m:=aa;subst this;rw[ZS];simp(disch:=omega)only[j53,GO,S0];rw[show r+dP y k-dP y k=r by omega]
 |n+1,k,hk,hn=>by
  rw[ZS];have hs:=Bf y k hk aa
  have mf:dP y (k+1)<=dP y m:=by
   have:∀(j:D),k+1+j<=12->dP y (k+1)<=dP y (k+1+j):=by
    intro j;induction j with
    |zero=>intro _;simp
    |succ j ih=>intro hj;have h1:=ih aa;have h2:=Bf y (k+1+j) aa aa;have h3:=ot y (k+1+j);rw[show k+1+((j+1:D):q)=k+1+j+1 by omega];omega
   have:=this n aa;rwa[show k+1+(n:q)=m by omega]at this
  have c1:=Bg y k;have c2:=Bg y m;have c3:=ot y k;have c4:=ot y m;simp only[j53,GO,j4];rw[ai (show r+dP y m-dP y k>=gv y k by omega)];simp only[j6,bg];rw[aQ (x:=r+dP y m-dP y k-gv y k),aQ (x:=k+1),show r+dP y m-dP y k-gv y k=r+dP y m-dP y (k+1) by omega];exact ϻ y m r x1 x2 x3 x7 hQ hr0 hr n (k+1) aa aa
theorem jCw{y m d:q}(h:sb y m d):j67 (num y m d)=B ((y,m,d),0):=by
 have hm:=GP h;have hr:=Bh h;obtain⟨i1,i2,i3,i4,i5⟩:=jID h;have hd:=ot y m;have hc:=Bg y m;simp(disch:=omega)only[j67,yE 1970 aa aa,yE 2241 aa aa,ό,TR,jH6 (num y m d) y aa aa i1 i2,S0];simp only[j4,yE y (by have:=h.1;omega) (by have:=h.2.1;omega)];have hl:=ϻ y m (num y m d-dW y-dP y m) 0 0 0 0 hm.2 aa aa (m-1).toNat 1 aa aa;rw[show num y m d-dW y-dP y m+dP y m-dP y 1=num y m d-dW y by (have:dP y 1=0:=rfl);omega]at hl;rw[aQ (x:=num y m d-dW y),hl];simp only[j4];rw[i5,gh (by have:=h.2.2;omega) (by have:=h.2.2;omega)]
theorem jCx(day:q)(h:day<0\/98981<=day):j67 day=B ((0,0,0),1):=by
 simp only[j67,yE 1970 aa aa,yE 2241 aa aa,j4,ό,TR];rcases h with h|h
 .rw[ai h];rfl
 .rw[aC (show¬day<0 by omega),j7,ai (show day>=98981 by omega)];rfl
theorem yI(n:q):j15 n=B (R (0<=n)&&R (n<=98980)):=by
 by_cases h:0<=n/\n<=98980
 .obtain⟨y,m,d,hv,hn,_⟩:=jH8 n h.1 aa;have:=jCw hv;rw[hn]at this;simp(disch:=omega)only[j15,this,S0];rfl
 .simp only[j15,jCx n aa,j4];by_cases h0:0<=n
  .simp(disch:=omega)only[S0];rfl
  .rw[aC h0];rfl
structure Dz(nz np nc:D)(l:bt):Prop where
 z0:0<=l.2.1
 z1:l.2.1<nz
 d0:1<=l.2.2.1.1
 d1:l.2.2.1.1<=98980
 c0:0<=l.2.2.1.2
 c1:l.2.2.1.2<=86399
 u0:0<=l.2.2.2.1
 u1:l.2.2.2.1<=2
 e0:1<=l.2.2.2.2.1
 e1:l.2.2.2.2.1<=400
 m0:l.2.2.2.2.2.1.length≠0
 m1:l.2.2.2.2.2.1.length<=12
 mem:∀m∈l.2.2.2.2.2.1,0<=m/\m<(np:q)
 w:ib 0 l.2.2.2.2.2.2.1
 wl:l.2.2.2.2.2.2.1.length<=14
 mode0:0<=l.2.2.2.2.2.2.2.2
 mode1:l.2.2.2.2.2.2.2.2<=2
 cal:l.2.2.2.2.2.2.2.2≠0->0<=l.2.2.2.2.2.2.2.1/\l.2.2.2.2.2.2.2.1<(nc:q)
 T6:l.2.2.2.2.2.2.2.2=0->l.2.2.2.2.2.2.2.1=0
structure ic(nz np nc:D)(l:bt):Prop extends Dz nz np nc l where
 w3:l.2.2.2.2.2.2.1.length<=3
theorem Dz.rt2{nz np nc:D}{L:bt}(h:Dz nz np nc L):Rt L:=
 ⟨h.d0,by have:=h.d1;omega,h.c0,h.c1,h.u0,h.u1,h.e0,h.e1,λhm=>h.m0 (by rw[hm];rfl)⟩
theorem ic.rt2{nz np nc:D}{L:bt}(h:ic nz np nc L):Rt L:=
 ⟨h.d0,by have:=h.d1;omega,h.c0,h.c1,h.u0,h.u1,h.e0,h.e1,λhm=>h.m0 (by rw[hm];rfl)⟩
structure GW(x:ct):Prop where
 f0:0<=x.2.2.2.1
 ft:x.2.2.2.1<x.2.2.2.2
 t1:x.2.2.2.2<=1000000000000
structure kS(zs:F bB)(ps:F cZ)(cs:F aY):Prop where
 ok:∀z∈zs,eX z
 ck:∀x∈cs,nk zs.length x
 zl:zs.length<=16
 pl:ps.length<=32
theorem mR{zs:F bB}{ps:F cZ}{cs:F aY}(hs:kS zs ps cs){i:q}(h0:0<=i)(h1:i<(cs.length:q)):nk zs.length (cs.getD i.toNat (H,((0:q),([]:F q)))):=by
 have hi:i.toNat<cs.length:=aa;rw[show cs.getD i.toNat (H,((0:q),([]:F q)))=cs[i.toNat] by simp[Å,hi]];exact hs.ck _ (jd hi)
theorem Uh:j6x 2241=B 98981:=by kernel_rfl
theorem Ui:j6x 1970=B 0:=by kernel_rfl
theorem jIE{d:q}(h:j15 d=B true):d<=100000:=by
 rw[yI]at h;simp only[j5,jc,jl]at h;omega
theorem Ā{d:q}(h:j15 d=B true):0<=d:=by
 rw[yI]at h;simp only[j5,jc,jl]at h;omega
theorem ā{L:bt}(h:Rt L):jc2 L=B (dF L):=by
 have:=h.e0;have:=h.e1;simp only[jc2,dF];by_cases h2:L.2.2.2.1=2
 .simp(disch:=omega)only[if_pos h2,S0]
 .rw[cU h2,j7,if_neg h2]
def ud(r:Z (q×Bool))(x:Z q):Prop:=∃v,r=B (v,x.isSome)/\∀t,x=B t->v=t
theorem px{o:q}{l:bm}(ht:ix o l){L:bt}(h:Rt L){k:q}(hk:0<=k)(fo:k<=8589934592):ud (j0N (o,l) L k) (hO o l L k):=by
 have hs:=h.step;have Lb:=h.d0;have rO:=h.d1;have ij:=h.c0;have eP:=h.c1;have uN:=h.e0;have Ae:=h.e1;have fi:jc2 (L.1,L.2.1,(L.2.2.1.1,L.2.2.1.2),L.2.2.2.1,L.2.2.2.2.1,L.2.2.2.2.2.1,L.2.2.2.2.2.2.1,L.2.2.2.2.2.2.2.1,L.2.2.2.2.2.2.2.2)=_:=ā h;simp only[ud,j0N,fi,j4];rw[aC (show¬k>8589934592 by omega),j7];by_cases h0:L.2.2.2.1=0
 .have hF:=Ug ht (d:=L.2.2.1.1) (c:=L.2.2.1.2) aa aa ij eP;have jG:L.2.2.1.1*86400+L.2.2.1.2=dv L 0:=by unfold dv;omega
  have sf:0<=3600*L.2.2.2.2.1*k:=J aa hk;have gg:3600*L.2.2.2.2.1*k<=3600*400*8589934592:=M aa fo hk aa;rw[show (L.2.2.2.1 != 0)=false by rw[h0];rfl,j7,hF,jG];simp only[j4];unfold hO;rw[if_pos h0];cases hf:fO o l (dv L 0) with
  |none=>exact⟨_,rfl,λt h=>by simp at h⟩
  |some v=>
   have hv:=Br ht hf;simp(disch:=omega)only[kp,S0];by_cases hle:v+3600*L.2.2.2.2.1*k<=8589934592
   .rw[if_pos hle,ai hle];exact⟨_,rfl,λt h=>by simpa using h⟩
   .rw[if_neg hle,aC hle];exact⟨_,rfl,λt h=>by simp at h⟩
 .have sf:0<=k*dF L:=J hk aa;have gg:k*dF L<=8589934592*2800:=M fo hs.2 aa aa;rw[show (L.2.2.2.1 != 0)=true by simp[h0],j6,aQ (x:=k*dF L),aQ (x:=L.2.2.1.1+k*dF L),Ug ht aa aa ij eP];simp only[j4];unfold hO;rw[if_neg h0];exact⟨_,rfl,λt h=>by have h:fO o l ((L.2.2.1.1+k*dF L)*86400+L.2.2.1.2)=B t:=h;rw[h];rfl⟩
theorem Bs{z:bB}{l:bm}(hz:Z4 z l){L:bt}(h:Rt L){k:q}(hk:0<=k)(fo:k<=8589934592):ud (j6l z L k) (hO z.2.1 l L k):=by
 have hs:=h.step;have Lb:=h.d0;have rO:=h.d1;have ij:=h.c0;have eP:=h.c1;have uN:=h.e0;have Ae:=h.e1;have Cp:=h.u1;have hu0:=h.u0;simp only[ud,j6l];have sf:0<=k*L.2.2.2.2.1:=J hk aa;have gg:k*L.2.2.2.2.1<=8589934592*400:=M fo aa aa aa;rw[aQ (x:=k*L.2.2.2.2.1)];by_cases h0:L.2.2.2.1=0
 .have hF:=La hz (d:=L.2.2.1.1) (c:=L.2.2.1.2) aa ij eP;have jG:L.2.2.1.1*86400+L.2.2.1.2=dv L 0:=by unfold dv;omega
  rw[dR h0,j6,show j4A (z.1,(z.2.1,z.2.2)) (L.2.2.1.1,L.2.2.1.2)=_ from hF,jG];simp only[j4];have jN:k*L.2.2.2.2.1*3600=3600*L.2.2.2.2.1*k:=by rw[W,W k,À]
  have hQ:0<=3600*L.2.2.2.2.1*k:=J aa hk;have Ϲ:3600*L.2.2.2.2.1*k<=3600*400*8589934592:=M aa fo hk aa;simp(disch:=omega)only[jN,S0];unfold hO;rw[if_pos h0];cases hf:fO z.2.1 l (dv L 0) with
  |none=>exact⟨_,rfl,λt h=>by simp at h⟩
  |some v=>
   have hv:=Br hz.2 hf;simp(disch:=omega)only[S0];by_cases hle:v+3600*L.2.2.2.2.1*k<=8589934592
   .rw[if_pos hle,ai hle];exact⟨_,rfl,λt h=>by simpa using h⟩
   .rw[if_neg hle,aC hle];exact⟨_,rfl,λt h=>by simp at h⟩
 .rw[cU h0,j7]
  have fin:∀n:q,n=k*dF L->0<=n->ud ((j4A (z.1,(z.2.1,z.2.2)) (L.2.2.1.1+n,L.2.2.1.2)).bind λr=>B (r.1,(r.2==(0:q)))) (hO z.2.1 l L k):=by
   intro n hn l7;have hF:=La hz (d:=L.2.2.1.1+n) (c:=L.2.2.1.2) aa ij eP;rw[show j4A (z.1,(z.2.1,z.2.2)) (L.2.2.1.1+n,L.2.2.1.2)=_ from hF];unfold hO;rw[if_neg h0];have fp:(L.2.2.1.1+n)*86400+L.2.2.1.2=dv L k:=by rw[hn];rfl
   rw[fp];cases hf:fO z.2.1 l (dv L k) with
   |none=>exact⟨_,rfl,λt h=>by simp at h⟩
   |some v=>exact⟨_,rfl,λt h=>by simpa using h⟩
  by_cases h2:L.2.2.2.1=2
  .have Bt:dF L=7*L.2.2.2.2.1:=by unfold dF;rw[if_pos h2]
   have e1:k*L.2.2.2.2.1*7=k*dF L:=by rw[Bt,À,W L.2.2.2.2.1 7]
   simp(disch:=omega)only[S0];exact fin _ e1 aa
  .have Bt:dF L=L.2.2.2.2.1:=by unfold dF;rw[if_neg h2]
   simp(disch:=omega)only[S0];exact fin _ (by rw[Bt]) sf
theorem Ă{o:q}{l:bm}(ht:ix o l){L:bt}(h:Rt L){t N:q}(hN:N<=8589934592)(jU:QO o l L t 0):∀n:D,(n:q)<=N->
  ∃k:q,Pt t (n:q) o l L.1 L.2.1 L.2.2.1.1 L.2.2.1.2 L.2.2.2.1 L.2.2.2.2.1 L.2.2.2.2.2.1 L.2.2.2.2.2.2.1 L.2.2.2.2.2.2.2.1 L.2.2.2.2.2.2.2.2=
   B (t,k,o,l,L.1,L.2.1,L.2.2.1.1,L.2.2.1.2,L.2.2.2.1,L.2.2.2.2.1,L.2.2.2.2.2.1,L.2.2.2.2.2.2.1,L.2.2.2.2.2.2.2.1,L.2.2.2.2.2.2.2.2)/\0<=k/\QO o l L t k
 |0,_=>by
  rw[_e];simp(disch:=omega)only[j4o,S0];exact⟨_,rfl,aa,jU⟩
 |n+1,hn=>by
  obtain⟨k,e,k0,k1⟩:=Ă ht h hN jU n aa;obtain⟨v,hH,hv⟩:=px ht h (k:=((n+1:D):q)) aa aa;rw[_e];simp only[j4o];rw[ai aa,j6,show j0N (o,l) (L.1,L.2.1,(L.2.2.1.1,L.2.2.1.2),L.2.2.2.1,L.2.2.2.2.1,L.2.2.2.2.2.1,L.2.2.2.2.2.2.1,L.2.2.2.2.2.2.2.1,L.2.2.2.2.2.2.2.2) ((n+1:D):q)=_ from hH];simp only[j4];rw[aQ (x:=((n+1:D):q)-1),show ((n+1:D):q)-1=(n:q) by omega];cases hx:hO o l L ((n+1:D):q) with
  |none=>simp only[qf,j7,bg];exact⟨k,e,k0,k1⟩
  |some x=>
   have:=hv x hx;subst this;simp only[qg,j6];by_cases hc:v<=t
   .rw[ai hc,j6,bV];exact⟨_,rfl,aa,v,hx,hc⟩
   .rw[aC hc,j7,bg];exact⟨k,e,k0,k1⟩
theorem ă{o:q}{l:bm}(ht:ix o l){L:bt}(h:Rt L){t:q}:∀(n:D)(k:q),k+n=2386093->0<=k->QO o l L t k->
  ∃K:q,Pu t k o l L.1 L.2.1 L.2.2.1.1 L.2.2.1.2 L.2.2.2.1 L.2.2.2.2.1 L.2.2.2.2.2.1 L.2.2.2.2.2.2.1 L.2.2.2.2.2.2.2.1 L.2.2.2.2.2.2.2.2=B K/\0<=K/\QO o l L t K/\¬QO o l L t (K+1)
 |0,k,hn,hk,hq=>by
  obtain⟨v,hv,_⟩:=hq;have:=wX ht h hk hv;omega
 |n+1,k,hn,hk,hq=>by
  obtain⟨v,hH,hv⟩:=px ht h (k:=k+1) aa aa;rw[jl4];simp(disch:=omega)only[j6a,show j0N (o,l) (L.1,L.2.1,(L.2.2.1.1,L.2.2.1.2),L.2.2.2.1,L.2.2.2.2.1,L.2.2.2.2.2.1,L.2.2.2.2.2.2.1,L.2.2.2.2.2.2.2.1,L.2.2.2.2.2.2.2.2) (k+1)=_ from hH,S0];cases hx:hO o l L (k+1) with
  |none=>simp only[qf,jv,j6,bV];exact⟨k,rfl,hk,hq,λ⟨y,hy,_⟩=>by rw[hx]at hy;simp at hy⟩
  |some x=>
   have:=hv x hx;subst this;simp only[qg,jg,j7];by_cases hc:v>t
   .rw[ai hc,j6,bV];exact⟨k,rfl,hk,hq,λ⟨y,hy,CO⟩=>by rw[hx]at hy;simp at hy;omega⟩
   .rw[aC hc,j7,bg];exact ă ht h n (k+1) aa aa ⟨v,hx,aa⟩
theorem Ą{o:q}{l:bm}{L:bt}(h:Rt L){t v:q}(h0:L.2.2.2.1=0)(tp:t<=8589934592)(hf:fO o l (dv L 0)=B v)(wc:v<=t)(hv0:0<=v) :
  lK o l L t ((t-v)/(3600*L.2.2.2.2.1))/\0<=(t-v)/(3600*L.2.2.2.2.1)/\(t-v)/(3600*L.2.2.2.2.1)<=8589934592:=by
 have uN:=h.e0;have Ae:=h.e1;have q0:0<=(t-v)/(3600*L.2.2.2.2.1):=y8 aa aa;have q1:3600*L.2.2.2.2.1*((t-v)/(3600*L.2.2.2.2.1))<=t-v:=Int.mul_ediv_self_le aa;have q2:t-v<3600*L.2.2.2.2.1*((t-v)/(3600*L.2.2.2.2.1))+3600*L.2.2.2.2.1:=Int.lt_mul_ediv_self_add aa;have q3:(t-v)/(3600*L.2.2.2.2.1)<=t-v:=vg _ aa;generalize (t-v)/(3600*L.2.2.2.2.1)=K at *;refine⟨.inr ⟨q0,⟨v+3600*L.2.2.2.2.1*K,?_,aa⟩,?_⟩,q0,aa⟩
 .unfold hO;simp(disch:=omega)only[hf,if_pos,S0]
 .rintro⟨y,hy,CO⟩
  unfold hO at hy;rw[if_pos h0,hf]at hy;simp only[j4,Ã,Ä]at hy;split at hy
  .simp at hy;omega
  .simp at hy
theorem ą{o:q}{l:bm}{L:bt}(h0:L.2.2.2.1=0){v:q}(hv:hO o l L 0=B v):fO o l (dv L 0)=B v:=by
 unfold hO at hv;rw[if_pos h0]at hv;cases hf:fO o l (dv L 0) with
 |none=>rw[hf]at hv;simp at hv
 |some x=>
  rw[hf]at hv;simp only[j4,Int.mul_zero,Int.add_zero]at hv;split at hv
  .simpa using hv
  .simp at hv
theorem jJT{o:q}{l:bm}(ht:ix o l){L:bt}(h:Rt L){t:q}(Lc:0<=t)(tp:t<=8589934592):∃K:q,j6b (o,l) L t=B K/\lK o l L t K:=by
 have hs:=h.step;have Lb:=h.d0;have rO:=h.d1;have uN:=h.e0;have Ae:=h.e1;obtain⟨v0,hH,hv⟩:=px ht h (k:=0) aa aa;have fi:jc2 (L.1,L.2.1,(L.2.2.1.1,L.2.2.1.2),L.2.2.2.1,L.2.2.2.2.1,L.2.2.2.2.2.1,L.2.2.2.2.2.2.1,L.2.2.2.2.2.2.2.1,L.2.2.2.2.2.2.2.2)=_:=ā h;simp only[j6b,show j0N (o,l) (L.1,L.2.1,(L.2.2.1.1,L.2.2.1.2),L.2.2.2.1,L.2.2.2.2.1,L.2.2.2.2.2.1,L.2.2.2.2.2.2.1,L.2.2.2.2.2.2.2.1,L.2.2.2.2.2.2.2.2) 0=_ from hH,fi,j4];cases hx:hO o l L 0 with
 |none=>simp only[qf,jv,j6];exact⟨-1,rfl,.inl ⟨rfl,λ⟨y,hy,_⟩=>by rw[hx]at hy;simp at hy⟩⟩
 |some v=>
  have:=hv v hx;subst this;simp only[qg,jg,j7];by_cases hc:v0>t
  .rw[ai hc,j6];exact⟨-1,rfl,.inl ⟨rfl,λ⟨y,hy,CO⟩=>by rw[hx]at hy;simp at hy;omega⟩⟩
  .rw[aC hc,j7];have hq:QO o l L t 0:=⟨v0,hx,aa⟩;have Uj:=wX ht h (k:=0) aa hx;by_cases h0:L.2.2.2.1=0
   .obtain⟨s1,s2,s3⟩:=Ą (o:=o) (l:=l) h h0 tp (ą h0 hx) aa Uj.1;simp(disch:=omega)only[qs,S0];exact⟨_,rfl,s1⟩
   .obtain⟨j,hj,j1,j2⟩:=uT ht Lc tp;have o0:=ht.of0 j hj;have o1:=ht.of1 j hj;rw[cU h0,j7,Dv ht hj j1 j2];simp only[j4];generalize Ik:(t+bq o l j)/86400=ld;rw[cU (show¬dF L=0 by omega),aQ (x:=ld-L.2.2.1.1)];simp only[jv,j6]
    obtain⟨n,hn,zV⟩:∃n:D,(if w64 (Á (ld-L.2.2.1.1) (dF L))>0 then w64 (Á (ld-L.2.2.1.1) (dF L)) else 0)=(n:q)/\(n:q)<=8589934592:=by
     by_cases kH:0<=ld-L.2.2.1.1
     .rw[qs kH];have q0:0<=(ld-L.2.2.1.1)/dF L:=y8 kH aa;have q1:(ld-L.2.2.1.1)/dF L<=ld-L.2.2.1.1:=vg _ kH;rw[aQ];refine⟨((ld-L.2.2.1.1)/dF L).toNat,?_,?_⟩
      .split<;>omega
      .omega
     .have e:Á (ld-L.2.2.1.1) (dF L) = -((-(ld-L.2.2.1.1))/dF L):=by rw[<-qs aa,Int.neg_tdiv,Int.neg_neg]
      have q0:0<=(-(ld-L.2.2.1.1))/dF L:=y8 aa aa;have q1:(-(ld-L.2.2.1.1))/dF L <= -(ld-L.2.2.1.1):=vg _ aa;simp(disch:=omega)only[if_neg,S0];exact⟨0,rfl,aa⟩
    rw[hn];obtain⟨k,e,k0,k1⟩:=Ă ht h (jx _) hq n zV;have uL:=k1;obtain⟨y,hy,_⟩:=uL;have cG:=wX ht h k0 hy;obtain⟨K,e2,K0,K1,K2⟩:=ă ht h (t:=t) (2386093-k).toNat k aa k0 k1;simp only[e,j4,e2];exact⟨K,rfl,.inr ⟨K0,K1,K2⟩⟩
def tb(z:bB):q×bm:=(z.2.1,cm z.2.1 (dY (occs z.2.2)))
theorem eX.ztab{z:bB}(h:eX z):tZ z (tb z).2:=MZ.tab (o:=z.2.1) (rs:=z.2.2) h z.1
theorem eX.zdif{z:bB}(h:eX z):T7 z.2.1 (tb z).2:=T1 _ _ _ (MZ.good h)
theorem eX.zref{z:bB}(h:eX z):tZ z (tb z).2/\Z4 z (tb z).2/\T7 z.2.1 (tb z).2:=⟨h.ztab,MZ.r4 (o:=z.2.1) (rs:=z.2.2) h z.1,h.zdif⟩
theorem Ć{zs:F bB}(h:∀z∈zs,eX z)(hl:zs.length<=100):∀(n i:D),i+n=zs.length->Jr zs (zs.length:q) (i:q) ((zs.take i).map tb)=B (zs.map tb)
 |0,i,hi=>by
  rw[ZU];simp(disch:=omega)only[j5D,E,S0]
 |n+1,i,hi=>by
  have ao:i<zs.length:=aa;have br:zs.getD i (H,((0:q),([]:F aO)))=zs[i]:=by simp[ao]
  have ht:=jJQ (h zs[i] (jd ao)).ztab;have ih:=Ć h hl n (i+1) aa;rw[kx,jn ao,List.map_append]at ih;rw[ZU];simp(disch:=omega)only[j5D,show jpT (zs[i].1,(zs[i].2.1,zs[i].2.2))=_ from ht,S0];rw[ai (by simp[aK];omega),j6,bg];exact ih
theorem jH9{zs:F bB}(h:∀z∈zs,eX z)(hl:zs.length<=100){ps:F cZ}{cs:F aY}{ss:F bW}:jma (zs,(ps,(cs,ss)))=B ((zs,(ps,(cs,ss))),zs.map tb):=by
 have lp:=Ć h hl zs.length 0 aa;simp(disch:=omega)only[jma,jl2,S0];rw[show Jr zs (zs.length:q) 0 []=_ from lp];rfl
theorem Ld{zs:F bB}{i:q}(h0:0<=i)(h1:i<(zs.length:q)):Å (zs.map tb) i.toNat ((0:q),([]:bm))=tb (zs.getD i.toNat (H,((0:q),([]:F aO)))):=by
 have ao:i.toNat<zs.length:=aa;simp[G,ao]
theorem eG{zs:F bB}(h:∀z∈zs,eX z){i:q}(h0:0<=i)(h1:i<(zs.length:q)):eX (zs.getD i.toNat (H,((0:q),([]:F aO)))):=by
 have ao:i.toNat<zs.length:=aa;rw[G,jn ao];exact h _ (jd ao)
theorem jEG(a b:q):jfS a b=B (R (a<b)):=by
 simp only[jfS,jdX,j4,je,j7]
theorem Uk{ds:F q}(hs:ds.Pairwise (· < ·))(hl:ds.length<=64){x:q}:∀(n a b:D),b-a<=n->a<=b->b<=ds.length->(∀i,(hi:i<ds.length)->i<a->ds[i]<x)->(∀i,(hi:i<ds.length)->b<=i->x<=ds[i])->
  ∃k:D,Py ds x (ds.length:q) (a:q) (b:q)=B (ds,x,(ds.length:q),(k:q))/\k<=ds.length/\(∀i,(hi:i<ds.length)->i<k->ds[i]<x)/\∀i,(hi:i<ds.length)->k<=i->x<=ds[i]
 |n,a,b,hn,bH,hb,h1,h2=>by
  rw[jaX];simp only[j1M];by_cases ao:a<b
  .have hm:IntKind.wrap .u64 ((a:q)+(b:q))=(a:q)+(b:q):=IntWalk.u64_in _ ⟨aa,aa⟩;have hd:Int.fdiv ((a:q)+(b:q)) 2=(((a+b)/2:D):q):=by rw[Int.fdiv_eq_ediv_of_nonneg _ aa];omega
   have Cs:(a+b)/2<ds.length:=aa;have br:ds.getD ((a+b)/2) (0:q)=ds[(a+b)/2]:=by simp[Cs]
   simp(disch:=omega)only[hm,hd,jEG,S0];cases n with
   |zero=>omega
   |succ n=>
    by_cases hc:ds[(a+b)/2]<x
    .rw[ai hc,j6,bg];refine Uk hs hl n ((a+b)/2+1) b aa aa hb (λi hi mS=>?_) h2;by_cases he:i=(a+b)/2
     .subst he;exact hc
     .exact Int.lt_trans (ky.1 hs i ((a+b)/2) hi Cs aa) hc
    .rw[aC hc,j7,bg];refine Uk hs hl n a ((a+b)/2) aa aa aa h1 (λi hi mS=>?_);by_cases he:i=(a+b)/2
     .subst he;exact Int.not_lt.1 hc
     .exact qq (Int.not_lt.1 hc) (Int.le_of_lt (ky.1 hs ((a+b)/2) i Cs hi aa))
  .have:a=b:=aa;subst this;rw[aC aa,j7,bV];exact⟨a,rfl,hb,h1,h2⟩
def okW(w:WL)(s:q):Bool:=cond (R ((w.length:q)>0)) (hasB s w) true
section
variable{zs:F bB}{ps:F cZ}{cs:F aY}{ss:F bW}(hz:∀z∈zs,eX z)
include hz
def ue(L:bt)(K:q):Int:=L.2.2.2.2.2.1.getD (Int.tmod K (L.2.2.2.2.2.1.length:q)).toNat 0
end
theorem jIH{z:bB}(hz:eX z){t:q}(h0:0<=t)(h1:t<=8589934592):∃d s,j1V (tb z) t=B d/\Du d=B s:=by
 have ht:=hz.ztab;obtain⟨j,hj,j1,j2⟩:=uT ht.2 h0 h1;have o0:=ht.2.of0 j hj;have o1:=ht.2.of1 j hj;obtain⟨s,hs⟩:∃s,Du ((t+bq z.2.1 (tb z).2 j)/86400,(t+bq z.2.1 (tb z).2 j)%86400)=B s:=by simp only[Du,ϋ,j4];exact⟨_,rfl⟩
 exact⟨_,s,Dv ht.2 hj j1 j2,hs⟩
abbrev SL:=F (q×q)
def bN(x:q)(l:SL):Prop:=∃s∈l,s.1<=x/\x<s.2
def bU(p:q):SL->Prop
 |[]=>True
 |x::r=>p<x.1/\x.1<x.2/\bU x.2 r
def Sml(l:SL):Prop:=∀s∈l, -1000000000000<=s.1/\s.1<=1000000000000 /\ -1000000000000<=s.2/\s.2<=1000000000000
theorem iE{x:q}:¬bN x []:=by rintro⟨s,hs,_⟩;simp at hs
theorem dD{x:q}{s:q×q}{l:SL}:bN x (s::l)↔(s.1<=x/\x<s.2)\/bN x l:=by
 constructor
 .rintro⟨u,hu,h⟩
  rcases jb.1 hu with rfl|hu
  .exact S h
  .exact U ⟨u,hu,h⟩
 .rintro (h|⟨u,hu,h⟩)
  .exact⟨s,ae,h⟩
  .exact⟨u,by simp[hu],h⟩
theorem Bu{x:q}{l r:SL}:bN x (l++r)↔bN x l\/bN x r:=by
 constructor
 .rintro⟨u,hu,h⟩
  rcases ji.1 hu with hu|hu
  .exact S ⟨u,hu,h⟩
  .exact U ⟨u,hu,h⟩
 .rintro (⟨u,hu,h⟩|⟨u,hu,h⟩)
  .exact⟨u,by simp[hu],h⟩
  .exact⟨u,by simp[hu],h⟩
def nE(s:q×q):Bool:= !(R (s.2<=s.1))
theorem ć{l:SL}(hl:l.length<=10000000):∀(n i:D),i+n=l.length->(∀s∈l.take i,nE s=true)->
  (∃j:D,Jw (l.length:q) (i:q) l=B (.inl ((j:q),l))/\j<l.length/\(∀s∈l.take j,nE s=true)/\nE (l.getD j (0,0))=false)\/
  (Jw (l.length:q) (i:q) l=B (.inr l)/\∀s∈l,nE s=true)
 |0,i,hi,h=>by
  rw[Z3];simp only[j0C];rw[aC aa,j7,bV];rw[E aa]at h;exact U ⟨rfl,h⟩
 |n+1,i,hi,h=>by
  rw[Z3];simp only[j0C,jaS];rw[ai (show (i:q)<(l.length:q) by omega),cB,aQ (x:=(i:q)+1)];simp only[j6,j8,j4];have ao:i<l.length:=aa;cases hc:R ((l.getD i ((0:q),(0:q))).2<=(l.getD i ((0:q),(0:q))).1) with
  |true=>simp only[j6,bV];exact S ⟨i,rfl,ao,h,by simp only[nE];rw[hc];rfl⟩
  |false=>
   simp only[j7,bg];refine ć hl n (i+1) aa λs hs=>?_;rw[kx]at hs;rcases ji.1 hs with hs|hs
   .exact h s hs
   .have br:l.getD i ((0:q),(0:q))=l[i]:=by simp[ao]
    rw[br]at hc;rw[jn ao]at hs;simp at hs;subst hs;simp only[nE];rw[hc];rfl
theorem Ul{l:SL}(hl:l.length<=10000000):∀(n i j:D)(b:SL),j+n=l.length->i<=j->b.length=l.length->b.drop j=l.drop j->b.take i=(l.take j).filter nE->
  ∃(k:D)(b':SL),Pl (i:q) (j:q) b=B ((k:q),b')/\b'.length=l.length/\k<=l.length/\b'.take k=l.filter nE
 |0,i,j,b,hj,dT,hb,hd,ht=>by
  rw[Z5];simp(disch:=omega)only[j0w,S0];rw[E (l:=l) aa]at ht;exact⟨i,b,rfl,hb,aa,ht⟩
 |n+1,i,j,b,hj,dT,hb,hd,ht=>by
  have ao:j<l.length:=aa
  have Um:b.getD j ((0:q),(0:q))=l[j]:=by
   have:b[j]? = l[j]? := by
    have h:=jp (λx=>x[0]?) hd;simpa[List.getElem?_drop]using h
   rw[G,this,jn ao];rfl
  have iH:b.drop (j+1)=l.drop (j+1):=by have:=jp (List.drop 1) hd;simpa[List.drop_drop]using this
  have qQ:l.take (j+1)=l.take j++[l[j]]:=by rw[kx,jn ao];rfl
  rw[Z5];simp(disch:=omega)only[j0w,jaS,Um,S0];cases hc:R (l[j].2<=l[j].1) with
  |true=>simp only[jg,j7,bg];refine Ul hl n i (j+1) b aa aa hb iH ?_;rw[qQ,zp,ht];simp[nE,hc]
  |false=>
   simp only[jv,j6,bg];refine Ul hl n (i+1) (j+1) _ aa aa (by simpa using hb) ?_ ?_
   .rw[List.drop_set_of_lt aa];exact iH
   .have Eo:i<b.length:=aa;rw[kx,List.take_set_of_le (jh _),List.getElem?_set_self Eo,ht,qQ,zp];simp[nE,hc]
theorem jCB{l:SL}(hl:l.length<=10000000):∃n m,j1L l=B (n,m)/\m.take n.toNat=l.filter nE:=by
 simp only[j1L,j3g,show X (O l)=(l.length:q) from rfl];rcases ć hl l.length 0 aa ae with⟨j,e,hj,h1,h2⟩|⟨e,h⟩
 .rw[show ((0:D):q)=0 from rfl]at e;rw[e];simp only[j4,pX];rw[cU aa,aQ (x:=(j:q)+1)];have br:l.getD j ((0:q),(0:q))=l[j]:=by simp[hj]
  rw[br]at h2
  obtain⟨k,b,e2,hb,hk,ht⟩:=Ul hl (l.length-(j+1)) j (j+1) l aa aa rfl rfl (by
   rw[kx,jn hj,zp,List.filter_eq_self.2 h1];simp[h2])
  rw[show ((j:q)+1)=((j+1:D):q) from rfl,e2];simp only[j7,j4,show X (O b)=(b.length:q) from rfl,j8];rw[ai (show (0:q)<=(k:q) by omega),ai (show (k:q)<=(b.length:q) by omega)];simp only[z8,j6,qx];rw[ai aj,j6];refine⟨_,_,rfl,?_⟩;simp(disch:=omega)only[S0];rw[qv aj,vb,Nat.min_self,ht]
 .rw[show ((0:D):q)=0 from rfl]at e;rw[e];simp only[j4,o8,ke,j6];refine⟨_,_,rfl,?_⟩;simp(disch:=omega)only[E (jh _),List.filter_eq_self.2 h,S0]
def nr(e:q×q):SL->SL
 |[]=>[e]
 |s::r=>if s.1<=e.2 then nr (e.1,if s.2>e.2 then s.2 else e.2) r else e::nr s r
def mg:SL->SL
 |[]=>[]
 |s::r=>nr s r
theorem Un{L:SL}(hL:L.length<=10000000):∀(n i:D)(A:SL)(e:q×q),i+n=L.length->A.length<i->
  Jy (L.length:q) (i:q) (A++[e]) L=B (A++nr e (L.drop i))
 |0,i,A,e,hi,hA=>by
  rw[Pm];simp(disch:=omega)only[j4K,List.drop_of_length_le,S0];rfl
 |n+1,i,A,e,hi,hA=>by
  have ao:i<L.length:=aa;have br:L.getD i ((0:q),(0:q))=L[i]:=by simp[ao]
  have hle:(A++[e]).length=A.length+1:=ae;have oI:(A++[e]).getD A.length ((0:q),(0:q))=e:=ae;rw[Pm,List.drop_eq_getElem_cons ao];simp only[j4K,nr,show X (O (A++[e]))=((A.length:q)+1) from by rw[hle];rfl]
  rw[ai (show (i:q)<(L.length:q) by omega),cB,ai (show (A.length:q)+1>0 by omega),aQ (x:=(A.length:q)+1-1),aQ (x:=(i:q)+1),
   bL aa (by rw[hle];omega),show ((A.length:q)+1-1).toNat=A.length by omega]
  simp only[j6,j8,br,oI];by_cases hc:L[i].1<=e.2
  .simp(disch:=omega)only[if_pos hc,show (A++[e]).set A.length (e.1,if L[i].2>e.2 then L[i].2 else e.2)=A++[(e.1,if L[i].2>e.2 then L[i].2 else e.2)] by
    rw[zq _ _ (jh _)];simp,S0]
   exact Un hL n (i+1) A _ aa aa
  .simp(disch:=omega)only[if_neg hc,S0];have:=Un hL n (i+1) (A++[e]) L[i] aa (by rw[hle];omega);rw[show A++e::nr L[i] (L.drop (i+1))=A++[e]++nr L[i] (L.drop (i+1)) by simp];exact this
theorem jJU{L:SL}(hL:L.length<=10000000):Jy (L.length:q) 0 [] L=B (mg L):=by
 rw[Pm];simp only[j4K];cases L with
 |nil=>rw[aC ae,j7,bV];rfl
 |cons s r=>simp(disch:=omega)only[S0];have:=Un hL r.length 1 [] s aj ae;simpa[mg]using this
def GX:SL->Prop
 |[]=>True
 |s::r=>(∀u∈r,s.1<=u.1)/\GX r
theorem Uo:∀{r:SL}{e:q×q}{p:q},p<e.1->e.1<e.2->(∀s∈r,nE s=true)->GX r->bU p (nr e r)
 |[],e,p,h1,h2,_,_=>⟨h1,h2,trivial⟩
 |s::r,e,p,h1,h2,h3,h4=>by
  simp only[nr];have hs:s.1<s.2:=by have:=h3 s ae;simp[nE]at this;omega
  split
  .exact Uo (by exact h1) (by dsimp only;split<;>omega) (λu hu=>h3 u (by simp[hu])) h4.2
  .exact⟨h1,h2,Uo aa hs (λu hu=>h3 u (by simp[hu])) h4.2⟩
theorem Up{x:q}:∀{r:SL}{e:q×q},(∀s∈r,e.1<=s.1)->(∀s∈r,nE s=true)->GX r->(bN x (nr e r)↔(e.1<=x/\x<e.2)\/bN x r)
 |[],e,_,_,_=>by simp[nr,bN]
 |s::r,e,h1,h3,h4=>by
  have hs:s.1<s.2:=by have:=h3 s ae;simp[nE]at this;omega
  have he:e.1<=s.1:=h1 s ae;simp only[nr];split
  .rw[Up (e:=(e.1,if s.2>e.2 then s.2 else e.2)) (λu hu=>h1 u (by simp[hu])) (λu hu=>h3 u (by simp[hu])) h4.2,dD];dsimp only;constructor
   .rintro (⟨a,b⟩|h)
    .split at b
     .by_cases hx:x<e.2
      .exact S ⟨a,hx⟩
      .exact U (S ⟨aa,b⟩)
     .exact S ⟨a,b⟩
    .exact U (U h)
   .rintro (⟨a,b⟩|⟨a,b⟩|h)
    .exact S ⟨a,by split<;>omega⟩
    .exact S ⟨aa,by split<;>omega⟩
    .exact U h
  .rw[dD,Up h4.1 (λu hu=>h3 u (by simp[hu])) h4.2,dD]
theorem Uq:∀(r:SL)(e:q×q),(nr e r).length<=r.length+1
 |[],e=>by simp[nr]
 |s::r,e=>by
  simp only[nr];split
  .have:=Uq r (e.1,if s.2>e.2 then s.2 else e.2);simp only[jf];omega
  .have:=Uq r s;simp only[jf];omega
theorem Ur{lo hi:q}:∀{r:SL}{e:q×q},(lo<=e.1/\e.2<=hi)->(∀s∈r,lo<=s.1/\s.2<=hi)->∀u∈nr e r,lo<=u.1/\u.2<=hi
 |[],e,h1,h2=>by simp only[nr];intro u hu;simp at hu;subst hu;exact h1
 |s::r,e,h1,h2=>by
  have hs:=h2 s ae;simp only[nr];split
  .exact Ur ⟨h1.1,by dsimp only;split<;>omega⟩ (λu hu=>h2 u (by simp[hu]))
  .intro u hu;rcases jb.1 hu with rfl|hu
   .exact h1
   .exact Ur hs (λu hu=>h2 u (by simp[hu])) u hu
theorem jII{L:SL}(h:L.Pairwise (λx y=>¬w64 (y.1-x.1)<0))(hb:Sml L):GX L:=by
 induction L with
 |nil=>trivial
 |cons s r ih=>rw[List.pairwise_cons]at h;refine⟨λu hu=>?_,ih h.2 (λv hv=>hb v (by simp[hv]))⟩;have h1:=h.1 u hu;have h2:=hb s ae;have h3:=hb u (by simp[hu]);rw[aQ (x:=u.1-s.1)]at h1;omega
theorem jEH:Go.Sort.SWO (Go.Proofs.ltOf λ(x y:Go.Lft.Sml (.pair (.int .i64) (.int .i64)))=>(j92 x.1 y.1).getD 0):=by
 refine Jh (λx=>x.1.1) (λx=>?_) _ λx y=>rfl;have:=x.2;simp only[iY,jc,jl]at this;exact this.1
theorem jHc{l:SL}(hl:l.length<=10000000)(hb:Sml l):∃L,j1g l=B L/\L.Perm l/\GX L:=by
 obtain⟨L,e,hp,hs⟩:=Zz (a:= .pair (.int .i64) (.int .i64)) (cf:=λx y=>(j92 x y).getD 0) jEH (xs:=l) (λx hx=>by
  have:=hb x hx;simp only[iY,jc,jl];refine⟨⟨?_,?_⟩,⟨?_,?_⟩⟩
  .exact qq (by decide) this.1
  .exact qq this.2.1 (by decide)
  .exact qq (by decide) this.2.2.1
  .exact qq this.2.2.2 (by decide)) (by show O l<_;omega)
 exact⟨L,e,hp,jII hs λs hm=>hb s (hp.mem_iff.1 hm)⟩
theorem GY{l:SL}(hl:l.length<=10000000)(hb:Sml l){lo hi:q}(jF:∀s∈l,s.1<s.2->lo<=s.1/\s.2<=hi) :
  ∃out,jaB l=B out/\bU (lo-1) out/\(∀x,bN x out↔bN x l)/\out.length<=l.length/\∀u∈out,lo<=u.1/\u.2<=hi:=by
 obtain⟨n,m,e1,ht⟩:=jCB hl;have fE:(l.filter nE).length<=l.length:=zu _ _;obtain⟨L,e2,hp,hs⟩:=jHc (l:=l.filter nE) aa (λs h=>hb s (List.mem_filter.1 h).1);have hLl:L.length=(l.filter nE).length:=hp.length_eq;have DA:∀s,s∈L↔s∈l/\nE s=true:=λs=>hp.mem_iff.trans List.mem_filter
 have Ĉ:∀x,bN x L↔bN x l:=by
  intro x;constructor
  .rintro⟨s,h,h2⟩;exact⟨s,((DA s).1 h).1,h2⟩
  .rintro⟨s,h,h2⟩;exact⟨s,(DA s).2 ⟨h,by simp only[nE];rw[aC aa];rfl⟩,h2⟩
 have bD:∀s∈L,s.1<s.2:=λs h=>by have:=((DA s).1 h).2;simp[nE]at this;omega
 refine⟨mg L,?_,?_⟩
 .simp(disch:=omega)only[jaB,j4n,jr,e1,ht,e2,jJU (L:=L) aa,S0]
 .cases L with
  |nil=>refine⟨trivial,λx=>Ĉ x,by simp[mg],by simp[mg]⟩
  |cons s r=>
   have h0:=jF s ((DA s).1 ae).1 (bD s ae);have hr:∀u∈r,nE u=true:=λu hu=>((DA u).1 (by simp[hu])).2;refine⟨Uo aa (bD s ae) hr hs.2,λx=>?_,?_,?_⟩
   .rw[<-Ĉ x,dD];exact Up hs.1 hr hs.2
   .have:=Uq r s;simp only[mg,jf]at *;omega
   .exact Ur h0 λu hu=>jF u ((DA u).1 (by simp[hu])).1 (bD u (by simp[hu]))
end Go.Proofs.Pw
