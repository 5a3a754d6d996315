/- Facts. -/
import Derived.Test.YtmccfdihkphfaaaGreatCELD
import Derived.Test.YtmccfdihkphfaaaGreatCEFns
import Derived.KernelRfl
open _root_ renaming Int->u,Nat->B,ByteArray->F,List->G,Option->N,Decidable->S
open Option renaming some->A,none->Ã
open Int renaming tmod->D,tdiv->E,ofNat->R,ediv_eq_zero_of_lt->X,add_mul_ediv_left->Y,neg_tmod->Á
open List renaming getD_eq_getElem?_getD->H,drop_eq_getElem_cons->I,drop_of_length_le->J,length->O,range->W,range_succ->À,set->Ä
open Bool renaming true->K,false->U
open Decidable renaming decide->M
open Go Go.Lft
namespace Go.Proofs.Pw
theorem GI(a b:u)(hb:0<b):b*E a b+D a b=a/\(0<=a->0<=D a b)/\(a<=0->D a b<=0)/\D a b<b /\ -b<D a b:=by
 have h1:=Int.mul_tdiv_add_tmod a b;have h2:0<=a->0<=D a b:=λh=>vw b h
 have h3:a<=0->D a b<=0:=λh=>by
  have:=vw (a:= -a) b aa;rw[Á]at this;omega
 have h4:=zm a hb;have h5 : -b<D a b:=by have:=zm (-a) hb;rw[Á]at this;omega
 exact⟨h1,h2,h3,h4,h5⟩
theorem uS{a b:u}(ha:0<=a):E a b=a/b:=qs ha
theorem Dt{a b:u}(ha:0<=a):D a b=a%b:=Int.tmod_eq_emod_of_nonneg ha
theorem TJ(a b:u):(D a b==0)=(a%b==0):=by
 rw[vz];simp only[vu];rw[<-Int.dvd_iff_tmod_eq_zero,<-Int.dvd_iff_emod_eq_zero]
theorem ai{p:Prop}[S p](h:p):decide p=true:=ya h
theorem aC{p:Prop}[S p](h:¬p):decide p=false:=decide_eq_false h
theorem dR{a b:u}(h:a=b):(a==b)=true:=by simp[h]
theorem cU{a b:u}(h:a≠b):(a==b)=false:=by simp[h]
theorem bL{i:u}{n:B}(h1:0<=i)(h2:i<n):inR i n=true:=by simp[inR,h1,h2]
theorem S0:(∀(p:Prop)[S p],p->decide p=K)/\(∀(p:Prop)[S p],¬p->decide p=U)/\(∀(i:u)(n:B),0<=i->i<n->inR i n=K)/\(∀x:u, -9223372036854775808<=x->x<=9223372036854775807->w64 x=x)/\(∀a b:u,a=b->(a==b)=K)/\(∀a b:u,a≠b->(a==b)=U)/\
 (∀n:B,n<=4294967296->M (n<=aK)=K)/\(∀{α:Type}(a:α)(l:G α),(a::l).length=l.length+1)/\(∀α:Type,([]:G α).length=0)/\(∀{α:Type}(l:G α)(d:α)(i:B)(_:i<l.length),l.getD i d=l[i])/\
 (∀{α β:Type}(s:α)(f:α->N β),lpK (A (.inl s)) f=f s)/\(∀{α β:Type}(x:β)(f:α->N β),lpK (A (.inr x)) f=A x)/\(∀{α β γ:Type}(x:α)(f:α->γ)(g:β->γ),sumC (.inl x) f g=f x)/\(∀{α β γ:Type}(x:β)(f:α->γ)(g:β->γ),sumC (.inr x) f g=g x)/\
 (∀{α:Type}(a b:α),cond K a b=a)/\(∀{α:Type}(a b:α),cond U a b=b)/\(∀{α β:Type}(a:α)(f:α->N β),(A a).bind f=f a)/\(∀n:B,Int.toNat (n:u)=n)/\(∀n:B,R n=(n:u))/\(∀a b:u,(a != b) = !(a==b))/\(!K)=U/\(!U)=true:=
 ⟨λ_ _ h=>ya h,λ_ _ h=>decide_eq_false h,λ_ _=>bL,λ_=>gh,λ_ _=>dR,λ_ _=>cU,λ_ h=>ya h,λ_ _=>rfl,λ_=>rfl,λ_ _ _ _=>(List.getElem_eq_getD _).symm,λ_ _=>rfl,λ_ _=>rfl,λ_ _ _=>rfl,λ_ _ _=>rfl,λ_ _=>rfl,λ_ _=>rfl,λ_ _=>rfl,λ_=>rfl,λ_=>rfl,λ_ _=>rfl,rfl,rfl⟩
theorem aQ{x:u}(h1 : -9223372036854775808<=x:=by omega)(h2:x<=9223372036854775807:=by omega):w64 x=x:=gh h1 h2
theorem cB{i:u}{n:B}(h1:0<=i:=by omega)(h2:i<n:=by omega):inR i n=true:=bL h1 h2
def Du(GJ:(u×u)):N (u):=
 (j7i GJ.1).bind λr5=>
 let t6:Int:=(w64 (r5*(86400:u)))
 let t9:Int:=(w64 (t6+GJ.2))
 A t9
def pr(ks:G F):G (F×Bool):=ks.map λk=>(k,K)
def GK(ks:G F):Prop:=ks.Nodup/\∀k∈ks,jh4 k=A K
theorem ι{s:F}:∀{l:G F},s∉l->iQ U (pr l) s=U/\kV (pr l) s K=pr (l++[s])
 |[],_=>⟨rfl,rfl⟩
 |k::l,h=>by
  simp only[jb,not_or]at h;obtain⟨h1,h2⟩:=ι (l:=l) h.2;have hb:(s==k)=false:=qa.2 λhh=>h.1 ((MapKept.bytes_beq s k).1 hh);refine⟨?_,?_⟩
  .show cond (s==k) K (iQ U (pr l) s)=U;rw[hb];exact h1
  .show cond (s==k) ((s,K)::pr l) ((k,K)::kV (pr l) s K)=_;rw[hb,j7,h2];rfl
abbrev bm:=G (u×u)
def eh(l:bm)(i:B):Int:=(l.getD i (0,0)).1
def bq(o:u)(l:bm)(i:B):Int:=if i=0 then o else (l.getD (i-1) (0,0)).2
def aV(l:bm)(i:B):Int:=if i=0 then 0 else if i<=l.length then eh l (i-1) else 8589934593
structure ix(o:u)(l:bm):Prop where
 len:l.length<=1000
 gap:∀i,i+1<l.length->eh l i+604800<=eh l (i+1)
 pos:∀i,i<l.length->1000000<eh l i
 max:∀i,i<l.length->eh l i<=8589000000
 of0:∀i,i<=l.length -> -64800<=bq o l i
 of1:∀i,i<=l.length->bq o l i<=64800
section
variable{o:u}{l:bm}(h:ix o l)
include h
theorem ix.at_lt:∀(k i:B),i+k+1<l.length->eh l i+604800<=eh l (i+k+1)
 |0,i,hk=>h.gap i hk
 |k+1,i,hk=>by
  have h1:=ix.at_lt k i aa;have h2:=h.gap (i+k+1) aa;rw[show i+(k+1)+1=i+k+1+1 by omega];omega
theorem ix.at_le{i j:B}(dT:i<j)(hj:j<l.length):eh l i+604800<=eh l j:=by
 have:=h.at_lt (j-i-1) i aa;rwa[show i+(j-i-1)+1=j by omega]at this
omit h in
theorem lE:aV l 0=0:=rfl
omit h in
theorem ia{i:B}(hi:i<l.length):aV l (i+1)=eh l i:=by
 unfold aV;rw[if_neg (Nat.succ_ne_zero i),if_pos (show i+1<=l.length by omega)];rfl
omit h in
theorem lF:aV l (l.length+1)=8589934593:=by
 unfold aV;rw[if_neg (Nat.succ_ne_zero _),if_neg (show¬l.length+1<=l.length by omega)]
theorem ix.frm_lt{i:B}(hi:i<=l.length):aV l i<aV l (i+1):=by
 rcases qr i l.length with hl|hl
 .rw[ia hl];cases i with
  |zero=>rw[lE];exact(by have:=h.pos 0 hl;omega)
  |succ i=>rw[ia aa];have:=h.gap i hl;omega
 .have:i=l.length:=aa;subst this;rw[lF];cases hq:l.length with
  |zero=>rw[lE];omega
  |succ n=>rw[ia aa];have:=h.max n aa;omega
theorem ix.frm_gap{i j:B}(hi:1<=i)(dT:i<j)(hj:j<=l.length):aV l i+604800<=aV l j:=by
 obtain⟨i,rfl⟩:∃i',i=i'+1:=⟨i-1,aa⟩;obtain⟨j,rfl⟩:∃j',j=j'+1:=⟨j-1,aa⟩;rw[ia aa,ia aa];exact h.at_le aa aa
theorem ix.frm_le{i j:B}(dT:i<=j)(hj:j<=l.length+1):aV l i<=aV l j:=by
 induction j with
 |zero=>have:i=0:=aa;subst this;omega
 |succ j ih=>
  by_cases he:i=j+1
  .subst he;omega
  .have h1:=ih aa aa;have h2:=h.frm_lt (i:=j) aa;omega
theorem TK{t:u}{k:B}(hk:k<=l.length)(jF:∀i,i<k->eh l i<=t)(iW:∀i,k<=i->i<l.length->t<eh l i) :
  ∀(n:B)(a b:B),b-a<=n->a<=k->k<=b->b<=l.length->Pg o l t (a:u) (b:u)=A (k:u)
 |0,a,b,hn,ha,hb,xM=>by
  rw[ZV];simp only[j42,aC (show¬(a:u)<(b:u) by omega),j7,bV];congr 1;omega
 |n+1,a,b,hn,ha,hb,xM=>by
  have hlen:=h.len;rw[ZV];by_cases bH:a<b
  .have hm:IntKind.wrap .u64 ((a:u)+(b:u))=(a:u)+(b:u):=IntWalk.u64_in _ ⟨aa,aa⟩;have hd:Int.fdiv ((a:u)+(b:u)) 2=(((a+b)/2:B):u):=by rw[Int.fdiv_eq_ediv_of_nonneg _ aa];omega
   simp only[j42,ai (show (a:u)<(b:u) by omega),j6];rw[gh (x:=(a:u)+(b:u)) aa aa,hm,hd,gh (x:=(((a+b)/2:B):u)) aa aa];simp only[jah];rw[bL aa aa];simp only[j6,j4,j8];by_cases hc:eh l ((a+b)/2)>t
   .rw[ai (show (l.getD ((a+b)/2) ((0:u),(0:u))).1>t from hc)];simp only[jg,j7,bg]
    have qU:k<=(a+b)/2:=by
     rcases qr ((a+b)/2) k with h'|h'
     .have:=jF _ h';omega
     .exact h'
    exact TK hk jF iW n a ((a+b)/2) aa ha qU aa
   .rw[aC (show¬(l.getD ((a+b)/2) ((0:u),(0:u))).1>t from hc)];simp only[jv,j6,bg];rw[gh aa aa]
    have qU:(a+b)/2<k:=by
     rcases qr ((a+b)/2) k with h'|h'
     .exact h'
     .have:=iW _ h' aa;omega
    exact TK hk jF iW n ((a+b)/2+1) b aa aa hb xM
  .simp only[j42,aC (show¬(a:u)<(b:u) by omega),j7,bV];congr 1;omega
theorem TL{t:u}{k:B}(hk:k<=l.length)(h1:aV l k<=t)(h2:t<aV l (k+1)):j7K (o,l) t=A (k:u):=by
 have jF:∀i,i<k->eh l i<=t:=by
  intro i hi;have:aV l k=eh l (k-1):=by have:=ia (l:=l) (i:=k-1) aa;rwa[show k-1+1=k by omega]at this
  rw[this]at h1;by_cases he:i=k-1
  .subst he;exact h1
  .have:=h.at_le (i:=i) (j:=k-1) aa aa;omega
 have iW:∀i,k<=i->i<l.length->t<eh l i:=by
  intro i hi hl;have:aV l (k+1)=eh l k:=ia aa;rw[this]at h2;by_cases he:i=k
  .subst he;exact h2
  .have:=h.at_le (i:=k) (j:=i) aa hl;omega
 have:=TK h hk jF iW l.length 0 l.length aa aa hk aa;simp only[j7K,jl3,show R (O l)=(l.length:u) from rfl];rw[show (0:u)=((0:B):u) from rfl,this];rfl
theorem TM{k:B}(hk:k<=l.length):j5v (o,l) (k:u)=A (bq o l k):=by
 have hlen:=h.len;unfold bq;by_cases h0:k=0
 .subst h0;rfl
 .simp only[j5v];rw[cU (show (k:u)≠0 by omega),j7,gh aa aa,bL aa aa,show ((k:u)-1).toNat=k-1 by omega,if_neg h0];rfl
theorem jCf{t:u}{k:B}(hk:k<=l.length)(h1:aV l k<=t)(h2:t<aV l (k+1)):j93 (o,l) t=A (bq o l k):=by
 simp only[j93,TL h hk h1 h2,j4,TM h hk]
theorem uT{t:u}(h0:0<=t)(h1:t<=8589934592):∃k,k<=l.length/\aV l k<=t/\t<aV l (k+1):=by
 have _:=h
 have:∀n,n<=l.length+1->t<aV l n->∃k,k<n/\aV l k<=t/\t<aV l (k+1):=by
  intro n;induction n with
  |zero=>intro _ hn;have:aV l 0=0:=rfl;omega
  |succ n ih=>
   intro hn ao;by_cases hc:aV l n<=t
   .exact⟨n,aa,hc,ao⟩
   .obtain⟨k,a1,a2,a3⟩:=ih aa aa;exact⟨k,aa,a2,a3⟩
 have cY:aV l (l.length+1)=8589934593:=lF;obtain⟨k,a1,a2,a3⟩:=this (l.length+1) aa aa;exact⟨k,aa,a2,a3⟩
def pc(o:u)(l:bm)(i:B):u×(u×u):=(aV l i,(aV l (i+1),bq o l i))
def sa(o:u)(l:bm)(n:B):G (u×(u×u)):=(W n).map (pc o l)
omit h in
theorem ν(n:B):sa o l (n+1)=sa o l n++[pc o l n]:=by simp[sa,À]
omit h in
theorem Bd(n:B):(sa o l n).length=n:=by simp[sa]
omit h in
theorem TN{n i:B}(hi:i<n):(sa o l n).getD i ((0:u),((0:u),(0:u)))=pc o l i:=by
 simp[sa,List.getD,hi]
theorem ξ:∀(n k:B),k+n=l.length+1->F2 (aV l k) 8589934593 o l (sa o l k)=A (sa o l (l.length+1))
 |0,k,hk=>by
  have cY:aV l k=8589934593:=by rw[show k=l.length+1 by omega];exact lF
  rw[C5,cY];simp only[j0O];rw[aC aa,j7,bV,show k=l.length+1 by omega]
 |n+1,k,hk=>by
  have hlen:=h.len;have iN:k<=l.length:=aa;have ao:=h.frm_lt iN;have hle:=h.frm_le (i:=k+1) (j:=l.length+1) aa aa;have cY:aV l (l.length+1)=8589934593:=lF;have ih:=ξ n (k+1) aa;rw[C5];simp only[j0O];rw[ai (show aV l k<8589934593 by omega),TL h iN aa ao];simp only[j6,j4,show R (O l)=(l.length:u) from rfl,TM h iN];by_cases tW:k<l.length
  .rw[ai (show (k:u)<(l.length:u) by omega),bL aa aa];simp only[j6,j8];have kN:(if (l.getD k ((0:u),(0:u))).1<8589934593 then (l.getD k ((0:u),(0:u))).1 else 8589934593)=aV l (k+1):=by have hf:aV l (k+1)=eh l k:=ia tW;have:=h.max k tW;rw[hf,if_pos (show (l.getD k ((0:u),(0:u))).1<8589934593 by show eh l k<_;omega)];rfl
   rw[kN,ai (by rw[Bd];simp[aK];omega)];simp only[j6,bg];rw[ν]at ih;exact ih
  .rw[aC (show¬(k:u)<(l.length:u) by omega)];simp only[j7];rw[ai (by rw[Bd];simp[aK];omega)];simp only[j6,bg];have bC:k=l.length:=aa;rw[ν]at ih;unfold pc at ih;rw[show k+1=l.length+1 by omega,cY]at ih;exact ih
theorem ο:j36 (o,l) 0 8589934593=A (sa o l (l.length+1)):=by
 have:=ξ h (l.length+1) 0 aa;simp only[j36];rw[show F2 0 8589934593 o l []=_ from this];rfl
def tX(o:u)(l:bm)(s:u)(i:B):Prop:=aV l i<=s-bq o l i/\s-bq o l i<aV l (i+1)
instance(o:u)(l:bm)(s:u)(i:B):S (tX o l s i):=by unfold tX;infer_instance
omit h in
theorem TO{d c:u}(hd : -1000000<=d)(iJ:d<=1000000)(hc : -86400<=c)(fQ:c<=172800):j5s (d,c)=A (d*86400+c):=by
 simp only[j5s];rw[if_neg (show¬(-1048576:u)>d by omega),if_neg (show¬(1048576:u)<d by omega),gh (x:=d*86400) aa aa,gh aa aa]
theorem π{d c:u}(hd : -1000000<=d)(iJ:d<=1000000)(hc : -86400<=c)(fQ:c<=172800){k:B}(hk:k<=l.length)(hks:d*86400+c-bq o l k<aV l (k+1))(wQ:∀j,j<k->aV l (j+1)<=d*86400+c-bq o l j) :
  ∀(n i:B),i+n=k->Js ((l.length+1:B):u) (i:u) d c (sa o l (l.length+1))=A (.inl (max (aV l k) (d*86400+c-bq o l k),K))
 |0,i,hi=>by
  have hlen:=h.len;have:i=k:=aa;subst this;have o1:=h.of0 i hk;have o2:=h.of1 i hk;have ao:=h.frm_lt hk;rw[Jt];simp only[j1G];rw[ai (show (i:u)<((l.length+1:B):u) by omega),bL aa (by rw[Bd];omega)];simp only[j6,j8,TN (show i<l.length+1 by omega),TO hd iJ hc fQ,j4,pc];rw[gh (x:=d*86400+c-bq o l i) aa aa];have hm:(if d*86400+c-bq o l i>aV l i then d*86400+c-bq o l i else aV l i)=max (aV l i) (d*86400+c-bq o l i):=by split<;>omega
  rw[hm,ai aa,j6,bV]
 |n+1,i,hi=>by
  have hlen:=h.len;have kL:i<=l.length:=aa;have o1:=h.of0 i kL;have o2:=h.of1 i kL;have hb:=wQ i aa;rw[Jt];simp only[j1G];rw[ai (show (i:u)<((l.length+1:B):u) by omega),bL aa (by rw[Bd];omega)];simp only[j6,j8,TN (show i<l.length+1 by omega),TO hd iJ hc fQ,j4,pc];rw[gh (x:=d*86400+c-bq o l i) aa aa,gh (x:=(i:u)+1) aa aa];have hm:(if d*86400+c-bq o l i>aV l i then d*86400+c-bq o l i else aV l i)=max (aV l i) (d*86400+c-bq o l i):=by split<;>omega
  rw[hm,aC aa,j7,bg];exact π hd iJ hc fQ hk hks wQ n (i+1) aa
theorem jEu{d c:u}(hd : -1000000<=d)(iJ:d<=1000000)(hc : -86400<=c)(fQ:c<=172800){k:B}(hk:k<=l.length)(hks:d*86400+c-bq o l k<aV l (k+1))(wQ:∀j,j<k->aV l (j+1)<=d*86400+c-bq o l j) :
  j1U (o,l) (d,c)=A (max (aV l k) (d*86400+c-bq o l k),K):=by
 have:=π h hd iJ hc fQ hk hks wQ k 0 aa;simp only[j1U,ο h,j4,Bd,show R (O l+1)=((l.length+1:B):u) from rfl];rw[show (0:u)=((0:B):u) from rfl,this];rfl
omit h in
theorem jEv{n:u}(h1 : -1000000000000<=n)(h2:n<=1000000000000):jk5 n=A (n/86400,n%86400):=by
 obtain⟨e,p1,p2,p3,p4⟩:=GI n 86400 aa;simp only[jk5];rw[gh (x:=E n 86400) aa aa];by_cases hm:D n 86400<0
 .rw[ai hm,j6,gh (x:=E n 86400-1) aa aa,gh (x:=(E n 86400-1)*86400) aa aa,gh aa aa];have:n/86400=E n 86400-1:=aa;congr 2
  .omega
  .omega
 .rw[aC hm,j7,gh (x:=E n 86400*86400) aa aa,gh aa aa];congr 2
  .omega
  .omega
theorem Dv{t:u}{k:B}(hk:k<=l.length)(h1:aV l k<=t)(h2:t<aV l (k+1)):j1V (o,l) t=A ((t+bq o l k)/86400,(t+bq o l k)%86400):=by
 have o1:=h.of0 k hk;have o2:=h.of1 k hk;have g1:0<=aV l k:=by have:=h.frm_le (i:=0) (j:=k) aa aa;have e:aV l 0=0:=rfl;omega
 have cY:aV l (l.length+1)=8589934593:=lF;have g2:=h.frm_le (i:=k+1) (j:=l.length+1) aa aa;simp only[j1V,jCf h hk h1 h2,j4];rw[gh (x:=t+bq o l k) aa aa,jEv aa aa];rfl
end
def lG(x:u×u):bm->bm
 |[]=>[x]
 |y::ys=>if x.1<y.1 then y::lG x ys else x::y::ys
def lI:bm->bm->bm
 |[],acc=>acc
 |x::xs,acc=>lI xs (lG x acc)
def dY(l:bm):bm:=(lI l []).reverse
theorem GL(x:u×u):∀l,(lG x l).length=l.length+1
 |[]=>rfl
 |y::ys=>by unfold lG;split<;>simp[GL x ys]
theorem Dw:∀(l acc:bm),(lI l acc).length=l.length+acc.length
 |[],acc=>by simp[lI]
 |x::xs,acc=>by simp only[lI,Dw xs,GL,jf];omega
def Sm(l:bm):Prop:=∀x∈l, -1000000000000<=x.1/\x.1<=1000000000000
theorem ς{x:u×u}(hx : -1000000000000<=x.1/\x.1<=1000000000000):∀{l:bm},Sm l->Sm (lG x l)
 |[],_=>λy hy=>by simp[lG]at hy;subst hy;exact hx
 |z::zs,h=>by
  unfold lG;split
  .intro y hy;rcases jb.1 hy with rfl|hy
   .exact h _ ae
   .exact ς hx (l:=zs) (λw hw=>h w (by simp[hw])) y hy
  .intro y hy;rcases jb.1 hy with rfl|hy
   .exact hx
   .exact h y hy
theorem jGY(rp mid:bm)(x:u×u):(rp.reverse++x::mid).getD rp.length (0,0)=x:=by
 rw[H,kj ae];simp
theorem υ(n s8:u)(x:u×u)(hx : -1000000000000<=x.1/\x.1<=1000000000000):∀(rp mid:bm),Sm rp->rp.length+mid.length<=1000->
  OZ 0 n s8 (rp.length:u) (rp.reverse++x::mid)=A (0,n,s8,(lG x rp).reverse++mid)
 |[],mid,_,_=>by
  rw[ZL];simp(disch:=omega)only[S0];rfl
 |y::ys,mid,pd,hlen=>by
  have hy:=pd y ae;have hL:((y::ys).reverse++x::mid).length=ys.length+1+(mid.length+1):=aj;simp only[jf]at hlen;rw[ZL];simp only[j0u,jf];rw[ai (show ((ys.length+1:B):u)>0 by omega),bL aa (by rw[hL];omega),aQ (x:=((ys.length+1:B):u)-1),bL aa (by rw[hL];omega)];simp only[j6,j8];have g1:((y::ys).reverse++x::mid).getD (ys.length+1) ((0:u),(0:u))=x:=jGY (y::ys) mid x;have g2:((y::ys).reverse++x::mid).getD ((((ys.length+1:B):u)-1).toNat) ((0:u),(0:u))=y:=by simp(disch:=omega)only[S0];simp
  simp(disch:=omega)only[g1,g2,j40,S0];by_cases hc:x.1<y.1
  .simp(disch:=omega)only[S0];have sP:Ä (Ä ((y::ys).reverse++x::mid) (ys.length+1) (y.1,y.2)) ((((ys.length+1:B):u)-1).toNat) (x.1,x.2)=ys.reverse++x::(y::mid):=by rw[show (((ys.length+1:B):u)-1).toNat=ys.length by omega];simp
   rw[bL aa (by rw[zh,hL];omega)];simp only[j6,bg,sP];have he:=υ n s8 x hx ys (y::mid) (λz hz=>pd z (by simp[hz])) aj;rw[show ((ys.length+1:B):u)-1=(ys.length:u) by omega,he];simp[lG,hc]
  .simp(disch:=omega)only[S0];simp[lG,hc]
theorem φ:∀(xs rp:bm),Sm rp->Sm xs->rp.length+xs.length<=1000->
  O0 0 ((rp.length+xs.length:B):u) (rp.length:u) (rp.reverse++xs)=A (lI xs rp).reverse
 |[],rp,_,_,_=>by
  rw[O1];simp(disch:=omega)only[j0h,S0];simp[lI]
 |x::xs,rp,hr,hx,hlen=>by
  have KS:=hx x ae;simp only[jf]at hlen;have he:=υ ((rp.length+(x::xs).length:B):u) (rp.length:u) x KS rp xs hr aa;have ih:=φ xs (lG x rp) (ς KS hr) (λz hz=>hx z (by simp[hz])) (by rw[GL];omega);rw[GL]at ih;rw[O1];simp only[j0h];rw[ai (by simp only[jf];omega),he];simp only[j6,j4,lI];rw[show rp.length+1+xs.length=rp.length+(x::xs).length by simp;omega]at ih;rw[aQ,bg];exact ih
theorem χ{l:bm}(hs:Sm l)(hl:l.length<20):j0f l=A (dY l):=by
 have Be:j0v l 0 (l.length:u)=A (dY l):=by
  simp only[j0v];cases l with
  |nil=>rw[O1];rfl
  |cons x xs=>have:=φ xs [x] (λz hz=>by simp at hz;subst hz;exact hs _ ae) (λz hz=>hs z (by simp[hz])) (by simp at hl ⊢;omega);rw[show w64 (0+1)=(([x]:bm).length:u) from rfl,show ((x::xs).length:u)=(([x].length+xs.length:B):u) by simp;omega];rw[show (x::xs)=[x].reverse++xs from rfl,this];rfl
 have e0:O2 (l.length:u) 20 0 20 l=A ((l.length:u),20,0,l):=by rw[j7I];simp(disch:=omega)only[j0V,S0]
 have e2:O3 (l.length:u) 20 (dY l)=A (dY l):=by rw[j7J];simp(disch:=omega)only[j0W,S0]
 simp(disch:=omega)only[j0f,j2L,e0,Be,e2,S0]
def wR(y:u):Bool:=M (y%4=0)&&(!M (y%100=0)||decide (y%400=0))
def jI(y:u):Int:=if y%4=0/\(y%100≠0\/y%400=0) then 1 else 0
theorem TP(y:u):wR y=K↔y%4=0/\(y%100≠0\/y%400=0):=by simp[wR]
theorem ψ(y:u):jI y=if wR y then 1 else 0:=by
 unfold jI;by_cases h:wR y=K
 .rw[if_pos ((TP y).1 h),if_pos h]
 .rw[if_neg (λh'=>h ((TP y).2 h')),if_neg h]
theorem GM(y:u):0<=jI y/\jI y<=1:=by unfold jI;split<;>omega
def gv(y m:u):Int:=
 if m<1\/12<m then 0 else if m=2 then 28+jI y else if m=4\/m=6\/m=9\/m=11 then 30 else 31
def dW(y:u):Int:=365*(y-1970)+(y-1)/4-(y-1)/100+(y-1)/400-477
def dP(y m:u):Int:=
 if m<=1 then 0 else if m=2 then 31 else if m=3 then 59+jI y else if m=4 then 90+jI y else if m=5 then 120+jI y else if m=6 then 151+jI y
 else if m=7 then 181+jI y else if m=8 then 212+jI y else if m=9 then 243+jI y else if m=10 then 273+jI y else if m=11 then 304+jI y else if m=12 then 334+jI y else 365+jI y
def num(y m d:u):Int:=dW y+dP y m+d-1
theorem TQ(y:u):dW (y+1)=dW y+365+jI y:=by
 unfold dW jI;split<;>omega
theorem wS{a b:u}(h:a<=b):dW a+365*(b-a)<=dW b:=by unfold dW;omega
theorem jIy{a b:u}(h:a<b):dW a<dW b:=by have:=wS (a:=a) (b:=b) aa;omega
theorem Bf(y m:u)(h1:1<=m)(h2:m<=12):dP y (m+1)=dP y m+gv y m:=by
 obtain rfl|rfl|rfl|rfl|rfl|rfl|rfl|rfl|rfl|rfl|rfl|rfl:m=1\/m=2\/m=3\/m=4\/m=5\/m=6\/m=7\/m=8\/m=9\/m=10\/m=11\/m=12:=aa;all_goals (simp[dP,gv];try omega)
theorem ot(y m:u):0<=gv y m/\gv y m<=31:=by
 have:=GM y;unfold gv;repeat' split;all_goals omega
theorem GN(y m:u)(h1:1<=m)(h2:m<=12):28<=gv y m:=by
 have:=GM y;unfold gv;rw[if_neg aa];repeat' split;all_goals omega
theorem Bg(y m:u):0<=dP y m/\dP y m<=366:=by
 have:=GM y;unfold dP;omega
theorem ω(y:u):jnt y=A (wR y):=by
 have e:(cond (D y 4==(0:u)) (cond (D y 100 != (0:u)) K (D y 400==(0:u))) U)=wR y:=by unfold bne;rw[TJ,TJ,TJ,vz,TP];by_cases h1:y%4=0<;>by_cases h2:y%100=0<;>by_cases h3:y%400=0<;>simp[h1,h2,h3]
 exact jp A e
theorem GO(y m:u):j91 y m=A (gv y m):=by
 by_cases h:m<1\/12<m
 .have hc:cond (M (m<(1:u))) K (M (m>(12:u)))=true:=by rcases h with h|h<;>by_cases h1:m<1<;>simp[h1]<;>omega
  have:gv y m=0:=if_pos h;rw[this];unfold j91;rw[hc];rfl
 .obtain rfl|rfl|rfl|rfl|rfl|rfl|rfl|rfl|rfl|rfl|rfl|rfl:m=1\/m=2\/m=3\/m=4\/m=5\/m=6\/m=7\/m=8\/m=9\/m=10\/m=11\/m=12:=aa
  case inr.inl=>simp only[j91,ω,gv,ψ,j4];cases wR y<;>rfl
  all_goals rfl
theorem jEw(y m d:u):jeu (y,m,d)=A (M (1970<=y/\y<=2240/\1<=d/\d<=gv y m)):=by
 simp only[jeu,GO,j4];by_cases h1:1970<=y<;>by_cases h2:y<=2240<;>by_cases h3:1<=d<;>simp[h1,h2,h3]
theorem KT(a b:u)(hb:0<b)(h1 : -1000000000000<=a)(h2:a<=1000000000000):jad a b=A (a/b):=by
 have ig:(b==0)=false:=aj;obtain⟨e,p1,p2,p3,p4⟩:=GI a b hb
 have hq : -1000000000000<=E a b/\E a b<=1000000000000:=by
  rcases Int.le_total 0 a with h|h
  .have h0:0<=a/b:=y8 h aa;have h3:a/b<=a:=vg b h;rw[uS h];omega
  .have h0:0<=(-a)/b:=y8 aa aa;have h3:(-a)/b <= -a:=vg b aa;have h4:E (-a) b=(-a)/b:=uS aa;rw[Int.neg_tdiv]at h4;omega
 simp only[jad,ig,jv,j6];rw[aQ (x:=E a b)];by_cases hm:D a b<0
 .rw[ai hm,j6,aQ];congr 1
  have:a/b=E a b-1:=by
   have h3:a=(a.tmod b+b)+b*(E a b-1):=by rw[Int.mul_sub];omega
   rw[h3,Y _ _ aa,X aa aa];rw[<-h3];omega
  omega
 .rw[aC hm,j7];congr 1;have h3:a=a.tmod b+b*E a b:=aa
  have:a/b=E a b:=by
   conv=>lhs;rw[h3]
   rw[Y _ _ aa,X aa aa];omega
  omega
theorem yE(y:u)(h1 : -1000000000<=y)(h2:y<=1000000000):j6x y=A (dW y):=by
 simp only[j6x];rw[aQ (x:=y-1),aQ (x:=y-1970),KT _ 4 aa aa aa,KT _ 100 aa aa aa,KT _ 400 aa aa aa];simp only[j4];simp (disch:=omega) only[gh];rfl
theorem ϊ(y m d:u)(hm:m<=13):∀(n:B)(s k:u),1<=k->k+n=m -> -1000000000000<=s->s+31*n<=1000000000000->OY s k y m d=A (s+dP y m-dP y k)
 |0,s,k,hk,hn,_,_=>by
  rw[ZK];have:k=m:=aa;subst this;simp(disch:=omega)only[j52,S0];congr 1;omega
 |n+1,s,k,hk,hn,h1,h2=>by
  rw[ZK];have hd:=ot y k;have hc:=Bf y k hk aa;simp(disch:=omega)only[j52,GO,S0];have ih:=ϊ y m d hm n (s+gv y k) (k+1) aa aa aa aa;rw[ih];congr 1;omega
theorem jCh(y m d:u)(h1 : -1000000<=y)(h2:y<=1000000)(gg:1<=m)(hQ:m<=12)(rO : -1000000<=d)(iJ:d<=1000000):jfI (y,m,d)=A (num y m d):=by
 have hb : -1000000000<=dW y/\dW y<=1000000000:=by unfold dW;omega
 simp only[jfI,yE y aa aa,j4];rw[aQ (x:=dW y+d),aQ,ϊ y m d aa (m-1).toNat _ 1 aa aa aa aa];have:dP y 1=0:=rfl;simp only[j4,num];congr 1;omega
theorem ϋ(day:u):j7i day=A ((D day 7+10)%7):=by
 obtain⟨e,p1,p2,p3,p4⟩:=GI day 7 aa;simp(disch:=omega)only[j7i,Dt,S0]
theorem KU(day:u)(_h : -3<=day):j7i day=A ((day+3)%7):=by
 rw[ϋ];congr 1;obtain⟨e,p1,p2,p3,p4⟩:=GI day 7 aa;omega
def sb(y m d:u):Prop:=1970<=y/\y<=2240/\1<=d/\d<=gv y m
instance(y m d:u):S (sb y m d):=by unfold sb;infer_instance
theorem GP{y m d:u}(h:sb y m d):1<=m/\m<=12:=by
 obtain⟨_,_,h3,h4⟩:=h;by_cases hm:m<1\/12<m
 .have:gv y m=0:=if_pos hm;omega
 .omega
theorem jCi{y m d:u}:M (1970<=y/\y<=2240/\1<=d/\d<=gv y m)=M (sb y m d):=rfl
theorem Bh{y m d:u}(h:sb y m d):0<=num y m d/\num y m d<98981:=by
 have hm:=GP h;obtain⟨h1,h2,h3,h4⟩:=h;have hc:=Bg y m;have c1:=wS (a:=1970) (b:=y) aa;have c2:=wS (a:=y) (b:=2240) aa;have e1:dW 1970=0:=by decide
 have hd:=ot y m;have e2:dW 2240=98615:=by decide
 have dm:dP y m+gv y m<=365+jI y:=by
  have:=Bf y m hm.1 hm.2;have:dP y (m+1)<=365+jI y:=by have:=GM y;unfold dP;omega
  omega
 have c3:=TQ y;have c4:=wS (a:=y+1) (b:=2241) aa;have e3:dW 2241=98981:=by decide
 unfold num;omega
theorem ό:dW 1970=0:=by decide
theorem TR:dW 2241=98981:=by decide
def nth(y m k w:u):Int:=
 let d:=num y m 1+(w-(num y m 1+3)%7+7)%7+7*(k-1)
 if d>=num y m 1+gv y m then d-7 else d
theorem Dx(y m:u)(h1:1970<=y)(h2:y<=2240)(gg:1<=m)(hQ:m<=12):sb y m 1:=⟨h1,h2,aa,by have:=GN y m gg hQ;omega⟩
theorem jIz(y m k w:u)(h1:1970<=y)(h2:y<=2240)(gg:1<=m)(hQ:m<=12)(dr:1<=k)(fo:k<=5)(MM:0<=w)(hw2:w<=6):jm9 y m k w=A (nth y m k w,0):=by
 have hv:=Dx y m h1 h2 gg hQ;have hr:=Bh hv;have hd:=ot y m;have TS:jeu (y,m,1)=A true:=by rw[jEw,jCi,ya hv]
 simp only[jm9,TS,j4,jg,j7];rw[aC (show¬k<1 by omega),aC (show¬k>5 by omega),aC (show¬w<0 by omega),aC (show¬w>6 by omega)];simp only[j7,jCh y m 1 aa aa gg hQ aa aa,j4,KU _ (show -3<=num y m 1 by omega),GO];generalize hn:num y m 1=n at *;have hm7:0<=(n+3)%7/\(n+3)%7<=6:=aa;rw[aQ (x:=w-(n+3)%7),aQ (x:=w-(n+3)%7+7),Dt (show 0<=w-(n+3)%7+7 by omega)];rw[aQ (x:=k-1),aQ (x:=7*(k-1))];rw[aQ (x:=n+(w-(n+3)%7+7)%7),aQ (x:=n+(w-(n+3)%7+7)%7+7*(k-1)),aQ (x:=n+gv y m)];unfold nth;simp only[hn];by_cases hc:n+(w-(n+3)%7+7)%7+7*(k-1)>=n+gv y m
 .simp(disch:=omega)only[if_pos hc,S0]
 .rw[aC hc,j7,if_neg hc]
def cQ(l:G u)(a:u):Prop:=0<=a/\a<=(l.length:u)/\l.length<=1000000
theorem dQ{l:G u}{a n:u}(h:cQ l a)(hn:1<=n)(zV:n<=1000000000000):∃x a',j04 l a n=A (x,l,a')/\0<=x/\x<n/\cQ l a':=by
 obtain⟨h1,h2,h3⟩:=h;simp only[j04,show R (O l)=(l.length:u) from rfl];by_cases ha:a>=(l.length:u)
 .rw[ai ha,j6];exact⟨0,a,rfl,aa,aa,h1,h2,h3⟩
 .rw[aC ha,j7,aC (show¬n<1 by omega),j7,bL h1 aa,j6,cU (show n≠0 by omega)];obtain⟨e,p1,p2,p3,p4⟩:=GI (l.getD a.toNat 0) n aa;rw[aQ (x:=a+1)];simp only[jv,j6];by_cases ht:D (l.getD a.toNat 0) n<0
  .rw[ai ht,j6,aQ];exact⟨_,_,rfl,aa,aa,aa,aa,h3⟩
  .rw[aC ht,j7];exact⟨_,_,rfl,aa,aa,aa,aa,h3⟩
theorem rk{l:G u}{a:u}(h:cQ l a){xs:G u}(xB:0<xs.length)(qS:xs.length<=1000000):∃x a',j0b l a xs=A (x,l,a')/\x∈xs/\cQ l a':=by
 obtain⟨x,a',e,h1,h2,h3⟩:=dQ (n:=(xs.length:u)) h aa aa;simp only[j0b,show R (O xs)=(xs.length:u) from rfl,e,j4];rw[bL h1 aa,j6];have ao:x.toNat<xs.length:=aa;refine⟨_,_,rfl,?_,h3⟩;rw[H,jn ao];exact jd ao
theorem ύ:jk6=A true:=by kernel_rfl
abbrev aO:=u×(u×(u×(u×(u×(u×u)))))
theorem iZ{n lo hi:u}(h1:lo<=n)(h2:n<=hi):j9l n lo hi=A true:=by
 simp only[j9l];rw[ai (show n>=lo from h1),ai h2];rfl
theorem Bi{n lo hi:u}(h:¬(lo<=n/\n<=hi)):j9l n lo hi=A false:=by
 simp only[j9l];by_cases h1:n>=lo
 .rw[ai h1,aC (λh2=>h ⟨h1,h2⟩)];rfl
 .rw[aC h1];rfl
structure jA(r:aO):Prop where
 y0:1970<=r.1
 y1:r.1<=r.2.1
 y2:r.2.1<=2240
 m0:1<=r.2.2.1
 m1:r.2.2.1<=12
 k0:1<=r.2.2.2.1
 k1:r.2.2.2.1<=5
 d0:0<=r.2.2.2.2.1
 d1:r.2.2.2.2.1<=6
 s0:0<=r.2.2.2.2.2.1
 s1:r.2.2.2.2.2.1<=86399
 o0 : -64800<=r.2.2.2.2.2.2
 o1:r.2.2.2.2.2.2<=64800
theorem jGZ{r:aO}(h:jA r):jcP r=A 0:=by
 simp only[jcP,iZ h.y0 (show r.1<=2240 by have:=h.y1;have:=h.y2;omega),iZ h.y1 h.y2,iZ h.m0 h.m1,iZ h.k0 h.k1,iZ h.d0 h.d1,iZ h.s0 h.s1,iZ h.o0 h.o1,j4,jg,j7]
theorem KV{y m k w:u}(_h1:1970<=y)(_h2:y<=2240)(gg:1<=m)(hQ:m<=12)(dr:1<=k)(fo:k<=5):num y m 1<=nth y m k w/\nth y m k w<num y m 1+gv y m\/nth y m k w<num y m 1+35/\num y m 1<=nth y m k w:=by
 right;have hd:=GN y m gg hQ;unfold nth;dsimp only;split<;>omega
def cR(r:aO)(y:u):u×Int:=(nth y r.2.2.1 r.2.2.2.1 r.2.2.2.2.1*86400+r.2.2.2.2.2.1,r.2.2.2.2.2.2)
def gE(r:aO):bm:=(W (r.2.1-r.1+1).toNat).map λ(i:B)=>cR r (r.1+(i:u))
def occs(l:G aO):bm:=l.flatMap gE
theorem jCk{r:aO}(h:jA r){y:u}(h1:1970<=y)(h2:y<=2240):0<=(cR r y).1/\(cR r y).1<=10000000000:=by
 have hv:=Bh (Dx y r.2.2.1 h1 h2 h.m0 h.m1);have jG:=h.s0;have kM:=h.s1;have:=KV (w:=r.2.2.2.2.1) h1 h2 h.m0 h.m1 h.k0 h.k1;have hd:=ot y r.2.2.1;unfold cR;dsimp only;omega
theorem jH0{r:aO}(h:jA r):Sm (gE r):=by
 intro x hx;obtain⟨i,hi,rfl⟩:=k7.1 hx;have hi:=List.mem_range.1 hi;have h0:=h.y0;have h2:=h.y2;have:=jCk h (y:=r.1+(i:u)) aa aa;omega
theorem TT{l:G aO}(h:∀r∈l,jA r):Sm (occs l):=by
 intro x hx;obtain⟨r,hr,hx⟩:=kz.1 hx;exact jH0 (h r hr) x hx
theorem ώ{r:aO}(h:jA r)(rs:G aO)(a b:u):∀(n:B)(i:B)(acc:bm),r.1+(i:u)+n=r.2.1+1->acc.length+n<=100000->
  O5 (r.1+(i:u)) rs a b r.1 r.2.1 r.2.2.1 r.2.2.2.1 r.2.2.2.2.1 r.2.2.2.2.2.1 r.2.2.2.2.2.2 acc=A (rs,a,b,acc++(W n).map λ(j:B)=>cR r (r.1+(i:u)+(j:u)))
 |0,i,acc,hi,_=>by
  rw[ZN];simp(disch:=omega)only[j32,S0];simp
 |n+1,i,acc,hi,hl=>by
  have h0:=h.y0;have h2:=h.y2;have jG:=h.s0;have kM:=h.s1;have hv:=Bh (Dx (r.1+(i:u)) r.2.2.1 aa aa h.m0 h.m1);have hn:=KV (w:=r.2.2.2.2.1) (y:=r.1+(i:u)) aa aa h.m0 h.m1 h.k0 h.k1;have hd:=ot (r.1+(i:u)) r.2.2.1;rw[ZN];simp only[j32];rw[ai (show r.1+(i:u)<=r.2.1 by omega),jIz _ _ _ _ aa aa h.m0 h.m1 h.k0 h.k1 h.d0 h.d1];simp(disch:=omega)only[S0];have ih:=ώ h rs a b n (i+1) (acc++[cR r (r.1+(i:u))]) aa aj;rw[show r.1+(i:u)+1=r.1+((i+1:B):u) by omega];refine ih.trans ?_
  have Bj:(W n).map (λ(j:B)=>cR r (r.1+((i+1:B):u)+(j:u)))=(W n).map ((λ(j:B)=>cR r (r.1+(i:u)+(j:u))) ∘ Nat.succ):=List.map_congr_left λj _=>by
   simp only[Function.comp];congr 1;omega
  rw[List.range_succ_eq_map,qc,List.map_map,Bj];simp
theorem TU{rs:G aO}(h:∀r∈rs,jA r)(hlen:rs.length<=100):∀(n i:B)(acc:bm),i+n=rs.length->acc.length<=300*i->
  Jk rs (rs.length:u) (i:u) acc=A (acc++occs (rs.drop i))
 |0,i,acc,hi,_=>by
  rw[ZO];simp(disch:=omega)only[j33,J,S0];simp[occs]
 |n+1,i,acc,hi,hl=>by
  have ao:i<rs.length:=aa;have hr:=h rs[i] (jd ao);have h0:=hr.y0;have h1:=hr.y1;have h2:=hr.y2;have hg:rs.getD i ((0:u),((0:u),((0:u),((0:u),((0:u),((0:u),(0:u)))))))=rs[i]:=by simp[ao]
  have wT:=ώ hr rs (rs.length:u) (i:u) (rs[i].2.1-rs[i].1+1).toNat 0 acc aa aa;rw[show rs[i].1+((0:B):u)=rs[i].1 by omega]at wT;have ih:=TU h hlen n (i+1) (acc++gE rs[i]) aa (by simp[gE];omega);rw[ZO];simp(disch:=omega)only[j33,wT,I ao,S0];refine ih.trans ?_;rw[jk];rfl
theorem TW{rs:G aO}(h:∀r∈rs,jA r)(hlen:rs.length<=100)(nm:F)(o:u):∀(n i:B)(s:u),i+n=rs.length->0<=s->s<=300*i->
  FY s rs (rs.length:u) (i:u) nm o rs=A (.inr (s+((occs (rs.drop i)).length:u),nm,o,rs))
 |0,i,s,hi,_,_=>by
  rw[O4];simp(disch:=omega)only[j2a,J,S0];simp[occs]
 |n+1,i,s,hi,jG,kM=>by
  have ao:i<rs.length:=aa;have hr:=h rs[i] (jd ao);have h0:=hr.y0;have h1:=hr.y1;have h2:=hr.y2;have hg:rs.getD i ((0:u),((0:u),((0:u),((0:u),((0:u),((0:u),(0:u)))))))=rs[i]:=by simp[ao]
  have ih:=TW h hlen nm o n (i+1) (s+(rs[i].2.1-rs[i].1+1)) aa aa aa;have tY:jcP (rs[i].1,(rs[i].2.1,(rs[i].2.2.1,(rs[i].2.2.2.1,(rs[i].2.2.2.2.1,(rs[i].2.2.2.2.2.1,rs[i].2.2.2.2.2.2))))))=A 0:=jGZ hr;rw[O4];simp(disch:=omega)only[j2a,tY,S0];refine ih.trans ?_;rw[I ao]
  have:((occs (rs[i]::rs.drop (i+1))).length:u)=(rs[i].2.1-rs[i].1+1)+((occs (rs.drop (i+1))).length:u):=by
   have e1:(gE rs[i]).length=(rs[i].2.1-rs[i].1+1).toNat:=by simp[gE]
   show ((gE rs[i]++occs (rs.drop (i+1))).length:u)=_;rw[List.length_append,e1];omega
  rw[this];congr 3;omega
theorem jrm{nm:F}{o:u}{rs:G aO}(h:∀r∈rs,jA r)(nj : -64800<=o)(me:o<=64800)(hlen:rs.length<=16)(hn:(occs rs).length<20):j2R (nm,(o,rs))=A (dY (occs rs),0):=by
 have e0:=TW h aa nm o rs.length 0 0 aa aa aa;have e2:=TU h aa rs.length 0 [] aa ae;rw[jj]at e0 e2;simp(disch:=omega)only[j2R,iZ nj me,show FY 0 rs (rs.length:u) 0 nm o rs=_ from e0,show Jk rs (rs.length:u) 0 []=_ from e2,jr,χ (TT h) hn,S0]
def cm(now:u):bm->bm
 |[]=>[]
 |x::r=>if x.2=now then cm now r else (x.1-now,x.2)::cm x.2 r
def Good(now:u)(p:N u):bm->Prop
 |[]=>True
 |x::r=>if x.2=now then Good now p r else (-86400<x.2-now/\x.2-now<86400/\1000000<x.1-now/\x.1-now<=8589000000/\(∀q,p=A q->q+604800<=x.1-now) /\ -64800<=x.2/\x.2<=64800)/\Good x.2 (A (x.1-now)) r
theorem TX(L:bm)(hL:L.length<=1000):∀(n i:B)(now:u)(acc:bm),i+n=L.length -> -64800<=now->now<=64800->acc.length<=i->(∀x∈acc,0<=x.1/\x.1<=8589934592)->Good now (acc.getLast?.map (·.1)) (L.drop i)->
  FZ now (L.length:u) (i:u) acc L=A (.inr (acc++cm now (L.drop i)))
 |0,i,now,acc,hi,_,_,_,_,_=>by
  rw[Jl];simp only[j1C];rw[aC aa,j7,bV,J aa];simp[cm]
 |n+1,i,now,acc,hi,l7,oY,wg,dM,hg=>by
  have ao:i<L.length:=aa;rw[I ao]at hg ⊢;have br:L.getD i ((0:u),(0:u))=L[i]:=by simp[ao]
  rw[Jl];simp only[j1C];rw[ai (show (i:u)<(L.length:u) by omega),cB];simp only[j6,j8,br];generalize L[i]=x at *;rw[aQ (x:=(i:u)+1)];simp only[Good]at hg;by_cases hx:x.2=now
  .rw[if_pos hx]at hg;rw[dR hx];simp only[j6,bg,cm];rw[if_pos hx];exact TX L hL n (i+1) now acc aa l7 oY aa dM hg
  .rw[if_neg hx]at hg;obtain⟨⟨g1,g2,g3,g4,g5,g6,g7⟩,g8⟩:=hg;rw[cU hx,aQ (x:=x.1-now),aQ (x:=x.2-now),aC (show¬x.2-now>=86400 by omega),aC (show¬x.2-now <= -86400 by omega)];simp only[j7,iZ (show (0:u)<=x.1-now by omega) (show x.1-now<=8589934592 by omega),j4,jg,jv,qx,show R (O acc)=(acc.length:u) from rfl];rw[aQ (x:=(acc.length:u)-1)]
   have fj:=TX L hL n (i+1) x.2 (acc++[(x.1-now,x.2)]) aa g6 g7 aj
    (λy hy=>by
     rcases ji.1 hy with hy|hy
     .exact dM y hy
     .simp at hy;subst hy;exact⟨by show (0:u)<=x.1-now;omega,by show x.1-now<=8589934592;omega⟩) (by simpa using g8)
   have cV:cm now (x::L.drop (i+1))=(x.1-now,x.2)::cm x.2 (L.drop (i+1)):=by simp[cm,hx]
   rw[cV];rw[jk]at fj;by_cases ha:acc=[]
   .subst ha;simp only[js];rw[show inR (((0:B):u)-1) 0=U from rfl,show M (((0:B):u)>0)=U from rfl];simp only[jv,j6,j7,Bool.or_true];rw[ai (by simp[aK])];simp only[j6,bg];exact fj
   .have bZ:0<acc.length:=kg.2 ha;have cY:acc.getLast? = A (acc.getD (acc.length-1) (0,0)):=by rw[List.getLast?_eq_getElem?,H,jn (show acc.length-1<acc.length by omega)];rfl
    rw[cY]at g5;have g5:(acc.getD (acc.length-1) ((0:u),(0:u))).1+604800<=x.1-now:=g5 _ rfl;have hb:=dM (acc.getD (acc.length-1) (0,0)) (List.mem_of_getLast? cY);rw[cB,ai (show (acc.length:u)>0 by omega),show ((acc.length:u)-1).toNat=acc.length-1 by omega];simp only[zo,j6];rw[aQ,aC (show¬x.1-now<(acc.getD (acc.length-1) ((0:u),(0:u))).1+604800 by omega),ai (by simp[aK];omega)];simp only[j6,j7,bg];exact fj
def KW(p:N u):bm->Prop
 |[]=>True
 |x::r=>(1000000<x.1/\x.1<=8589000000/\(∀q,p=A q->q+604800<=x.1) /\ -64800<=x.2/\x.2<=64800)/\KW (A x.1) r
theorem TY:∀(L:bm)(now:u)(p:N u),Good now p L->KW p (cm now L)
 |[],_,_,_=>trivial
 |x::r,now,p,h=>by
  simp only[Good]at h;by_cases hx:x.2=now
  .rw[if_pos hx]at h;simp only[cm];rw[if_pos hx];exact TY r now p h
  .rw[if_neg hx]at h;simp only[cm];rw[if_neg hx];obtain⟨⟨g1,g2,g3,g4,g5,g6,g7⟩,g8⟩:=h;exact⟨⟨g3,g4,g5,g6,g7⟩,TY r x.2 _ g8⟩
theorem KX:∀(L:bm)(now:u),(cm now L).length<=L.length
 |[],_=>jh _
 |x::r,now=>by
  simp only[cm];split
  .have:=KX r now;simp;omega
  .have:=KX r x.2;simp;omega
theorem Ϗ:∀(l:bm)(p:N u),KW p l->(∀i,i+1<l.length->eh l i+604800<=eh l (i+1))/\(∀i,i<l.length->1000000<eh l i/\eh l i<=8589000000)/\
  (∀o i, -64800<=o->o<=64800->i<=l.length -> -64800<=bq o l i/\bq o l i<=64800)
 |[],_,_=>⟨λi h=>by simp at h,λi h=>by simp at h,λo i h1 h2 h3=>by
  have:i=0:=by simpa using h3
  subst this;exact⟨h1,h2⟩⟩
 |x::r,p,h=>by
  obtain⟨⟨g3,g4,g5,g6,g7⟩,g8⟩:=h;obtain⟨h1,h2,h3⟩:=Ϗ r _ g8;refine⟨λi hi=>?_,λi hi=>?_,λo i nj me hi=>?_⟩
  .cases i with
   |zero=>
    cases r with
    |nil=>simp at hi
    |cons y ys=>have:=g8.1.2.2.1 _ rfl;exact this
   |succ i=>exact h1 i (by simp at hi ⊢;omega)
  .cases i with
   |zero=>exact⟨g3,g4⟩
   |succ i=>exact h2 i (by simp at hi ⊢;omega)
  .cases i with
   |zero=>exact⟨nj,me⟩
   |succ i=>
    cases i with
    |zero=>exact⟨g6,g7⟩
    |succ i=>exact h3 x.2 (i+1) g6 g7 (by simp at hi ⊢;omega)
theorem jH1{o:u}{l:bm}(h:KW Ã l)(hl:l.length<=1000)(h0 : -64800<=o)(h1:o<=64800):ix o l:=by
 obtain⟨a,b,c⟩:=Ϗ l Ã h;exact⟨hl,a,λi hi=>(b i hi).1,λi hi=>(b i hi).2,λi hi=>(c o i h0 h1 hi).1,λi hi=>(c o i h0 h1 hi).2⟩
def tZ(z:F×(u×G aO))(l:bm):Prop:=j14 z=A (l,0)/\ix z.2.1 l
theorem jH2{nm:F}{o:u}{rs:G aO}(h:∀r∈rs,jA r)(nj : -64800<=o)(me:o<=64800)(hlen:rs.length<=16)(hn:(occs rs).length<20)(hg:Good o Ã (dY (occs rs))):tZ (nm,(o,rs)) (cm o (dY (occs rs))):=by
 have hl:(dY (occs rs)).length<=1000:=by simp[dY,Dw];omega
 refine⟨?_,jH1 (TY _ _ _ hg) (by have:=KX (dY (occs rs)) o;omega) nj me⟩;have:=TX (dY (occs rs)) hl (dY (occs rs)).length 0 o [] aa nj me ae ae hg;simp(disch:=omega)only[j14,jrm h nj me hlen hn,S0];rw[jj]at this;rw[show FZ o ((dY (occs rs)).length:u) 0 [] (dY (occs rs))=_ from this];rfl
theorem jJQ{z:F×(u×G aO)}{l:bm}(h:tZ z l):jpT z=A ((z.2.1,l),0):=by
 simp only[jpT,show j14 (z.1,(z.2.1,z.2.2))=_ from h.1,j4]
theorem ϐ{y m k w:u}(gg:1<=m)(hQ:m<=12)(dr:2<=k)(fo:k<=5):num y m 1+7<=nth y m k w/\nth y m k w<=num y m 1+34:=by
 have hd:=GN y m gg hQ;unfold nth;dsimp only;split<;>omega
theorem TZ{y m k w:u}(gg:1<=m)(hQ:m<=12)(dr:1<=k)(fo:k<=4):num y m 1<=nth y m k w/\nth y m k w<=num y m 1+27:=by
 have hd:=GN y m gg hQ;unfold nth;dsimp only;split<;>omega
theorem ϑ{a b:u×u}(h:a.1<b.1):dY [a,b]=[a,b]:=by
 simp[dY,lI,lG,show¬b.1<a.1 by omega]
theorem ϒ{a b c d:u×u}(h1:a.1<c.1)(h2:c.1<b.1)(h3:b.1<d.1):dY [a,b,c,d]=[a,c,b,d]:=by
 simp[dY,lI,lG,show¬b.1<a.1 by omega,h2,show¬c.1<a.1 by omega,show¬d.1<b.1 by omega]
theorem ϓ(r1 r2:aO)(h1:r1.1=2025)(h2:r1.2.1=2025)(h3:r2.1=2025)(h4:r2.2.1=2025):occs [r1,r2]=[cR r1 2025,cR r2 2025]:=by
 simp[occs,gE,h1,h2,h3,h4]
theorem ϔ(r1 r2:aO)(h1:r1.1=2025)(h2:r1.2.1=2026)(h3:r2.1=2025)(h4:r2.2.1=2026):occs [r1,r2]=[cR r1 2025,cR r1 2026,cR r2 2025,cR r2 2026]:=by
 simp[occs,gE,h1,h2,h3,h4,À]
theorem rm{now:u}{p:N u}{x:u×u}{r:bm}(hx:x.2≠now)(h : -86400<x.2-now/\x.2-now<86400/\1000000<x.1-now/\x.1-now<=8589000000 /\ -64800<=x.2/\x.2<=64800)
  (hp:∀q,p=A q->q+604800<=x.1-now)(hr:Good x.2 (A (x.1-now)) r):Good now p (x::r):=by
 simp only[Good];rw[if_neg hx];exact⟨⟨h.1,h.2.1,h.2.2.1,h.2.2.2.1,hp,h.2.2.2.2.1,h.2.2.2.2.2⟩,hr⟩
theorem jCp{now:u}{p:N u}{x:u×u}{r:bm}(hx:x.2=now)(hr:Good now p r):Good now p (x::r):=by
 simp only[Good];rw[if_pos hx];exact hr
theorem GQ{P:u->Prop}:∀q,(Ã:N u)=A q->P q:=λ_ h=>by simp at h
theorem yF{P:u->Prop}{a:u}(h:P a):∀q,A a=A q->P q:=λq hq=>by simp at hq;subst hq;exact h
theorem n251:num 2025 1 1=20089:=by decide
theorem n261:num 2026 1 1=20454:=by decide
theorem n252:num 2025 2 1=20120:=by decide
theorem n253:num 2025 3 1=20148:=by decide
theorem n262:num 2026 2 1=20485:=by decide
theorem n263:num 2026 3 1=20513:=by decide
structure MZ(o:u)(rs:G aO):Prop where
 o0 : -64800<=o
 o1:o<=64800
 ok:∀r∈rs,jA r
 len:rs.length<=2
 yr:∀r∈rs,2025<=r.1
 few:(occs rs).length<=4
 good:Good o Ã (dY (occs rs))
theorem MZ.tab{o:u}{rs:G aO}(h:MZ o rs)(nm:F):tZ (nm,(o,rs)) (cm o (dY (occs rs))):=
 jH2 h.ok (by have:=h.o0;omega) (by have:=h.o1;omega) (by have:=h.len;omega) (by have:=h.few;omega) h.good
theorem mz0{o:u}(h0 : -43200<=o)(h1:o<=45000):MZ o []:=⟨aa,aa,ae,ae,ae,by decide,trivial⟩
theorem ϕ{r1 r2:aO}(h1:jA r1)(h2:jA r2):∀r∈[r1,r2],jA r:=by
 intro r hr;simp at hr;rcases hr with rfl|rfl
 .exact h1
 .exact h2
theorem mz1{o last:u}(h0 : -43200<=o)(h1:o<=45000)(hl:last=2025\/last=2026):MZ o [(2025,(last,(3,(5,(6,(7200,o+3600)))))),(2025,(last,(10,(5,(6,(10800,o))))))]:=by
 have a1:nth 2025 3 5 6=20177:=by decide
 have a2:nth 2025 10 5 6=20387:=by decide
 have a3:nth 2026 3 5 6=20541:=by decide
 have a4:nth 2026 10 5 6=20751:=by decide
 have ca:=ϕ (r1:=(2025,(last,(3,(5,(6,(7200,o+3600))))))) (r2:=(2025,(last,(10,(5,(6,(10800,o))))))) (by constructor<;>(dsimp only;omega)) (by constructor<;>(dsimp only;omega));rcases hl with rfl|rfl
 .have e:=ϓ (2025,(2025,(3,(5,(6,(7200,o+3600)))))) (2025,(2025,(10,(5,(6,(10800,o)))))) rfl rfl rfl rfl;refine⟨aa,aa,ca,ae,ae,by rw[e];simp,?_⟩;rw[e,ϑ (by simp only[cR];omega)];refine rm (by simp only[cR];omega) (by simp only[cR];omega) GQ (rm (by simp only[cR];omega) (by simp only[cR];omega) (yF (by simp only[cR];omega)) trivial)
 .have e:=ϔ (2025,(2026,(3,(5,(6,(7200,o+3600)))))) (2025,(2026,(10,(5,(6,(10800,o)))))) rfl rfl rfl rfl;refine⟨aa,aa,ca,ae,ae,by rw[e];simp,?_⟩;rw[e,ϒ (by simp only[cR];omega) (by simp only[cR];omega) (by simp only[cR];omega)]
  refine rm (by simp only[cR];omega) (by simp only[cR];omega) GQ (rm (by simp only[cR];omega) (by simp only[cR];omega) (yF (by simp only[cR];omega))
   (rm (by simp only[cR];omega) (by simp only[cR];omega) (yF (by simp only[cR];omega)) (rm (by simp only[cR];omega) (by simp only[cR];omega) (yF (by simp only[cR];omega)) trivial)))
theorem mz2{o last k1 w1 s1 c m2 k2 w2 s2:u}(h0 : -43200<=o)(h1:o<=45000)(hl:last=2025\/last=2026)(hk:1<=k1)(bC:k1<=4)(hw:0<=w1)(M7:w1<=6)(hs:0<=s1)(fL:s1<=82800)(hc:1800<=c)(dO:c<=14400)
  (hm:m2=2\/m2=3)(hj:2<=k2)(jQ:k2<=5)(hx:0<=w2)(iV:w2<=6)(ht:0<=s2)(Ci:s2<=82800):MZ o [(2025,(last,(1,(k1,(w1,(s1,o+c)))))),(2025,(last,(m2,(k2,(w2,(s2,o))))))]:=by
 have ca:=ϕ (r1:=(2025,(last,(1,(k1,(w1,(s1,o+c))))))) (r2:=(2025,(last,(m2,(k2,(w2,(s2,o))))))) (by constructor<;>(dsimp only;omega)) (by constructor<;>(dsimp only;omega));have b1:=TZ (y:=2025) (m:=1) (k:=k1) (w:=w1) aa aa hk bC;have b2:=TZ (y:=2026) (m:=1) (k:=k1) (w:=w1) aa aa hk bC;have b3:=ϐ (y:=2025) (m:=m2) (k:=k2) (w:=w2) aa aa hj jQ;have b4:=ϐ (y:=2026) (m:=m2) (k:=k2) (w:=w2) aa aa hj jQ;have c1:20120<=num 2025 m2 1/\num 2025 m2 1<=20148:=by rcases hm with rfl|rfl<;>simp[n252,n253]
 have c2:20485<=num 2026 m2 1/\num 2026 m2 1<=20513:=by rcases hm with rfl|rfl<;>simp[n262,n263]
 rw[n251]at b1;rw[n261]at b2;rcases hl with rfl|rfl
 .have e:=ϓ (2025,(2025,(1,(k1,(w1,(s1,o+c)))))) (2025,(2025,(m2,(k2,(w2,(s2,o)))))) rfl rfl rfl rfl;refine⟨aa,aa,ca,ae,ae,by rw[e];simp,?_⟩;rw[e,ϑ (by simp only[cR];omega)];refine rm (by simp only[cR];omega) (by simp only[cR];omega) GQ (rm (by simp only[cR];omega) (by simp only[cR];omega) (yF (by simp only[cR];omega)) trivial)
 .have e:=ϔ (2025,(2026,(1,(k1,(w1,(s1,o+c)))))) (2025,(2026,(m2,(k2,(w2,(s2,o)))))) rfl rfl rfl rfl;refine⟨aa,aa,ca,ae,ae,by rw[e];simp,?_⟩;rw[e,ϒ (by simp only[cR];omega) (by simp only[cR];omega) (by simp only[cR];omega)]
  refine rm (by simp only[cR];omega) (by simp only[cR];omega) GQ (rm (by simp only[cR];omega) (by simp only[cR];omega) (yF (by simp only[cR];omega))
   (rm (by simp only[cR];omega) (by simp only[cR];omega) (yF (by simp only[cR];omega)) (rm (by simp only[cR];omega) (by simp only[cR];omega) (yF (by simp only[cR];omega)) trivial)))
theorem ϖ{o w s x:u}(h0 : -43200<=o)(h1:o<=45000)(hw:0<=w)(M7:w<=6)(hs:0<=s)(fL:s<=84600)(xB : -64800<=x)(qS:x<=64800)(ij : -86400<x-o)(eP:x-o<86400):MZ o [(2026,(2026,(1,(2,(w,(s,x))))))]:=by
 have b:=TZ (y:=2026) (m:=1) (k:=2) (w:=w) aa aa aa aa;rw[n261]at b;have e:occs [((2026:u),((2026:u),((1:u),((2:u),(w,(s,x))))))]=[cR (2026,(2026,(1,(2,(w,(s,x)))))) 2026]:=by simp[occs,gE]
 refine⟨aa,aa,λr hr=>?_,ae,ae,by rw[e];simp,?_⟩
 .simp at hr;subst hr;constructor<;>(dsimp only;omega)
 .rw[e];have hi:dY [cR (2026,(2026,(1,(2,(w,(s,x)))))) 2026]=[cR (2026,(2026,(1,(2,(w,(s,x)))))) 2026]:=by simp[dY,lI,lG]
  rw[hi];by_cases ϗ:x=o
  .exact jCp ϗ trivial
  .exact rm ϗ (by simp only[cR];omega) GQ trivial
theorem jH3{L:G u}{a:u}(h:cQ L a)(nm:F):∃o rs a',jct L a nm=A ((nm,(o,rs)),L,a')/\MZ o rs/\cQ L a':=by
 obtain⟨p,a1,e1,m1,d1⟩:=rk h (xs:=[(0:u),(4:u),(-20:u),(22:u),(48:u),(-47:u)]) ae ae;obtain⟨x2,a2,e2,x20,x21,d2⟩:=dQ (n:=2) d1 aa aa;obtain⟨x3,a3,e3,x30,x31,d3⟩:=dQ (n:=3) d2 aa aa;obtain⟨y,a4,e4,y0,y1,d4⟩:=dQ (n:=2) d3 aa aa;obtain⟨q,a5,e5,q0,q1,d5⟩:=dQ (n:=4) d4 aa aa;have hp : -47<=p/\p<=48:=by simp at m1;omega
 have hmul:0<=x2*x3/\x2*x3<=2:=by obtain rfl|rfl:x2=0\/x2=1:=aa;all_goals omega
 have nj : -43200<=900*(p+x2*x3):=aa;have me:900*(p+x2*x3)<=45000:=aa;have cY:2025+y=2025\/2025+y=2026:=aa;simp only[jct,e1,e2,e3,e4,e5,j4];rw[aQ (x:=x2*x3),aQ (x:=p+x2*x3),aQ (x:=900*(p+x2*x3)),aQ (x:=2025+y)];generalize 900*(p+x2*x3)=o at *;generalize 2025+y=last at *;by_cases T0:q=1
 .simp(disch:=omega)only[S0];exact⟨_,_,_,rfl,mz1 nj me cY,d5⟩
 .rw[cU T0,j7];by_cases KY:q=2
  .rw[dR KY,j6];obtain⟨b1,c1,f1,b10,b11,g1⟩:=dQ (n:=4) d5 aa aa;obtain⟨b2,c2,f2,KZ,b21,g2⟩:=dQ (n:=7) g1 aa aa;obtain⟨b3,c3,f3,b30,b31,g3⟩:=dQ (n:=24) g2 aa aa;obtain⟨b4,c4,f4,b40,b41,g4⟩:=dQ (n:=8) g3 aa aa;obtain⟨b5,c5,f5,b50,b51,g5⟩:=dQ (n:=2) g4 aa aa;obtain⟨b6,c6,f6,m6,g6⟩:=rk g5 (xs:=[(2:u),(3:u),(5:u)]) ae ae;obtain⟨b7,c7,f7,b70,b71,g7⟩:=dQ (n:=7) g6 aa aa;obtain⟨b8,c8,f8,b80,b81,g8⟩:=dQ (n:=24) g7 aa aa;have h6:2<=b6/\b6<=5:=by simp at m6;omega
   simp(disch:=omega)only[f1,f2,f3,f4,f5,f6,f7,f8,S0];exact⟨_,_,_,rfl,mz2 nj me cY aa aa KZ aa aa aa aa aa aa h6.1 h6.2 b70 aa aa aa,g8⟩
  .rw[cU KY,j7];by_cases Ϙ:q=3
   .rw[dR Ϙ,j6];obtain⟨b1,c1,f1,m1,g1⟩:=rk d5 (xs:=[(3600:u),(-3600:u),(82800:u),(-82800:u),(43200:u)]) ae ae;obtain⟨b2,c2,f2,KZ,b21,g2⟩:=dQ (n:=7) g1 aa aa;obtain⟨b3,c3,f3,b30,b31,g3⟩:=dQ (n:=48) g2 aa aa;have dS : -82800<=b1/\b1<=82800:=by simp at m1;omega
    simp(disch:=omega)only[f1,f2,f3,S0];by_cases pt:o+b1>64800\/o+b1 < -64800
    .have hb:cond (M (o+b1>64800)) K (M (o+b1 < -64800))=true:=by
      rcases pt with pt|pt
      .rw[ai pt];rfl
      .rw[ai pt];cases M (o+b1>64800)<;>rfl
     rw[hb,j6];exact⟨_,_,_,rfl,ϖ nj me KZ aa aa aa aa aa aa aa,g3⟩
    .simp(disch:=omega)only[S0];exact⟨_,_,_,rfl,ϖ nj me KZ aa aa aa aa aa aa aa,g3⟩
   .rw[cU Ϙ,j7];exact⟨_,_,_,rfl,mz0 nj me,d5⟩
theorem T1:∀(L:bm)(now:u)(p:N u),Good now p L->∀i,i<(cm now L).length -> -86400<bq now (cm now L) (i+1)-bq now (cm now L) i/\bq now (cm now L) (i+1)-bq now (cm now L) i<86400
 |[],_,_,_,i,hi=>by simp[cm]at hi
 |x::r,now,p,h,i,hi=>by
  simp only[Good]at h;by_cases hx:x.2=now
  .rw[if_pos hx]at h;have e:cm now (x::r)=cm now r:=by simp[cm,hx]
   rw[e]at hi ⊢;exact T1 r now p h i hi
  .rw[if_neg hx]at h;have e:cm now (x::r)=(x.1-now,x.2)::cm x.2 r:=by simp[cm,hx]
   rw[e]at hi ⊢;obtain⟨⟨g1,g2,_⟩,g8⟩:=h;cases i with
   |zero=>exact⟨g1,g2⟩
   |succ i=>
    have:=T1 r x.2 _ g8 i (by simpa using hi);cases i with
    |zero=>exact this
    |succ i=>exact this
section
variable{o:u}{l:bm}(h:ix o l)
include h
theorem K3{i j:B}{t:u}(hi:i<=l.length)(hj:j<=l.length)(a1:aV l i<=t)(a2:t<aV l (i+1))(b1:aV l j<=t)(b2:t<aV l (j+1)):i=j:=by
 rcases v7 i j with dT|dT|dT
 .have:=h.frm_le (i:=i+1) (j:=j) aa aa;omega
 .exact dT
 .have:=h.frm_le (i:=j+1) (j:=i) aa aa;omega
end
end Go.Proofs.Pw
