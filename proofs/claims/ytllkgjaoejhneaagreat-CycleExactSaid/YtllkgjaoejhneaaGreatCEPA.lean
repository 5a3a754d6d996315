/- Small facts on Go's C3. -/
import Derived.Test.YtllkgjaoejhneaaGreatCELD
import Derived.Test.YtllkgjaoejhneaaGreatCEFns
import Derived.KernelRfl
open _root_ renaming Int->q,Nat->B,ByteArray->H,Decidable->L,List->M
open Int renaming tmod->r,tdiv->u,ofNat->F,ediv_eq_zero_of_lt->G,add_mul_ediv_left->I,tmod_nonneg->O,neg_tmod->S
open Option renaming some->A
open List renaming length->D,getD_eq_getElem?_getD->E,set->X
open Bool renaming true->J,eq_iff_iff->R,false->U
open Go Go.Lft
namespace Go.Proofs.Pw
theorem C4(a b:q)(hb:0<b):b*u a b+r a b=a/\(0<=a->0<=r a b)/\(a<=0->r a b<=0)/\r a b<b /\ -b<r a b:=by
 have h1:=Int.mul_tdiv_add_tmod a b;have h2:0<=a->0<=r a b:=λh=>O b h
 have h3:a<=0->r a b<=0:=λh=>by
  have:=O (a:= -a) b aa;rw[S]at this;omega
 have h4:=vk a hb;have h5 : -b<r a b:=by have:=vk (-a) hb;rw[S]at this;omega
 exact⟨h1,h2,h3,h4,h5⟩
theorem qS{a b:q}(ha:0<=a):u a b=a/b:=qs ha
theorem yR{a b:q}(ha:0<=a):r a b=a%b:=Int.tmod_eq_emod_of_nonneg ha
theorem MJ(a b:q):(r a b==0)=(a%b==0):=by
 rw[R];simp only[zb];rw[<-Int.dvd_iff_tmod_eq_zero,<-Int.dvd_iff_emod_eq_zero]
theorem ai{p:Prop}[L p](h:p):decide p=true:=vv h
theorem al{p:Prop}[L p](h:¬p):decide p=false:=decide_eq_false h
theorem fi{a b:q}(h:a=b):(a==b)=true:=by simp[h]
theorem cN{a b:q}(h:a≠b):(a==b)=false:=by simp[h]
theorem cG{i:q}{n:B}(h1:0<=i)(h2:i<n):inR i n=true:=by simp[inR,h1,h2]
theorem au{x:q}(h1 : -9223372036854775808<=x:=by omega)(h2:x<=9223372036854775807:=by omega):w64 x=x:=gu h1 h2
theorem bR{i:q}{n:B}(h1:0<=i:=by omega)(h2:i<n:=by omega):inR i n=true:=cG h1 h2
def mm(ks:M H):M (H×Bool):=ks.map λk=>(k,J)
def C5(ks:M H):Prop:=ks.Nodup/\∀k∈ks,jbL k=A J
theorem Tt{s:H}:∀{l:M H},s∉l->lK U (mm l) s=U/\lk (mm l) s J=mm (l++[s])
 |[],_=>⟨rfl,rfl⟩
 |k::l,h=>by
  simp only[jm,not_or]at h;obtain⟨h1,h2⟩:=Tt (l:=l) h.2;have hb:(s==k)=false:=qc.2 λhh=>h.1 ((MapKept.bytes_beq s k).1 hh);refine⟨?_,?_⟩
  .show cond (s==k) J (lK U (mm l) s)=U;rw[hb];exact h1
  .show cond (s==k) ((s,J)::mm l) ((k,J)::lk (mm l) s J)=_;rw[hb,jd,h2];rfl
abbrev aW:=M (q×q)
def dS(l:aW)(i:B):Int:=(l.getD i (0,0)).1
def bL(o:q)(l:aW)(i:B):Int:=if i=0 then o else (l.getD (i-1) (0,0)).2
def ba(l:aW)(i:B):Int:=if i=0 then 0 else if i<=l.length then dS l (i-1) else 8589934593
structure gv(o:q)(l:aW):Prop where
 len:l.length<=1000
 gap:∀i,i+1<l.length->dS l i+604800<=dS l (i+1)
 pos:∀i,i<l.length->1000000<dS l i
 max:∀i,i<l.length->dS l i<=8589000000
 of0:∀i,i<=l.length -> -64800<=bL o l i
 of1:∀i,i<=l.length->bL o l i<=64800
section
variable{o:q}{l:aW}(h:gv o l)
include h
theorem gv.at_lt:∀(k i:B),i+k+1<l.length->dS l i+604800<=dS l (i+k+1)
 |0,i,hk=>h.gap i hk
 |k+1,i,hk=>by
  have h1:=gv.at_lt k i aa;have h2:=h.gap (i+k+1) aa;rw[show i+(k+1)+1=i+k+1+1 by omega];omega
theorem gv.at_le{i j:B}(eJ:i<j)(hj:j<l.length):dS l i+604800<=dS l j:=by
 have:=h.at_lt (j-i-1) i aa;rwa[show i+(j-i-1)+1=j by omega]at this
omit h in
theorem mn:ba l 0=0:=rfl
omit h in
theorem ie{i:B}(hi:i<l.length):ba l (i+1)=dS l i:=by
 unfold ba;rw[if_neg (Nat.succ_ne_zero i),if_pos (show i+1<=l.length by omega)];rfl
omit h in
theorem mo:ba l (l.length+1)=8589934593:=by
 unfold ba;rw[if_neg (Nat.succ_ne_zero _),if_neg (show¬l.length+1<=l.length by omega)]
theorem gv.frm_lt{i:B}(hi:i<=l.length):ba l i<ba l (i+1):=by
 rcases qr i l.length with hl|hl
 .rw[ie hl];cases i with
  |zero=>rw[mn];exact(by have:=h.pos 0 hl;omega)
  |succ i=>rw[ie aa];have:=h.gap i hl;omega
 .have:i=l.length:=aa;subst this;rw[mo];cases hq:l.length with
  |zero=>rw[mn];omega
  |succ n=>rw[ie aa];have:=h.max n aa;omega
theorem gv.frm_gap{i j:B}(hi:1<=i)(eJ:i<j)(hj:j<=l.length):ba l i+604800<=ba l j:=by
 obtain⟨i,rfl⟩:∃i',i=i'+1:=⟨i-1,aa⟩;obtain⟨j,rfl⟩:∃j',j=j'+1:=⟨j-1,aa⟩;rw[ie aa,ie aa];exact h.at_le aa aa
theorem gv.frm_le{i j:B}(eJ:i<=j)(hj:j<=l.length+1):ba l i<=ba l j:=by
 induction j with
 |zero=>have:i=0:=aa;subst this;omega
 |succ j ih=>
  by_cases he:i=j+1
  .subst he;omega
  .have h1:=ih aa aa;have h2:=h.frm_lt (i:=j) aa;omega
theorem MK{t:q}{k:B}(hk:k<=l.length)(kF:∀i,i<k->dS l i<=t)(jE:∀i,k<=i->i<l.length->t<dS l i) :
  ∀(n:B)(a b:B),b-a<=n->a<=k->k<=b->b<=l.length->Fh o l t (a:q) (b:q)=A (k:q)
 |0,a,b,hn,ha,hb,xV=>by
  rw[RQ];simp only[j2D,al (show¬(a:q)<(b:q) by omega),jd,bd];congr 1;omega
 |n+1,a,b,hn,ha,hb,xV=>by
  have hlen:=h.len;rw[RQ];by_cases oK:a<b
  .have hm:IntKind.wrap .u64 ((a:q)+(b:q))=(a:q)+(b:q):=IntWalk.u64_in _ ⟨aa,aa⟩;have hd:Int.fdiv ((a:q)+(b:q)) 2=(((a+b)/2:B):q):=by rw[Int.fdiv_eq_ediv_of_nonneg _ aa];omega
   simp only[j2D,ai (show (a:q)<(b:q) by omega),jc];rw[gu (x:=(a:q)+(b:q)) aa aa,hm,hd,gu (x:=(((a+b)/2:B):q)) aa aa];simp only[j6X];rw[cG aa aa];simp only[jc,ja,je];by_cases hc:dS l ((a+b)/2)>t
   .rw[ai (show (l.getD ((a+b)/2) ((0:q),(0:q))).1>t from hc)];simp only[jl,jd,aZ]
    have qL:k<=(a+b)/2:=by
     rcases qr ((a+b)/2) k with h'|h'
     .have:=kF _ h';omega
     .exact h'
    exact MK hk kF jE n a ((a+b)/2) aa ha qL aa
   .rw[al (show¬(l.getD ((a+b)/2) ((0:q),(0:q))).1>t from hc)];simp only[jo,jc,aZ];rw[gu aa aa]
    have qL:(a+b)/2<k:=by
     rcases qr ((a+b)/2) k with h'|h'
     .exact h'
     .have:=jE _ h' aa;omega
    exact MK hk kF jE n ((a+b)/2+1) b aa aa hb xV
  .simp only[j2D,al (show¬(a:q)<(b:q) by omega),jd,bd];congr 1;omega
theorem Tu{t:q}{k:B}(hk:k<=l.length)(h1:ba l k<=t)(h2:t<ba l (k+1)):j54 (o,l) t=A (k:q):=by
 have kF:∀i,i<k->dS l i<=t:=by
  intro i hi;have:ba l k=dS l (k-1):=by have:=ie (l:=l) (i:=k-1) aa;rwa[show k-1+1=k by omega]at this
  rw[this]at h1;by_cases he:i=k-1
  .subst he;exact h1
  .have:=h.at_le (i:=i) (j:=k-1) aa aa;omega
 have jE:∀i,k<=i->i<l.length->t<dS l i:=by
  intro i hi hl;have:ba l (k+1)=dS l k:=ie aa;rw[this]at h2;by_cases he:i=k
  .subst he;exact h2
  .have:=h.at_le (i:=k) (j:=i) aa hl;omega
 have:=MK h hk kF jE l.length 0 l.length aa aa hk aa;simp only[j54,jeV,show F (D l)=(l.length:q) from rfl];rw[show (0:q)=((0:B):q) from rfl,this];rfl
theorem Tv{k:B}(hk:k<=l.length):j3z (o,l) (k:q)=A (bL o l k):=by
 have hlen:=h.len;unfold bL;by_cases h0:k=0
 .subst h0;rfl
 .simp only[j3z];rw[cN (show (k:q)≠0 by omega),jd,gu aa aa,cG aa aa,show ((k:q)-1).toNat=k-1 by omega,if_neg h0];rfl
theorem jtm{t:q}{k:B}(hk:k<=l.length)(h1:ba l k<=t)(h2:t<ba l (k+1)):j5W (o,l) t=A (bL o l k):=by
 simp only[j5W,Tu h hk h1 h2,ja,Tv h hk]
theorem Gx{t:q}(h0:0<=t)(h1:t<=8589934592):∃k,k<=l.length/\ba l k<=t/\t<ba l (k+1):=by
 have _:=h
 have:∀n,n<=l.length+1->t<ba l n->∃k,k<n/\ba l k<=t/\t<ba l (k+1):=by
  intro n;induction n with
  |zero=>intro _ hn;have:ba l 0=0:=rfl;omega
  |succ n ih=>
   intro hn ay;by_cases hc:ba l n<=t
   .exact⟨n,aa,hc,ay⟩
   .obtain⟨k,a1,a2,a3⟩:=ih aa aa;exact⟨k,aa,a2,a3⟩
 have cW:ba l (l.length+1)=8589934593:=mo;obtain⟨k,a1,a2,a3⟩:=this (l.length+1) aa aa;exact⟨k,aa,a2,a3⟩
def pc(o:q)(l:aW)(i:B):q×(q×q):=(ba l i,(ba l (i+1),bL o l i))
def od(o:q)(l:aW)(n:B):M (q×(q×q)):=(List.range n).map (pc o l)
omit h in
theorem Tw(n:B):od o l (n+1)=od o l n++[pc o l n]:=by simp[od,List.range_succ]
omit h in
theorem wS(n:B):(od o l n).length=n:=by simp[od]
omit h in
theorem ML{n i:B}(hi:i<n):(od o l n).getD i ((0:q),((0:q),(0:q)))=pc o l i:=by
 simp[od,List.getD,hi]
theorem Tx:∀(n k:B),k+n=l.length+1->Cj (ba l k) 8589934593 o l (od o l k)=A (od o l (l.length+1))
 |0,k,hk=>by
  have cW:ba l k=8589934593:=by rw[show k=l.length+1 by omega];exact mo
  rw[RR,cW];simp only[j1O];rw[al aa,jd,bd,show k=l.length+1 by omega]
 |n+1,k,hk=>by
  have hlen:=h.len;have lE:k<=l.length:=aa;have ay:=h.frm_lt lE;have hle:=h.frm_le (i:=k+1) (j:=l.length+1) aa aa;have cW:ba l (l.length+1)=8589934593:=mo;have ih:=Tx n (k+1) aa;rw[RR];simp only[j1O];rw[ai (show ba l k<8589934593 by omega),Tu h lE aa ay];simp only[jc,ja,show F (D l)=(l.length:q) from rfl,Tv h lE];by_cases pM:k<l.length
  .rw[ai (show (k:q)<(l.length:q) by omega),cG aa aa];simp only[jc,je];have iO:(if (l.getD k ((0:q),(0:q))).1<8589934593 then (l.getD k ((0:q),(0:q))).1 else 8589934593)=ba l (k+1):=by have hf:ba l (k+1)=dS l k:=ie pM;have:=h.max k pM;rw[hf,if_pos (show (l.getD k ((0:q),(0:q))).1<8589934593 by show dS l k<_;omega)];rfl
   rw[iO,ai (by rw[wS];simp[aR];omega)];simp only[jc,aZ];rw[Tw]at ih;exact ih
  .rw[al (show¬(k:q)<(l.length:q) by omega)];simp only[jd];rw[ai (by rw[wS];simp[aR];omega)];simp only[jc,aZ];have bg:k=l.length:=aa;rw[Tw]at ih;unfold pc at ih;rw[show k+1=l.length+1 by omega,cW]at ih;exact ih
theorem Tz:j5V (o,l) 0 8589934593=A (od o l (l.length+1)):=by
 have:=Tx h (l.length+1) 0 aa;simp only[j5V];rw[show Cj 0 8589934593 o l []=_ from this];rfl
def TA(o:q)(l:aW)(s:q)(i:B):Prop:=ba l i<=s-bL o l i/\s-bL o l i<ba l (i+1)
instance(o:q)(l:aW)(s:q)(i:B):L (TA o l s i):=by unfold TA;infer_instance
omit h in
theorem MM{d c:q}(hd : -1000000<=d)(ir:d<=1000000)(hc : -86400<=c)(fp:c<=172800):j3w (d,c)=A (d*86400+c):=by
 simp only[j3w];rw[if_neg (show¬(-1048576:q)>d by omega),if_neg (show¬(1048576:q)<d by omega),gu (x:=d*86400) aa aa,gu aa aa]
theorem TB{d c:q}(hd : -1000000<=d)(ir:d<=1000000)(hc : -86400<=c)(fp:c<=172800){k:B}(hk:k<=l.length)(hks:d*86400+c-bL o l k<ba l (k+1))(sj:∀j,j<k->ba l (j+1)<=d*86400+c-bL o l j) :
  ∀(n i:B),i+n=k->Ck ((l.length+1:B):q) (i:q) d c (od o l (l.length+1))=A (.inl (max (ba l k) (d*86400+c-bL o l k),J))
 |0,i,hi=>by
  have hlen:=h.len;have:i=k:=aa;subst this;have o1:=h.of0 i hk;have o2:=h.of1 i hk;have ay:=h.frm_lt hk;rw[Fi];simp only[j1b];rw[ai (show (i:q)<((l.length+1:B):q) by omega),cG aa (by rw[wS];omega)];simp only[jc,je,ML (show i<l.length+1 by omega),MM hd ir hc fp,ja,pc];rw[gu (x:=d*86400+c-bL o l i) aa aa];have hm:(if d*86400+c-bL o l i>ba l i then d*86400+c-bL o l i else ba l i)=max (ba l i) (d*86400+c-bL o l i):=by split<;>omega
  rw[hm,ai aa,jc,bd]
 |n+1,i,hi=>by
  have hlen:=h.len;have mC:i<=l.length:=aa;have o1:=h.of0 i mC;have o2:=h.of1 i mC;have hb:=sj i aa;rw[Fi];simp only[j1b];rw[ai (show (i:q)<((l.length+1:B):q) by omega),cG aa (by rw[wS];omega)];simp only[jc,je,ML (show i<l.length+1 by omega),MM hd ir hc fp,ja,pc];rw[gu (x:=d*86400+c-bL o l i) aa aa,gu (x:=(i:q)+1) aa aa];have hm:(if d*86400+c-bL o l i>ba l i then d*86400+c-bL o l i else ba l i)=max (ba l i) (d*86400+c-bL o l i):=by split<;>omega
  rw[hm,al aa,jd,aZ];exact TB hd ir hc fp hk hks sj n (i+1) aa
theorem juX{d c:q}(hd : -1000000<=d)(ir:d<=1000000)(hc : -86400<=c)(fp:c<=172800){k:B}(hk:k<=l.length)(hks:d*86400+c-bL o l k<ba l (k+1))(sj:∀j,j<k->ba l (j+1)<=d*86400+c-bL o l j) :
  j1l (o,l) (d,c)=A (max (ba l k) (d*86400+c-bL o l k),J):=by
 have:=TB h hd ir hc fp hk hks sj k 0 aa;simp only[j1l,Tz h,ja,wS,show F (D l+1)=((l.length+1:B):q) from rfl];rw[show (0:q)=((0:B):q) from rfl,this];rfl
omit h in
theorem juY{n:q}(h1 : -1000000000000<=n)(h2:n<=1000000000000):je5 n=A (n/86400,n%86400):=by
 obtain⟨e,p1,p2,p3,p4⟩:=C4 n 86400 aa;simp only[je5];rw[gu (x:=u n 86400) aa aa];by_cases hm:r n 86400<0
 .rw[ai hm,jc,gu (x:=u n 86400-1) aa aa,gu (x:=(u n 86400-1)*86400) aa aa,gu aa aa];have:n/86400=u n 86400-1:=aa;congr 2
  .omega
  .omega
 .rw[al hm,jd,gu (x:=u n 86400*86400) aa aa,gu aa aa];congr 2
  .omega
  .omega
theorem MN{t:q}{k:B}(hk:k<=l.length)(h1:ba l k<=t)(h2:t<ba l (k+1)):j0u (o,l) t=A ((t+bL o l k)/86400,(t+bL o l k)%86400):=by
 have o1:=h.of0 k hk;have o2:=h.of1 k hk;have g1:0<=ba l k:=by have:=h.frm_le (i:=0) (j:=k) aa aa;have e:ba l 0=0:=rfl;omega
 have cW:ba l (l.length+1)=8589934593:=mo;have g2:=h.frm_le (i:=k+1) (j:=l.length+1) aa aa;simp only[j0u,jtm h hk h1 h2,ja];rw[gu (x:=t+bL o l k) aa aa,juY aa aa];rfl
end
def iB(x:q×q):aW->aW
 |[]=>[x]
 |y::ys=>if x.1<y.1 then y::iB x ys else x::y::ys
def iC:aW->aW->aW
 |[],acc=>acc
 |x::xs,acc=>iC xs (iB x acc)
def dD(l:aW):aW:=(iC l []).reverse
theorem C6(x:q×q):∀l,(iB x l).length=l.length+1
 |[]=>rfl
 |y::ys=>by unfold iB;split<;>simp[C6 x ys]
theorem C7:∀(l acc:aW),(iC l acc).length=l.length+acc.length
 |[],acc=>by simp[iC]
 |x::xs,acc=>by simp only[iC,C7 xs,C6,ju];omega
def Sm(l:aW):Prop:=∀x∈l, -1000000000000<=x.1/\x.1<=1000000000000
theorem TC{x:q×q}(hx : -1000000000000<=x.1/\x.1<=1000000000000):∀{l:aW},Sm l->Sm (iB x l)
 |[],_=>λy hy=>by simp[iB]at hy;subst hy;exact hx
 |z::zs,h=>by
  unfold iB;split
  .intro y hy;rcases jm.1 hy with rfl|hy
   .exact h _ af
   .exact TC hx (l:=zs) (λw hw=>h w (by simp[hw])) y hy
  .intro y hy;rcases jm.1 hy with rfl|hy
   .exact hx
   .exact h y hy
theorem jwH(rp mid:aW)(x:q×q):(rp.reverse++x::mid).getD rp.length (0,0)=x:=by
 rw[E,ki af];simp
theorem TD(n s8:q)(x:q×q)(hx : -1000000000000<=x.1/\x.1<=1000000000000):∀(rp mid:aW),Sm rp->rp.length+mid.length<=1000->
  E3 0 n s8 (rp.length:q) (rp.reverse++x::mid)=A (0,n,s8,(iB x rp).reverse++mid)
 |[],mid,_,_=>by
  rw[RF];simp only[j0h];rw[al af,jd,bd];rfl
 |y::ys,mid,TE,hlen=>by
  have hy:=TE y af;have hL:((y::ys).reverse++x::mid).length=ys.length+1+(mid.length+1):=aN;simp only[ju]at hlen;rw[RF];simp only[j0h,ju];rw[ai (show ((ys.length+1:B):q)>0 by omega),cG aa (by rw[hL];omega),au (x:=((ys.length+1:B):q)-1),cG aa (by rw[hL];omega)];simp only[jc,je];have g1:((y::ys).reverse++x::mid).getD (ys.length+1) ((0:q),(0:q))=x:=jwH (y::ys) mid x;have g2:((y::ys).reverse++x::mid).getD ((((ys.length+1:B):q)-1).toNat) ((0:q),(0:q))=y:=by rw[show (((ys.length+1:B):q)-1).toNat=ys.length by omega];simp
  rw[g1,g2];simp only[j6W,ja];rw[au (x:=x.1-y.1)];by_cases hc:x.1<y.1
  .rw[ai (show x.1-y.1<0 by omega)];have uU:X (X ((y::ys).reverse++x::mid) (ys.length+1) (y.1,y.2)) ((((ys.length+1:B):q)-1).toNat) (x.1,x.2)=ys.reverse++x::(y::mid):=by rw[show (((ys.length+1:B):q)-1).toNat=ys.length by omega];simp
   rw[cG aa (by rw[qo,hL];omega)];simp only[jc,aZ,uU];have he:=TD n s8 x hx ys (y::mid) (λz hz=>TE z (by simp[hz])) aN;rw[show ((ys.length+1:B):q)-1=(ys.length:q) by omega,he];simp[iB,hc]
  .rw[al (show¬x.1-y.1<0 by omega)];simp only[jd,bd];simp[iB,hc]
theorem TF:∀(xs rp:aW),Sm rp->Sm xs->rp.length+xs.length<=1000->
  E4 0 ((rp.length+xs.length:B):q) (rp.length:q) (rp.reverse++xs)=A (iC xs rp).reverse
 |[],rp,_,_,_=>by
  rw[Kb];simp only[j0i];rw[al af,jd,bd];simp[iC]
 |x::xs,rp,hr,hx,hlen=>by
  have TH:=hx x af;simp only[ju]at hlen;have he:=TD ((rp.length+(x::xs).length:B):q) (rp.length:q) x TH rp xs hr aa;have ih:=TF xs (iB x rp) (TC TH hr) (λz hz=>hx z (by simp[hz])) (by rw[C6];omega);rw[C6]at ih;rw[Kb];simp only[j0i];rw[ai (by simp only[ju];omega),he];simp only[jc,ja,iC];rw[show rp.length+1+xs.length=rp.length+(x::xs).length by simp;omega]at ih;rw[au,aZ];exact ih
theorem TI{l:aW}(hs:Sm l)(hl:l.length<20):j0f l=A (dD l):=by
 have wT:j0q l 0 (l.length:q)=A (dD l):=by
  simp only[j0q];cases l with
  |nil=>rw[Kb];rfl
  |cons x xs=>have:=TF xs [x] (λz hz=>by simp at hz;subst hz;exact hs _ af) (λz hz=>hs z (by simp[hz])) (by simp at hl ⊢;omega);rw[show w64 (0+1)=(([x]:aW).length:q) from rfl,show ((x::xs).length:q)=(([x].length+xs.length:B):q) by simp;omega];rw[show (x::xs)=[x].reverse++xs from rfl,this];rfl
 have e0:E5 (l.length:q) 20 0 20 l=A ((l.length:q),20,0,l):=by rw[_3];simp only[j0G];rw[al aa,jd,bd]
 have e2:E6 (l.length:q) 20 (dD l)=A (dD l):=by rw[_5];simp only[j0H];rw[al aa,jd,bd]
 simp only[j0f,j1N,show F (D l)=(l.length:q) from rfl,e0,ja,wT,e2]
def sk(y:q):Bool:=decide (y%4=0)&&(!decide (y%100=0)||decide (y%400=0))
def gG(y:q):Int:=if y%4=0/\(y%100≠0\/y%400=0) then 1 else 0
theorem MO(y:q):sk y=J↔y%4=0/\(y%100≠0\/y%400=0):=by simp[sk]
theorem TJ(y:q):gG y=if sk y then 1 else 0:=by
 unfold gG;by_cases h:sk y=J
 .rw[if_pos ((MO y).1 h),if_pos h]
 .rw[if_neg (λh'=>h ((MO y).2 h')),if_neg h]
theorem C8(y:q):0<=gG y/\gG y<=1:=by unfold gG;split<;>omega
def dT(y m:q):Int:=
 if m<1\/12<m then 0 else if m=2 then 28+gG y else if m=4\/m=6\/m=9\/m=11 then 30 else 31
def cY(y:q):Int:=365*(y-1970)+(y-1)/4-(y-1)/100+(y-1)/400-477
def cQ(y m:q):Int:=
 if m<=1 then 0 else if m=2 then 31 else if m=3 then 59+gG y else if m=4 then 90+gG y else if m=5 then 120+gG y else if m=6 then 151+gG y
 else if m=7 then 181+gG y else if m=8 then 212+gG y else if m=9 then 243+gG y else if m=10 then 273+gG y else if m=11 then 304+gG y else if m=12 then 334+gG y else 365+gG y
def num(y m d:q):Int:=cY y+cQ y m+d-1
theorem MP(y:q):cY (y+1)=cY y+365+gG y:=by
 unfold cY gG;split<;>omega
theorem sm{a b:q}(h:a<=b):cY a+365*(b-a)<=cY b:=by unfold cY;omega
theorem jxK{a b:q}(h:a<b):cY a<cY b:=by have:=sm (a:=a) (b:=b) aa;omega
theorem wU(y m:q)(h1:1<=m)(h2:m<=12):cQ y (m+1)=cQ y m+dT y m:=by
 obtain rfl|rfl|rfl|rfl|rfl|rfl|rfl|rfl|rfl|rfl|rfl|rfl:m=1\/m=2\/m=3\/m=4\/m=5\/m=6\/m=7\/m=8\/m=9\/m=10\/m=11\/m=12:=aa;all_goals (simp[cQ,dT];try omega)
theorem lF(y m:q):0<=dT y m/\dT y m<=31:=by
 have:=C8 y;unfold dT;repeat' split;all_goals omega
theorem C9(y m:q)(h1:1<=m)(h2:m<=12):28<=dT y m:=by
 have:=C8 y;unfold dT;rw[if_neg aa];repeat' split;all_goals omega
theorem wV(y m:q):0<=cQ y m/\cQ y m<=366:=by
 have:=C8 y;unfold cQ;omega
theorem TK(y:q):jgY y=A (sk y):=by
 have e:(cond (r y 4==(0:q)) (cond (r y 100 != (0:q)) J (r y 400==(0:q))) U)=sk y:=by unfold bne;rw[MJ,MJ,MJ,R,MO];by_cases h1:y%4=0<;>by_cases h2:y%100=0<;>by_cases h3:y%400=0<;>simp[h1,h2,h3]
 exact congrArg A e
theorem Da(y m:q):j5T y m=A (dT y m):=by
 by_cases h:m<1\/12<m
 .have hc:cond (decide (m<(1:q))) J (decide (m>(12:q)))=true:=by rcases h with h|h<;>by_cases h1:m<1<;>simp[h1]<;>omega
  have:dT y m=0:=if_pos h;rw[this];unfold j5T;rw[hc];rfl
 .obtain rfl|rfl|rfl|rfl|rfl|rfl|rfl|rfl|rfl|rfl|rfl|rfl:m=1\/m=2\/m=3\/m=4\/m=5\/m=6\/m=7\/m=8\/m=9\/m=10\/m=11\/m=12:=aa
  case inr.inl=>simp only[j5T,TK,dT,TJ,ja];cases sk y<;>rfl
  all_goals rfl
theorem juZ(y m d:q):j9T (y,m,d)=A (decide (1970<=y/\y<=2240/\1<=d/\d<=dT y m)):=by
 simp only[j9T,Da,ja];by_cases h1:1970<=y<;>by_cases h2:y<=2240<;>by_cases h3:1<=d<;>simp[h1,h2,h3]
theorem Gy(a b:q)(hb:0<b)(h1 : -1000000000000<=a)(h2:a<=1000000000000):j6V a b=A (a/b):=by
 have ea:(b==0)=false:=aN;obtain⟨e,p1,p2,p3,p4⟩:=C4 a b hb
 have hq : -1000000000000<=u a b/\u a b<=1000000000000:=by
  rcases Int.le_total 0 a with h|h
  .have h0:0<=a/b:=vp h aa;have h3:a/b<=a:=vd b h;rw[qS h];omega
  .have h0:0<=(-a)/b:=vp aa aa;have h3:(-a)/b <= -a:=vd b aa;have h4:u (-a) b=(-a)/b:=qS aa;rw[Int.neg_tdiv]at h4;omega
 simp only[j6V,ea,jo,jc];rw[au (x:=u a b)];by_cases hm:r a b<0
 .rw[ai hm,jc,au];congr 1
  have:a/b=u a b-1:=by
   have h3:a=(a.tmod b+b)+b*(u a b-1):=by rw[Int.mul_sub];omega
   rw[h3,I _ _ aa,G aa aa];rw[<-h3];omega
  omega
 .rw[al hm,jd];congr 1;have h3:a=a.tmod b+b*u a b:=aa
  have:a/b=u a b:=by
   conv=>lhs;rw[h3]
   rw[I _ _ aa,G aa aa];omega
  omega
theorem ui(y:q)(h1 : -1000000000<=y)(h2:y<=1000000000):j4h y=A (cY y):=by
 simp only[j4h];rw[au (x:=y-1),au (x:=y-1970),Gy _ 4 aa aa aa,Gy _ 100 aa aa aa,Gy _ 400 aa aa aa];simp only[ja];simp (disch:=omega) only[gu];rfl
theorem TL(y m d:q)(hm:m<=13):∀(n:B)(s k:q),1<=k->k+n=m -> -1000000000000<=s->s+31*n<=1000000000000->E2 s k y m d=A (s+cQ y m-cQ y k)
 |0,s,k,hk,hn,_,_=>by
  rw[RE];have:k=m:=aa;subst this;simp only[j3e,al (show¬k<k by omega),jd,bd];congr 1;omega
 |n+1,s,k,hk,hn,h1,h2=>by
  rw[RE];have hd:=lF y k;have hc:=wU y k hk aa;simp only[j3e,Da,ja,ai (show k<m by omega),jc,aZ];rw[au (x:=s+dT y k),au (x:=k+1)];have ih:=TL y m d hm n (s+dT y k) (k+1) aa aa aa aa;rw[ih];congr 1;omega
theorem jto(y m d:q)(h1 : -1000000<=y)(h2:y<=1000000)(gq:1<=m)(gO:m<=12)(nS : -1000000<=d)(ir:d<=1000000):jaO (y,m,d)=A (num y m d):=by
 have hb : -1000000000<=cY y/\cY y<=1000000000:=by unfold cY;omega
 simp only[jaO,ui y aa aa,ja];rw[au (x:=cY y+d),au,TL y m d aa (m-1).toNat _ 1 aa aa aa aa];have:cQ y 1=0:=rfl;simp only[ja,num];congr 1;omega
theorem TM(day:q):j4P day=A ((r day 7+10)%7):=by
 obtain⟨e,p1,p2,p3,p4⟩:=C4 day 7 aa;simp only[j4P];rw[au,yR aa]
theorem MQ(day:q)(_h : -3<=day):j4P day=A ((day+3)%7):=by
 rw[TM];congr 1;obtain⟨e,p1,p2,p3,p4⟩:=C4 day 7 aa;omega
def oe(y m d:q):Prop:=1970<=y/\y<=2240/\1<=d/\d<=dT y m
instance(y m d:q):L (oe y m d):=by unfold oe;infer_instance
theorem Db{y m d:q}(h:oe y m d):1<=m/\m<=12:=by
 obtain⟨_,_,h3,h4⟩:=h;by_cases hm:m<1\/12<m
 .have:dT y m=0:=if_pos hm;omega
 .omega
theorem jtp{y m d:q}:decide (1970<=y/\y<=2240/\1<=d/\d<=dT y m)=decide (oe y m d):=rfl
theorem wW{y m d:q}(h:oe y m d):0<=num y m d/\num y m d<98981:=by
 have hm:=Db h;obtain⟨h1,h2,h3,h4⟩:=h;have hc:=wV y m;have c1:=sm (a:=1970) (b:=y) aa;have c2:=sm (a:=y) (b:=2240) aa;have e1:cY 1970=0:=by decide
 have hd:=lF y m;have e2:cY 2240=98615:=by decide
 have dR:cQ y m+dT y m<=365+gG y:=by
  have:=wU y m hm.1 hm.2;have:cQ y (m+1)<=365+gG y:=by have:=C8 y;unfold cQ;omega
  omega
 have c3:=MP y;have c4:=sm (a:=y+1) (b:=2241) aa;have e3:cY 2241=98981:=by decide
 unfold num;omega
theorem TN:cY 1970=0:=by decide
theorem MR:cY 2241=98981:=by decide
def nth(y m k w:q):Int:=
 let d:=num y m 1+(w-(num y m 1+3)%7+7)%7+7*(k-1)
 if d>=num y m 1+dT y m then d-7 else d
theorem yS(y m:q)(h1:1970<=y)(h2:y<=2240)(gq:1<=m)(gO:m<=12):oe y m 1:=⟨h1,h2,aa,by have:=C9 y m gq gO;omega⟩
theorem jxL(y m k w:q)(h1:1970<=y)(h2:y<=2240)(gq:1<=m)(gO:m<=12)(df:1<=k)(eb:k<=5)(H3:0<=w)(J8:w<=6):jfR y m k w=A (nth y m k w,0):=by
 have hv:=yS y m h1 h2 gq gO;have hr:=wW hv;have hd:=lF y m;have MS:j9T (y,m,1)=A true:=by rw[juZ,jtp,vv hv]
 simp only[jfR,MS,ja,jl,jd];rw[al (show¬k<1 by omega),al (show¬k>5 by omega),al (show¬w<0 by omega),al (show¬w>6 by omega)];simp only[jd,jto y m 1 aa aa gq gO aa aa,ja,MQ _ (show -3<=num y m 1 by omega),Da];generalize hn:num y m 1=n at *;have hm7:0<=(n+3)%7/\(n+3)%7<=6:=aa;rw[au (x:=w-(n+3)%7),au (x:=w-(n+3)%7+7),yR (show 0<=w-(n+3)%7+7 by omega)];rw[au (x:=k-1),au (x:=7*(k-1))];rw[au (x:=n+(w-(n+3)%7+7)%7),au (x:=n+(w-(n+3)%7+7)%7+7*(k-1)),au (x:=n+dT y m)];unfold nth;simp only[hn];by_cases hc:n+(w-(n+3)%7+7)%7+7*(k-1)>=n+dT y m
 .rw[ai hc,jc,if_pos hc,au]
 .rw[al hc,jd,if_neg hc]
def cD(l:M q)(a:q):Prop:=0<=a/\a<=(l.length:q)/\l.length<=1000000
theorem di{l:M q}{a n:q}(h:cD l a)(hn:1<=n)(xR:n<=1000000000000):∃x a',j02 l a n=A (x,l,a')/\0<=x/\x<n/\cD l a':=by
 obtain⟨h1,h2,h3⟩:=h;simp only[j02,show F (D l)=(l.length:q) from rfl];by_cases ha:a>=(l.length:q)
 .rw[ai ha,jc];exact⟨0,a,rfl,aa,aa,h1,h2,h3⟩
 .rw[al ha,jd,al (show¬n<1 by omega),jd,cG h1 aa,jc,cN (show n≠0 by omega)];obtain⟨e,p1,p2,p3,p4⟩:=C4 (l.getD a.toNat 0) n aa;rw[au (x:=a+1)];simp only[jo,jc];by_cases ht:r (l.getD a.toNat 0) n<0
  .rw[ai ht,jc,au];exact⟨_,_,rfl,aa,aa,aa,aa,h3⟩
  .rw[al ht,jd];exact⟨_,_,rfl,aa,aa,aa,aa,h3⟩
theorem mq{l:M q}{a:q}(h:cD l a){xs:M q}(uX:0<xs.length)(tO:xs.length<=1000000):∃x a',j03 l a xs=A (x,l,a')/\x∈xs/\cD l a':=by
 obtain⟨x,a',e,h1,h2,h3⟩:=di (n:=(xs.length:q)) h aa aa;simp only[j03,show F (D xs)=(xs.length:q) from rfl,e,ja];rw[cG h1 aa,jc];have ay:x.toNat<xs.length:=aa;refine⟨_,_,rfl,?_,h3⟩;rw[E,ka ay];exact jq ay
theorem Dc:j7c=A true:=by kernel_rfl
end Go.Proofs.Pw
