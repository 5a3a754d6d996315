/- Small facts on Go's F7. -/
import Derived.Test.YtmccfdihkphfaaaGreatRELD
import Derived.Test.YtmccfdihkphfaaaGreatREFns
import Derived.KernelRfl
open _root_ renaming Int->q,Nat->B,ByteArray->H,Decidable->L,List->M
open Int renaming tmod->r,tdiv->u,ofNat->F,ediv_eq_zero_of_lt->G,add_mul_ediv_left->I,neg_tmod->R
open Option renaming some->A
open List renaming length->D,getD_eq_getElem?_getD->E,set->W
open Bool renaming true->J,eq_iff_iff->O,false->S
open Go Go.Lft
namespace Go.Proofs.Pw
theorem F8(a b:q)(hb:0<b):b*u a b+r a b=a/\(0<=a->0<=r a b)/\(a<=0->r a b<=0)/\r a b<b /\ -b<r a b:=by
 have h1:=Int.mul_tdiv_add_tmod a b;have h2:0<=a->0<=r a b:=λh=>vr b h
 have h3:a<=0->r a b<=0:=λh=>by
  have:=vr (a:= -a) b aa;rw[R]at this;omega
 have h4:=zk a hb;have h5 : -b<r a b:=by have:=zk (-a) hb;rw[R]at this;omega
 exact⟨h1,h2,h3,h4,h5⟩
theorem vC{a b:q}(ha:0<=a):u a b=a/b:=qt ha
theorem Aq{a b:q}(ha:0<=a):r a b=a%b:=Int.tmod_eq_emod_of_nonneg ha
theorem Ru(a b:q):(r a b==0)=(a%b==0):=by
 rw[O];simp only[vg];rw[<-Int.dvd_iff_tmod_eq_zero,<-Int.dvd_iff_emod_eq_zero]
theorem ag{p:Prop}[L p](h:p):decide p=true:=qn h
theorem an{p:Prop}[L p](h:¬p):decide p=false:=decide_eq_false h
theorem dI{a b:q}(h:a=b):(a==b)=true:=by simp[h]
theorem cG{a b:q}(h:a≠b):(a==b)=false:=by simp[h]
theorem bU{i:q}{n:B}(h1:0<=i)(h2:i<n):inR i n=true:=by simp[inR,h1,h2]
theorem ar{x:q}(h1 : -9223372036854775808<=x:=by omega)(h2:x<=9223372036854775807:=by omega):w64 x=x:=gX h1 h2
theorem bE{i:q}{n:B}(h1:0<=i:=by omega)(h2:i<n:=by omega):inR i n=true:=bU h1 h2
def ow(ks:M H):M (H×Bool):=ks.map λk=>(k,J)
def F9(ks:M H):Prop:=ks.Nodup/\∀k∈ks,jf7 k=A J
theorem Z5{s:H}:∀{l:M H},s∉l->hQ S (ow l) s=S/\iI (ow l) s J=ow (l++[s])
 |[],_=>⟨rfl,rfl⟩
 |k::l,h=>by
  simp only[je,not_or]at h;obtain⟨h1,h2⟩:=Z5 (l:=l) h.2;have hb:(s==k)=false:=ky.2 λhh=>h.1 ((MapKept.bytes_beq s k).1 hh);refine⟨?_,?_⟩
  .show cond (s==k) J (hQ S (ow l) s)=S;rw[hb];exact h1
  .show cond (s==k) ((s,J)::ow l) ((k,J)::iI (ow l) s J)=_;rw[hb,j7,h2];rfl
abbrev bh:=M (q×q)
def eD(l:bh)(i:B):Int:=(l.getD i (0,0)).1
def bm(o:q)(l:bh)(i:B):Int:=if i=0 then o else (l.getD (i-1) (0,0)).2
def aX(l:bh)(i:B):Int:=if i=0 then 0 else if i<=l.length then eD l (i-1) else 8589934593
structure iF(o:q)(l:bh):Prop where
 len:l.length<=1000
 gap:∀i,i+1<l.length->eD l i+604800<=eD l (i+1)
 pos:∀i,i<l.length->1000000<eD l i
 max:∀i,i<l.length->eD l i<=8589000000
 of0:∀i,i<=l.length -> -64800<=bm o l i
 of1:∀i,i<=l.length->bm o l i<=64800
section
variable{o:q}{l:bh}(h:iF o l)
include h
theorem iF.at_lt:∀(k i:B),i+k+1<l.length->eD l i+604800<=eD l (i+k+1)
 |0,i,hk=>h.gap i hk
 |k+1,i,hk=>by
  have h1:=iF.at_lt k i aa;have h2:=h.gap (i+k+1) aa;rw[show i+(k+1)+1=i+k+1+1 by omega];omega
theorem iF.at_le{i j:B}(eh:i<j)(hj:j<l.length):eD l i+604800<=eD l j:=by
 have:=h.at_lt (j-i-1) i aa;rwa[show i+(j-i-1)+1=j by omega]at this
omit h in
theorem mi:aX l 0=0:=rfl
omit h in
theorem gN{i:B}(hi:i<l.length):aX l (i+1)=eD l i:=by
 unfold aX;rw[if_neg (Nat.succ_ne_zero i),if_pos (show i+1<=l.length by omega)];rfl
omit h in
theorem mj:aX l (l.length+1)=8589934593:=by
 unfold aX;rw[if_neg (Nat.succ_ne_zero _),if_neg (show¬l.length+1<=l.length by omega)]
theorem iF.frm_lt{i:B}(hi:i<=l.length):aX l i<aX l (i+1):=by
 rcases qa i l.length with hl|hl
 .rw[gN hl];cases i with
  |zero=>rw[mi];exact(by have:=h.pos 0 hl;omega)
  |succ i=>rw[gN aa];have:=h.gap i hl;omega
 .have:i=l.length:=aa;subst this;rw[mj];cases hq:l.length with
  |zero=>rw[mi];omega
  |succ n=>rw[gN aa];have:=h.max n aa;omega
theorem iF.frm_gap{i j:B}(hi:1<=i)(eh:i<j)(hj:j<=l.length):aX l i+604800<=aX l j:=by
 obtain⟨i,rfl⟩:∃i',i=i'+1:=⟨i-1,aa⟩;obtain⟨j,rfl⟩:∃j',j=j'+1:=⟨j-1,aa⟩;rw[gN aa,gN aa];exact h.at_le aa aa
theorem iF.frm_le{i j:B}(eh:i<=j)(hj:j<=l.length+1):aX l i<=aX l j:=by
 induction j with
 |zero=>have:i=0:=aa;subst this;omega
 |succ j ih=>
  by_cases he:i=j+1
  .subst he;omega
  .have h1:=ih aa aa;have h2:=h.frm_lt (i:=j) aa;omega
theorem Rv{t:q}{k:B}(hk:k<=l.length)(jA:∀i,i<k->eD l i<=t)(jB:∀i,k<=i->i<l.length->t<eD l i) :
  ∀(n:B)(a b:B),b-a<=n->a<=k->k<=b->b<=l.length->IH o l t (a:q) (b:q)=A (k:q)
 |0,a,b,hn,ha,hb,wG=>by
  rw[XJ];simp only[j3e,an (show¬(a:q)<(b:q) by omega),j7,aW];congr 1;omega
 |n+1,a,b,hn,ha,hb,wG=>by
  have hlen:=h.len;rw[XJ];by_cases cF:a<b
  .have hm:IntKind.wrap .u64 ((a:q)+(b:q))=(a:q)+(b:q):=IntWalk.u64_in _ ⟨aa,aa⟩;have hd:Int.fdiv ((a:q)+(b:q)) 2=(((a+b)/2:B):q):=by rw[Int.fdiv_eq_ediv_of_nonneg _ aa];omega
   simp only[j3e,ag (show (a:q)<(b:q) by omega),j6];rw[gX (x:=(a:q)+(b:q)) aa aa,hm,hd,gX (x:=(((a+b)/2:B):q)) aa aa];simp only[j95];rw[bU aa aa];simp only[j6,j4,j8];by_cases hc:eD l ((a+b)/2)>t
   .rw[ag (show (l.getD ((a+b)/2) ((0:q),(0:q))).1>t from hc)];simp only[jc,j7,aS]
    have rU:k<=(a+b)/2:=by
     rcases qa ((a+b)/2) k with h'|h'
     .have:=jA _ h';omega
     .exact h'
    exact Rv hk jA jB n a ((a+b)/2) aa ha rU aa
   .rw[an (show¬(l.getD ((a+b)/2) ((0:q),(0:q))).1>t from hc)];simp only[jp,j6,aS];rw[gX aa aa]
    have rU:(a+b)/2<k:=by
     rcases qa ((a+b)/2) k with h'|h'
     .exact h'
     .have:=jB _ h' aa;omega
    exact Rv hk jA jB n ((a+b)/2+1) b aa aa hb wG
  .simp only[j3e,an (show¬(a:q)<(b:q) by omega),j7,aW];congr 1;omega
theorem Rw{t:q}{k:B}(hk:k<=l.length)(h1:aX l k<=t)(h2:t<aX l (k+1)):j6A (o,l) t=A (k:q):=by
 have jA:∀i,i<k->eD l i<=t:=by
  intro i hi;have:aX l k=eD l (k-1):=by have:=gN (l:=l) (i:=k-1) aa;rwa[show k-1+1=k by omega]at this
  rw[this]at h1;by_cases he:i=k-1
  .subst he;exact h1
  .have:=h.at_le (i:=i) (j:=k-1) aa aa;omega
 have jB:∀i,k<=i->i<l.length->t<eD l i:=by
  intro i hi hl;have:aX l (k+1)=eD l k:=gN aa;rw[this]at h2;by_cases he:i=k
  .subst he;exact h2
  .have:=h.at_le (i:=k) (j:=i) aa hl;omega
 have:=Rv h hk jA jB l.length 0 l.length aa aa hk aa;simp only[j6A,jj7,show F (D l)=(l.length:q) from rfl];rw[show (0:q)=((0:B):q) from rfl,this];rfl
theorem Rx{k:B}(hk:k<=l.length):j4u (o,l) (k:q)=A (bm o l k):=by
 have hlen:=h.len;unfold bm;by_cases h0:k=0
 .subst h0;rfl
 .simp only[j4u];rw[cG (show (k:q)≠0 by omega),j7,gX aa aa,bU aa aa,show ((k:q)-1).toNat=k-1 by omega,if_neg h0];rfl
theorem jzL{t:q}{k:B}(hk:k<=l.length)(h1:aX l k<=t)(h2:t<aX l (k+1)):j7P (o,l) t=A (bm o l k):=by
 simp only[j7P,Rw h hk h1 h2,j4,Rx h hk]
theorem tI{t:q}(h0:0<=t)(h1:t<=8589934592):∃k,k<=l.length/\aX l k<=t/\t<aX l (k+1):=by
 have _:=h
 have:∀n,n<=l.length+1->t<aX l n->∃k,k<n/\aX l k<=t/\t<aX l (k+1):=by
  intro n;induction n with
  |zero=>intro _ hn;have:aX l 0=0:=rfl;omega
  |succ n ih=>
   intro hn aq;by_cases hc:aX l n<=t
   .exact⟨n,aa,hc,aq⟩
   .obtain⟨k,a1,a2,a3⟩:=ih aa aa;exact⟨k,aa,a2,a3⟩
 have cX:aX l (l.length+1)=8589934593:=mj;obtain⟨k,a1,a2,a3⟩:=this (l.length+1) aa aa;exact⟨k,aa,a2,a3⟩
def pc(o:q)(l:bh)(i:B):q×(q×q):=(aX l i,(aX l (i+1),bm o l i))
def qN(o:q)(l:bh)(n:B):M (q×(q×q)):=(List.range n).map (pc o l)
omit h in
theorem Z6(n:B):qN o l (n+1)=qN o l n++[pc o l n]:=by simp[qN,List.range_succ]
omit h in
theorem Ar(n:B):(qN o l n).length=n:=by simp[qN]
omit h in
theorem Ry{n i:B}(hi:i<n):(qN o l n).getD i ((0:q),((0:q),(0:q)))=pc o l i:=by
 simp[qN,List.getD,hi]
theorem Z7:∀(n k:B),k+n=l.length+1->Ck (aX l k) 8589934593 o l (qN o l k)=A (qN o l (l.length+1))
 |0,k,hk=>by
  have cX:aX l k=8589934593:=by rw[show k=l.length+1 by omega];exact mj
  rw[Cl,cX];simp only[j0B];rw[an aa,j7,aW,show k=l.length+1 by omega]
 |n+1,k,hk=>by
  have hlen:=h.len;have ir:k<=l.length:=aa;have aq:=h.frm_lt ir;have hle:=h.frm_le (i:=k+1) (j:=l.length+1) aa aa;have cX:aX l (l.length+1)=8589934593:=mj;have ih:=Z7 n (k+1) aa;rw[Cl];simp only[j0B];rw[ag (show aX l k<8589934593 by omega),Rw h ir aa aq];simp only[j6,j4,show F (D l)=(l.length:q) from rfl,Rx h ir];by_cases sx:k<l.length
  .rw[ag (show (k:q)<(l.length:q) by omega),bU aa aa];simp only[j6,j8];have iD:(if (l.getD k ((0:q),(0:q))).1<8589934593 then (l.getD k ((0:q),(0:q))).1 else 8589934593)=aX l (k+1):=by have hf:aX l (k+1)=eD l k:=gN sx;have:=h.max k sx;rw[hf,if_pos (show (l.getD k ((0:q),(0:q))).1<8589934593 by show eD l k<_;omega)];rfl
   rw[iD,ag (by rw[Ar];simp[aG];omega)];simp only[j6,aS];rw[Z6]at ih;exact ih
  .rw[an (show¬(k:q)<(l.length:q) by omega)];simp only[j7];rw[ag (by rw[Ar];simp[aG];omega)];simp only[j6,aS];have bn:k=l.length:=aa;rw[Z6]at ih;unfold pc at ih;rw[show k+1=l.length+1 by omega,cX]at ih;exact ih
theorem Z8:j1X (o,l) 0 8589934593=A (qN o l (l.length+1)):=by
 have:=Z7 h (l.length+1) 0 aa;simp only[j1X];rw[show Ck 0 8589934593 o l []=_ from this];rfl
def sy(o:q)(l:bh)(s:q)(i:B):Prop:=aX l i<=s-bm o l i/\s-bm o l i<aX l (i+1)
instance(o:q)(l:bh)(s:q)(i:B):L (sy o l s i):=by unfold sy;infer_instance
omit h in
theorem Rz{d c:q}(hd : -1000000<=d)(iC:d<=1000000)(hc : -86400<=c)(fC:c<=172800):j4s (d,c)=A (d*86400+c):=by
 simp only[j4s];rw[if_neg (show¬(-1048576:q)>d by omega),if_neg (show¬(1048576:q)<d by omega),gX (x:=d*86400) aa aa,gX aa aa]
theorem Z9{d c:q}(hd : -1000000<=d)(iC:d<=1000000)(hc : -86400<=c)(fC:c<=172800){k:B}(hk:k<=l.length)(hks:d*86400+c-bm o l k<aX l (k+1))(vD:∀j,j<k->aX l (j+1)<=d*86400+c-bm o l j) :
  ∀(n i:B),i+n=k->Fa ((l.length+1:B):q) (i:q) d c (qN o l (l.length+1))=A (.inl (max (aX l k) (d*86400+c-bm o l k),J))
 |0,i,hi=>by
  have hlen:=h.len;have:i=k:=aa;subst this;have o1:=h.of0 i hk;have o2:=h.of1 i hk;have aq:=h.frm_lt hk;rw[II];simp only[j1r];rw[ag (show (i:q)<((l.length+1:B):q) by omega),bU aa (by rw[Ar];omega)];simp only[j6,j8,Ry (show i<l.length+1 by omega),Rz hd iC hc fC,j4,pc];rw[gX (x:=d*86400+c-bm o l i) aa aa];have hm:(if d*86400+c-bm o l i>aX l i then d*86400+c-bm o l i else aX l i)=max (aX l i) (d*86400+c-bm o l i):=by split<;>omega
  rw[hm,ag aa,j6,aW]
 |n+1,i,hi=>by
  have hlen:=h.len;have gS:i<=l.length:=aa;have o1:=h.of0 i gS;have o2:=h.of1 i gS;have hb:=vD i aa;rw[II];simp only[j1r];rw[ag (show (i:q)<((l.length+1:B):q) by omega),bU aa (by rw[Ar];omega)];simp only[j6,j8,Ry (show i<l.length+1 by omega),Rz hd iC hc fC,j4,pc];rw[gX (x:=d*86400+c-bm o l i) aa aa,gX (x:=(i:q)+1) aa aa];have hm:(if d*86400+c-bm o l i>aX l i then d*86400+c-bm o l i else aX l i)=max (aX l i) (d*86400+c-bm o l i):=by split<;>omega
  rw[hm,an aa,j7,aS];exact Z9 hd iC hc fC hk hks vD n (i+1) aa
theorem jBL{d c:q}(hd : -1000000<=d)(iC:d<=1000000)(hc : -86400<=c)(fC:c<=172800){k:B}(hk:k<=l.length)(hks:d*86400+c-bm o l k<aX l (k+1))(vD:∀j,j<k->aX l (j+1)<=d*86400+c-bm o l j) :
  j2X (o,l) (d,c)=A (max (aX l k) (d*86400+c-bm o l k),J):=by
 have:=Z9 h hd iC hc fC hk hks vD k 0 aa;simp only[j2X,Z8 h,j4,Ar,show F (D l+1)=((l.length+1:B):q) from rfl];rw[show (0:q)=((0:B):q) from rfl,this];rfl
omit h in
theorem jBM{n:q}(h1 : -1000000000000<=n)(h2:n<=1000000000000):ji5 n=A (n/86400,n%86400):=by
 obtain⟨e,p1,p2,p3,p4⟩:=F8 n 86400 aa;simp only[ji5];rw[gX (x:=u n 86400) aa aa];by_cases hm:r n 86400<0
 .rw[ag hm,j6,gX (x:=u n 86400-1) aa aa,gX (x:=(u n 86400-1)*86400) aa aa,gX aa aa];have:n/86400=u n 86400-1:=aa;congr 2
  .omega
  .omega
 .rw[an hm,j7,gX (x:=u n 86400*86400) aa aa,gX aa aa];congr 2
  .omega
  .omega
theorem CE{t:q}{k:B}(hk:k<=l.length)(h1:aX l k<=t)(h2:t<aX l (k+1)):j0p (o,l) t=A ((t+bm o l k)/86400,(t+bm o l k)%86400):=by
 have o1:=h.of0 k hk;have o2:=h.of1 k hk;have g1:0<=aX l k:=by have:=h.frm_le (i:=0) (j:=k) aa aa;have e:aX l 0=0:=rfl;omega
 have cX:aX l (l.length+1)=8589934593:=mj;have g2:=h.frm_le (i:=k+1) (j:=l.length+1) aa aa;simp only[j0p,jzL h hk h1 h2,j4];rw[gX (x:=t+bm o l k) aa aa,jBM aa aa];rfl
end
def kS(x:q×q):bh->bh
 |[]=>[x]
 |y::ys=>if x.1<y.1 then y::kS x ys else x::y::ys
def kT:bh->bh->bh
 |[],acc=>acc
 |x::xs,acc=>kT xs (kS x acc)
def dM(l:bh):bh:=(kT l []).reverse
theorem Ga(x:q×q):∀l,(kS x l).length=l.length+1
 |[]=>rfl
 |y::ys=>by unfold kS;split<;>simp[Ga x ys]
theorem CF:∀(l acc:bh),(kT l acc).length=l.length+acc.length
 |[],acc=>by simp[kT]
 |x::xs,acc=>by simp only[kT,CF xs,Ga,ji];omega
def Sm(l:bh):Prop:=∀x∈l, -1000000000000<=x.1/\x.1<=1000000000000
theorem _a{x:q×q}(hx : -1000000000000<=x.1/\x.1<=1000000000000):∀{l:bh},Sm l->Sm (kS x l)
 |[],_=>λy hy=>by simp[kS]at hy;subst hy;exact hx
 |z::zs,h=>by
  unfold kS;split
  .intro y hy;rcases je.1 hy with rfl|hy
   .exact h _ ae
   .exact _a hx (l:=zs) (λw hw=>h w (by simp[hw])) y hy
  .intro y hy;rcases je.1 hy with rfl|hy
   .exact hx
   .exact h y hy
theorem jDZ(rp mid:bh)(x:q×q):(rp.reverse++x::mid).getD rp.length (0,0)=x:=by
 rw[E,ke ae];simp
theorem _b(n s8:q)(x:q×q)(hx : -1000000000000<=x.1/\x.1<=1000000000000):∀(rp mid:bh),Sm rp->rp.length+mid.length<=1000->
  Iu 0 n s8 (rp.length:q) (rp.reverse++x::mid)=A (0,n,s8,(kS x rp).reverse++mid)
 |[],mid,_,_=>by
  rw[Xv];simp only[j0h];rw[an ae,j7,aW];rfl
 |y::ys,mid,qL,hlen=>by
  have hy:=qL y ae;have hL:((y::ys).reverse++x::mid).length=ys.length+1+(mid.length+1):=az;simp only[ji]at hlen;rw[Xv];simp only[j0h,ji];rw[ag (show ((ys.length+1:B):q)>0 by omega),bU aa (by rw[hL];omega),ar (x:=((ys.length+1:B):q)-1),bU aa (by rw[hL];omega)];simp only[j6,j8];have g1:((y::ys).reverse++x::mid).getD (ys.length+1) ((0:q),(0:q))=x:=jDZ (y::ys) mid x;have g2:((y::ys).reverse++x::mid).getD ((((ys.length+1:B):q)-1).toNat) ((0:q),(0:q))=y:=by rw[show (((ys.length+1:B):q)-1).toNat=ys.length by omega];simp
  rw[g1,g2];simp only[j93,j4];rw[ar (x:=x.1-y.1)];by_cases hc:x.1<y.1
  .rw[ag (show x.1-y.1<0 by omega)];have mJ:W (W ((y::ys).reverse++x::mid) (ys.length+1) (y.1,y.2)) ((((ys.length+1:B):q)-1).toNat) (x.1,x.2)=ys.reverse++x::(y::mid):=by rw[show (((ys.length+1:B):q)-1).toNat=ys.length by omega];simp
   rw[bU aa (by rw[zu,hL];omega)];simp only[j6,aS,mJ];have he:=_b n s8 x hx ys (y::mid) (λz hz=>qL z (by simp[hz])) az;rw[show ((ys.length+1:B):q)-1=(ys.length:q) by omega,he];simp[kS,hc]
  .rw[an (show¬x.1-y.1<0 by omega)];simp only[j7,aW];simp[kS,hc]
theorem _c:∀(xs rp:bh),Sm rp->Sm xs->rp.length+xs.length<=1000->
  Iv 0 ((rp.length+xs.length:B):q) (rp.length:q) (rp.reverse++xs)=A (kT xs rp).reverse
 |[],rp,_,_,_=>by
  rw[Ov];simp only[j0i];rw[an ae,j7,aW];simp[kT]
 |x::xs,rp,hr,hx,hlen=>by
  have _d:=hx x ae;simp only[ji]at hlen;have he:=_b ((rp.length+(x::xs).length:B):q) (rp.length:q) x _d rp xs hr aa;have ih:=_c xs (kS x rp) (_a _d hr) (λz hz=>hx z (by simp[hz])) (by rw[Ga];omega);rw[Ga]at ih;rw[Ov];simp only[j0i];rw[ag (by simp only[ji];omega),he];simp only[j6,j4,kT];rw[show rp.length+1+xs.length=rp.length+(x::xs).length by simp;omega]at ih;rw[ar,aS];exact ih
theorem _e{l:bh}(hs:Sm l)(hl:l.length<20):j0g l=A (dM l):=by
 have As:j0s l 0 (l.length:q)=A (dM l):=by
  simp only[j0s];cases l with
  |nil=>rw[Ov];rfl
  |cons x xs=>have:=_c xs [x] (λz hz=>by simp at hz;subst hz;exact hs _ ae) (λz hz=>hs z (by simp[hz])) (by simp at hl ⊢;omega);rw[show w64 (0+1)=(([x]:bh).length:q) from rfl,show ((x::xs).length:q)=(([x].length+xs.length:B):q) by simp;omega];rw[show (x::xs)=[x].reverse++xs from rfl,this];rfl
 have e0:Iw (l.length:q) 20 0 20 l=A ((l.length:q),20,0,l):=by rw[j6x];simp only[j0O];rw[an aa,j7,aW]
 have e2:Ix (l.length:q) 20 (dM l)=A (dM l):=by rw[j6y];simp only[j0P];rw[an aa,j7,aW]
 simp only[j0g,j2e,show F (D l)=(l.length:q) from rfl,e0,j4,As,e2]
def vE(y:q):Bool:=decide (y%4=0)&&(!decide (y%100=0)||decide (y%400=0))
def jG(y:q):Int:=if y%4=0/\(y%100≠0\/y%400=0) then 1 else 0
theorem RA(y:q):vE y=J↔y%4=0/\(y%100≠0\/y%400=0):=by simp[vE]
theorem _g(y:q):jG y=if vE y then 1 else 0:=by
 unfold jG;by_cases h:vE y=J
 .rw[if_pos ((RA y).1 h),if_pos h]
 .rw[if_neg (λh'=>h ((RA y).2 h')),if_neg h]
theorem Gb(y:q):0<=jG y/\jG y<=1:=by unfold jG;split<;>omega
def fa(y m:q):Int:=
 if m<1\/12<m then 0 else if m=2 then 28+jG y else if m=4\/m=6\/m=9\/m=11 then 30 else 31
def dN(y:q):Int:=365*(y-1970)+(y-1)/4-(y-1)/100+(y-1)/400-477
def dB(y m:q):Int:=
 if m<=1 then 0 else if m=2 then 31 else if m=3 then 59+jG y else if m=4 then 90+jG y else if m=5 then 120+jG y else if m=6 then 151+jG y
 else if m=7 then 181+jG y else if m=8 then 212+jG y else if m=9 then 243+jG y else if m=10 then 273+jG y else if m=11 then 304+jG y else if m=12 then 334+jG y else 365+jG y
def num(y m d:q):Int:=dN y+dB y m+d-1
theorem RB(y:q):dN (y+1)=dN y+365+jG y:=by
 unfold dN jG;split<;>omega
theorem vF{a b:q}(h:a<=b):dN a+365*(b-a)<=dN b:=by unfold dN;omega
theorem jFq{a b:q}(h:a<b):dN a<dN b:=by have:=vF (a:=a) (b:=b) aa;omega
theorem Au(y m:q)(h1:1<=m)(h2:m<=12):dB y (m+1)=dB y m+fa y m:=by
 obtain rfl|rfl|rfl|rfl|rfl|rfl|rfl|rfl|rfl|rfl|rfl|rfl:m=1\/m=2\/m=3\/m=4\/m=5\/m=6\/m=7\/m=8\/m=9\/m=10\/m=11\/m=12:=aa;all_goals (simp[dB,fa];try omega)
theorem nF(y m:q):0<=fa y m/\fa y m<=31:=by
 have:=Gb y;unfold fa;repeat' split;all_goals omega
theorem Gc(y m:q)(h1:1<=m)(h2:m<=12):28<=fa y m:=by
 have:=Gb y;unfold fa;rw[if_neg aa];repeat' split;all_goals omega
theorem Av(y m:q):0<=dB y m/\dB y m<=366:=by
 have:=Gb y;unfold dB;omega
theorem _i(y:q):jlm y=A (vE y):=by
 have e:(cond (r y 4==(0:q)) (cond (r y 100 != (0:q)) J (r y 400==(0:q))) S)=vE y:=by unfold bne;rw[Ru,Ru,Ru,O,RA];by_cases h1:y%4=0<;>by_cases h2:y%100=0<;>by_cases h3:y%400=0<;>simp[h1,h2,h3]
 exact js A e
theorem Gd(y m:q):j7N y m=A (fa y m):=by
 by_cases h:m<1\/12<m
 .have hc:cond (decide (m<(1:q))) J (decide (m>(12:q)))=true:=by rcases h with h|h<;>by_cases h1:m<1<;>simp[h1]<;>omega
  have:fa y m=0:=if_pos h;rw[this];unfold j7N;rw[hc];rfl
 .obtain rfl|rfl|rfl|rfl|rfl|rfl|rfl|rfl|rfl|rfl|rfl|rfl:m=1\/m=2\/m=3\/m=4\/m=5\/m=6\/m=7\/m=8\/m=9\/m=10\/m=11\/m=12:=aa
  case inr.inl=>simp only[j7N,_i,fa,_g,j4];cases vE y<;>rfl
  all_goals rfl
theorem jBN(y m d:q):jcO (y,m,d)=A (decide (1970<=y/\y<=2240/\1<=d/\d<=fa y m)):=by
 simp only[jcO,Gd,j4];by_cases h1:1970<=y<;>by_cases h2:y<=2240<;>by_cases h3:1<=d<;>simp[h1,h2,h3]
theorem Ky(a b:q)(hb:0<b)(h1 : -1000000000000<=a)(h2:a<=1000000000000):j92 a b=A (a/b):=by
 have fA:(b==0)=false:=az;obtain⟨e,p1,p2,p3,p4⟩:=F8 a b hb
 have hq : -1000000000000<=u a b/\u a b<=1000000000000:=by
  rcases Int.le_total 0 a with h|h
  .have h0:0<=a/b:=yj h aa;have h3:a/b<=a:=ya b h;rw[vC h];omega
  .have h0:0<=(-a)/b:=yj aa aa;have h3:(-a)/b <= -a:=ya b aa;have h4:u (-a) b=(-a)/b:=vC aa;rw[Int.neg_tdiv]at h4;omega
 simp only[j92,fA,jp,j6];rw[ar (x:=u a b)];by_cases hm:r a b<0
 .rw[ag hm,j6,ar];congr 1
  have:a/b=u a b-1:=by
   have h3:a=(a.tmod b+b)+b*(u a b-1):=by rw[Int.mul_sub];omega
   rw[h3,I _ _ aa,G aa aa];rw[<-h3];omega
  omega
 .rw[an hm,j7];congr 1;have h3:a=a.tmod b+b*u a b:=aa
  have:a/b=u a b:=by
   conv=>lhs;rw[h3]
   rw[I _ _ aa,G aa aa];omega
  omega
theorem xp(y:q)(h1 : -1000000000<=y)(h2:y<=1000000000):j5w y=A (dN y):=by
 simp only[j5w];rw[ar (x:=y-1),ar (x:=y-1970),Ky _ 4 aa aa aa,Ky _ 100 aa aa aa,Ky _ 400 aa aa aa];simp only[j4];simp (disch:=omega) only[gX];rfl
theorem _j(y m d:q)(hm:m<=13):∀(n:B)(s k:q),1<=k->k+n=m -> -1000000000000<=s->s+31*n<=1000000000000->It s k y m d=A (s+dB y m-dB y k)
 |0,s,k,hk,hn,_,_=>by
  rw[Xu];have:k=m:=aa;subst this;simp only[j48,an (show¬k<k by omega),j7,aW];congr 1;omega
 |n+1,s,k,hk,hn,h1,h2=>by
  rw[Xu];have hd:=nF y k;have hc:=Au y k hk aa;simp only[j48,Gd,j4,ag (show k<m by omega),j6,aS];rw[ar (x:=s+fa y k),ar (x:=k+1)];have ih:=_j y m d hm n (s+fa y k) (k+1) aa aa aa aa;rw[ih];congr 1;omega
theorem jzN(y m d:q)(h1 : -1000000<=y)(h2:y<=1000000)(ic:1<=m)(ie:m<=12)(qD : -1000000<=d)(iC:d<=1000000):jdU (y,m,d)=A (num y m d):=by
 have hb : -1000000000<=dN y/\dN y<=1000000000:=by unfold dN;omega
 simp only[jdU,xp y aa aa,j4];rw[ar (x:=dN y+d),ar,_j y m d aa (m-1).toNat _ 1 aa aa aa aa];have:dB y 1=0:=rfl;simp only[j4,num];congr 1;omega
theorem _k(day:q):j6g day=A ((r day 7+10)%7):=by
 obtain⟨e,p1,p2,p3,p4⟩:=F8 day 7 aa;simp only[j6g];rw[ar,Aq aa]
theorem Kz(day:q)(_h : -3<=day):j6g day=A ((day+3)%7):=by
 rw[_k];congr 1;obtain⟨e,p1,p2,p3,p4⟩:=F8 day 7 aa;omega
def qO(y m d:q):Prop:=1970<=y/\y<=2240/\1<=d/\d<=fa y m
instance(y m d:q):L (qO y m d):=by unfold qO;infer_instance
theorem Ge{y m d:q}(h:qO y m d):1<=m/\m<=12:=by
 obtain⟨_,_,h3,h4⟩:=h;by_cases hm:m<1\/12<m
 .have:fa y m=0:=if_pos hm;omega
 .omega
theorem jzO{y m d:q}:decide (1970<=y/\y<=2240/\1<=d/\d<=fa y m)=decide (qO y m d):=rfl
theorem Aw{y m d:q}(h:qO y m d):0<=num y m d/\num y m d<98981:=by
 have hm:=Ge h;obtain⟨h1,h2,h3,h4⟩:=h;have hc:=Av y m;have c1:=vF (a:=1970) (b:=y) aa;have c2:=vF (a:=y) (b:=2240) aa;have e1:dN 1970=0:=by decide
 have hd:=nF y m;have e2:dN 2240=98615:=by decide
 have c9:dB y m+fa y m<=365+jG y:=by
  have:=Au y m hm.1 hm.2;have:dB y (m+1)<=365+jG y:=by have:=Gb y;unfold dB;omega
  omega
 have c3:=RB y;have c4:=vF (a:=y+1) (b:=2241) aa;have e3:dN 2241=98981:=by decide
 unfold num;omega
theorem _l:dN 1970=0:=by decide
theorem RC:dN 2241=98981:=by decide
def nth(y m k w:q):Int:=
 let d:=num y m 1+(w-(num y m 1+3)%7+7)%7+7*(k-1)
 if d>=num y m 1+fa y m then d-7 else d
theorem CH(y m:q)(h1:1970<=y)(h2:y<=2240)(ic:1<=m)(ie:m<=12):qO y m 1:=⟨h1,h2,aa,by have:=Gc y m ic ie;omega⟩
theorem jFr(y m k w:q)(h1:1970<=y)(h2:y<=2240)(ic:1<=m)(ie:m<=12)(dj:1<=k)(fp:k<=5)(Mb:0<=w)(hw2:w<=6):jk7 y m k w=A (nth y m k w,0):=by
 have hv:=CH y m h1 h2 ic ie;have hr:=Aw hv;have hd:=nF y m;have RD:jcO (y,m,1)=A true:=by rw[jBN,jzO,qn hv]
 simp only[jk7,RD,j4,jc,j7];rw[an (show¬k<1 by omega),an (show¬k>5 by omega),an (show¬w<0 by omega),an (show¬w>6 by omega)];simp only[j7,jzN y m 1 aa aa ic ie aa aa,j4,Kz _ (show -3<=num y m 1 by omega),Gd];generalize hn:num y m 1=n at *;have hm7:0<=(n+3)%7/\(n+3)%7<=6:=aa;rw[ar (x:=w-(n+3)%7),ar (x:=w-(n+3)%7+7),Aq (show 0<=w-(n+3)%7+7 by omega)];rw[ar (x:=k-1),ar (x:=7*(k-1))];rw[ar (x:=n+(w-(n+3)%7+7)%7),ar (x:=n+(w-(n+3)%7+7)%7+7*(k-1)),ar (x:=n+fa y m)];unfold nth;simp only[hn];by_cases hc:n+(w-(n+3)%7+7)%7+7*(k-1)>=n+fa y m
 .rw[ag hc,j6,if_pos hc,ar]
 .rw[an hc,j7,if_neg hc]
def dg(l:M q)(a:q):Prop:=0<=a/\a<=(l.length:q)/\l.length<=1000000
theorem dT{l:M q}{a n:q}(h:dg l a)(hn:1<=n)(yp:n<=1000000000000):∃x a',j06 l a n=A (x,l,a')/\0<=x/\x<n/\dg l a':=by
 obtain⟨h1,h2,h3⟩:=h;simp only[j06,show F (D l)=(l.length:q) from rfl];by_cases ha:a>=(l.length:q)
 .rw[ag ha,j6];exact⟨0,a,rfl,aa,aa,h1,h2,h3⟩
 .rw[an ha,j7,an (show¬n<1 by omega),j7,bU h1 aa,j6,cG (show n≠0 by omega)];obtain⟨e,p1,p2,p3,p4⟩:=F8 (l.getD a.toNat 0) n aa;rw[ar (x:=a+1)];simp only[jp,j6];by_cases ht:r (l.getD a.toNat 0) n<0
  .rw[ag ht,j6,ar];exact⟨_,_,rfl,aa,aa,aa,aa,h3⟩
  .rw[an ht,j7];exact⟨_,_,rfl,aa,aa,aa,aa,h3⟩
theorem pQ{l:M q}{a:q}(h:dg l a){xs:M q}(um:0<xs.length)(pD:xs.length<=1000000):∃x a',j0c l a xs=A (x,l,a')/\x∈xs/\dg l a':=by
 obtain⟨x,a',e,h1,h2,h3⟩:=dT (n:=(xs.length:q)) h aa aa;simp only[j0c,show F (D xs)=(xs.length:q) from rfl,e,j4];rw[bU h1 aa,j6];have aq:x.toNat<xs.length:=aa;refine⟨_,_,rfl,?_,h3⟩;rw[E,jo aq];exact jl aq
theorem _m:ji7=A true:=by kernel_rfl
end Go.Proofs.Pw
