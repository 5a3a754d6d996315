/- Small facts on Go's GA. -/
import Derived.Test.YtkoifkkadkmecaaGreatLRLD
import Derived.Test.YtkoifkkadkmecaaGreatLRFns
import Derived.KernelRfl
open _root_ renaming Int->q,Nat->B,ByteArray->F,List->L,Decidable->M
open Int renaming tmod->r,tdiv->u,ofNat->G,ediv_eq_zero_of_lt->H,add_mul_ediv_left->I,tmod_nonneg->O,neg_tmod->R
open Option renaming some->A
open List renaming length->D,getD_eq_getElem?_getD->E,set->W
open Bool renaming true->J,false->S
open Go Go.Lft
namespace Go.Proofs.Pw
theorem GB(a b:q)(hb:0<b):b*u a b+r a b=a/\(0<=a->0<=r a b)/\(a<=0->r a b<=0)/\r a b<b /\ -b<r a b:=by
 have h1:=Int.mul_tdiv_add_tmod a b;have h2:0<=a->0<=r a b:=λh=>O b h
 have h3:a<=0->r a b<=0:=λh=>by
  have:=O (a:= -a) b omg_;rw[R]at this;omega
 have h4:=yq a hb;have h5 : -b<r a b:=by have:=yq (-a) hb;rw[R]at this;omega
 exact⟨h1,h2,h3,h4,h5⟩
theorem rh{a b:q}(ha:0<=a):u a b=a/b:=zf ha
theorem yS{a b:q}(ha:0<=a):r a b=a%b:=Int.tmod_eq_emod_of_nonneg ha
theorem GC(a b:q):(r a b==0)=(a%b==0):=by
 rw[vg];simp only[zr];rw[<-Int.dvd_iff_tmod_eq_zero,<-Int.dvd_iff_emod_eq_zero]
theorem ah{p:Prop}[M p](h:p):decide p=true:=yd h
theorem ai{p:Prop}[M p](h:¬p):decide p=false:=decide_eq_false h
theorem cR{a b:q}(h:a=b):(a==b)=true:=by simp[h]
theorem ca{a b:q}(h:a≠b):(a==b)=false:=by simp[h]
theorem bA{i:q}{n:B}(h1:0<=i)(h2:i<n):inR i n=true:=by simp[inR,h1,h2]
theorem aj{x:q}(h1 : -9223372036854775808<=x:=by omega)(h2:x<=9223372036854775807:=by omega):w64 x=x:=gY h1 h2
theorem bJ{i:q}{n:B}(h1:0<=i:=by omega)(h2:i<n:=by omega):inR i n=true:=bA h1 h2
def ri(ks:L F):L (F×Bool):=ks.map λk=>(k,J)
def fG(ks:L F):Prop:=ks.Nodup/\∀k∈ks,jam k=A J
theorem _u{s:F}:∀{l:L F},s∉l->iN S (ri l) s=S/\jW (ri l) s J=ri (l++[s])
 |[],_=>⟨rfl,rfl⟩
 |k::l,h=>by
  simp only[je,not_or]at h;obtain⟨h1,h2⟩:=_u (l:=l) h.2;have hb:(s==k)=false:=z8.2 λhh=>h.1 ((MapKept.bytes_beq s k).1 hh);refine⟨?_,?_⟩
  .show cond (s==k) J (iN S (ri l) s)=S;rw[hb];exact h1
  .show cond (s==k) ((s,J)::ri l) ((k,J)::jW (ri l) s J)=_;rw[hb,j7,h2];rfl
theorem GD{α:Type}(f:α->F){xs:L α}(h:fG (xs.map f)){i:B}(hi:i<xs.length):j78 (f xs[i]) (ri ((xs.take i).map f))=A (0,ri ((xs.take (i+1)).map f)):=by
 have hm:f xs[i]∈xs.map f:=List.mem_map_of_mem (jf hi)
 have hn:f xs[i]∉(xs.take i).map f:=by
  intro hx;have hs:xs.map f=(xs.take i).map f++(f xs[i]::(xs.drop (i+1)).map f):=by rw[<-qf,<-zq,List.getElem_cons_drop hi,kq]
  have:=h.1;rw[hs,zg]at this;exact this.2.2 _ hx _ smp_ rfl
 obtain⟨h1,h2⟩:=_u hn;simp only[j78,h.2 _ hm,j4,jl,j7,h1,h2];rw[ku,jm hi,zq];rfl
abbrev bI:=L (q×q)
def gg(l:bI)(i:B):Int:=(l.getD i (0,0)).1
def bu(o:q)(l:bI)(i:B):Int:=if i=0 then o else (l.getD (i-1) (0,0)).2
def aR(l:bI)(i:B):Int:=if i=0 then 0 else if i<=l.length then gg l (i-1) else 8589934593
structure iU(o:q)(l:bI):Prop where
 len:l.length<=1000
 gap:∀i,i+1<l.length->gg l i+604800<=gg l (i+1)
 pos:∀i,i<l.length->1000000<gg l i
 max:∀i,i<l.length->gg l i<=8589000000
 of0:∀i,i<=l.length -> -64800<=bu o l i
 of1:∀i,i<=l.length->bu o l i<=64800
section
variable{o:q}{l:bI}(h:iU o l)
include h
theorem iU.at_lt:∀(k i:B),i+k+1<l.length->gg l i+604800<=gg l (i+k+1)
 |0,i,hk=>h.gap i hk
 |k+1,i,hk=>by
  have h1:=iU.at_lt k i omg_;have h2:=h.gap (i+k+1) omg_;rw[show i+(k+1)+1=i+k+1+1 by omega];omega
theorem iU.at_le{i j:B}(dP:i<j)(hj:j<l.length):gg l i+604800<=gg l j:=by
 have:=h.at_lt (j-i-1) i omg_;rwa[show i+(j-i-1)+1=j by omega]at this
omit h in
theorem pk:aR l 0=0:=rfl
omit h in
theorem kG{i:B}(hi:i<l.length):aR l (i+1)=gg l i:=by
 unfold aR;rw[if_neg (Nat.succ_ne_zero i),if_pos (show i+1<=l.length by omega)];rfl
omit h in
theorem nP:aR l (l.length+1)=8589934593:=by
 unfold aR;rw[if_neg (Nat.succ_ne_zero _),if_neg (show¬l.length+1<=l.length by omega)]
theorem iU.frm_lt{i:B}(hi:i<=l.length):aR l i<aR l (i+1):=by
 rcases qy i l.length with hl|hl
 .rw[kG hl];cases i with
  |zero=>rw[pk];exact(by have:=h.pos 0 hl;omega)
  |succ i=>rw[kG omg_];have:=h.gap i hl;omega
 .have:i=l.length:=omg_;subst this;rw[nP];cases hq:l.length with
  |zero=>rw[pk];omega
  |succ n=>rw[kG omg_];have:=h.max n omg_;omega
theorem iU.frm_le{i j:B}(dP:i<=j)(hj:j<=l.length+1):aR l i<=aR l j:=by
 induction j with
 |zero=>have:i=0:=omg_;subst this;omega
 |succ j ih=>
  by_cases he:i=j+1
  .subst he;omega
  .have h1:=ih omg_ omg_;have h2:=h.frm_lt (i:=j) omg_;omega
theorem RE{t:q}{k:B}(hk:k<=l.length)(iP:∀i,i<k->gg l i<=t)(ir:∀i,k<=i->i<l.length->t<gg l i) :
  ∀(n:B)(a b:B),b-a<=n->a<=k->k<=b->b<=l.length->Jj o l t (a:q) (b:q)=A (k:q)
 |0,a,b,hn,ha,hb,rZ=>by
  rw[XY];simp only[j3K,ai (show¬(a:q)<(b:q) by omega),j7,aP];congr 1;omega
 |n+1,a,b,hn,ha,hb,rZ=>by
  have hlen:=h.len;rw[XY];by_cases bt:a<b
  .have hm:IntKind.wrap .u64 ((a:q)+(b:q))=(a:q)+(b:q):=IntWalk.u64_in _ ⟨omg_,omg_⟩;have hd:Int.fdiv ((a:q)+(b:q)) 2=(((a+b)/2:B):q):=by rw[Int.fdiv_eq_ediv_of_nonneg _ omg_];omega
   simp only[j3K,ah (show (a:q)<(b:q) by omega),j6];rw[gY (x:=(a:q)+(b:q)) omg_ omg_,hm,hd,gY (x:=(((a+b)/2:B):q)) omg_ omg_];simp only[ja6];rw[bA omg_ omg_];simp only[j6,j4,j8];by_cases hc:gg l ((a+b)/2)>t
   .rw[ah (show (l.getD ((a+b)/2) ((0:q),(0:q))).1>t from hc)];simp only[jl,j7,aB]
    have qW:k<=(a+b)/2:=by
     rcases qy ((a+b)/2) k with h'|h'
     .have:=iP _ h';omega
     .exact h'
    exact RE hk iP ir n a ((a+b)/2) omg_ ha qW omg_
   .rw[ai (show¬(l.getD ((a+b)/2) ((0:q),(0:q))).1>t from hc)];simp only[jv,j6,aB];rw[gY omg_ omg_]
    have qW:(a+b)/2<k:=by
     rcases qy ((a+b)/2) k with h'|h'
     .exact h'
     .have:=ir _ h' omg_;omega
    exact RE hk iP ir n ((a+b)/2+1) b omg_ omg_ hb rZ
  .simp only[j3K,ai (show¬(a:q)<(b:q) by omega),j7,aP];congr 1;omega
theorem RF{t:q}{k:B}(hk:k<=l.length)(h1:aR l k<=t)(h2:t<aR l (k+1)):j7B (o,l) t=A (k:q):=by
 have iP:∀i,i<k->gg l i<=t:=by
  intro i hi;have:aR l k=gg l (k-1):=by have:=kG (l:=l) (i:=k-1) omg_;rwa[show k-1+1=k by omega]at this
  rw[this]at h1;by_cases he:i=k-1
  .subst he;exact h1
  .have:=h.at_le (i:=i) (j:=k-1) omg_ omg_;omega
 have ir:∀i,k<=i->i<l.length->t<gg l i:=by
  intro i hi hl;have:aR l (k+1)=gg l k:=kG omg_;rw[this]at h2;by_cases he:i=k
  .subst he;exact h2
  .have:=h.at_le (i:=k) (j:=i) omg_ hl;omega
 have:=RE h hk iP ir l.length 0 l.length omg_ omg_ hk omg_;simp only[j7B,jk1,show G (D l)=(l.length:q) from rfl];rw[show (0:q)=((0:B):q) from rfl,this];rfl
theorem RG{k:B}(hk:k<=l.length):j5c (o,l) (k:q)=A (bu o l k):=by
 have hlen:=h.len;unfold bu;by_cases h0:k=0
 .subst h0;rfl
 .simp only[j5c];rw[ca (show (k:q)≠0 by omega),j7,gY omg_ omg_,bA omg_ omg_,show ((k:q)-1).toNat=k-1 by omega,if_neg h0];rfl
theorem jA3{t:q}{k:B}(hk:k<=l.length)(h1:aR l k<=t)(h2:t<aR l (k+1)):j8W (o,l) t=A (bu o l k):=by
 simp only[j8W,RF h hk h1 h2,j4,RG h hk]
theorem tT{t:q}(h0:0<=t)(h1:t<=8589934592):∃k,k<=l.length/\aR l k<=t/\t<aR l (k+1):=by
 have _:=h
 have:∀n,n<=l.length+1->t<aR l n->∃k,k<n/\aR l k<=t/\t<aR l (k+1):=by
  intro n;induction n with
  |zero=>intro _ hn;have:aR l 0=0:=rfl;omega
  |succ n ih=>
   intro hn aq;by_cases hc:aR l n<=t
   .exact⟨n,omg_,hc,aq⟩
   .obtain⟨k,a1,a2,a3⟩:=ih omg_ omg_;exact⟨k,omg_,a2,a3⟩
 have cG:aR l (l.length+1)=8589934593:=nP;obtain⟨k,a1,a2,a3⟩:=this (l.length+1) omg_ omg_;exact⟨k,omg_,a2,a3⟩
def pc(o:q)(l:bI)(i:B):q×(q×q):=(aR l i,(aR l (i+1),bu o l i))
def sj(o:q)(l:bI)(n:B):L (q×(q×q)):=(List.range n).map (pc o l)
omit h in
theorem _v(n:B):sj o l (n+1)=sj o l n++[pc o l n]:=by simp[sj,List.range_succ]
omit h in
theorem Bj(n:B):(sj o l n).length=n:=by simp[sj]
omit h in
theorem RH{n i:B}(hi:i<n):(sj o l n).getD i ((0:q),((0:q),(0:q)))=pc o l i:=by
 simp[sj,List.getD,hi]
theorem _w:∀(n k:B),k+n=l.length+1->CE (aR l k) 8589934593 o l (sj o l k)=A (sj o l (l.length+1))
 |0,k,hk=>by
  have cG:aR l k=8589934593:=by rw[show k=l.length+1 by omega];exact nP
  rw[CF,cG];simp only[j0S];rw[ai omg_,j7,aP,show k=l.length+1 by omega]
 |n+1,k,hk=>by
  have hlen:=h.len;have iv:k<=l.length:=omg_;have aq:=h.frm_lt iv;have hle:=h.frm_le (i:=k+1) (j:=l.length+1) omg_ omg_;have cG:aR l (l.length+1)=8589934593:=nP;have ih:=_w n (k+1) omg_;rw[CF];simp only[j0S];rw[ah (show aR l k<8589934593 by omega),RF h iv omg_ aq];simp only[j6,j4,show G (D l)=(l.length:q) from rfl,RG h iv];by_cases tU:k<l.length
  .rw[ah (show (k:q)<(l.length:q) by omega),bA omg_ omg_];simp only[j6,j8];have jI:(if (l.getD k ((0:q),(0:q))).1<8589934593 then (l.getD k ((0:q),(0:q))).1 else 8589934593)=aR l (k+1):=by have hf:aR l (k+1)=gg l k:=kG tU;have:=h.max k tU;rw[hf,if_pos (show (l.getD k ((0:q),(0:q))).1<8589934593 by show gg l k<_;omega)];rfl
   rw[jI,ah (by rw[Bj];simp[aG];omega)];simp only[j6,aB];rw[_v]at ih;exact ih
  .rw[ai (show¬(k:q)<(l.length:q) by omega)];simp only[j7];rw[ah (by rw[Bj];simp[aG];omega)];simp only[j6,aB];have bH:k=l.length:=omg_;rw[_v]at ih;unfold pc at ih;rw[show k+1=l.length+1 by omega,cG]at ih;exact ih
theorem _x:j2k (o,l) 0 8589934593=A (sj o l (l.length+1)):=by
 have:=_w h (l.length+1) 0 omg_;simp only[j2k];rw[show CE 0 8589934593 o l []=_ from this];rfl
def tV(o:q)(l:bI)(s:q)(i:B):Prop:=aR l i<=s-bu o l i/\s-bu o l i<aR l (i+1)
instance(o:q)(l:bI)(s:q)(i:B):M (tV o l s i):=by unfold tV;infer_instance
omit h in
theorem jmp{d c:q}(hd : -1000000<=d)(kE:d<=1000000)(hc : -86400<=c)(gm:c<=172800):j55 (d,c)=A (d*86400+c):=by
 simp only[j55];rw[if_neg (show¬(-1048576:q)>d by omega),if_neg (show¬(1048576:q)<d by omega),gY (x:=d*86400) omg_ omg_,gY omg_ omg_]
theorem _y{d c:q}(hd : -1000000<=d)(kE:d<=1000000)(hc : -86400<=c)(gm:c<=172800){k:B}(hk:k<=l.length)(hks:d*86400+c-bu o l k<aR l (k+1))(wQ:∀j,j<k->aR l (j+1)<=d*86400+c-bu o l j) :
  ∀(n i:B),i+n=k->Fe ((l.length+1:B):q) (i:q) d c (sj o l (l.length+1))=A (.inl (max (aR l k) (d*86400+c-bu o l k),J))
 |0,i,hi=>by
  have hlen:=h.len;have:i=k:=omg_;subst this;have o1:=h.of0 i hk;have o2:=h.of1 i hk;have aq:=h.frm_lt hk;rw[Jk];simp only[j1K];rw[ah (show (i:q)<((l.length+1:B):q) by omega),bA omg_ (by rw[Bj];omega)];simp only[j6,j8,RH (show i<l.length+1 by omega),jmp hd kE hc gm,j4,pc];rw[gY (x:=d*86400+c-bu o l i) omg_ omg_];have hm:(if d*86400+c-bu o l i>aR l i then d*86400+c-bu o l i else aR l i)=max (aR l i) (d*86400+c-bu o l i):=by split<;>omega
  rw[hm,ah omg_,j6,aP]
 |n+1,i,hi=>by
  have hlen:=h.len;have kC:i<=l.length:=omg_;have o1:=h.of0 i kC;have o2:=h.of1 i kC;have hb:=wQ i omg_;rw[Jk];simp only[j1K];rw[ah (show (i:q)<((l.length+1:B):q) by omega),bA omg_ (by rw[Bj];omega)];simp only[j6,j8,RH (show i<l.length+1 by omega),jmp hd kE hc gm,j4,pc];rw[gY (x:=d*86400+c-bu o l i) omg_ omg_,gY (x:=(i:q)+1) omg_ omg_];have hm:(if d*86400+c-bu o l i>aR l i then d*86400+c-bu o l i else aR l i)=max (aR l i) (d*86400+c-bu o l i):=by split<;>omega
  rw[hm,ai omg_,j7,aB];exact _y hd kE hc gm hk hks wQ n (i+1) omg_
theorem jCf{d c:q}(hd : -1000000<=d)(kE:d<=1000000)(hc : -86400<=c)(gm:c<=172800){k:B}(hk:k<=l.length)(hks:d*86400+c-bu o l k<aR l (k+1))(wQ:∀j,j<k->aR l (j+1)<=d*86400+c-bu o l j) :
  j3z (o,l) (d,c)=A (max (aR l k) (d*86400+c-bu o l k),J):=by
 have:=_y h hd kE hc gm hk hks wQ k 0 omg_;simp only[j3z,_x h,j4,Bj,show G (D l+1)=((l.length+1:B):q) from rfl];rw[show (0:q)=((0:B):q) from rfl,this];rfl
omit h in
theorem jCg{n:q}(h1 : -1000000000000<=n)(h2:n<=1000000000000):jj5 n=A (n/86400,n%86400):=by
 obtain⟨e,p1,p2,p3,p4⟩:=GB n 86400 omg_;simp only[jj5];rw[gY (x:=u n 86400) omg_ omg_];by_cases hm:r n 86400<0
 .rw[ah hm,j6,gY (x:=u n 86400-1) omg_ omg_,gY (x:=(u n 86400-1)*86400) omg_ omg_,gY omg_ omg_];have:n/86400=u n 86400-1:=omg_;congr 2
  .omega
  .omega
 .rw[ai hm,j7,gY (x:=u n 86400*86400) omg_ omg_,gY omg_ omg_];congr 2
  .omega
  .omega
theorem CW{t:q}{k:B}(hk:k<=l.length)(h1:aR l k<=t)(h2:t<aR l (k+1)):j1n (o,l) t=A ((t+bu o l k)/86400,(t+bu o l k)%86400):=by
 have o1:=h.of0 k hk;have o2:=h.of1 k hk;have g1:0<=aR l k:=by have:=h.frm_le (i:=0) (j:=k) omg_ omg_;have e:aR l 0=0:=rfl;omega
 have cG:aR l (l.length+1)=8589934593:=nP;have g2:=h.frm_le (i:=k+1) (j:=l.length+1) omg_ omg_;simp only[j1n,jA3 h hk h1 h2,j4];rw[gY (x:=t+bu o l k) omg_ omg_,jCg omg_ omg_];rfl
end
def nf(x:q×q):bI->bI
 |[]=>[x]
 |y::ys=>if x.1<y.1 then y::nf x ys else x::y::ys
def l9:bI->bI->bI
 |[],acc=>acc
 |x::xs,acc=>l9 xs (nf x acc)
def fk(l:bI):bI:=(l9 l []).reverse
theorem GF(x:q×q):∀l,(nf x l).length=l.length+1
 |[]=>rfl
 |y::ys=>by unfold nf;split<;>simp[GF x ys]
theorem GG:∀(l acc:bI),(l9 l acc).length=l.length+acc.length
 |[],acc=>by simp[l9]
 |x::xs,acc=>by simp only[l9,GG xs,GF,ji];omega
def Sm(l:bI):Prop:=∀x∈l, -1000000000000<=x.1/\x.1<=1000000000000
theorem _z{x:q×q}(hx : -1000000000000<=x.1/\x.1<=1000000000000):∀{l:bI},Sm l->Sm (nf x l)
 |[],_=>λy hy=>by simp[nf]at hy;subst hy;exact hx
 |z::zs,h=>by
  unfold nf;split
  .intro y hy;rcases je.1 hy with rfl|hy
   .exact h _ smp_
   .exact _z hx (l:=zs) (λw hw=>h w (by simp[hw])) y hy
  .intro y hy;rcases je.1 hy with rfl|hy
   .exact hx
   .exact h y hy
theorem jED(rp mid:bI)(x:q×q):(rp.reverse++x::mid).getD rp.length (0,0)=x:=by
 rw[E,kn smp_];simp
theorem _A(n s8:q)(x:q×q)(hx : -1000000000000<=x.1/\x.1<=1000000000000):∀(rp mid:bI),Sm rp->rp.length+mid.length<=1000->
  I6 0 n s8 (rp.length:q) (rp.reverse++x::mid)=A (0,n,s8,(nf x rp).reverse++mid)
 |[],mid,_,_=>by
  rw[XB];simp only[j0i];rw[ai smp_,j7,aP];rfl
 |y::ys,mid,iH,hlen=>by
  have hy:=iH y smp_;have hL:((y::ys).reverse++x::mid).length=ys.length+1+(mid.length+1):=sqo_;simp only[ji]at hlen;rw[XB];simp only[j0i,ji];rw[ah (show ((ys.length+1:B):q)>0 by omega),bA omg_ (by rw[hL];omega),aj (x:=((ys.length+1:B):q)-1),bA omg_ (by rw[hL];omega)];simp only[j6,j8];have g1:((y::ys).reverse++x::mid).getD (ys.length+1) ((0:q),(0:q))=x:=jED (y::ys) mid x;have g2:((y::ys).reverse++x::mid).getD ((((ys.length+1:B):q)-1).toNat) ((0:q),(0:q))=y:=by rw[show (((ys.length+1:B):q)-1).toNat=ys.length by omega];simp
  rw[g1,g2];simp only[ja5,j4];rw[aj (x:=x.1-y.1)];by_cases hc:x.1<y.1
  .rw[ah (show x.1-y.1<0 by omega)];have sM:W (W ((y::ys).reverse++x::mid) (ys.length+1) (y.1,y.2)) ((((ys.length+1:B):q)-1).toNat) (x.1,x.2)=ys.reverse++x::(y::mid):=by rw[show (((ys.length+1:B):q)-1).toNat=ys.length by omega];simp
   rw[bA omg_ (by rw[List.length_set,hL];omega)];simp only[j6,aB,sM];have he:=_A n s8 x hx ys (y::mid) (λz hz=>iH z (by simp[hz])) sqo_;rw[show ((ys.length+1:B):q)-1=(ys.length:q) by omega,he];simp[nf,hc]
  .rw[ai (show¬x.1-y.1<0 by omega)];simp only[j7,aP];simp[nf,hc]
theorem _B:∀(xs rp:bI),Sm rp->Sm xs->rp.length+xs.length<=1000->
  I7 0 ((rp.length+xs.length:B):q) (rp.length:q) (rp.reverse++xs)=A (l9 xs rp).reverse
 |[],rp,_,_,_=>by
  rw[OD];simp only[j0j];rw[ai smp_,j7,aP];simp[l9]
 |x::xs,rp,hr,hx,hlen=>by
  have KQ:=hx x smp_;simp only[ji]at hlen;have he:=_A ((rp.length+(x::xs).length:B):q) (rp.length:q) x KQ rp xs hr omg_;have ih:=_B xs (nf x rp) (_z KQ hr) (λz hz=>hx z (by simp[hz])) (by rw[GF];omega);rw[GF]at ih;rw[OD];simp only[j0j];rw[ah (by simp only[ji];omega),he];simp only[j6,j4,l9];rw[show rp.length+1+xs.length=rp.length+(x::xs).length by simp;omega]at ih;rw[aj,aB];exact ih
theorem jrT{l:bI}(hs:Sm l)(hl:l.length<20):j0t l=A (fk l):=by
 have Bl:j0y l 0 (l.length:q)=A (fk l):=by
  simp only[j0y];cases l with
  |nil=>rw[OD];rfl
  |cons x xs=>have:=_B xs [x] (λz hz=>by simp at hz;subst hz;exact hs _ smp_) (λz hz=>hs z (by simp[hz])) (by simp at hl ⊢;omega);rw[show w64 (0+1)=(([x]:bI).length:q) from rfl,show ((x::xs).length:q)=(([x].length+xs.length:B):q) by simp;omega];rw[show (x::xs)=[x].reverse++xs from rfl,this];rfl
 have e0:I8 (l.length:q) 20 0 20 l=A ((l.length:q),20,0,l):=by rw[j7x];simp only[j0Z];rw[ai omg_,j7,aP]
 have e2:I9 (l.length:q) 20 (fk l)=A (fk l):=by rw[j7y];simp only[j10];rw[ai omg_,j7,aP]
 simp only[j0t,j2z,show G (D l)=(l.length:q) from rfl,e0,j4,Bl,e2]
def wR(y:q):Bool:=decide (y%4=0)&&(!decide (y%100=0)||decide (y%400=0))
def kY(y:q):Int:=if y%4=0/\(y%100≠0\/y%400=0) then 1 else 0
theorem RI(y:q):wR y=J↔y%4=0/\(y%100≠0\/y%400=0):=by simp[wR]
theorem _C(y:q):kY y=if wR y then 1 else 0:=by
 unfold kY;by_cases h:wR y=J
 .rw[if_pos ((RI y).1 h),if_pos h]
 .rw[if_neg (λh'=>h ((RI y).2 h')),if_neg h]
theorem KR(y:q):0<=kY y/\kY y<=1:=by unfold kY;split<;>omega
def gh(y m:q):Int:=
 if m<1\/12<m then 0 else if m=2 then 28+kY y else if m=4\/m=6\/m=9\/m=11 then 30 else 31
def kH(y:q):Int:=365*(y-1970)+(y-1)/4-(y-1)/100+(y-1)/400-477
def ng(y m:q):Int:=
 if m<=1 then 0 else if m=2 then 31 else if m=3 then 59+kY y else if m=4 then 90+kY y else if m=5 then 120+kY y else if m=6 then 151+kY y
 else if m=7 then 181+kY y else if m=8 then 212+kY y else if m=9 then 243+kY y else if m=10 then 273+kY y else if m=11 then 304+kY y else if m=12 then 334+kY y else 365+kY y
def num(y m d:q):Int:=kH y+ng y m+d-1
theorem jCh(y:q):kH (y+1)=kH y+365+kY y:=by
 unfold kH kY;split<;>omega
theorem RJ{a b:q}(h:a<=b):kH a+365*(b-a)<=kH b:=by unfold kH;omega
theorem RK(y m:q)(h1:1<=m)(h2:m<=12):ng y (m+1)=ng y m+gh y m:=by
 obtain rfl|rfl|rfl|rfl|rfl|rfl|rfl|rfl|rfl|rfl|rfl|rfl:m=1\/m=2\/m=3\/m=4\/m=5\/m=6\/m=7\/m=8\/m=9\/m=10\/m=11\/m=12:=omg_;all_goals (simp[ng,gh];try omega)
theorem tW(y m:q):0<=gh y m/\gh y m<=31:=by
 have:=KR y;unfold gh;repeat' split;all_goals omega
theorem GH(y m:q)(h1:1<=m)(h2:m<=12):28<=gh y m:=by
 have:=KR y;unfold gh;rw[if_neg omg_];repeat' split;all_goals omega
theorem _D(y m:q):0<=ng y m/\ng y m<=366:=by
 have:=KR y;unfold ng;omega
theorem _E(y:q):jm7 y=A (wR y):=by
 have e:(cond (r y 4==(0:q)) (cond (r y 100 != (0:q)) J (r y 400==(0:q))) S)=wR y:=by unfold bne;rw[GC,GC,GC,vg,RI];by_cases h1:y%4=0<;>by_cases h2:y%100=0<;>by_cases h3:y%400=0<;>simp[h1,h2,h3]
 exact jo A e
theorem RM(y m:q):j8T y m=A (gh y m):=by
 by_cases h:m<1\/12<m
 .have hc:cond (decide (m<(1:q))) J (decide (m>(12:q)))=true:=by rcases h with h|h<;>by_cases h1:m<1<;>simp[h1]<;>omega
  have:gh y m=0:=if_pos h;rw[this];unfold j8T;rw[hc];rfl
 .obtain rfl|rfl|rfl|rfl|rfl|rfl|rfl|rfl|rfl|rfl|rfl|rfl:m=1\/m=2\/m=3\/m=4\/m=5\/m=6\/m=7\/m=8\/m=9\/m=10\/m=11\/m=12:=omg_
  case inr.inl=>simp only[j8T,_E,gh,_C,j4];cases wR y<;>rfl
  all_goals rfl
theorem jCi(y m d:q):je0 (y,m,d)=A (decide (1970<=y/\y<=2240/\1<=d/\d<=gh y m)):=by
 simp only[je0,RM,j4];by_cases h1:1970<=y<;>by_cases h2:y<=2240<;>by_cases h3:1<=d<;>simp[h1,h2,h3]
theorem RN(a b:q)(hb:0<b)(h1 : -1000000000000<=a)(h2:a<=1000000000000):ja4 a b=A (a/b):=by
 have gH:(b==0)=false:=sqo_;obtain⟨e,p1,p2,p3,p4⟩:=GB a b hb
 have hq : -1000000000000<=u a b/\u a b<=1000000000000:=by
  rcases Int.le_total 0 a with h|h
  .have h0:0<=a/b:=yt h omg_;have h3:a/b<=a:=yh b h;rw[rh h];omega
  .have h0:0<=(-a)/b:=yt omg_ omg_;have h3:(-a)/b <= -a:=yh b omg_;have h4:u (-a) b=(-a)/b:=rh omg_;rw[Int.neg_tdiv]at h4;omega
 simp only[ja4,gH,jv,j6];rw[aj (x:=u a b)];by_cases hm:r a b<0
 .rw[ah hm,j6,aj];congr 1
  have:a/b=u a b-1:=by
   have h3:a=(a.tmod b+b)+b*(u a b-1):=by rw[Int.mul_sub];omega
   rw[h3,I _ _ omg_,H omg_ omg_];rw[<-h3];omega
  omega
 .rw[ai hm,j7];congr 1;have h3:a=a.tmod b+b*u a b:=omg_
  have:a/b=u a b:=by
   conv=>lhs;rw[h3]
   rw[I _ _ omg_,H omg_ omg_];omega
  omega
theorem jCj(y:q)(h1 : -1000000000<=y)(h2:y<=1000000000):j6m y=A (kH y):=by
 simp only[j6m];rw[aj (x:=y-1),aj (x:=y-1970),RN _ 4 omg_ omg_ omg_,RN _ 100 omg_ omg_ omg_,RN _ 400 omg_ omg_ omg_];simp only[j4];simp (disch:=omega) only[gY];rfl
theorem _F(y m d:q)(hm:m<=13):∀(n:B)(s k:q),1<=k->k+n=m -> -1000000000000<=s->s+31*n<=1000000000000->I5 s k y m d=A (s+ng y m-ng y k)
 |0,s,k,hk,hn,_,_=>by
  rw[XA];have:k=m:=omg_;subst this;simp only[j4I,ai (show¬k<k by omega),j7,aP];congr 1;omega
 |n+1,s,k,hk,hn,h1,h2=>by
  rw[XA];have hd:=tW y k;have hc:=RK y k hk omg_;simp only[j4I,RM,j4,ah (show k<m by omega),j6,aB];rw[aj (x:=s+gh y k),aj (x:=k+1)];have ih:=_F y m d hm n (s+gh y k) (k+1) omg_ omg_ omg_ omg_;rw[ih];congr 1;omega
theorem jA5(y m d:q)(h1 : -1000000<=y)(h2:y<=1000000)(fw:1<=m)(iQ:m<=12)(rU : -1000000<=d)(kE:d<=1000000):jf0 (y,m,d)=A (num y m d):=by
 have hb : -1000000000<=kH y/\kH y<=1000000000:=by unfold kH;omega
 simp only[jf0,jCj y omg_ omg_,j4];rw[aj (x:=kH y+d),aj,_F y m d omg_ (m-1).toNat _ 1 omg_ omg_ omg_ omg_];have:ng y 1=0:=rfl;simp only[j4,num];congr 1;omega
theorem _G(day:q):j7a day=A ((r day 7+10)%7):=by
 obtain⟨e,p1,p2,p3,p4⟩:=GB day 7 omg_;simp only[j7a];rw[aj,yS omg_]
theorem KS(day:q)(_h : -3<=day):j7a day=A ((day+3)%7):=by
 rw[_G];congr 1;obtain⟨e,p1,p2,p3,p4⟩:=GB day 7 omg_;omega
def wS(y m d:q):Prop:=1970<=y/\y<=2240/\1<=d/\d<=gh y m
instance(y m d:q):M (wS y m d):=by unfold wS;infer_instance
theorem RO{y m d:q}(h:wS y m d):1<=m/\m<=12:=by
 obtain⟨_,_,h3,h4⟩:=h;by_cases hm:m<1\/12<m
 .have:gh y m=0:=if_pos hm;omega
 .omega
theorem jA6{y m d:q}:decide (1970<=y/\y<=2240/\1<=d/\d<=gh y m)=decide (wS y m d):=rfl
theorem GI{y m d:q}(h:wS y m d):0<=num y m d/\num y m d<98981:=by
 have hm:=RO h;obtain⟨h1,h2,h3,h4⟩:=h;have hc:=_D y m;have c1:=RJ (a:=1970) (b:=y) omg_;have c2:=RJ (a:=y) (b:=2240) omg_;have e1:kH 1970=0:=by decide
 have hd:=tW y m;have e2:kH 2240=98615:=by decide
 have dy:ng y m+gh y m<=365+kY y:=by
  have:=RK y m hm.1 hm.2;have:ng y (m+1)<=365+kY y:=by have:=KR y;unfold ng;omega
  omega
 have c3:=jCh y;have c4:=RJ (a:=y+1) (b:=2241) omg_;have e3:kH 2241=98981:=by decide
 unfold num;omega
def nth(y m k w:q):Int:=
 let d:=num y m 1+(w-(num y m 1+3)%7+7)%7+7*(k-1)
 if d>=num y m 1+gh y m then d-7 else d
theorem GJ(y m:q)(h1:1970<=y)(h2:y<=2240)(fw:1<=m)(iQ:m<=12):wS y m 1:=⟨h1,h2,omg_,by have:=GH y m fw iQ;omega⟩
theorem jFY(y m k w:q)(h1:1970<=y)(h2:y<=2240)(fw:1<=m)(iQ:m<=12)(dE:1<=k)(gy:k<=5)(MC:0<=w)(hw2:w<=6):jl0 y m k w=A (nth y m k w,0):=by
 have hv:=GJ y m h1 h2 fw iQ;have hr:=GI hv;have hd:=tW y m;have RP:je0 (y,m,1)=A true:=by rw[jCi,jA6,yd hv]
 simp only[jl0,RP,j4,jl,j7];rw[ai (show¬k<1 by omega),ai (show¬k>5 by omega),ai (show¬w<0 by omega),ai (show¬w>6 by omega)];simp only[j7,jA5 y m 1 omg_ omg_ fw iQ omg_ omg_,j4,KS _ (show -3<=num y m 1 by omega),RM];generalize hn:num y m 1=n at *;have hm7:0<=(n+3)%7/\(n+3)%7<=6:=omg_;rw[aj (x:=w-(n+3)%7),aj (x:=w-(n+3)%7+7),yS (show 0<=w-(n+3)%7+7 by omega)];rw[aj (x:=k-1),aj (x:=7*(k-1))];rw[aj (x:=n+(w-(n+3)%7+7)%7),aj (x:=n+(w-(n+3)%7+7)%7+7*(k-1)),aj (x:=n+gh y m)];unfold nth;simp only[hn];by_cases hc:n+(w-(n+3)%7+7)%7+7*(k-1)>=n+gh y m
 .rw[ah hc,j6,if_pos hc,aj]
 .rw[ai hc,j7,if_neg hc]
def dT(l:L q)(a:q):Prop:=0<=a/\a<=(l.length:q)/\l.length<=1000000
theorem dt{l:L q}{a n:q}(h:dT l a)(hn:1<=n)(KT:n<=1000000000000):∃x a',j09 l a n=A (x,l,a')/\0<=x/\x<n/\dT l a':=by
 obtain⟨h1,h2,h3⟩:=h;simp only[j09,show G (D l)=(l.length:q) from rfl];by_cases ha:a>=(l.length:q)
 .rw[ah ha,j6];exact⟨0,a,rfl,omg_,omg_,h1,h2,h3⟩
 .rw[ai ha,j7,ai (show¬n<1 by omega),j7,bA h1 omg_,j6,ca (show n≠0 by omega)];obtain⟨e,p1,p2,p3,p4⟩:=GB (l.getD a.toNat 0) n omg_;rw[aj (x:=a+1)];simp only[jv,j6];by_cases ht:r (l.getD a.toNat 0) n<0
  .rw[ah ht,j6,aj];exact⟨_,_,rfl,omg_,omg_,omg_,omg_,h3⟩
  .rw[ai ht,j7];exact⟨_,_,rfl,omg_,omg_,omg_,omg_,h3⟩
theorem po{l:L q}{a:q}(h:dT l a){xs:L q}(rW:0<xs.length)(qT:xs.length<=1000000):∃x a',j1x l a xs=A (x,l,a')/\x∈xs/\dT l a':=by
 obtain⟨x,a',e,h1,h2,h3⟩:=dt (n:=(xs.length:q)) h omg_ omg_;simp only[j1x,show G (D xs)=(xs.length:q) from rfl,e,j4];rw[bA h1 omg_,j6];have aq:x.toNat<xs.length:=omg_;refine⟨_,_,rfl,?_,h3⟩;rw[E,jm aq];exact jf aq
end Go.Proofs.Pw
