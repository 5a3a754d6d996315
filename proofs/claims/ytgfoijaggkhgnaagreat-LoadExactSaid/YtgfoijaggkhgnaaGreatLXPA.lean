/- week.SecondOf as a plain function, for _2 that do not reach it (_3 and others state their lemmas by it). Not to be used where _4 prints it. -/
import Derived.Test.YtgfoijaggkhgnaaGreatLXFns
import Derived.Test.YtgfoijaggkhgnaaGreatLXLD
import Derived.KernelRfl
open _root_ renaming Int->q,Nat->B,ByteArray->F,List->N,Decidable->O
open Int renaming tmod->r,tdiv->A,ofNat->G,ediv_eq_zero_of_lt->H,add_mul_ediv_left->I,tmod_nonneg->S,neg_tmod->U
open Option renaming some->u
open List renaming length->D,getD_eq_getElem?_getD->E,set->Y
open Bool renaming true->J,false->W
open Go Go.Lft
namespace Go.Proofs.Pw
def C9(Hj:(q×q)):Option (q):=
 (j6m Hj.1).bind λr5=>
 let t6:Int:=(w64 (r5*(86400:q)))
 let t9:Int:=(w64 (t6+Hj.2))
 u t9
theorem Hk(a b:q)(hb:0<b):b*A a b+r a b=a/\(0<=a->0<=r a b)/\(a<=0->r a b<=0)/\r a b<b /\ -b<r a b:=by
 have h1:=Int.mul_tdiv_add_tmod a b;have h2:0<=a->0<=r a b:=λh=>S b h
 have h3:a<=0->r a b<=0:=λh=>by
  have:=S (a:= -a) b aa;rw[U]at this;omega
 have h4:=yx a hb;have h5 : -b<r a b:=by have:=yx (-a) hb;rw[U]at this;omega
 exact⟨h1,h2,h3,h4,h5⟩
theorem pj{a b:q}(ha:0<=a):A a b=a/b:=zp ha
theorem uJ{a b:q}(ha:0<=a):r a b=a%b:=Int.tmod_eq_emod_of_nonneg ha
theorem Hl(a b:q):(r a b==0)=(a%b==0):=by
 rw[ya];simp only[zi];rw[<-Int.dvd_iff_tmod_eq_zero,<-Int.dvd_iff_emod_eq_zero]
theorem ah{p:Prop}[O p](h:p):decide p=true:=yl h
theorem aj{p:Prop}[O p](h:¬p):decide p=false:=decide_eq_false h
theorem dC{a b:q}(h:a=b):(a==b)=true:=by simp[h]
theorem cj{a b:q}(h:a≠b):(a==b)=false:=by simp[h]
theorem bY{i:q}{n:B}(h1:0<=i)(h2:i<n):inR i n=true:=by simp[inR,h1,h2]
theorem al{x:q}(h1 : -9223372036854775808<=x:=by omega)(h2:x<=9223372036854775807:=by omega):w64 x=x:=iH h1 h2
theorem bD{i:q}{n:B}(h1:0<=i:=by omega)(h2:i<n:=by omega):inR i n=true:=bY h1 h2
def qY(ks:N F):N (F×Bool):=ks.map λk=>(k,J)
def fJ(ks:N F):Prop:=ks.Nodup/\∀k∈ks,j9w k=u J
theorem _5{s:F}:∀{l:N F},s∉l->di W (qY l) s=W/\eD (qY l) s J=qY (l++[s])
 |[],_=>⟨rfl,rfl⟩
 |k::l,h=>by
  simp only[je,not_or]at h;obtain⟨h1,h2⟩:=_5 (l:=l) h.2;have hb:(s==k)=false:=z8.2 λhh=>h.1 ((MapKept.bytes_beq s k).1 hh);refine⟨?_,?_⟩
  .show cond (s==k) J (di W (qY l) s)=W;rw[hb];exact h1
  .show cond (s==k) ((s,J)::qY l) ((k,J)::eD (qY l) s J)=_;rw[hb,j7,h2];rfl
theorem Hm{α:Type}(f:α->F){xs:N α}(h:fJ (xs.map f)){i:B}(hi:i<xs.length):j6g (f xs[i]) (qY ((xs.take i).map f))=u (0,qY ((xs.take (i+1)).map f)):=by
 have hm:f xs[i]∈xs.map f:=List.mem_map_of_mem (jg hi)
 have hn:f xs[i]∉(xs.take i).map f:=by
  intro hx;have hs:xs.map f=(xs.take i).map f++(f xs[i]::(xs.drop (i+1)).map f):=by rw[<-ke,<-qc,List.getElem_cons_drop hi,qx]
  have:=h.1;rw[hs,List.nodup_append]at this;exact this.2.2 _ hx _ ae rfl
 obtain⟨h1,h2⟩:=_5 hn;simp only[j6g,h.2 _ hm,j4,jl,j7,h1,h2];rw[q8,jp hi,qc];rfl
abbrev bC:=N (q×q)
def gm(l:bC)(i:B):Int:=(l.getD i (0,0)).1
def bk(o:q)(l:bC)(i:B):Int:=if i=0 then o else (l.getD (i-1) (0,0)).2
def aT(l:bC)(i:B):Int:=if i=0 then 0 else if i<=l.length then gm l (i-1) else 8589934593
structure iz(o:q)(l:bC):Prop where
 len:l.length<=1000
 gap:∀i,i+1<l.length->gm l i+604800<=gm l (i+1)
 pos:∀i,i<l.length->1000000<gm l i
 max:∀i,i<l.length->gm l i<=8589000000
 of0:∀i,i<=l.length -> -64800<=bk o l i
 of1:∀i,i<=l.length->bk o l i<=64800
section
variable{o:q}{l:bC}(h:iz o l)
include h
theorem iz.at_lt:∀(k i:B),i+k+1<l.length->gm l i+604800<=gm l (i+k+1)
 |0,i,hk=>h.gap i hk
 |k+1,i,hk=>by
  have h1:=iz.at_lt k i aa;have h2:=h.gap (i+k+1) aa;rw[show i+(k+1)+1=i+k+1+1 by omega];omega
theorem iz.at_le{i j:B}(dS:i<j)(hj:j<l.length):gm l i+604800<=gm l j:=by
 have:=h.at_lt (j-i-1) i aa;rwa[show i+(j-i-1)+1=j by omega]at this
omit h in
theorem pk:aT l 0=0:=rfl
omit h in
theorem kI{i:B}(hi:i<l.length):aT l (i+1)=gm l i:=by
 unfold aT;rw[if_neg (Nat.succ_ne_zero i),if_pos (show i+1<=l.length by omega)];rfl
omit h in
theorem nG:aT l (l.length+1)=8589934593:=by
 unfold aT;rw[if_neg (Nat.succ_ne_zero _),if_neg (show¬l.length+1<=l.length by omega)]
theorem iz.frm_lt{i:B}(hi:i<=l.length):aT l i<aT l (i+1):=by
 rcases zm i l.length with hl|hl
 .rw[kI hl];cases i with
  |zero=>rw[pk];exact(by have:=h.pos 0 hl;omega)
  |succ i=>rw[kI aa];have:=h.gap i hl;omega
 .have:i=l.length:=aa;subst this;rw[nG];cases hq:l.length with
  |zero=>rw[pk];omega
  |succ n=>rw[kI aa];have:=h.max n aa;omega
theorem iz.frm_le{i j:B}(dS:i<=j)(hj:j<=l.length+1):aT l i<=aT l j:=by
 induction j with
 |zero=>have:i=0:=aa;subst this;omega
 |succ j ih=>
  by_cases he:i=j+1
  .subst he;omega
  .have h1:=ih aa aa;have h2:=h.frm_lt (i:=j) aa;omega
theorem SF{t:q}{k:B}(hk:k<=l.length)(iW:∀i,i<k->gm l i<=t)(iE:∀i,k<=i->i<l.length->t<gm l i) :
  ∀(n:B)(a b:B),b-a<=n->a<=k->k<=b->b<=l.length->J6 o l t (a:q) (b:q)=u (k:q)
 |0,a,b,hn,ha,hb,xj=>by
  rw[Y4];simp only[j34,aj (show¬(a:q)<(b:q) by omega),j7,aS];congr 1;omega
 |n+1,a,b,hn,ha,hb,xj=>by
  have hlen:=h.len;rw[Y4];by_cases cb:a<b
  .have hm:IntKind.wrap .u64 ((a:q)+(b:q))=(a:q)+(b:q):=IntWalk.u64_in _ ⟨aa,aa⟩;have hd:Int.fdiv ((a:q)+(b:q)) 2=(((a+b)/2:B):q):=by rw[Int.fdiv_eq_ediv_of_nonneg _ aa];omega
   simp only[j34,ah (show (a:q)<(b:q) by omega),j6];rw[iH (x:=(a:q)+(b:q)) aa aa,hm,hd,iH (x:=(((a+b)/2:B):q)) aa aa];simp only[j9e];rw[bY aa aa];simp only[j6,j4,j8];by_cases hc:gm l ((a+b)/2)>t
   .rw[ah (show (l.getD ((a+b)/2) ((0:q),(0:q))).1>t from hc)];simp only[jl,j7,aH]
    have sZ:k<=(a+b)/2:=by
     rcases zm ((a+b)/2) k with h'|h'
     .have:=iW _ h';omega
     .exact h'
    exact SF hk iW iE n a ((a+b)/2) aa ha sZ aa
   .rw[aj (show¬(l.getD ((a+b)/2) ((0:q),(0:q))).1>t from hc)];simp only[ka,j6,aH];rw[iH aa aa]
    have sZ:(a+b)/2<k:=by
     rcases zm ((a+b)/2) k with h'|h'
     .exact h'
     .have:=iE _ h' aa;omega
    exact SF hk iW iE n ((a+b)/2+1) b aa aa hb xj
  .simp only[j34,aj (show¬(a:q)<(b:q) by omega),j7,aS];congr 1;omega
theorem SH{t:q}{k:B}(hk:k<=l.length)(h1:aT l k<=t)(h2:t<aT l (k+1)):j6E (o,l) t=u (k:q):=by
 have iW:∀i,i<k->gm l i<=t:=by
  intro i hi;have:aT l k=gm l (k-1):=by have:=kI (l:=l) (i:=k-1) aa;rwa[show k-1+1=k by omega]at this
  rw[this]at h1;by_cases he:i=k-1
  .subst he;exact h1
  .have:=h.at_le (i:=i) (j:=k-1) aa aa;omega
 have iE:∀i,k<=i->i<l.length->t<gm l i:=by
  intro i hi hl;have:aT l (k+1)=gm l k:=kI aa;rw[this]at h2;by_cases he:i=k
  .subst he;exact h2
  .have:=h.at_le (i:=k) (j:=i) aa hl;omega
 have:=SF h hk iW iE l.length 0 l.length aa aa hk aa;simp only[j6E,jjJ,show G (D l)=(l.length:q) from rfl];rw[show (0:q)=((0:B):q) from rfl,this];rfl
theorem SI{k:B}(hk:k<=l.length):j4k (o,l) (k:q)=u (bk o l k):=by
 have hlen:=h.len;unfold bk;by_cases h0:k=0
 .subst h0;rfl
 .simp only[j4k];rw[cj (show (k:q)≠0 by omega),j7,iH aa aa,bY aa aa,show ((k:q)-1).toNat=k-1 by omega,if_neg h0];rfl
theorem jAC{t:q}{k:B}(hk:k<=l.length)(h1:aT l k<=t)(h2:t<aT l (k+1)):j8a (o,l) t=u (bk o l k):=by
 simp only[j8a,SH h hk h1 h2,j4,SI h hk]
theorem pX{t:q}(h0:0<=t)(h1:t<=8589934592):∃k,k<=l.length/\aT l k<=t/\t<aT l (k+1):=by
 have _:=h
 have:∀n,n<=l.length+1->t<aT l n->∃k,k<n/\aT l k<=t/\t<aT l (k+1):=by
  intro n;induction n with
  |zero=>intro _ hn;have:aT l 0=0:=rfl;omega
  |succ n ih=>
   intro hn an;by_cases hc:aT l n<=t
   .exact⟨n,aa,hc,an⟩
   .obtain⟨k,a1,a2,a3⟩:=ih aa aa;exact⟨k,aa,a2,a3⟩
 have dm:aT l (l.length+1)=8589934593:=nG;obtain⟨k,a1,a2,a3⟩:=this (l.length+1) aa aa;exact⟨k,aa,a2,a3⟩
def pc(o:q)(l:bC)(i:B):q×(q×q):=(aT l i,(aT l (i+1),bk o l i))
def r8(o:q)(l:bC)(n:B):N (q×(q×q)):=(List.range n).map (pc o l)
omit h in
theorem _6(n:B):r8 o l (n+1)=r8 o l n++[pc o l n]:=by simp[r8,List.range_succ]
omit h in
theorem Bi(n:B):(r8 o l n).length=n:=by simp[r8]
omit h in
theorem SJ{n i:B}(hi:i<n):(r8 o l n).getD i ((0:q),((0:q),(0:q)))=pc o l i:=by
 simp[r8,List.getD,hi]
theorem _7:∀(n k:B),k+n=l.length+1->CT (aT l k) 8589934593 o l (r8 o l k)=u (r8 o l (l.length+1))
 |0,k,hk=>by
  have dm:aT l k=8589934593:=by rw[show k=l.length+1 by omega];exact nG
  rw[CU,dm];simp only[j0y];rw[aj aa,j7,aS,show k=l.length+1 by omega]
 |n+1,k,hk=>by
  have hlen:=h.len;have jA:k<=l.length:=aa;have an:=h.frm_lt jA;have hle:=h.frm_le (i:=k+1) (j:=l.length+1) aa aa;have dm:aT l (l.length+1)=8589934593:=nG;have ih:=_7 n (k+1) aa;rw[CU];simp only[j0y];rw[ah (show aT l k<8589934593 by omega),SH h jA aa an];simp only[j6,j4,show G (D l)=(l.length:q) from rfl,SI h jA];by_cases tH:k<l.length
  .rw[ah (show (k:q)<(l.length:q) by omega),bY aa aa];simp only[j6,j8];have jN:(if (l.getD k ((0:q),(0:q))).1<8589934593 then (l.getD k ((0:q),(0:q))).1 else 8589934593)=aT l (k+1):=by have hf:aT l (k+1)=gm l k:=kI tH;have:=h.max k tH;rw[hf,if_pos (show (l.getD k ((0:q),(0:q))).1<8589934593 by show gm l k<_;omega)];rfl
   rw[jN,ah (by rw[Bi];simp[aM];omega)];simp only[j6,aH];rw[_6]at ih;exact ih
  .rw[aj (show¬(k:q)<(l.length:q) by omega)];simp only[j7];rw[ah (by rw[Bi];simp[aM];omega)];simp only[j6,aH];have bQ:k=l.length:=aa;rw[_6]at ih;unfold pc at ih;rw[show k+1=l.length+1 by omega,dm]at ih;exact ih
theorem _8:j1P (o,l) 0 8589934593=u (r8 o l (l.length+1)):=by
 have:=_7 h (l.length+1) 0 aa;simp only[j1P];rw[show CT 0 8589934593 o l []=_ from this];rfl
def tI(o:q)(l:bC)(s:q)(i:B):Prop:=aT l i<=s-bk o l i/\s-bk o l i<aT l (i+1)
instance(o:q)(l:bC)(s:q)(i:B):O (tI o l s i):=by unfold tI;infer_instance
omit h in
theorem SK{d c:q}(hd : -1000000<=d)(gV:d<=1000000)(hc : -86400<=c)(fA:c<=172800):j4i (d,c)=u (d*86400+c):=by
 simp only[j4i];rw[if_neg (show¬(-1048576:q)>d by omega),if_neg (show¬(1048576:q)<d by omega),iH (x:=d*86400) aa aa,iH aa aa]
theorem _9{d c:q}(hd : -1000000<=d)(gV:d<=1000000)(hc : -86400<=c)(fA:c<=172800){k:B}(hk:k<=l.length)(hks:d*86400+c-bk o l k<aT l (k+1))(wC:∀j,j<k->aT l (j+1)<=d*86400+c-bk o l j) :
  ∀(n i:B),i+n=k->FZ ((l.length+1:B):q) (i:q) d c (r8 o l (l.length+1))=u (.inl (max (aT l k) (d*86400+c-bk o l k),J))
 |0,i,hi=>by
  have hlen:=h.len;have:i=k:=aa;subst this;have o1:=h.of0 i hk;have o2:=h.of1 i hk;have an:=h.frm_lt hk;rw[J7];simp only[j1e];rw[ah (show (i:q)<((l.length+1:B):q) by omega),bY aa (by rw[Bi];omega)];simp only[j6,j8,SJ (show i<l.length+1 by omega),SK hd gV hc fA,j4,pc];rw[iH (x:=d*86400+c-bk o l i) aa aa];have hm:(if d*86400+c-bk o l i>aT l i then d*86400+c-bk o l i else aT l i)=max (aT l i) (d*86400+c-bk o l i):=by split<;>omega
  rw[hm,ah aa,j6,aS]
 |n+1,i,hi=>by
  have hlen:=h.len;have kC:i<=l.length:=aa;have o1:=h.of0 i kC;have o2:=h.of1 i kC;have hb:=wC i aa;rw[J7];simp only[j1e];rw[ah (show (i:q)<((l.length+1:B):q) by omega),bY aa (by rw[Bi];omega)];simp only[j6,j8,SJ (show i<l.length+1 by omega),SK hd gV hc fA,j4,pc];rw[iH (x:=d*86400+c-bk o l i) aa aa,iH (x:=(i:q)+1) aa aa];have hm:(if d*86400+c-bk o l i>aT l i then d*86400+c-bk o l i else aT l i)=max (aT l i) (d*86400+c-bk o l i):=by split<;>omega
  rw[hm,aj aa,j7,aH];exact _9 hd gV hc fA hk hks wC n (i+1) aa
theorem jCS{d c:q}(hd : -1000000<=d)(gV:d<=1000000)(hc : -86400<=c)(fA:c<=172800){k:B}(hk:k<=l.length)(hks:d*86400+c-bk o l k<aT l (k+1))(wC:∀j,j<k->aT l (j+1)<=d*86400+c-bk o l j) :
  j2P (o,l) (d,c)=u (max (aT l k) (d*86400+c-bk o l k),J):=by
 have:=_9 h hd gV hc fA hk hks wC k 0 aa;simp only[j2P,_8 h,j4,Bi,show G (D l+1)=((l.length+1:B):q) from rfl];rw[show (0:q)=((0:B):q) from rfl,this];rfl
omit h in
theorem jCT{n:q}(h1 : -1000000000000<=n)(h2:n<=1000000000000):jiE n=u (n/86400,n%86400):=by
 obtain⟨e,p1,p2,p3,p4⟩:=Hk n 86400 aa;simp only[jiE];rw[iH (x:=A n 86400) aa aa];by_cases hm:r n 86400<0
 .rw[ah hm,j6,iH (x:=A n 86400-1) aa aa,iH (x:=(A n 86400-1)*86400) aa aa,iH aa aa];have:n/86400=A n 86400-1:=aa;congr 2
  .omega
  .omega
 .rw[aj hm,j7,iH (x:=A n 86400*86400) aa aa,iH aa aa];congr 2
  .omega
  .omega
theorem Da{t:q}{k:B}(hk:k<=l.length)(h1:aT l k<=t)(h2:t<aT l (k+1)):j1y (o,l) t=u ((t+bk o l k)/86400,(t+bk o l k)%86400):=by
 have o1:=h.of0 k hk;have o2:=h.of1 k hk;have g1:0<=aT l k:=by have:=h.frm_le (i:=0) (j:=k) aa aa;have e:aT l 0=0:=rfl;omega
 have dm:aT l (l.length+1)=8589934593:=nG;have g2:=h.frm_le (i:=k+1) (j:=l.length+1) aa aa;simp only[j1y,jAC h hk h1 h2,j4];rw[iH (x:=t+bk o l k) aa aa,jCT aa aa];rfl
end
def mP(x:q×q):bC->bC
 |[]=>[x]
 |y::ys=>if x.1<y.1 then y::mP x ys else x::y::ys
def lV:bC->bC->bC
 |[],acc=>acc
 |x::xs,acc=>lV xs (mP x acc)
def fv(l:bC):bC:=(lV l []).reverse
theorem Hn(x:q×q):∀l,(mP x l).length=l.length+1
 |[]=>rfl
 |y::ys=>by unfold mP;split<;>simp[Hn x ys]
theorem Ho:∀(l acc:bC),(lV l acc).length=l.length+acc.length
 |[],acc=>by simp[lV]
 |x::xs,acc=>by simp only[lV,Ho xs,Hn,jk];omega
def Sm(l:bC):Prop:=∀x∈l, -1000000000000<=x.1/\x.1<=1000000000000
theorem a_{x:q×q}(hx : -1000000000000<=x.1/\x.1<=1000000000000):∀{l:bC},Sm l->Sm (mP x l)
 |[],_=>λy hy=>by simp[mP]at hy;subst hy;exact hx
 |z::zs,h=>by
  unfold mP;split
  .intro y hy;rcases je.1 hy with rfl|hy
   .exact h _ ae
   .exact a_ hx (l:=zs) (λw hw=>h w (by simp[hw])) y hy
  .intro y hy;rcases je.1 hy with rfl|hy
   .exact hx
   .exact h y hy
theorem jFm(rp mid:bC)(x:q×q):(rp.reverse++x::mid).getD rp.length (0,0)=x:=by
 rw[E,ko ae];simp
theorem b_(n s8:q)(x:q×q)(hx : -1000000000000<=x.1/\x.1<=1000000000000):∀(rp mid:bC),Sm rp->rp.length+mid.length<=1000->
  JU 0 n s8 (rp.length:q) (rp.reverse++x::mid)=u (0,n,s8,(mP x rp).reverse++mid)
 |[],mid,_,_=>by
  rw[YK];simp only[j0d];rw[aj ae,j7,aS];rfl
 |y::ys,mid,r6,hlen=>by
  have hy:=r6 y ae;have hL:((y::ys).reverse++x::mid).length=ys.length+1+(mid.length+1):=ax;simp only[jk]at hlen;rw[YK];simp only[j0d,jk];rw[ah (show ((ys.length+1:B):q)>0 by omega),bY aa (by rw[hL];omega),al (x:=((ys.length+1:B):q)-1),bY aa (by rw[hL];omega)];simp only[j6,j8];have g1:((y::ys).reverse++x::mid).getD (ys.length+1) ((0:q),(0:q))=x:=jFm (y::ys) mid x;have g2:((y::ys).reverse++x::mid).getD ((((ys.length+1:B):q)-1).toNat) ((0:q),(0:q))=y:=by rw[show (((ys.length+1:B):q)-1).toNat=ys.length by omega];simp
  rw[g1,g2];simp only[j9d,j4];rw[al (x:=x.1-y.1)];by_cases hc:x.1<y.1
  .rw[ah (show x.1-y.1<0 by omega)];have kP:Y (Y ((y::ys).reverse++x::mid) (ys.length+1) (y.1,y.2)) ((((ys.length+1:B):q)-1).toNat) (x.1,x.2)=ys.reverse++x::(y::mid):=by rw[show (((ys.length+1:B):q)-1).toNat=ys.length by omega];simp
   rw[bY aa (by rw[y8,hL];omega)];simp only[j6,aH,kP];have he:=b_ n s8 x hx ys (y::mid) (λz hz=>r6 z (by simp[hz])) ax;rw[show ((ys.length+1:B):q)-1=(ys.length:q) by omega,he];simp[mP,hc]
  .rw[aj (show¬x.1-y.1<0 by omega)];simp only[j7,aS];simp[mP,hc]
theorem c_:∀(xs rp:bC),Sm rp->Sm xs->rp.length+xs.length<=1000->
  JV 0 ((rp.length+xs.length:B):q) (rp.length:q) (rp.reverse++xs)=u (lV xs rp).reverse
 |[],rp,_,_,_=>by
  rw[Pt];simp only[j0e];rw[aj ae,j7,aS];simp[lV]
 |x::xs,rp,hr,hx,hlen=>by
  have d_:=hx x ae;simp only[jk]at hlen;have he:=b_ ((rp.length+(x::xs).length:B):q) (rp.length:q) x d_ rp xs hr aa;have ih:=c_ xs (mP x rp) (a_ d_ hr) (λz hz=>hx z (by simp[hz])) (by rw[Hn];omega);rw[Hn]at ih;rw[Pt];simp only[j0e];rw[ah (by simp only[jk];omega),he];simp only[j6,j4,lV];rw[show rp.length+1+xs.length=rp.length+(x::xs).length by simp;omega]at ih;rw[al,aH];exact ih
theorem jrV{l:bC}(hs:Sm l)(hl:l.length<20):j0o l=u (fv l):=by
 have Bj:j0q l 0 (l.length:q)=u (fv l):=by
  simp only[j0q];cases l with
  |nil=>rw[Pt];rfl
  |cons x xs=>have:=c_ xs [x] (λz hz=>by simp at hz;subst hz;exact hs _ ae) (λz hz=>hs z (by simp[hz])) (by simp at hl ⊢;omega);rw[show w64 (0+1)=(([x]:bC).length:q) from rfl,show ((x::xs).length:q)=(([x].length+xs.length:B):q) by simp;omega];rw[show (x::xs)=[x].reverse++xs from rfl,this];rfl
 have e0:JW (l.length:q) 20 0 20 l=u ((l.length:q),20,0,l):=by rw[j6A];simp only[j0E];rw[aj aa,j7,aS]
 have e2:JX (l.length:q) 20 (fv l)=u (fv l):=by rw[j6B];simp only[j0F];rw[aj aa,j7,aS]
 simp only[j0o,j24,show G (D l)=(l.length:q) from rfl,e0,j4,Bj,e2]
def wD(y:q):Bool:=decide (y%4=0)&&(!decide (y%100=0)||decide (y%400=0))
def kW(y:q):Int:=if y%4=0/\(y%100≠0\/y%400=0) then 1 else 0
theorem SM(y:q):wD y=J↔y%4=0/\(y%100≠0\/y%400=0):=by simp[wD]
theorem e_(y:q):kW y=if wD y then 1 else 0:=by
 unfold kW;by_cases h:wD y=J
 .rw[if_pos ((SM y).1 h),if_pos h]
 .rw[if_neg (λh'=>h ((SM y).2 h')),if_neg h]
theorem Lh(y:q):0<=kW y/\kW y<=1:=by unfold kW;split<;>omega
def gn(y m:q):Int:=
 if m<1\/12<m then 0 else if m=2 then 28+kW y else if m=4\/m=6\/m=9\/m=11 then 30 else 31
def kJ(y:q):Int:=365*(y-1970)+(y-1)/4-(y-1)/100+(y-1)/400-477
def mQ(y m:q):Int:=
 if m<=1 then 0 else if m=2 then 31 else if m=3 then 59+kW y else if m=4 then 90+kW y else if m=5 then 120+kW y else if m=6 then 151+kW y
 else if m=7 then 181+kW y else if m=8 then 212+kW y else if m=9 then 243+kW y else if m=10 then 273+kW y else if m=11 then 304+kW y else if m=12 then 334+kW y else 365+kW y
def num(y m d:q):Int:=kJ y+mQ y m+d-1
theorem jCU(y:q):kJ (y+1)=kJ y+365+kW y:=by
 unfold kJ kW;split<;>omega
theorem SN{a b:q}(h:a<=b):kJ a+365*(b-a)<=kJ b:=by unfold kJ;omega
theorem SO(y m:q)(h1:1<=m)(h2:m<=12):mQ y (m+1)=mQ y m+gn y m:=by
 obtain rfl|rfl|rfl|rfl|rfl|rfl|rfl|rfl|rfl|rfl|rfl|rfl:m=1\/m=2\/m=3\/m=4\/m=5\/m=6\/m=7\/m=8\/m=9\/m=10\/m=11\/m=12:=aa;all_goals (simp[mQ,gn];try omega)
theorem tJ(y m:q):0<=gn y m/\gn y m<=31:=by
 have:=Lh y;unfold gn;repeat' split;all_goals omega
theorem Hp(y m:q)(h1:1<=m)(h2:m<=12):28<=gn y m:=by
 have:=Lh y;unfold gn;rw[if_neg aa];repeat' split;all_goals omega
theorem f_(y m:q):0<=mQ y m/\mQ y m<=366:=by
 have:=Lh y;unfold mQ;omega
theorem g_(y:q):jlS y=u (wD y):=by
 have e:(cond (r y 4==(0:q)) (cond (r y 100 != (0:q)) J (r y 400==(0:q))) W)=wD y:=by unfold bne;rw[Hl,Hl,Hl,ya,SM];by_cases h1:y%4=0<;>by_cases h2:y%100=0<;>by_cases h3:y%400=0<;>simp[h1,h2,h3]
 exact js u e
theorem SP(y m:q):j87 y m=u (gn y m):=by
 by_cases h:m<1\/12<m
 .have hc:cond (decide (m<(1:q))) J (decide (m>(12:q)))=true:=by rcases h with h|h<;>by_cases h1:m<1<;>simp[h1]<;>omega
  have:gn y m=0:=if_pos h;rw[this];unfold j87;rw[hc];rfl
 .obtain rfl|rfl|rfl|rfl|rfl|rfl|rfl|rfl|rfl|rfl|rfl|rfl:m=1\/m=2\/m=3\/m=4\/m=5\/m=6\/m=7\/m=8\/m=9\/m=10\/m=11\/m=12:=aa
  case inr.inl=>simp only[j87,g_,gn,e_,j4];cases wD y<;>rfl
  all_goals rfl
theorem jCV(y m d:q):jda (y,m,d)=u (decide (1970<=y/\y<=2240/\1<=d/\d<=gn y m)):=by
 simp only[jda,SP,j4];by_cases h1:1970<=y<;>by_cases h2:y<=2240<;>by_cases h3:1<=d<;>simp[h1,h2,h3]
theorem SQ(a b:q)(hb:0<b)(h1 : -1000000000000<=a)(h2:a<=1000000000000):j9c a b=u (a/b):=by
 have gq:(b==0)=false:=ax;obtain⟨e,p1,p2,p3,p4⟩:=Hk a b hb
 have hq : -1000000000000<=A a b/\A a b<=1000000000000:=by
  rcases Int.le_total 0 a with h|h
  .have h0:0<=a/b:=yy h aa;have h3:a/b<=a:=yp b h;rw[pj h];omega
  .have h0:0<=(-a)/b:=yy aa aa;have h3:(-a)/b <= -a:=yp b aa;have h4:A (-a) b=(-a)/b:=pj aa;rw[Int.neg_tdiv]at h4;omega
 simp only[j9c,gq,ka,j6];rw[al (x:=A a b)];by_cases hm:r a b<0
 .rw[ah hm,j6,al];congr 1
  have:a/b=A a b-1:=by
   have h3:a=(a.tmod b+b)+b*(A a b-1):=by rw[Int.mul_sub];omega
   rw[h3,I _ _ aa,H aa aa];rw[<-h3];omega
  omega
 .rw[aj hm,j7];congr 1;have h3:a=a.tmod b+b*A a b:=aa
  have:a/b=A a b:=by
   conv=>lhs;rw[h3]
   rw[I _ _ aa,H aa aa];omega
  omega
theorem jCW(y:q)(h1 : -1000000000<=y)(h2:y<=1000000000):j5o y=u (kJ y):=by
 simp only[j5o];rw[al (x:=y-1),al (x:=y-1970),SQ _ 4 aa aa aa,SQ _ 100 aa aa aa,SQ _ 400 aa aa aa];simp only[j4];simp (disch:=omega) only[iH];rfl
theorem h_(y m d:q)(hm:m<=13):∀(n:B)(s k:q),1<=k->k+n=m -> -1000000000000<=s->s+31*n<=1000000000000->JT s k y m d=u (s+mQ y m-mQ y k)
 |0,s,k,hk,hn,_,_=>by
  rw[YJ];have:k=m:=aa;subst this;simp only[j3Y,aj (show¬k<k by omega),j7,aS];congr 1;omega
 |n+1,s,k,hk,hn,h1,h2=>by
  rw[YJ];have hd:=tJ y k;have hc:=SO y k hk aa;simp only[j3Y,SP,j4,ah (show k<m by omega),j6,aH];rw[al (x:=s+gn y k),al (x:=k+1)];have ih:=h_ y m d hm n (s+gn y k) (k+1) aa aa aa aa;rw[ih];congr 1;omega
theorem jAE(y m d:q)(h1 : -1000000<=y)(h2:y<=1000000)(fH:1<=m)(ik:m<=12)(pG : -1000000<=d)(gV:d<=1000000):jed (y,m,d)=u (num y m d):=by
 have hb : -1000000000<=kJ y/\kJ y<=1000000000:=by unfold kJ;omega
 simp only[jed,jCW y aa aa,j4];rw[al (x:=kJ y+d),al,h_ y m d aa (m-1).toNat _ 1 aa aa aa aa];have:mQ y 1=0:=rfl;simp only[j4,num];congr 1;omega
theorem i_(day:q):j6m day=u ((r day 7+10)%7):=by
 obtain⟨e,p1,p2,p3,p4⟩:=Hk day 7 aa;simp only[j6m];rw[al,uJ aa]
theorem Li(day:q)(_h : -3<=day):j6m day=u ((day+3)%7):=by
 rw[i_];congr 1;obtain⟨e,p1,p2,p3,p4⟩:=Hk day 7 aa;omega
def wE(y m d:q):Prop:=1970<=y/\y<=2240/\1<=d/\d<=gn y m
instance(y m d:q):O (wE y m d):=by unfold wE;infer_instance
theorem SR{y m d:q}(h:wE y m d):1<=m/\m<=12:=by
 obtain⟨_,_,h3,h4⟩:=h;by_cases hm:m<1\/12<m
 .have:gn y m=0:=if_pos hm;omega
 .omega
theorem jAF{y m d:q}:decide (1970<=y/\y<=2240/\1<=d/\d<=gn y m)=decide (wE y m d):=rfl
theorem Hq{y m d:q}(h:wE y m d):0<=num y m d/\num y m d<98981:=by
 have hm:=SR h;obtain⟨h1,h2,h3,h4⟩:=h;have hc:=f_ y m;have c1:=SN (a:=1970) (b:=y) aa;have c2:=SN (a:=y) (b:=2240) aa;have e1:kJ 1970=0:=by decide
 have hd:=tJ y m;have e2:kJ 2240=98615:=by decide
 have dB:mQ y m+gn y m<=365+kW y:=by
  have:=SO y m hm.1 hm.2;have:mQ y (m+1)<=365+kW y:=by have:=Lh y;unfold mQ;omega
  omega
 have c3:=jCU y;have c4:=SN (a:=y+1) (b:=2241) aa;have e3:kJ 2241=98981:=by decide
 unfold num;omega
def nth(y m k w:q):Int:=
 let d:=num y m 1+(w-(num y m 1+3)%7+7)%7+7*(k-1)
 if d>=num y m 1+gn y m then d-7 else d
theorem Hr(y m:q)(h1:1970<=y)(h2:y<=2240)(fH:1<=m)(ik:m<=12):wE y m 1:=⟨h1,h2,aa,by have:=Hp y m fH ik;omega⟩
theorem jGB(y m k w:q)(h1:1970<=y)(h2:y<=2240)(fH:1<=m)(ik:m<=12)(dW:1<=k)(gi:k<=5)(hw1:0<=w)(xI:w<=6):jkI y m k w=u (nth y m k w,0):=by
 have hv:=Hr y m h1 h2 fH ik;have hr:=Hq hv;have hd:=tJ y m;have SS:jda (y,m,1)=u true:=by rw[jCV,jAF,yl hv]
 simp only[jkI,SS,j4,jl,j7];rw[aj (show¬k<1 by omega),aj (show¬k>5 by omega),aj (show¬w<0 by omega),aj (show¬w>6 by omega)];simp only[j7,jAE y m 1 aa aa fH ik aa aa,j4,Li _ (show -3<=num y m 1 by omega),SP];generalize hn:num y m 1=n at *;have hm7:0<=(n+3)%7/\(n+3)%7<=6:=aa;rw[al (x:=w-(n+3)%7),al (x:=w-(n+3)%7+7),uJ (show 0<=w-(n+3)%7+7 by omega)];rw[al (x:=k-1),al (x:=7*(k-1))];rw[al (x:=n+(w-(n+3)%7+7)%7),al (x:=n+(w-(n+3)%7+7)%7+7*(k-1)),al (x:=n+gn y m)];unfold nth;simp only[hn];by_cases hc:n+(w-(n+3)%7+7)%7+7*(k-1)>=n+gn y m
 .rw[ah hc,j6,if_pos hc,al]
 .rw[aj hc,j7,if_neg hc]
def c9(l:N q)(a:q):Prop:=0<=a/\a<=(l.length:q)/\l.length<=1000000
theorem dh{l:N q}{a n:q}(h:c9 l a)(hn:1<=n)(CC:n<=1000000000000):∃x a',j08 l a n=u (x,l,a')/\0<=x/\x<n/\c9 l a':=by
 obtain⟨h1,h2,h3⟩:=h;simp only[j08,show G (D l)=(l.length:q) from rfl];by_cases ha:a>=(l.length:q)
 .rw[ah ha,j6];exact⟨0,a,rfl,aa,aa,h1,h2,h3⟩
 .rw[aj ha,j7,aj (show¬n<1 by omega),j7,bY h1 aa,j6,cj (show n≠0 by omega)];obtain⟨e,p1,p2,p3,p4⟩:=Hk (l.getD a.toNat 0) n aa;rw[al (x:=a+1)];simp only[ka,j6];by_cases ht:r (l.getD a.toNat 0) n<0
  .rw[ah ht,j6,al];exact⟨_,_,rfl,aa,aa,aa,aa,h3⟩
  .rw[aj ht,j7];exact⟨_,_,rfl,aa,aa,aa,aa,h3⟩
theorem mR{l:N q}{a:q}(h:c9 l a){xs:N q}(vF:0<xs.length)(qO:xs.length<=1000000):∃x a',j0D l a xs=u (x,l,a')/\x∈xs/\c9 l a':=by
 obtain⟨x,a',e,h1,h2,h3⟩:=dh (n:=(xs.length:q)) h aa aa;simp only[j0D,show G (D xs)=(xs.length:q) from rfl,e,j4];rw[bY h1 aa,j6];have an:x.toNat<xs.length:=aa;refine⟨_,_,rfl,?_,h3⟩;rw[E,jp an];exact jg an
theorem Hs:jiC=u true:=by kernel_rfl
end Go.Proofs.Pw
