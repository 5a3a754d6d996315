/- Small facts on Go's division. -/
import Derived.Test.YtmlokiiopbjgfaaGreatEELD
import Derived.Test.YtmlokiiopbjgfaaGreatEEFns
import Derived.KernelRfl
open _root_ renaming Int->u,Nat->B,ByteArray->E,List->G,Option->N,Decidable->U
open Option renaming some->A,none->Ê
open Int renaming tmod->D,tdiv->I,ofNat->W,ediv_eq_zero_of_lt->Á,add_mul_ediv_left->Â,tmod_lt_of_pos->Ã,ediv_le_self->Ä,tmod_nonneg->Å,ediv_nonneg->Ç,neg_tmod->È
open List renaming drop_eq_getElem_cons->F,length_cons->H,length->R,getD_eq_getElem?_getD->S,append_assoc->Y,range->Z,getElem_mem->À,range_succ->Æ,set->Ë
open Bool renaming not_false->J,true->K,false->O,not_true->X
open Decidable renaming decide->M
open Go Go.Lft
namespace Go.Proofs.Pw
theorem tdm(a b:u)(hb:0<b):b*I a b+D a b=a/\(0<=a->0<=D a b)/\(a<=0->D a b<=0)/\D a b<b /\ -b<D a b:=by
 have h1:=Int.mul_tdiv_add_tmod a b;have h2:0<=a->0<=D a b:=λh=>Å b h
 have h3:a<=0->D a b<=0:=λh=>by
  have:=Å (a:= -a) b omg_;rw[È]at this;omega
 have h4:=Ã a hb;have h5 : -b<D a b:=by have:=Ã (-a) hb;rw[È]at this;omega
 exact⟨h1,h2,h3,h4,h5⟩
theorem jeQ{a b:u}(ha:0<=a):I a b=a/b:=Int.tdiv_eq_ediv_of_nonneg ha
theorem jiL{a b:u}(ha:0<=a):D a b=a%b:=Int.tmod_eq_emod_of_nonneg ha
theorem j00{p:Prop}[U p](h:p):decide p=true:=decide_eq_true h
theorem j01{p:Prop}[U p](h:¬p):decide p=false:=decide_eq_false h
theorem j9g{a b:u}(h:a=b):(a==b)=true:=by simp[h]
theorem j55{a b:u}(h:a≠b):(a==b)=false:=by simp[h]
theorem j2M{i:u}{n:B}(h1:0<=i)(h2:i<n):inR i n=true:=by simp[inR,h1,h2]
theorem S0:(∀(p:Prop)[U p],p->decide p=K)/\(∀(p:Prop)[U p],¬p->decide p=O)/\(∀(i:u)(n:B),0<=i->i<n->inR i n=K)/\(∀x:u, -9223372036854775808<=x->x<=9223372036854775807->w64 x=x)/\(∀a b:u,a=b->(a==b)=K)/\(∀a b:u,a≠b->(a==b)=O)/\
 (∀n:B,n<=4294967296->M (n<=j06)=K)/\(∀{α:Type}(a:α)(l:G α),(a::l).length=l.length+1)/\(∀α:Type,([]:G α).length=0)/\(∀{α:Type}(l:G α)(d:α)(i:B)(_:i<l.length),l.getD i d=l[i])/\
 (∀{α β:Type}(s:α)(f:α->N β),lpK (A (.inl s)) f=f s)/\(∀{α β:Type}(x:β)(f:α->N β),lpK (A (.inr x)) f=A x)/\(∀{α β γ:Type}(x:α)(f:α->γ)(g:β->γ),sumC (.inl x) f g=f x)/\(∀{α β γ:Type}(x:β)(f:α->γ)(g:β->γ),sumC (.inr x) f g=g x)/\
 (∀{α:Type}(a b:α),cond K a b=a)/\(∀{α:Type}(a b:α),cond O a b=b)/\(∀{α β:Type}(a:α)(f:α->N β),(A a).bind f=f a)/\(∀n:B,Int.toNat (n:u)=n)/\(∀n:B,W n=(n:u))/\(∀a b:u,(a != b) = !(a==b))/\(!K)=O/\(!O)=true:=
 ⟨λ_ _ h=>decide_eq_true h,λ_ _ h=>decide_eq_false h,λ_ _=>j2M,λ_=>j5Z,λ_ _=>j9g,λ_ _=>j55,λ_ h=>decide_eq_true h,λ_ _=>rfl,λ_=>rfl,λ_ _ _ _=>(List.getElem_eq_getD _).symm,λ_ _=>rfl,λ_ _=>rfl,λ_ _ _=>rfl,λ_ _ _=>rfl,λ_ _=>rfl,λ_ _=>rfl,λ_ _=>rfl,λ_=>rfl,λ_=>rfl,λ_ _=>rfl,rfl,rfl⟩
theorem j0d{x:u}(h1 : -9223372036854775808<=x:=by omega)(h2:x<=9223372036854775807:=by omega):w64 x=x:=j5Z h1 h2
theorem j1g{i:u}{n:B}(h1:0<=i:=by omega)(h2:i<n:=by omega):inR i n=true:=j2M h1 h2
def j95(ks:G E):G (E×Bool):=ks.map λk=>(k,K)
def NmL(ks:G E):Prop:=ks.Nodup/\∀k∈ks,ja6 k=A K
theorem jph{s:E}:∀{l:G E},s∉l->j8K O (j95 l) s=O/\j9L (j95 l) s K=j95 (l++[s])
 |[],_=>⟨rfl,rfl⟩
 |k::l,h=>by
  simp only[List.mem_cons,not_or]at h;obtain⟨h1,h2⟩:=jph (l:=l) h.2;have hb:(s==k)=false:=Bool.eq_false_iff.2 λhh=>h.1 ((MapKept.bytes_beq s k).1 hh);refine⟨?_,?_⟩
  .show cond (s==k) K (j8K O (j95 l) s)=O;rw[hb];exact h1
  .show cond (s==k) ((s,K)::j95 l) ((k,K)::j9L (j95 l) s K)=_;rw[hb,j5,h2];rfl
abbrev TrL:=G (u×u)
def tat(l:TrL)(i:B):Int:=(l.getD i (0,0)).1
def tof(o:u)(l:TrL)(i:B):Int:=if i=0 then o else (l.getD (i-1) (0,0)).2
def frm(l:TrL)(i:B):Int:=if i=0 then 0 else if i<=l.length then tat l (i-1) else 8589934593
structure TOk(o:u)(l:TrL):Prop where
 len:l.length<=1000
 gap:∀i,i+1<l.length->tat l i+604800<=tat l (i+1)
 pos:∀i,i<l.length->1000000<tat l i
 max:∀i,i<l.length->tat l i<=8589000000
 of0:∀i,i<=l.length -> -64800<=tof o l i
 of1:∀i,i<=l.length->tof o l i<=64800
section
variable{o:u}{l:TrL}(h:TOk o l)
include h
theorem TOk.at_lt:∀(k i:B),i+k+1<l.length->tat l i+604800<=tat l (i+k+1)
 |0,i,hk=>h.gap i hk
 |k+1,i,hk=>by
  have h1:=TOk.at_lt k i omg_;have h2:=h.gap (i+k+1) omg_;rw[show i+(k+1)+1=i+k+1+1 by omega];omega
theorem TOk.at_le{i j:B}(hij:i<j)(hj:j<l.length):tat l i+604800<=tat l j:=by
 have:=h.at_lt (j-i-1) i omg_;grind
omit h in
theorem frm0:frm l 0=0:=rfl
omit h in
theorem j9K{i:B}(hi:i<l.length):frm l (i+1)=tat l i:=by
 grind[frm]
omit h in
theorem j8l:frm l (l.length+1)=8589934593:=by
 grind[frm]
theorem TOk.frm_lt{i:B}(hi:i<=l.length):frm l i<frm l (i+1):=by
 rcases Nat.lt_or_ge i l.length with hl|hl
 .rw[j9K hl];cases i with
  |zero=>rw[frm0];exact(by have:=h.pos 0 hl;omega)
  |succ i=>rw[j9K omg_];have:=h.gap i hl;omega
 .have:i=l.length:=omg_;subst this;rw[j8l];cases hq:l.length with
  |zero=>rw[frm0];omega
  |succ n=>rw[j9K omg_];have:=h.max n omg_;omega
theorem TOk.frm_gap{i j:B}(hi:1<=i)(hij:i<j)(hj:j<=l.length):frm l i+604800<=frm l j:=by
 obtain⟨i,rfl⟩:∃i',i=i'+1:=⟨i-1,omg_⟩;obtain⟨j,rfl⟩:∃j',j=j'+1:=⟨j-1,omg_⟩;rw[j9K omg_,j9K omg_];exact h.at_le omg_ omg_
theorem TOk.frm_le{i j:B}(hij:i<=j)(hj:j<=l.length+1):frm l i<=frm l j:=by
 induction j with
 |zero=>simp_all
 |succ j ih=>
  by_cases he:i=j+1
  .subst he;omega
  .have h1:=ih omg_ omg_;have h2:=h.frm_lt (i:=j) omg_;omega
theorem jgE{t:u}{k:B}(hk:k<=l.length)(hlo:∀i,i<k->tat l i<=t)(hhi:∀i,k<=i->i<l.length->t<tat l i) :
  ∀(n:B)(a b:B),b-a<=n->a<=k->k<=b->b<=l.length->j7A o l t (a:u) (b:u)=A (k:u)
 |0,a,b,hn,ha,hb,hbl=>by
  grind[jaa,j2S,j0f]
 |n+1,a,b,hn,ha,hb,hbl=>by
  have hlen:=h.len;rw[jaa];by_cases hab:a<b
  .have hm:IntKind.wrap .u64 ((a:u)+(b:u))=(a:u)+(b:u):=IntWalk.u64_in _ ⟨omg_,omg_⟩;have hd:Int.fdiv ((a:u)+(b:u)) 2=(((a+b)/2:B):u):=by grind
   simp only[j2S,j00 (show (a:u)<(b:u) by omega),j4];rw[j5Z (x:=(a:u)+(b:u)) omg_ omg_,hm,hd,j5Z (x:=(((a+b)/2:B):u)) omg_ omg_];simp only[j6p];rw[j2M omg_ omg_];simp only[j4,j0,j6];by_cases hc:tat l ((a+b)/2)>t
   .rw[j00 (show (l.getD ((a+b)/2) (0,0)).1>t from hc)];simp only[X,j5,j08];have hkm:k<=(a+b)/2:=by grind
    exact jgE hk hlo hhi n a ((a+b)/2) omg_ ha hkm omg_
   .rw[j01 (show¬(l.getD ((a+b)/2) (0,0)).1>t from hc)];simp only[J,j4,j08];rw[j5Z omg_ omg_];have hkm:(a+b)/2<k:=by grind
    exact jgE hk hlo hhi n ((a+b)/2+1) b omg_ omg_ hb hbl
  grind[j2S,j0f]
theorem jmj{t:u}{k:B}(hk:k<=l.length)(h1:frm l k<=t)(h2:t<frm l (k+1)):j4T (o,l) t=A (k:u):=by
 have hlo:∀i,i<k->tat l i<=t:=by
  intro i hi;have:frm l k=tat l (k-1):=by have:=j9K (l:=l) (i:=k-1) omg_;grind
  rw[this]at h1;by_cases he:i=k-1
  .subst he;exact h1
  .have:=h.at_le (i:=i) (j:=k-1) omg_ omg_;omega
 have hhi:∀i,k<=i->i<l.length->t<tat l i:=by
  intro i hi hl;have:frm l (k+1)=tat l k:=j9K omg_;rw[this]at h2;by_cases he:i=k
  .subst he;exact h2
  .have:=h.at_le (i:=k) (j:=i) omg_ hl;omega
 have:=jgE h hk hlo hhi l.length 0 l.length omg_ omg_ hk omg_;grind[j4T,jcY]
theorem jkh{k:B}(hk:k<=l.length):j3F (o,l) (k:u)=A (tof o l k):=by
 have hlen:=h.len;unfold tof;by_cases h0:k=0
 .subst h0;rfl
 .simp only[j3F];rw[j55 (show (k:u)≠0 by omega),j5,j5Z omg_ omg_,j2M omg_ omg_,show ((k:u)-1).toNat=k-1 by omega,if_neg h0];rfl
theorem jpi{t:u}{k:B}(hk:k<=l.length)(h1:frm l k<=t)(h2:t<frm l (k+1)):j5O (o,l) t=A (tof o l k):=by
 grind[j5O,jmj,jkh]
theorem jfE{t:u}(h0:0<=t)(h1:t<=8589934592):∃k,k<=l.length/\frm l k<=t/\t<frm l (k+1):=by
 have _:=h;have:∀n,n<=l.length+1->t<frm l n->∃k,k<n/\frm l k<=t/\t<frm l (k+1):=by intro n;induction n<;>grind[frm]
 have hlast:frm l (l.length+1)=8589934593:=j8l;grind
def pc(o:u)(l:TrL)(i:B):u×u×Int:=(frm l i,frm l (i+1),tof o l i)
def pcs(o:u)(l:TrL)(n:B):G (u×u×u):=(Z n).map (pc o l)
omit h in
theorem jmk(n:B):pcs o l (n+1)=pcs o l n++[pc o l n]:=by simp[pcs,Æ]
omit h in
theorem jdc(n:B):(pcs o l n).length=n:=by simp[pcs]
omit h in
theorem jlw{n i:B}(hi:i<n):(pcs o l n).getD i (0,0,0)=pc o l i:=by
 grind[pcs]
theorem jki:∀(n k:B),k+n=l.length+1->j3q (frm l k) 8589934593 o l (pcs o l k)=A (pcs o l (l.length+1))
 |0,k,hk=>by
  grind[j8l,j6N,j1N,j0f]
 |n+1,k,hk=>by
  have hlen:=h.len;have hkl:k<=l.length:=omg_;have hlt:=h.frm_lt hkl;have hle:=h.frm_le (i:=k+1) (j:=l.length+1) omg_ omg_;have hlast:frm l (l.length+1)=8589934593:=j8l;have ih:=jki n (k+1) omg_;rw[j6N];simp only[j1N];rw[j00 (show frm l k<8589934593 by omega),jmj h hkl omg_ hlt];simp only[j4,j0,show W (R l)=(l.length:u) from rfl,jkh h hkl];by_cases hlast2:k<l.length
  .rw[j00 (show (k:u)<(l.length:u) by omega),j2M omg_ omg_];simp only[j4,j6];have hto:(if (l.getD k (0,0)).1<8589934593 then (l.getD k (0,0)).1 else 8589934593)=frm l (k+1):=by grind[tat,j9K]
   rw[hto,j00 (by grind[jdc,j06])];simp only[j4,j08];rw[jmk]at ih;exact ih
  grind[jdc,j06,j08,jmk,pc]
theorem jkj:j5N (o,l) 0 8589934593=A (pcs o l (l.length+1)):=by
 have:=jki h (l.length+1) 0 omg_;simp only[j5N];rw[show j3q 0 8589934593 o l []=_ from this];rfl
def Sol(o:u)(l:TrL)(s:u)(i:B):Prop:=frm l i<=s-tof o l i/\s-tof o l i<frm l (i+1)
instance(o:u)(l:TrL)(s:u)(i:B):U (Sol o l s i):=by unfold Sol;infer_instance
omit h in
theorem jeR{d c:u}(hd : -1000000<=d)(hd2:d<=1000000)(hc : -86400<=c)(hc2:c<=172800):j3C (d,c)=A (d*86400+c):=by
 grind[j3C,j5Z]
theorem jml{d c:u}(hd : -1000000<=d)(hd2:d<=1000000)(hc : -86400<=c)(hc2:c<=172800){k:B}(hk:k<=l.length)(hks:d*86400+c-tof o l k<frm l (k+1))(hbef:∀j,j<k->frm l (j+1)<=d*86400+c-tof o l j) :
  ∀(n i:B),i+n=k->j4J ((l.length+1:B):u) (i:u) d c (pcs o l (l.length+1))=A (.inl (max (frm l k) (d*86400+c-tof o l k),K))
 |0,i,hi=>by
  have hlen:=h.len;have:i=k:=omg_;subst this;have o1:=h.of0 i hk;have o2:=h.of1 i hk;have hlt:=h.frm_lt hk;rw[j3S];simp only[j1b];rw[j00 (show (i:u)<((l.length+1:B):u) by omega),j2M omg_ (by rw[jdc];omega)];simp only[j4,j6,jlw (show i<l.length+1 by omega),jeR hd hd2 hc hc2,j0,pc];grind[j5Z,j0f]
 |n+1,i,hi=>by
  have hlen:=h.len;have hil:i<=l.length:=omg_;have o1:=h.of0 i hil;have o2:=h.of1 i hil;have hb:=hbef i omg_;rw[j3S];simp only[j1b];rw[j00 (show (i:u)<((l.length+1:B):u) by omega),j2M omg_ (by rw[jdc];omega)];simp only[j4,j6,jlw (show i<l.length+1 by omega),jeR hd hd2 hc hc2,j0,pc];rw[j5Z (x:=d*86400+c-tof o l i) omg_ omg_,j5Z (x:=(i:u)+1) omg_ omg_];have hm:(if d*86400+c-tof o l i>frm l i then d*86400+c-tof o l i else frm l i)=max (frm l i) (d*86400+c-tof o l i):=by split<;>omega
  rw[hm,j01 omg_,j5,j08];exact jml hd hd2 hc hc2 hk hks hbef n (i+1) omg_
theorem jqO{d c:u}(hd : -1000000<=d)(hd2:d<=1000000)(hc : -86400<=c)(hc2:c<=172800){k:B}(hk:k<=l.length)(hks:d*86400+c-tof o l k<frm l (k+1))(hbef:∀j,j<k->frm l (j+1)<=d*86400+c-tof o l j) :
  j2C (o,l) (d,c)=A (max (frm l k) (d*86400+c-tof o l k),K):=by
 have:=jml h hd hd2 hc hc2 hk hks hbef k 0 omg_;simp only[j2C,jkj h,j0,jdc,show W (R l+1)=((l.length+1:B):u) from rfl];rw[show (0:u)=((0:B):u) from rfl,this];rfl
omit h in
theorem jqP{n:u}(h1 : -1000000000000<=n)(h2:n<=1000000000000):jcg n=A (n/86400,n%86400):=by
 grind[jcg,j5Z]
theorem jiM{t:u}{k:B}(hk:k<=l.length)(h1:frm l k<=t)(h2:t<frm l (k+1)):j0N (o,l) t=A ((t+tof o l k)/86400,(t+tof o l k)%86400):=by
 have o1:=h.of0 k hk;have o2:=h.of1 k hk;have g1:0<=frm l k:=by have:=h.frm_le (i:=0) (j:=k) omg_ omg_;grind[frm]
 have hlast:frm l (l.length+1)=8589934593:=j8l;have g2:=h.frm_le (i:=k+1) (j:=l.length+1) omg_ omg_;grind[j0N,jpi,j5Z,jqP]
end
def j66(x:u×u):TrL->TrL
 |[]=>[x]
 |y::ys=>if x.1<y.1 then y::j66 x ys else x::y::ys
def j3f:TrL->TrL->TrL
 |[],acc=>acc
 |x::xs,acc=>j3f xs (j66 x acc)
def j4z(l:TrL):TrL:=(j3f l []).reverse
theorem jah(x:u×u):∀l,(j66 x l).length=l.length+1
 |[]=>rfl
 |y::ys=>by unfold j66;split<;>simp[jah x ys]
theorem j84:∀(l acc:TrL),(j3f l acc).length=l.length+acc.length
 |[],acc=>by simp[j3f]
 |x::xs,acc=>by simp only[j3f,j84 xs,jah,H];omega
def Sm(l:TrL):Prop:=∀x∈l, -1000000000000<=x.1/\x.1<=1000000000000
theorem jkk{x:u×u}(hx : -1000000000000<=x.1/\x.1<=1000000000000):∀{l:TrL},Sm l->Sm (j66 x l)
 |[],_=>λy hy=>by simp[j66]at hy;subst hy;exact hx
 |z::zs,h=>by
  unfold j66;split
  .intro y hy;rcases List.mem_cons.1 hy with rfl|hy
   .exact h _ smp_
   .exact jkk hx (l:=zs) (λw hw=>h w (by simp[hw])) y hy
  .intro y hy;rcases List.mem_cons.1 hy with rfl|hy
   .exact hx
   .exact h y hy
theorem jsx(rp mid:TrL)(x:u×u):(rp.reverse++x::mid).getD rp.length (0,0)=x:=by
 rw[S,List.getElem?_append_right smp_];simp
theorem jrl(n s8:u)(x:u×u)(hx : -1000000000000<=x.1/\x.1<=1000000000000):∀(rp mid:TrL),Sm rp->rp.length+mid.length<=1000->
  j10 0 n s8 (rp.length:u) (rp.reverse++x::mid)=A (0,n,s8,(j66 x rp).reverse++mid)
 |[],mid,_,_=>by
  rw[j1B];simp(disch:=omega)only[S0];rfl
 |y::ys,mid,hsm,hlen=>by
  have hy:=hsm y smp_;have hL:((y::ys).reverse++x::mid).length=ys.length+1+(mid.length+1):=sqo_;simp only[H]at hlen;rw[j1B];simp only[j0v,H];rw[j00 (show ((ys.length+1:B):u)>0 by omega),j2M omg_ (by rw[hL];omega),j0d (x:=((ys.length+1:B):u)-1),j2M omg_ (by rw[hL];omega)];simp only[j4,j6];have g1:((y::ys).reverse++x::mid).getD (ys.length+1) (0,0)=x:=jsx (y::ys) mid x;have g2:((y::ys).reverse++x::mid).getD ((((ys.length+1:B):u)-1).toNat) (0,0)=y:=by simp(disch:=omega)only[S0];simp
  simp(disch:=omega)only[g1,g2,j2N,S0];by_cases hc:x.1<y.1
  .simp(disch:=omega)only[S0];have hset:Ë (Ë ((y::ys).reverse++x::mid) (ys.length+1) (y.1,y.2)) ((((ys.length+1:B):u)-1).toNat) (x.1,x.2)=ys.reverse++x::(y::mid):=by rw[show (((ys.length+1:B):u)-1).toNat=ys.length by omega];simp
   rw[j2M omg_ (by rw[List.length_set,hL];omega)];simp only[j4,j08,hset];have he:=jrl n s8 x hx ys (y::mid) (λz hz=>hsm z (by simp[hz])) sqo_;rw[show ((ys.length+1:B):u)-1=(ys.length:u) by omega,he];simp[j66,hc]
  .simp(disch:=omega)only[S0];simp[j66,hc]
theorem jrm:∀(xs rp:TrL),Sm rp->Sm xs->rp.length+xs.length<=1000->
  j11 0 ((rp.length+xs.length:B):u) (rp.length:u) (rp.reverse++xs)=A (j3f xs rp).reverse
 |[],rp,_,_,_=>by
  rw[j0T];simp(disch:=omega)only[j0h,S0];simp[j3f]
 |x::xs,rp,hr,hx,hlen=>by
  have hxx:=hx x smp_;simp only[H]at hlen;have he:=jrl ((rp.length+(x::xs).length:B):u) (rp.length:u) x hxx rp xs hr omg_;have ih:=jrm xs (j66 x rp) (jkk hxx hr) (λz hz=>hx z (by simp[hz])) (by rw[jah];omega);rw[jah]at ih;rw[j0T];simp only[j0h];rw[j00 (by simp only[H];omega),he];simp only[j4,j0,j3f];rw[show rp.length+1+xs.length=rp.length+(x::xs).length by simp;omega]at ih;rw[j0d,j08];exact ih
theorem jea{l:TrL}(hs:Sm l)(hl:l.length<20):j0g l=A (j4z l):=by
 have hins:j0w l 0 (l.length:u)=A (j4z l):=by
  simp only[j0w];cases l with
  |nil=>rw[j0T];rfl
  |cons x xs=>have:=jrm xs [x] (λz hz=>by simp at hz;subst hz;exact hs _ smp_) (λz hz=>hs z (by simp[hz])) (by simp at hl ⊢;omega);rw[show w64 (0+1)=(([x]:TrL).length:u) from rfl,show ((x::xs).length:u)=(([x].length+xs.length:B):u) by simp;omega];rw[show (x::xs)=[x].reverse++xs from rfl,this];rfl
 have e0:j1r (l.length:u) 20 0 20 l=A ((l.length:u),20,0,l):=by rw[j4R];simp(disch:=omega)only[j0I,S0]
 have e2:j1s (l.length:u) 20 (j4z l)=A (j4z l):=by rw[j4S];simp(disch:=omega)only[j0J,S0]
 simp(disch:=omega)only[j0g,j1M,e0,hins,e2,S0]
def jkl(y:u):Bool:=M (y%4=0)&&(!M (y%100=0)||decide (y%400=0))
def j8A(y:u):Int:=if y%4=0/\(y%100≠0\/y%400=0) then 1 else 0
theorem jkm(y:u):jkl y=K↔y%4=0/\(y%100≠0\/y%400=0):=by simp[jkl]
theorem jmm(y:u):j8A y=if jkl y then 1 else 0:=by
 grind[j8A,jkm]
theorem jeb(y:u):0<=j8A y/\j8A y<=1:=by unfold j8A;split<;>omega
def dim(y m:u):Int:=
 if m<1\/12<m then 0 else if m=2 then 28+j8A y else if m=4\/m=6\/m=9\/m=11 then 30 else 31
def cnt(y:u):Int:=365*(y-1970)+(y-1)/4-(y-1)/100+(y-1)/400-477
def cum(y m:u):Int:=
 if m<=1 then 0 else if m=2 then 31 else if m=3 then 59+j8A y else if m=4 then 90+j8A y else if m=5 then 120+j8A y else if m=6 then 151+j8A y
 else if m=7 then 181+j8A y else if m=8 then 212+j8A y else if m=9 then 243+j8A y else if m=10 then 273+j8A y else if m=11 then 304+j8A y else if m=12 then 334+j8A y else 365+j8A y
def num(y m d:u):Int:=cnt y+cum y m+d-1
theorem jiN(y:u):cnt (y+1)=cnt y+365+j8A y:=by
 unfold cnt j8A;split<;>omega
theorem j9E{a b:u}(h:a<=b):cnt a+365*(b-a)<=cnt b:=by unfold cnt;omega
theorem ju0{a b:u}(h:a<b):cnt a<cnt b:=by have:=j9E (a:=a) (b:=b) omg_;omega
theorem jb0(y m:u)(h1:1<=m)(h2:m<=12):cum y (m+1)=cum y m+dim y m:=by
 obtain rfl|rfl|rfl|rfl|rfl|rfl|rfl|rfl|rfl|rfl|rfl|rfl:m=1\/m=2\/m=3\/m=4\/m=5\/m=6\/m=7\/m=8\/m=9\/m=10\/m=11\/m=12:=omg_;all_goals (simp[cum,dim];try omega)
theorem j3v(y m:u):0<=dim y m/\dim y m<=31:=by
 have:=jeb y;grind[dim]
theorem jgF(y m:u)(h1:1<=m)(h2:m<=12):28<=dim y m:=by
 have:=jeb y;grind[dim]
theorem j96(y m:u):0<=cum y m/\cum y m<=366:=by
 have:=jeb y;unfold cum;omega
theorem jpj(y:u):jeD y=A (jkl y):=by
 have e:(cond (D y 4==(0:u)) (cond (D y 100 != (0:u)) K (D y 400==(0:u))) O)=jkl y:=by grind[jkm]
 exact congrArg A e
theorem jgG(y m:u):j5M y m=A (dim y m):=by
 by_cases h:m<1\/12<m
 .grind[dim,j5M]
 .obtain rfl|rfl|rfl|rfl|rfl|rfl|rfl|rfl|rfl|rfl|rfl|rfl:m=1\/m=2\/m=3\/m=4\/m=5\/m=6\/m=7\/m=8\/m=9\/m=10\/m=11\/m=12:=omg_
  case inr.inl=>simp only[j5M,jpj,dim,jmm,j0];cases jkl y<;>rfl
  all_goals rfl
theorem jqQ(y m d:u):j8O (y,m,d)=A (M (1970<=y/\y<=2240/\1<=d/\d<=dim y m)):=by
 grind[j8O,jgG]
theorem jfF(a b:u)(hb:0<b)(h1 : -1000000000000<=a)(h2:a<=1000000000000):j6n a b=A (a/b):=by
 have hb0:(b==0)=false:=sqo_;obtain⟨e,p1,p2,p3,p4⟩:=tdm a b hb
 have hq : -1000000000000<=I a b/\I a b<=1000000000000:=by
  rcases Int.le_total 0 a with h|h
  .have h0:0<=a/b:=Ç h omg_;have h3:a/b<=a:=Ä b h;rw[jeQ h];omega
  .have h0:0<=(-a)/b:=Ç omg_ omg_;have h3:(-a)/b <= -a:=Ä b omg_;grind[Int.neg_tdiv]
 simp only[j6n,hb0,J,j4];rw[j0d (x:=I a b)];by_cases hm:D a b<0
 .rw[j00 hm,j4,j0d];congr 1
  have:a/b=I a b-1:=by
   have h3:a=(a.tmod b+b)+b*(I a b-1):=by rw[Int.mul_sub];omega
   rw[h3,Â _ _ omg_,Á omg_ omg_];rw[<-h3];omega
  omega
 .rw[j01 hm,j5];congr 1;have h3:a=a.tmod b+b*I a b:=omg_
  have:a/b=I a b:=by
   conv=>lhs;rw[h3]
   rw[Â _ _ omg_,Á omg_ omg_];omega
  omega
theorem j9F(y:u)(h1 : -1000000000<=y)(h2:y<=1000000000):j5v y=A (cnt y):=by
 simp only[j5v];rw[j0d (x:=y-1),j0d (x:=y-1970),jfF _ 4 omg_ omg_ omg_,jfF _ 100 omg_ omg_ omg_,jfF _ 400 omg_ omg_ omg_];simp only[j0];simp (disch:=omega) only[j5Z];rfl
theorem jkn(y m d:u)(hm:m<=13):∀(n:B)(s k:u),1<=k->k+n=m -> -1000000000000<=s->s+31*n<=1000000000000->j8P s k y m d=A (s+cum y m-cum y k)
 |0,s,k,hk,hn,_,_=>by
  rw[j9q];have:k=m:=omg_;subst this;simp(disch:=omega)only[j3k,S0];congr 1;omega
 |n+1,s,k,hk,hn,h1,h2=>by
  rw[j9q];have hd:=j3v y k;have hc:=jb0 y k hk omg_;simp(disch:=omega)only[j3k,jgG,S0];have ih:=jkn y m d hm n (s+dim y k) (k+1) omg_ omg_ omg_ omg_;rw[ih];congr 1;omega
theorem jpk(y m d:u)(h1 : -1000000<=y)(h2:y<=1000000)(hm1:1<=m)(hm2:m<=12)(hd1 : -1000000<=d)(hd2:d<=1000000):j9r (y,m,d)=A (num y m d):=by
 have hb : -1000000000<=cnt y/\cnt y<=1000000000:=by unfold cnt;omega
 simp only[j9r,j9F y omg_ omg_,j0];rw[j0d (x:=cnt y+d),j0d,jkn y m d omg_ (m-1).toNat _ 1 omg_ omg_ omg_ omg_];grind[cum,num]
theorem jhL(day:u):j4F day=A ((D day 7+10)%7):=by
 obtain⟨e,p1,p2,p3,p4⟩:=tdm day 7 omg_;simp(disch:=omega)only[j4F,jiL,S0]
theorem jeS(day:u)(_h : -3<=day):j4F day=A ((day+3)%7):=by
 grind[jhL]
def jfn(y m d:u):Prop:=1970<=y/\y<=2240/\1<=d/\d<=dim y m
instance(y m d:u):U (jfn y m d):=by unfold jfn;infer_instance
theorem j97{y m d:u}(h:jfn y m d):1<=m/\m<=12:=by
 obtain⟨_,_,h3,h4⟩:=h;grind[dim]
theorem jpl{y m d:u}:M (1970<=y/\y<=2240/\1<=d/\d<=dim y m)=M (jfn y m d):=rfl
theorem j98{y m d:u}(h:jfn y m d):0<=num y m d/\num y m d<98981:=by
 have hm:=j97 h;obtain⟨h1,h2,h3,h4⟩:=h;have hc:=j96 y m;have c1:=j9E (a:=1970) (b:=y) omg_;have c2:=j9E (a:=y) (b:=2240) omg_;have e1:cnt 1970=0:=by decide
 have hd:=j3v y m;have e2:cnt 2240=98615:=by decide
 have hcs:cum y m+dim y m<=365+j8A y:=by
  have:=jb0 y m hm.1 hm.2;have:cum y (m+1)<=365+j8A y:=by have:=jeb y;unfold cum;omega
  omega
 grind[jiN,cnt,num]
theorem jpm:cnt 1970=0:=by decide
theorem jlx:cnt 2241=98981:=by decide
def nth(y m k w:u):Int:=
 let d:=num y m 1+(w-(num y m 1+3)%7+7)%7+7*(k-1)
 if d>=num y m 1+dim y m then d-7 else d
theorem j8J(y m:u)(h1:1970<=y)(h2:y<=2240)(hm1:1<=m)(hm2:m<=12):jfn y m 1:=⟨h1,h2,omg_,by have:=jgF y m hm1 hm2;omega⟩
theorem ju1(y m k w:u)(h1:1970<=y)(h2:y<=2240)(hm1:1<=m)(hm2:m<=12)(hk1:1<=k)(hk2:k<=5)(hw1:0<=w)(hw2:w<=6):jdB y m k w=A (nth y m k w,0):=by
 have hv:=j8J y m h1 h2 hm1 hm2;have hr:=j98 hv;have hd:=j3v y m;have hVal:j8O (y,m,1)=A true:=by rw[jqQ,jpl,decide_eq_true hv]
 simp only[jdB,hVal,j0,X,j5];rw[j01 (show¬k<1 by omega),j01 (show¬k>5 by omega),j01 (show¬w<0 by omega),j01 (show¬w>6 by omega)];simp only[j5,jpk y m 1 omg_ omg_ hm1 hm2 omg_ omg_,j0,jeS _ (show -3<=num y m 1 by omega),jgG];generalize hn:num y m 1=n at *;have hm7:0<=(n+3)%7/\(n+3)%7<=6:=omg_;rw[j0d (x:=w-(n+3)%7),j0d (x:=w-(n+3)%7+7),jiL (show 0<=w-(n+3)%7+7 by omega)];rw[j0d (x:=k-1),j0d (x:=7*(k-1))];rw[j0d (x:=n+(w-(n+3)%7+7)%7),j0d (x:=n+(w-(n+3)%7+7)%7+7*(k-1)),j0d (x:=n+dim y m)];unfold nth;grind[S0]
theorem ju2(x n:u)(hn:0<n)(hn2:n<=1000000000000):jfD x n=A (x%n):=by
 have h0:(n==0)=false:=sqo_;obtain⟨e,p1,p2,p3,p4⟩:=tdm x n hn;simp only[jfD,h0,J,j4];rw[j0d,jiL omg_];congr 1;have h3:x=x.tmod n+n*I x n:=omg_;conv=>rhs;rw[h3]
 rw[Int.add_mul_emod_self_left,Int.add_emod_right]
def DOk(l:G u)(a:u):Prop:=0<=a/\a<=(l.length:u)/\l.length<=1000000
theorem j0F{l:G u}{a n:u}(h:DOk l a)(hn:1<=n)(hn2:n<=1000000000000):∃x a',j02 l a n=A (x,l,a')/\0<=x/\x<n/\DOk l a':=by
 obtain⟨h1,h2,h3⟩:=h;simp only[j02,show W (R l)=(l.length:u) from rfl];by_cases ha:a>=(l.length:u)
 .rw[j00 ha,j4];exact⟨0,a,rfl,omg_,omg_,h1,h2,h3⟩
 .rw[j01 ha,j5,j01 (show¬n<1 by omega),j5,j2M h1 omg_,j4,j55 (show n≠0 by omega)];obtain⟨e,p1,p2,p3,p4⟩:=tdm (l.getD a.toNat 0) n omg_;rw[j0d (x:=a+1)];simp only[J,j4];by_cases ht:D (l.getD a.toNat 0) n<0
  .rw[j00 ht,j4,j0d];exact⟨_,_,rfl,omg_,omg_,omg_,omg_,h3⟩
  .rw[j01 ht,j5];exact⟨_,_,rfl,omg_,omg_,omg_,omg_,h3⟩
theorem j7x{l:G u}{a:u}(h:DOk l a){xs:G u}(hx0:0<xs.length)(hx1:xs.length<=1000000):∃x a',j0b l a xs=A (x,l,a')/\x∈xs/\DOk l a':=by
 obtain⟨x,a',e,h1,h2,h3⟩:=j0F (n:=(xs.length:u)) h omg_ omg_;simp only[j0b,show W (R xs)=(xs.length:u) from rfl,e,j0];rw[j2M h1 omg_,j4];have hlt:x.toNat<xs.length:=omg_;refine⟨_,_,rfl,?_,h3⟩;rw[S,List.getElem?_eq_getElem hlt];exact À hlt
theorem jpn:jcj=A true:=by kernel_rfl
abbrev Rule:=u×u×u×u×u×u×u
theorem in_t{n lo hi:u}(h1:lo<=n)(h2:n<=hi):j5T n lo hi=A true:=by
 grind[j5T]
theorem in_f{n lo hi:u}(h:¬(lo<=n/\n<=hi)):j5T n lo hi=A false:=by
 grind[j5T]
structure ROk(r:Rule):Prop where
 y0:1970<=r.1
 y1:r.1<=r.2.1
 y2:r.2.1<=2240
 m0:1<=r.2.2.1
 m1:r.2.2.1<=12
 k0:1<=r.2.2.2.1
 k1:r.2.2.2.1<=5
 d0:0<=r.2.2.2.2.1
 d1:r.2.2.2.2.1<=6
 s0:0<=r.2.2.2.2.2.1
 s1:r.2.2.2.2.2.1<=86399
 o0 : -64800<=r.2.2.2.2.2.2
 o1:r.2.2.2.2.2.2<=64800
theorem jsy{r:Rule}(h:ROk r):j7J r=A 0:=by
 simp only[j7J,in_t h.y0 (show r.1<=2240 by have:=h.y1;have:=h.y2;omega),in_t h.y1 h.y2,in_t h.m0 h.m1,in_t h.k0 h.k1,in_t h.d0 h.d1,in_t h.s0 h.s1,in_t h.o0 h.o1,j0,X,j5]
theorem jec{y m k w:u}(_h1:1970<=y)(_h2:y<=2240)(hm1:1<=m)(hm2:m<=12)(hk1:1<=k)(hk2:k<=5):num y m 1<=nth y m k w/\nth y m k w<num y m 1+dim y m\/nth y m k w<num y m 1+35/\num y m 1<=nth y m k w:=by
 right;have hd:=jgF y m hm1 hm2;grind[nth]
def occ(r:Rule)(y:u):u×Int:=(nth y r.2.2.1 r.2.2.2.1 r.2.2.2.2.1*86400+r.2.2.2.2.2.1,r.2.2.2.2.2.2)
def occR(r:Rule):TrL:=(Z (r.2.1-r.1+1).toNat).map λ(i:B)=>occ r (r.1+(i:u))
def occs(l:G Rule):TrL:=l.flatMap occR
theorem jpo{r:Rule}(h:ROk r){y:u}(h1:1970<=y)(h2:y<=2240):0<=(occ r y).1/\(occ r y).1<=10000000000:=by
 have hv:=j98 (j8J y r.2.2.1 h1 h2 h.m0 h.m1);have hs0:=h.s0;have hs1:=h.s1;have:=jec (w:=r.2.2.2.2.1) h1 h2 h.m0 h.m1 h.k0 h.k1;have hd:=j3v y r.2.2.1;grind[occ]
theorem jsz{r:Rule}(h:ROk r):Sm (occR r):=by
 intro x hx;obtain⟨i,hi,rfl⟩:=List.mem_map.1 hx;have hi:=List.mem_range.1 hi;have h0:=h.y0;have h2:=h.y2;have:=jpo h (y:=r.1+(i:u)) omg_ omg_;omega
theorem jly{l:G Rule}(h:∀r∈l,ROk r):Sm (occs l):=by
 intro x hx;obtain⟨r,hr,hx⟩:=List.mem_flatMap.1 hx;exact jsz (h r hr) x hx
theorem jrn{r:Rule}(h:ROk r)(rs:G Rule)(a b:u):∀(n:B)(i:B)(acc:TrL),r.1+(i:u)+n=r.2.1+1->acc.length+n<=100000->
  j6o (r.1+(i:u)) rs a b r.1 r.2.1 r.2.2.1 r.2.2.2.1 r.2.2.2.2.1 r.2.2.2.2.2.1 r.2.2.2.2.2.2 acc=A (rs,a,b,acc++(Z n).map λ(j:B)=>occ r (r.1+(i:u)+(j:u)))
 |0,i,acc,hi,_=>by
  rw[j7c];simp(disch:=omega)only[j20,S0];simp
 |n+1,i,acc,hi,hl=>by
  have h0:=h.y0;have h2:=h.y2;have hs0:=h.s0;have hs1:=h.s1;have hv:=j98 (j8J (r.1+(i:u)) r.2.2.1 omg_ omg_ h.m0 h.m1);have hn:=jec (w:=r.2.2.2.2.1) (y:=r.1+(i:u)) omg_ omg_ h.m0 h.m1 h.k0 h.k1;have hd:=j3v (r.1+(i:u)) r.2.2.1;rw[j7c];simp only[j20];rw[j00 (show r.1+(i:u)<=r.2.1 by omega),ju1 _ _ _ _ omg_ omg_ h.m0 h.m1 h.k0 h.k1 h.d0 h.d1];simp(disch:=omega)only[S0];have ih:=jrn h rs a b n (i+1) (acc++[occ r (r.1+(i:u))]) omg_ sqo_;rw[show r.1+(i:u)+1=r.1+((i+1:B):u) by omega];refine ih.trans ?_
  have hmap:(Z n).map (λ(j:B)=>occ r (r.1+((i+1:B):u)+(j:u)))=(Z n).map ((λ(j:B)=>occ r (r.1+(i:u)+(j:u))) ∘ Nat.succ):=List.map_congr_left λj _=>by
   grind
  grind[List.range_succ_eq_map]
theorem jpp{rs:G Rule}(h:∀r∈rs,ROk r)(hlen:rs.length<=100):∀(n i:B)(acc:TrL),i+n=rs.length->acc.length<=300*i->
  j4H rs (rs.length:u) (i:u) acc=A (acc++occs (rs.drop i))
 |0,i,acc,hi,_=>by
  grind[j7d,j21,S0,occs]
 |n+1,i,acc,hi,hl=>by
  have hlt:i<rs.length:=omg_;have hr:=h rs[i] (À hlt);have h0:=hr.y0;have h1:=hr.y1;have h2:=hr.y2;have hg:rs.getD i (0,0,0,0,0,0,0)=rs[i]:=by simp[hlt]
  have hl4:=jrn hr rs (rs.length:u) (i:u) (rs[i].2.1-rs[i].1+1).toNat 0 acc omg_ omg_;rw[show rs[i].1+((0:B):u)=rs[i].1 by omega]at hl4;have ih:=jpp h hlen n (i+1) (acc++occR rs[i]) omg_ (by simp[occR];omega);rw[j7d];simp(disch:=omega)only[j21,hl4,F hlt,S0];refine ih.trans ?_;rw[Y];rfl
theorem jpq{rs:G Rule}(h:∀r∈rs,ROk r)(hlen:rs.length<=100)(nm:E)(o:u):∀(n i:B)(s:u),i+n=rs.length->0<=s->s<=300*i->
  j3I s rs (rs.length:u) (i:u) nm o rs=A (.inr (s+((occs (rs.drop i)).length:u),nm,o,rs))
 |0,i,s,hi,_,_=>by
  grind[j5c,j1p,S0,occs]
 |n+1,i,s,hi,hs0,hs1=>by
  have hlt:i<rs.length:=omg_;have hr:=h rs[i] (À hlt);have h0:=hr.y0;have h1:=hr.y1;have h2:=hr.y2;have hg:rs.getD i (0,0,0,0,0,0,0)=rs[i]:=by simp[hlt]
  have ih:=jpq h hlen nm o n (i+1) (s+(rs[i].2.1-rs[i].1+1)) omg_ omg_ omg_;have hrule:j7J (rs[i].1,rs[i].2.1,rs[i].2.2.1,rs[i].2.2.2.1,rs[i].2.2.2.2.1,rs[i].2.2.2.2.2.1,rs[i].2.2.2.2.2.2)=A 0:=jsy hr;rw[j5c];simp(disch:=omega)only[j1p,hrule,S0];refine ih.trans ?_;rw[F hlt];grind[occs,occR]
theorem jh8{nm:E}{o:u}{rs:G Rule}(h:∀r∈rs,ROk r)(ho0 : -64800<=o)(ho1:o<=64800)(hlen:rs.length<=16)(hn:(occs rs).length<20):j2z (nm,o,rs)=A (j4z (occs rs),0):=by
 have e0:=jpq h omg_ nm o rs.length 0 0 omg_ omg_ omg_;have e2:=jpp h omg_ rs.length 0 [] omg_ smp_;grind[j2z,in_t,jea,jly,S0]
def outT(now:u):TrL->TrL
 |[]=>[]
 |x::r=>if x.2=now then outT now r else (x.1-now,x.2)::outT x.2 r
def Good(now:u)(p:N u):TrL->Prop
 |[]=>True
 |x::r=>if x.2=now then Good now p r else (-86400<x.2-now/\x.2-now<86400/\1000000<x.1-now/\x.1-now<=8589000000/\(∀q,p=A q->q+604800<=x.1-now) /\ -64800<=x.2/\x.2<=64800)/\Good x.2 (A (x.1-now)) r
theorem jiO(L:TrL)(hL:L.length<=1000):∀(n i:B)(now:u)(acc:TrL),i+n=L.length -> -64800<=now->now<=64800->acc.length<=i->(∀x∈acc,0<=x.1/\x.1<=8589934592)->Good now (acc.getLast?.map (·.1)) (L.drop i)->
  j3J now (L.length:u) (i:u) acc L=A (.inr (acc++outT now (L.drop i)))
 |0,i,now,acc,hi,_,_,_,_,_=>by
  grind[j3R,j16,j0f,outT]
 |n+1,i,now,acc,hi,hn0,hn1,hal,hacc,hg=>by
  have hlt:i<L.length:=omg_;rw[F hlt]at hg ⊢;have hgd:L.getD i (0,0)=L[i]:=by simp[hlt]
  rw[j3R];simp only[j16];rw[j00 (show (i:u)<(L.length:u) by omega),j1g];simp only[j4,j6,hgd];generalize L[i]=x at *;rw[j0d (x:=(i:u)+1)];simp only[Good]at hg;by_cases hx:x.2=now
  .rw[if_pos hx]at hg;rw[j9g hx];simp only[j4,j08,outT];rw[if_pos hx];exact jiO L hL n (i+1) now acc omg_ hn0 hn1 omg_ hacc hg
  .rw[if_neg hx]at hg;obtain⟨⟨g1,g2,g3,g4,g5,g6,g7⟩,g8⟩:=hg;rw[j55 hx,j0d (x:=x.1-now),j0d (x:=x.2-now),j01 (show¬x.2-now>=86400 by omega),j01 (show¬x.2-now <= -86400 by omega)];simp only[j5,in_t (show (0:u)<=x.1-now by omega) (show x.1-now<=8589934592 by omega),j0,X,J,Bool.true_and,show W (R acc)=(acc.length:u) from rfl];rw[j0d (x:=(acc.length:u)-1)]
   have hnext:=jiO L hL n (i+1) x.2 (acc++[(x.1-now,x.2)]) omg_ g6 g7 sqo_
    (λy hy=>by
     grind) (by simpa using g8)
   have hout:outT now (x::L.drop (i+1))=(x.1-now,x.2)::outT x.2 (L.drop (i+1)):=by simp[outT,hx]
   rw[hout];rw[Y]at hnext;by_cases ha:acc=[]
   .grind[j06,j08]
   .have hpos:0<acc.length:=List.length_pos_iff.2 ha;have hlast:acc.getLast? = A (acc.getD (acc.length-1) (0,0)):=by grind
    rw[hlast]at g5;have g5:(acc.getD (acc.length-1) (0,0)).1+604800<=x.1-now:=g5 _ rfl;have hb:=hacc (acc.getD (acc.length-1) (0,0)) (List.mem_of_getLast? hlast);rw[j1g,j00 (show (acc.length:u)>0 by omega),show ((acc.length:u)-1).toNat=acc.length-1 by omega];simp only[Bool.true_or,j4];grind[j5Z,j06,j08]
def Chn(p:N u):TrL->Prop
 |[]=>True
 |x::r=>(1000000<x.1/\x.1<=8589000000/\(∀q,p=A q->q+604800<=x.1) /\ -64800<=x.2/\x.2<=64800)/\Chn (A x.1) r
theorem jlz:∀(L:TrL)(now:u)(p:N u),Good now p L->Chn p (outT now L)
 |[],_,_,_=>trivial
 |x::r,now,p,h=>by
  simp only[Good]at h;by_cases hx:x.2=now
  .rw[if_pos hx]at h;simp only[outT];rw[if_pos hx];exact jlz r now p h
  .rw[if_neg hx]at h;simp only[outT];rw[if_neg hx];obtain⟨⟨g1,g2,g3,g4,g5,g6,g7⟩,g8⟩:=h;exact⟨⟨g3,g4,g5,g6,g7⟩,jlz r x.2 _ g8⟩
theorem jlA:∀(L:TrL)(now:u),(outT now L).length<=L.length
 |[],_=>Nat.le_refl _
 |x::r,now=>by
  simp only[outT];split
  .have:=jlA r now;simp;omega
  .have:=jlA r x.2;simp;omega
theorem jpr:∀(l:TrL)(p:N u),Chn p l->(∀i,i+1<l.length->tat l i+604800<=tat l (i+1))/\(∀i,i<l.length->1000000<tat l i/\tat l i<=8589000000)/\
  (∀o i, -64800<=o->o<=64800->i<=l.length -> -64800<=tof o l i/\tof o l i<=64800)
 |[],_,_=>⟨λi h=>by simp at h,λi h=>by simp at h,λo i h1 h2 h3=>by
  have:i=0:=by simpa using h3
  subst this;exact⟨h1,h2⟩⟩
 |x::r,p,h=>by
  obtain⟨⟨g3,g4,g5,g6,g7⟩,g8⟩:=h;obtain⟨h1,h2,h3⟩:=jpr r _ g8;refine⟨λi hi=>?_,λi hi=>?_,λo i ho0 ho1 hi=>?_⟩
  .cases i with
   |zero=>
    cases r with
    |nil=>simp at hi
    |cons y ys=>have:=g8.1.2.2.1 _ rfl;exact this
   |succ i=>exact h1 i (by simp at hi ⊢;omega)
  .cases i with
   |zero=>exact⟨g3,g4⟩
   |succ i=>exact h2 i (by simp at hi ⊢;omega)
  .cases i with
   |zero=>exact⟨ho0,ho1⟩
   |succ i=>
    cases i with
    |zero=>exact⟨g6,g7⟩
    |succ i=>exact h3 x.2 (i+1) g6 g7 (by simp at hi ⊢;omega)
theorem jsA{o:u}{l:TrL}(h:Chn Ê l)(hl:l.length<=1000)(h0 : -64800<=o)(h1:o<=64800):TOk o l:=by
 obtain⟨a,b,c⟩:=jpr l Ê h;exact⟨hl,a,λi hi=>(b i hi).1,λi hi=>(b i hi).2,λi hi=>(c o i h0 h1 hi).1,λi hi=>(c o i h0 h1 hi).2⟩
def ZTab(z:E×u×G Rule)(l:TrL):Prop:=j14 z=A (l,0)/\TOk z.2.1 l
theorem jsB{nm:E}{o:u}{rs:G Rule}(h:∀r∈rs,ROk r)(ho0 : -64800<=o)(ho1:o<=64800)(hlen:rs.length<=16)(hn:(occs rs).length<20)(hg:Good o Ê (j4z (occs rs))):ZTab (nm,o,rs) (outT o (j4z (occs rs))):=by
 have hl:(j4z (occs rs)).length<=1000:=by simp[j4z,j84];omega
 refine⟨?_,jsA (jlz _ _ _ hg) (by grind[jlA]) ho0 ho1⟩;have:=jiO (j4z (occs rs)) hl (j4z (occs rs)).length 0 o [] omg_ ho0 ho1 smp_ smp_ hg;grind[j14,jh8,S0]
theorem juK{z:E×u×G Rule}{l:TrL}(h:ZTab z l):jgm z=A ((z.2.1,l),0):=by
 simp only[jgm,show j14 (z.1,z.2.1,z.2.2)=_ from h.1,j0]
theorem jro{y m k w:u}(hm1:1<=m)(hm2:m<=12)(hk1:2<=k)(hk2:k<=5):num y m 1+7<=nth y m k w/\nth y m k w<=num y m 1+34:=by
 have hd:=jgF y m hm1 hm2;grind[nth]
theorem jps{y m k w:u}(hm1:1<=m)(hm2:m<=12)(hk1:1<=k)(hk2:k<=4):num y m 1<=nth y m k w/\nth y m k w<=num y m 1+27:=by
 have hd:=jgF y m hm1 hm2;grind[nth]
theorem jrp{a b:u×u}(h:a.1<b.1):j4z [a,b]=[a,b]:=by
 grind[j4z,j3f,j66]
theorem jrq{a b c d:u×u}(h1:a.1<c.1)(h2:c.1<b.1)(h3:b.1<d.1):j4z [a,b,c,d]=[a,c,b,d]:=by
 simp[j4z,j3f,j66,show¬b.1<a.1 by omega,h2,show¬c.1<a.1 by omega,show¬d.1<b.1 by omega]
theorem jmn(r1 r2:Rule)(h1:r1.1=2025)(h2:r1.2.1=2025)(h3:r2.1=2025)(h4:r2.2.1=2025):occs [r1,r2]=[occ r1 2025,occ r2 2025]:=by
 simp_all[occs,occR]
theorem jmo(r1 r2:Rule)(h1:r1.1=2025)(h2:r1.2.1=2026)(h3:r2.1=2025)(h4:r2.2.1=2026):occs [r1,r2]=[occ r1 2025,occ r1 2026,occ r2 2025,occ r2 2026]:=by
 simp_all[occs,occR,Æ]
theorem j5R{now:u}{p:N u}{x:u×u}{r:TrL}(hx:x.2≠now)(h : -86400<x.2-now/\x.2-now<86400/\1000000<x.1-now/\x.1-now<=8589000000 /\ -64800<=x.2/\x.2<=64800)
  (hp:∀q,p=A q->q+604800<=x.1-now)(hr:Good x.2 (A (x.1-now)) r):Good now p (x::r):=by
 grind[Good]
theorem jpt{now:u}{p:N u}{x:u×u}{r:TrL}(hx:x.2=now)(hr:Good now p r):Good now p (x::r):=by
 grind[Good]
theorem jgH{P:u->Prop}:∀q,(Ê:N u)=A q->P q:=λ_ h=>by simp at h
theorem j9G{P:u->Prop}{a:u}(h:P a):∀q,A a=A q->P q:=λq hq=>by simp_all
theorem n251:num 2025 1 1=20089:=by decide
theorem n261:num 2026 1 1=20454:=by decide
theorem n252:num 2025 2 1=20120:=by decide
theorem n253:num 2025 3 1=20148:=by decide
theorem n262:num 2026 2 1=20485:=by decide
theorem n263:num 2026 3 1=20513:=by decide
structure MZ(o:u)(rs:G Rule):Prop where
 o0 : -64800<=o
 o1:o<=64800
 ok:∀r∈rs,ROk r
 len:rs.length<=2
 yr:∀r∈rs,2025<=r.1
 few:(occs rs).length<=4
 good:Good o Ê (j4z (occs rs))
theorem MZ.tab{o:u}{rs:G Rule}(h:MZ o rs)(nm:E):ZTab (nm,o,rs) (outT o (j4z (occs rs))):=
 jsB h.ok (by have:=h.o0;omega) (by have:=h.o1;omega) (by have:=h.len;omega) (by have:=h.few;omega) h.good
theorem mz0{o:u}(h0 : -43200<=o)(h1:o<=45000):MZ o []:=⟨omg_,omg_,smp_,smp_,smp_,by decide,trivial⟩
theorem ok2{r1 r2:Rule}(h1:ROk r1)(h2:ROk r2):∀r∈[r1,r2],ROk r:=by
 simp_all
theorem mz1{o last:u}(h0 : -43200<=o)(h1:o<=45000)(hl:last=2025\/last=2026):MZ o [(2025,last,3,5,6,7200,o+3600),(2025,last,10,5,6,10800,o)]:=by
 have a1:nth 2025 3 5 6=20177:=by decide
 have a2:nth 2025 10 5 6=20387:=by decide
 have a3:nth 2026 3 5 6=20541:=by decide
 have a4:nth 2026 10 5 6=20751:=by decide
 have hok:=ok2 (r1:=(2025,last,3,5,6,7200,o+3600)) (r2:=(2025,last,10,5,6,10800,o)) (by constructor<;>(dsimp only;omega)) (by constructor<;>(dsimp only;omega));rcases hl with rfl|rfl
 .have e:=jmn (2025,2025,3,5,6,7200,o+3600) (2025,2025,10,5,6,10800,o) rfl rfl rfl rfl;refine⟨omg_,omg_,hok,smp_,smp_,by rw[e];simp,?_⟩;rw[e,jrp (by simp only[occ];omega)];refine j5R (by simp only[occ];omega) (by simp only[occ];omega) jgH (j5R (by simp only[occ];omega) (by simp only[occ];omega) (j9G (by simp only[occ];omega)) trivial)
 .have e:=jmo (2025,2026,3,5,6,7200,o+3600) (2025,2026,10,5,6,10800,o) rfl rfl rfl rfl;refine⟨omg_,omg_,hok,smp_,smp_,by rw[e];simp,?_⟩;rw[e,jrq (by simp only[occ];omega) (by simp only[occ];omega) (by simp only[occ];omega)]
  refine j5R (by simp only[occ];omega) (by simp only[occ];omega) jgH (j5R (by simp only[occ];omega) (by simp only[occ];omega) (j9G (by simp only[occ];omega))
   (j5R (by simp only[occ];omega) (by simp only[occ];omega) (j9G (by simp only[occ];omega)) (j5R (by simp only[occ];omega) (by simp only[occ];omega) (j9G (by simp only[occ];omega)) trivial)))
theorem mz2{o last k1 w1 s1 c m2 k2 w2 s2:u}(h0 : -43200<=o)(h1:o<=45000)(hl:last=2025\/last=2026)(hk:1<=k1)(hk':k1<=4)(hw:0<=w1)(hw':w1<=6)(hs:0<=s1)(hs':s1<=82800)(hc:1800<=c)(hc':c<=14400)
  (hm:m2=2\/m2=3)(hj:2<=k2)(hj':k2<=5)(hx:0<=w2)(hx':w2<=6)(ht:0<=s2)(ht':s2<=82800):MZ o [(2025,last,1,k1,w1,s1,o+c),(2025,last,m2,k2,w2,s2,o)]:=by
 have hok:=ok2 (r1:=(2025,last,1,k1,w1,s1,o+c)) (r2:=(2025,last,m2,k2,w2,s2,o)) (by constructor<;>(dsimp only;omega)) (by constructor<;>(dsimp only;omega));have b1:=jps (y:=2025) (m:=1) (k:=k1) (w:=w1) omg_ omg_ hk hk';have b2:=jps (y:=2026) (m:=1) (k:=k1) (w:=w1) omg_ omg_ hk hk';have b3:=jro (y:=2025) (m:=m2) (k:=k2) (w:=w2) omg_ omg_ hj hj';have b4:=jro (y:=2026) (m:=m2) (k:=k2) (w:=w2) omg_ omg_ hj hj';have c1:20120<=num 2025 m2 1/\num 2025 m2 1<=20148:=by grind[n252,n253]
 have c2:20485<=num 2026 m2 1/\num 2026 m2 1<=20513:=by grind[n262,n263]
 rw[n251]at b1;rw[n261]at b2;rcases hl with rfl|rfl
 .have e:=jmn (2025,2025,1,k1,w1,s1,o+c) (2025,2025,m2,k2,w2,s2,o) rfl rfl rfl rfl;refine⟨omg_,omg_,hok,smp_,smp_,by rw[e];simp,?_⟩;rw[e,jrp (by simp only[occ];omega)];refine j5R (by simp only[occ];omega) (by simp only[occ];omega) jgH (j5R (by simp only[occ];omega) (by simp only[occ];omega) (j9G (by simp only[occ];omega)) trivial)
 .have e:=jmo (2025,2026,1,k1,w1,s1,o+c) (2025,2026,m2,k2,w2,s2,o) rfl rfl rfl rfl;refine⟨omg_,omg_,hok,smp_,smp_,by rw[e];simp,?_⟩;rw[e,jrq (by simp only[occ];omega) (by simp only[occ];omega) (by simp only[occ];omega)]
  refine j5R (by simp only[occ];omega) (by simp only[occ];omega) jgH (j5R (by simp only[occ];omega) (by simp only[occ];omega) (j9G (by simp only[occ];omega))
   (j5R (by simp only[occ];omega) (by simp only[occ];omega) (j9G (by simp only[occ];omega)) (j5R (by simp only[occ];omega) (by simp only[occ];omega) (j9G (by simp only[occ];omega)) trivial)))
theorem mz3{o w s x:u}(h0 : -43200<=o)(h1:o<=45000)(hw:0<=w)(hw':w<=6)(hs:0<=s)(hs':s<=84600)(hx0 : -64800<=x)(hx1:x<=64800)(hc0 : -86400<x-o)(hc1:x-o<86400):MZ o [(2026,2026,1,2,w,s,x)]:=by
 have b:=jps (y:=2026) (m:=1) (k:=2) (w:=w) omg_ omg_ omg_ omg_;rw[n261]at b;have e:occs [((2026:u),(2026:u),(1:u),(2:u),w,s,x)]=[occ (2026,2026,1,2,w,s,x) 2026]:=by simp[occs,occR]
 refine⟨omg_,omg_,λr hr=>?_,smp_,smp_,by rw[e];simp,?_⟩
 .simp at hr;subst hr;constructor<;>(dsimp only;omega)
 .rw[e];have hi:j4z [occ (2026,2026,1,2,w,s,x) 2026]=[occ (2026,2026,1,2,w,s,x) 2026]:=by simp[j4z,j3f,j66]
  rw[hi];by_cases hxo:x=o
  .exact jpt hxo trivial
  .exact j5R hxo (by simp only[occ];omega) jgH trivial
theorem jsC{L:G u}{a:u}(h:DOk L a)(nm:E):∃o rs a',j7B L a nm=A ((nm,o,rs),L,a')/\MZ o rs/\DOk L a':=by
 obtain⟨p,a1,e1,m1,d1⟩:=j7x h (xs:=[(0:u),(4:u),(-20:u),(22:u),(48:u),(-47:u)]) smp_ smp_;obtain⟨x2,a2,e2,x20,x21,d2⟩:=j0F (n:=2) d1 omg_ omg_;obtain⟨x3,a3,e3,x30,x31,d3⟩:=j0F (n:=3) d2 omg_ omg_;obtain⟨y,a4,e4,y0,y1,d4⟩:=j0F (n:=2) d3 omg_ omg_;obtain⟨q,a5,e5,q0,q1,d5⟩:=j0F (n:=4) d4 omg_ omg_;have hp : -47<=p/\p<=48:=by simp at m1;omega
 have hmul:0<=x2*x3/\x2*x3<=2:=by obtain rfl|rfl:x2=0\/x2=1:=omg_;all_goals omega
 have ho0 : -43200<=900*(p+x2*x3):=omg_;have ho1:900*(p+x2*x3)<=45000:=omg_;have hlast:2025+y=2025\/2025+y=2026:=omg_;simp only[j7B,e1,e2,e3,e4,e5,j0];rw[j0d (x:=x2*x3),j0d (x:=p+x2*x3),j0d (x:=900*(p+x2*x3)),j0d (x:=2025+y)];generalize 900*(p+x2*x3)=o at *;generalize 2025+y=last at *;by_cases hq1:q=1
 .simp(disch:=omega)only[S0];grind[mz1]
 .rw[j55 hq1,j5];by_cases hq2:q=2
  .rw[j9g hq2,j4];obtain⟨b1,c1,f1,b10,b11,g1⟩:=j0F (n:=4) d5 omg_ omg_;obtain⟨b2,c2,f2,b20,b21,g2⟩:=j0F (n:=7) g1 omg_ omg_;obtain⟨b3,c3,f3,b30,b31,g3⟩:=j0F (n:=24) g2 omg_ omg_;obtain⟨b4,c4,f4,b40,b41,g4⟩:=j0F (n:=8) g3 omg_ omg_;obtain⟨b5,c5,f5,b50,b51,g5⟩:=j0F (n:=2) g4 omg_ omg_;obtain⟨b6,c6,f6,m6,g6⟩:=j7x g5 (xs:=[(2:u),(3:u),(5:u)]) smp_ smp_;obtain⟨b7,c7,f7,b70,b71,g7⟩:=j0F (n:=7) g6 omg_ omg_;obtain⟨b8,c8,f8,b80,b81,g8⟩:=j0F (n:=24) g7 omg_ omg_;have h6:2<=b6/\b6<=5:=by simp at m6;omega
   simp(disch:=omega)only[f1,f2,f3,f4,f5,f6,f7,f8,S0];exact⟨_,_,_,rfl,mz2 ho0 ho1 hlast omg_ omg_ b20 omg_ omg_ omg_ omg_ omg_ omg_ h6.1 h6.2 b70 omg_ omg_ omg_,g8⟩
  .rw[j55 hq2,j5];by_cases hq3:q=3
   .rw[j9g hq3,j4];obtain⟨b1,c1,f1,m1,g1⟩:=j7x d5 (xs:=[(3600:u),(-3600:u),(82800:u),(-82800:u),(43200:u)]) smp_ smp_;obtain⟨b2,c2,f2,b20,b21,g2⟩:=j0F (n:=7) g1 omg_ omg_;obtain⟨b3,c3,f3,b30,b31,g3⟩:=j0F (n:=48) g2 omg_ omg_;have hb1 : -82800<=b1/\b1<=82800:=by simp at m1;omega
    simp(disch:=omega)only[f1,f2,f3,S0];by_cases hbig:o+b1>64800\/o+b1 < -64800
    .have hb:cond (M (o+b1>64800)) K (M (o+b1 < -64800))=true:=by
      simp_all
     rw[hb,j4];grind[mz3]
    .simp(disch:=omega)only[S0];grind[mz3]
   .rw[j55 hq3,j5];grind[mz0]
theorem jlB:∀(L:TrL)(now:u)(p:N u),Good now p L->∀i,i<(outT now L).length -> -86400<tof now (outT now L) (i+1)-tof now (outT now L) i/\tof now (outT now L) (i+1)-tof now (outT now L) i<86400
 |[],_,_,_,i,hi=>by simp[outT]at hi
 |x::r,now,p,h,i,hi=>by
  simp only[Good]at h;by_cases hx:x.2=now
  .rw[if_pos hx]at h;have e:outT now (x::r)=outT now r:=by simp[outT,hx]
   rw[e]at hi ⊢;exact jlB r now p h i hi
  .rw[if_neg hx]at h;have e:outT now (x::r)=(x.1-now,x.2)::outT x.2 r:=by simp[outT,hx]
   rw[e]at hi ⊢;obtain⟨⟨g1,g2,_⟩,g8⟩:=h;cases i with
   |zero=>exact⟨g1,g2⟩
   |succ i=>
    have:=jlB r x.2 _ g8 i (by simpa using hi);cases i with
    |zero=>exact this
    |succ i=>exact this
section
variable{o:u}{l:TrL}(h:TOk o l)
include h
end
abbrev WL:=G (u×u)
def WOk(p:u):WL->Prop
 |[]=>p<=604800
 |x::r=>p<=x.1/\x.1<x.2/\x.2<=604800/\WOk x.2 r
def hasB(s:u):WL->Bool
 |[]=>O
 |x::r=>cond (cond (M (x.1<=s)) (M (s<x.2)) O) K (hasB s r)
theorem WOk.top{p:u}:∀{w:WL},WOk p w->p<=604800
 |[],h=>h
 |_::_,h=>by have:=h.1;have:=h.2.1;have:=h.2.2.1;omega
theorem WOk.weak{p q:u}(hq:q<=p):∀{w:WL},WOk p w->WOk q w
 |[],h=>by show q<=604800;have:p<=604800:=h;omega
 |_::_,h=>⟨by have:=h.1;omega,h.2⟩
theorem jpu:∀{w:WL}{p:u},WOk p w->∀i,i<w.length->p<=(w.getD i (0,0)).1/\(w.getD i (0,0)).1<(w.getD i (0,0)).2/\(w.getD i (0,0)).2<=604800
 |[],_,_,i,hi=>by simp at hi
 |x::r,p,h,i,hi=>by
  obtain⟨h1,h2,h3,h4⟩:=h;cases i with
  |zero=>exact⟨h1,h2,h3⟩
  |succ i=>exact jpu (h4.weak (show p<=x.2 by omega)) i (by simpa using hi)
theorem jpv:∀{w:WL}{p:u},WOk p w->∀i,i+1<w.length->(w.getD i (0,0)).2<=(w.getD (i+1) (0,0)).1
 |[],_,_,i,hi=>by simp at hi
 |x::[],_,_,i,hi=>by simp at hi
 |x::y::r,p,h,i,hi=>by
  cases i with
  |zero=>exact h.2.2.2.1
  |succ i=>exact jpv h.2.2.2 i (by simpa using hi)
theorem jhM{L:G u}:∀(n:B)(p a:u)(acc:WL),DOk L a->0<=p->p<=604800->acc.length+n<=100->
  ∃w a',j5V p (n:u) L a acc=A (L,a',acc++w)/\WOk p w/\w.length<=n/\DOk L a'
 |0,p,a,acc,hd,_,hp,_=>by
  rw[j6R];simp(disch:=omega)only[j1O,S0];exact⟨[],a,smp_,hp,smp_,hd⟩
 |n+1,p,a,acc,hd,hp0,hp,ha=>by
  obtain⟨x,a1,e1,x0,x1,d1⟩:=j0F (n:=30) hd omg_ omg_;obtain⟨y,a2,e2,y0,y1,d2⟩:=j0F (n:=2) d1 omg_ omg_;obtain⟨q,a3,e3,m3,d3⟩:=j7x d2 (xs:=[(3600:u),(28800:u),(43200:u),(86400:u),(61:u),(1:u)]) smp_ smp_;have hq:1<=q/\q<=86400:=by simp at m3;omega
  rw[j6R];simp only[j1O];rw[j00 omg_];simp only[j4,e1,e2,e3,j0];rw[j0d (x:=3600*x),j0d (x:=p+3600*x),j0d (x:=60*y),j0d (x:=p+3600*x+60*y),j0d (x:=p+3600*x+60*y+q),j0d (x:=((n+1:B):u)-1)];by_cases hbig:p+3600*x+60*y+q>604800
  .rw[j00 hbig,j4,j0f];exact⟨[],a3,smp_,hp,smp_,d3⟩
  .simp(disch:=omega)only[S0];obtain⟨w,a4,e4,hw,hwl,d4⟩:=jhM n (p+3600*x+60*y+q) a3 (acc++[(p+3600*x+60*y,p+3600*x+60*y+q)]) d3 omg_ omg_ sqo_;rw[show ((n+1:B):u)-1=(n:u) by omega];refine⟨(p+3600*x+60*y,p+3600*x+60*y+q)::w,a4,by rw[e4,Y];rfl,⟨by dsimp only;omega,by dsimp only;omega,by dsimp only;omega,hw⟩,sqo_,d4⟩
theorem jeT{L:G u}{a:u}(h:DOk L a):∃w a',j3G L a=A (w,L,a')/\WOk 0 w/\w.length<=3/\DOk L a':=by
 obtain⟨x,a1,e1,x0,x1,d1⟩:=j0F (n:=4) h omg_ omg_;obtain⟨w,a',e2,h1,h2,h3⟩:=jhM x.toNat 0 a1 [] d1 omg_ omg_ sqo_;rw[show ((x.toNat:B):u)=x by omega,List.nil_append]at e2;simp only[j3G,e1,j0,e2];exact⟨w,a',rfl,h1,omg_,h3⟩
theorem jcq{L:G u}{a:u}(h:DOk L a):∃t a',j2T L a=A (t,L,a')/\1767139199<=t/\t<=1767139200+3600*575+3599/\DOk L a':=by
 obtain⟨x,a1,e1,x0,x1,d1⟩:=j0F (n:=576) h omg_ omg_;obtain⟨y,a2,e2,y0,y1,d2⟩:=j0F (n:=3) d1 omg_ omg_;obtain⟨q,a3,e3,m3,d3⟩:=j7x d2 (xs:=[(-1:u),(1:u),(1800:u),(3599:u)]) smp_ smp_;have hq : -1<=q/\q<=3599:=by simp at m3;omega
 simp only[j2T,e1,j0,j0Y,e2,e3];rw[j0d (x:=3600*x),j0d (x:=1767139200+3600*x),j0d (x:=1767139200+3600*x+q)];cases (y==w64 (3-1)) with
 |true=>exact⟨_,_,rfl,omg_,omg_,d3⟩
 |false=>exact⟨_,_,rfl,omg_,omg_,d2⟩
theorem jrr{w:WL}(hl:w.length<=14)(s:u):∀(n i:B),i+n=w.length->jd0 s w (w.length:u) (i:u)=A (cond (hasB s (w.drop i)) (.inl K) (.inr ()))
 |0,i,hi=>by
  rw[jcx];simp(disch:=omega)only[j4U,List.drop_of_length_le,S0];rfl
 |n+1,i,hi=>by
  have hlt:i<w.length:=omg_;have hgd:w.getD i (0,0)=w[i]:=by simp[hlt]
  have ih:=jrr hl s n (i+1) omg_;rw[jcx];simp(disch:=omega)only[F hlt,j4U,hasB,S0];cases hb:cond (M (w[i].1<=s)) (M (s<w[i].2)) O with
  |true=>simp only[j4,j0f]
  |false=>simp only[j5,j08];exact ih
theorem ju3{w:WL}(hl:w.length<=14)(s:u):jfz w s=A (hasB s w):=by
 have:=jrr hl s w.length 0 omg_;rw[show ((0:B):u)=0 from rfl,List.drop_zero]at this;simp(disch:=omega)only[jfz,this,S0];cases hasB s w<;>rfl
end Go.Proofs.Pw
