/- Small facts on Go's division. -/
import Derived.Test.YtmccfdihkphfaaaGreatLILD
import Derived.Test.YtmccfdihkphfaaaGreatLIFns
import Derived.KernelRfl
open _root_ renaming Int->u,Nat->B,ByteArray->E,List->G,Option->M,Decidable->U
open Option renaming some->A,none->Ê
open Int renaming tmod->D,tdiv->I,ofNat->W,ediv_eq_zero_of_lt->Á,add_mul_ediv_left->Â,tmod_lt_of_pos->Ã,ediv_le_self->Ä,tmod_nonneg->Å,ediv_nonneg->Ç,neg_tmod->È
open List renaming drop_eq_getElem_cons->F,length_cons->H,length->R,getD_eq_getElem?_getD->S,append_assoc->Y,range->Z,getElem_mem->À,range_succ->Æ,set->Ë
open Bool renaming true->J,false->N,not_false->O,not_true->X
open Decidable renaming decide->K
open Go Go.Lft
namespace Go.Proofs.Pw
theorem tdm(a b:u)(hb:0<b):b*I a b+D a b=a/\(0<=a->0<=D a b)/\(a<=0->D a b<=0)/\D a b<b /\ -b<D a b:=by
 have h1:=Int.mul_tdiv_add_tmod a b;have h2:0<=a->0<=D a b:=λh=>Å b h
 have h3:a<=0->D a b<=0:=λh=>by
  have:=Å (a:= -a) b omg_;rw[È]at this;omega
 have h4:=Ã a hb;have h5 : -b<D a b:=by have:=Ã (-a) hb;rw[È]at this;omega
 exact⟨h1,h2,h3,h4,h5⟩
theorem jei{a b:u}(ha:0<=a):I a b=a/b:=Int.tdiv_eq_ediv_of_nonneg ha
theorem jks{a b:u}(ha:0<=a):D a b=a%b:=Int.tmod_eq_emod_of_nonneg ha
theorem j00{p:Prop}[U p](h:p):decide p=true:=decide_eq_true h
theorem j01{p:Prop}[U p](h:¬p):decide p=false:=decide_eq_false h
theorem j8T{a b:u}(h:a=b):(a==b)=true:=by simp[h]
theorem j3Z{a b:u}(h:a≠b):(a==b)=false:=by simp[h]
theorem j0B{i:u}{n:B}(h1:0<=i)(h2:i<n):inR i n=true:=by simp[inR,h1,h2]
theorem S0:(∀(p:Prop)[U p],p->decide p=J)/\(∀(p:Prop)[U p],¬p->decide p=N)/\(∀(i:u)(n:B),0<=i->i<n->inR i n=J)/\(∀x:u, -9223372036854775808<=x->x<=9223372036854775807->w64 x=x)/\(∀a b:u,a=b->(a==b)=J)/\(∀a b:u,a≠b->(a==b)=N)/\
 (∀n:B,n<=4294967296->K (n<=j03)=J)/\(∀{α:Type}(a:α)(l:G α),(a::l).length=l.length+1)/\(∀α:Type,([]:G α).length=0)/\(∀{α:Type}(l:G α)(d:α)(i:B)(_:i<l.length),l.getD i d=l[i])/\
 (∀{α β:Type}(s:α)(f:α->M β),lpK (A (.inl s)) f=f s)/\(∀{α β:Type}(x:β)(f:α->M β),lpK (A (.inr x)) f=A x)/\(∀{α β γ:Type}(x:α)(f:α->γ)(g:β->γ),sumC (.inl x) f g=f x)/\(∀{α β γ:Type}(x:β)(f:α->γ)(g:β->γ),sumC (.inr x) f g=g x)/\
 (∀{α:Type}(a b:α),cond J a b=a)/\(∀{α:Type}(a b:α),cond N a b=b)/\(∀{α β:Type}(a:α)(f:α->M β),(A a).bind f=f a)/\(∀n:B,Int.toNat (n:u)=n)/\(∀n:B,W n=(n:u))/\(∀a b:u,(a != b) = !(a==b))/\(!J)=N/\(!N)=true:=
 ⟨λ_ _ h=>decide_eq_true h,λ_ _ h=>decide_eq_false h,λ_ _=>j0B,λ_=>j24,λ_ _=>j8T,λ_ _=>j3Z,λ_ h=>decide_eq_true h,λ_ _=>rfl,λ_=>rfl,λ_ _ _ _=>(List.getElem_eq_getD _).symm,λ_ _=>rfl,λ_ _=>rfl,λ_ _ _=>rfl,λ_ _ _=>rfl,λ_ _=>rfl,λ_ _=>rfl,λ_ _=>rfl,λ_=>rfl,λ_=>rfl,λ_ _=>rfl,rfl,rfl⟩
theorem j07{x:u}(h1 : -9223372036854775808<=x:=by omega)(h2:x<=9223372036854775807:=by omega):w64 x=x:=j24 h1 h2
theorem j2j{i:u}{n:B}(h1:0<=i:=by omega)(h2:i<n:=by omega):inR i n=true:=j0B h1 h2
def jdl(ks:G E):G (E×Bool):=ks.map λk=>(k,J)
def NmL(ks:G E):Prop:=ks.Nodup/\∀k∈ks,jeE k=A J
theorem jx2{s:E}:∀{l:G E},s∉l->j3i N (jdl l) s=N/\j6V (jdl l) s J=jdl (l++[s])
 |[],_=>⟨rfl,rfl⟩
 |k::l,h=>by
  simp only[List.mem_cons,not_or]at h;obtain⟨h1,h2⟩:=jx2 (l:=l) h.2;have hb:(s==k)=false:=Bool.eq_false_iff.2 λhh=>h.1 ((MapKept.bytes_beq s k).1 hh);refine⟨?_,?_⟩
  .show cond (s==k) J (j3i N (jdl l) s)=N;rw[hb];exact h1
  .show cond (s==k) ((s,J)::jdl l) ((k,J)::j6V (jdl l) s J)=_;rw[hb,j7,h2];rfl
abbrev TrL:=G (u×u)
def tat(l:TrL)(i:B):Int:=(l.getD i (0,0)).1
def tof(o:u)(l:TrL)(i:B):Int:=if i=0 then o else (l.getD (i-1) (0,0)).2
def frm(l:TrL)(i:B):Int:=if i=0 then 0 else if i<=l.length then tat l (i-1) else 8589934593
structure TOk(o:u)(l:TrL):Prop where
 len:l.length<=1000
 gap:∀i,i+1<l.length->tat l i+604800<=tat l (i+1)
 pos:∀i,i<l.length->1000000<tat l i
 max:∀i,i<l.length->tat l i<=8589000000
 of0:∀i,i<=l.length -> -64800<=tof o l i
 of1:∀i,i<=l.length->tof o l i<=64800
section
variable{o:u}{l:TrL}(h:TOk o l)
include h
theorem TOk.at_lt:∀(k i:B),i+k+1<l.length->tat l i+604800<=tat l (i+k+1)
 |0,i,hk=>h.gap i hk
 |k+1,i,hk=>by
  have h1:=TOk.at_lt k i omg_;have h2:=h.gap (i+k+1) omg_;rw[show i+(k+1)+1=i+k+1+1 by omega];omega
theorem TOk.at_le{i j:B}(hij:i<j)(hj:j<l.length):tat l i+604800<=tat l j:=by
 have:=h.at_lt (j-i-1) i omg_;grind
omit h in
theorem frm0:frm l 0=0:=rfl
omit h in
theorem jau{i:B}(hi:i<l.length):frm l (i+1)=tat l i:=by
 grind[frm]
omit h in
theorem j7U:frm l (l.length+1)=8589934593:=by
 grind[frm]
theorem TOk.frm_lt{i:B}(hi:i<=l.length):frm l i<frm l (i+1):=by
 rcases Nat.lt_or_ge i l.length with hl|hl
 .rw[jau hl];cases i with
  |zero=>rw[frm0];exact(by have:=h.pos 0 hl;omega)
  |succ i=>rw[jau omg_];have:=h.gap i hl;omega
 .have:i=l.length:=omg_;subst this;rw[j7U];cases hq:l.length with
  |zero=>rw[frm0];omega
  |succ n=>rw[jau omg_];have:=h.max n omg_;omega
theorem TOk.frm_gap{i j:B}(hi:1<=i)(hij:i<j)(hj:j<=l.length):frm l i+604800<=frm l j:=by
 obtain⟨i,rfl⟩:∃i',i=i'+1:=⟨i-1,omg_⟩;obtain⟨j,rfl⟩:∃j',j=j'+1:=⟨j-1,omg_⟩;rw[jau omg_,jau omg_];exact h.at_le omg_ omg_
theorem TOk.frm_le{i j:B}(hij:i<=j)(hj:j<=l.length+1):frm l i<=frm l j:=by
 induction j with
 |zero=>simp_all
 |succ j ih=>
  by_cases he:i=j+1
  .subst he;omega
  .have h1:=ih omg_ omg_;have h2:=h.frm_lt (i:=j) omg_;omega
theorem jmP{t:u}{k:B}(hk:k<=l.length)(hlo:∀i,i<k->tat l i<=t)(hhi:∀i,k<=i->i<l.length->t<tat l i) :
  ∀(n:B)(a b:B),b-a<=n->a<=k->k<=b->b<=l.length->jbd o l t (a:u) (b:u)=A (k:u)
 |0,a,b,hn,ha,hb,hbl=>by
  grind[jeH,j41,j0e]
 |n+1,a,b,hn,ha,hb,hbl=>by
  have hlen:=h.len;rw[jeH];by_cases hab:a<b
  .have hm:IntKind.wrap .u64 ((a:u)+(b:u))=(a:u)+(b:u):=IntWalk.u64_in _ ⟨omg_,omg_⟩;have hd:Int.fdiv ((a:u)+(b:u)) 2=(((a+b)/2:B):u):=by grind
   simp only[j41,j00 (show (a:u)<(b:u) by omega),j6];rw[j24 (x:=(a:u)+(b:u)) omg_ omg_,hm,hd,j24 (x:=(((a+b)/2:B):u)) omg_ omg_];simp only[j9z];rw[j0B omg_ omg_];simp only[j6,j4,j8];by_cases hc:tat l ((a+b)/2)>t
   .rw[j00 (show (l.getD ((a+b)/2) (0,0)).1>t from hc)];simp only[X,j7,j04];have hkm:k<=(a+b)/2:=by grind
    exact jmP hk hlo hhi n a ((a+b)/2) omg_ ha hkm omg_
   .rw[j01 (show¬(l.getD ((a+b)/2) (0,0)).1>t from hc)];simp only[O,j6,j04];rw[j24 omg_ omg_];have hkm:(a+b)/2<k:=by grind
    exact jmP hk hlo hhi n ((a+b)/2+1) b omg_ omg_ hb hbl
  grind[j41,j0e]
theorem jpb{t:u}{k:B}(hk:k<=l.length)(h1:frm l k<=t)(h2:t<frm l (k+1)):j7p (o,l) t=A (k:u):=by
 have hlo:∀i,i<k->tat l i<=t:=by
  intro i hi;have:frm l k=tat l (k-1):=by have:=jau (l:=l) (i:=k-1) omg_;grind
  rw[this]at h1;by_cases he:i=k-1
  .subst he;exact h1
  .have:=h.at_le (i:=i) (j:=k-1) omg_ omg_;omega
 have hhi:∀i,k<=i->i<l.length->t<tat l i:=by
  intro i hi hl;have:frm l (k+1)=tat l k:=jau omg_;rw[this]at h2;by_cases he:i=k
  .subst he;exact h2
  .have:=h.at_le (i:=k) (j:=i) omg_ hl;omega
 have:=jmP h hk hlo hhi l.length 0 l.length omg_ omg_ hk omg_;grind[j7p,jie]
theorem jmQ{k:B}(hk:k<=l.length):j5o (o,l) (k:u)=A (tof o l k):=by
 have hlen:=h.len;unfold tof;by_cases h0:k=0
 .subst h0;rfl
 .simp only[j5o];rw[j3Z (show (k:u)≠0 by omega),j7,j24 omg_ omg_,j0B omg_ omg_,show ((k:u)-1).toNat=k-1 by omega,if_neg h0];rfl
theorem jx3{t:u}{k:B}(hk:k<=l.length)(h1:frm l k<=t)(h2:t<frm l (k+1)):j8J (o,l) t=A (tof o l k):=by
 grind[j8J,jpb,jmQ]
theorem jav{t:u}(h0:0<=t)(h1:t<=8589934592):∃k,k<=l.length/\frm l k<=t/\t<frm l (k+1):=by
 have _:=h;have:∀n,n<=l.length+1->t<frm l n->∃k,k<n/\frm l k<=t/\t<frm l (k+1):=by intro n;induction n<;>grind[frm]
 have hlast:frm l (l.length+1)=8589934593:=j7U;grind
def pc(o:u)(l:TrL)(i:B):u×u×Int:=(frm l i,frm l (i+1),tof o l i)
def pcs(o:u)(l:TrL)(n:B):G (u×u×u):=(Z n).map (pc o l)
omit h in
theorem jtz(n:B):pcs o l (n+1)=pcs o l n++[pc o l n]:=by simp[pcs,Æ]
omit h in
theorem jiw(n:B):(pcs o l n).length=n:=by simp[pcs]
omit h in
theorem jsp{n i:B}(hi:i<n):(pcs o l n).getD i (0,0,0)=pc o l i:=by
 grind[pcs]
theorem jqY:∀(n k:B),k+n=l.length+1->j3E (frm l k) 8589934593 o l (pcs o l k)=A (pcs o l (l.length+1))
 |0,k,hk=>by
  grind[j7U,j2f,j0S,j0e]
 |n+1,k,hk=>by
  have hlen:=h.len;have hkl:k<=l.length:=omg_;have hlt:=h.frm_lt hkl;have hle:=h.frm_le (i:=k+1) (j:=l.length+1) omg_ omg_;have hlast:frm l (l.length+1)=8589934593:=j7U;have ih:=jqY n (k+1) omg_;rw[j2f];simp only[j0S];rw[j00 (show frm l k<8589934593 by omega),jpb h hkl omg_ hlt];simp only[j6,j4,show W (R l)=(l.length:u) from rfl,jmQ h hkl];by_cases hlast2:k<l.length
  .rw[j00 (show (k:u)<(l.length:u) by omega),j0B omg_ omg_];simp only[j6,j8];have hto:(if (l.getD k (0,0)).1<8589934593 then (l.getD k (0,0)).1 else 8589934593)=frm l (k+1):=by grind[tat,jau]
   rw[hto,j00 (by grind[jiw,j03])];simp only[j6,j04];rw[jtz]at ih;exact ih
  grind[jiw,j03,j04,jtz,pc]
theorem jqZ:j31 (o,l) 0 8589934593=A (pcs o l (l.length+1)):=by
 have:=jqY h (l.length+1) 0 omg_;simp only[j31];rw[show j3E 0 8589934593 o l []=_ from this];rfl
def Sol(o:u)(l:TrL)(s:u)(i:B):Prop:=frm l i<=s-tof o l i/\s-tof o l i<frm l (i+1)
instance(o:u)(l:TrL)(s:u)(i:B):U (Sol o l s i):=by unfold Sol;infer_instance
omit h in
theorem jkt{d c:u}(hd : -1000000<=d)(hd2:d<=1000000)(hc : -86400<=c)(hc2:c<=172800):j5k (d,c)=A (d*86400+c):=by
 grind[j5k,j24]
theorem jtA{d c:u}(hd : -1000000<=d)(hd2:d<=1000000)(hc : -86400<=c)(hc2:c<=172800){k:B}(hk:k<=l.length)(hks:d*86400+c-tof o l k<frm l (k+1))(hbef:∀j,j<k->frm l (j+1)<=d*86400+c-tof o l j) :
  ∀(n i:B),i+n=k->j75 ((l.length+1:B):u) (i:u) d c (pcs o l (l.length+1))=A (.inl (max (frm l k) (d*86400+c-tof o l k),J))
 |0,i,hi=>by
  have hlen:=h.len;have:i=k:=omg_;subst this;have o1:=h.of0 i hk;have o2:=h.of1 i hk;have hlt:=h.frm_lt hk;rw[j5N];simp only[j1G];rw[j00 (show (i:u)<((l.length+1:B):u) by omega),j0B omg_ (by rw[jiw];omega)];simp only[j6,j8,jsp (show i<l.length+1 by omega),jkt hd hd2 hc hc2,j4,pc];grind[j24,j0e]
 |n+1,i,hi=>by
  have hlen:=h.len;have hil:i<=l.length:=omg_;have o1:=h.of0 i hil;have o2:=h.of1 i hil;have hb:=hbef i omg_;rw[j5N];simp only[j1G];rw[j00 (show (i:u)<((l.length+1:B):u) by omega),j0B omg_ (by rw[jiw];omega)];simp only[j6,j8,jsp (show i<l.length+1 by omega),jkt hd hd2 hc hc2,j4,pc];rw[j24 (x:=d*86400+c-tof o l i) omg_ omg_,j24 (x:=(i:u)+1) omg_ omg_];have hm:(if d*86400+c-tof o l i>frm l i then d*86400+c-tof o l i else frm l i)=max (frm l i) (d*86400+c-tof o l i):=by split<;>omega
  rw[hm,j01 omg_,j7,j04];exact jtA hd hd2 hc hc2 hk hks hbef n (i+1) omg_
theorem jzq{d c:u}(hd : -1000000<=d)(hd2:d<=1000000)(hc : -86400<=c)(hc2:c<=172800){k:B}(hk:k<=l.length)(hks:d*86400+c-tof o l k<frm l (k+1))(hbef:∀j,j<k->frm l (j+1)<=d*86400+c-tof o l j) :
  j3I (o,l) (d,c)=A (max (frm l k) (d*86400+c-tof o l k),J):=by
 have:=jtA h hd hd2 hc hc2 hk hks hbef k 0 omg_;simp only[j3I,jqZ h,j4,jiw,show W (R l+1)=((l.length+1:B):u) from rfl];rw[show (0:u)=((0:B):u) from rfl,this];rfl
omit h in
theorem jzr{n:u}(h1 : -1000000000000<=n)(h2:n<=1000000000000):jhh n=A (n/86400,n%86400):=by
 grind[jhh,j24]
theorem jhx{t:u}{k:B}(hk:k<=l.length)(h1:frm l k<=t)(h2:t<frm l (k+1)):j1V (o,l) t=A ((t+tof o l k)/86400,(t+tof o l k)%86400):=by
 have o1:=h.of0 k hk;have o2:=h.of1 k hk;have g1:0<=frm l k:=by have:=h.frm_le (i:=0) (j:=k) omg_ omg_;grind[frm]
 have hlast:frm l (l.length+1)=8589934593:=j7U;have g2:=h.frm_le (i:=k+1) (j:=l.length+1) omg_ omg_;grind[j1V,jx3,j24,jzr]
end
def j9h(x:u×u):TrL->TrL
 |[]=>[x]
 |y::ys=>if x.1<y.1 then y::j9h x ys else x::y::ys
def j4R:TrL->TrL->TrL
 |[],acc=>acc
 |x::xs,acc=>j4R xs (j9h x acc)
def j6x(l:TrL):TrL:=(j4R l []).reverse
theorem jf3(x:u×u):∀l,(j9h x l).length=l.length+1
 |[]=>rfl
 |y::ys=>by unfold j9h;split<;>simp[jf3 x ys]
theorem j9P:∀(l acc:TrL),(j4R l acc).length=l.length+acc.length
 |[],acc=>by simp[j4R]
 |x::xs,acc=>by simp only[j4R,j9P xs,jf3,H];omega
def Sm(l:TrL):Prop:=∀x∈l, -1000000000000<=x.1/\x.1<=1000000000000
theorem jr0{x:u×u}(hx : -1000000000000<=x.1/\x.1<=1000000000000):∀{l:TrL},Sm l->Sm (j9h x l)
 |[],_=>λy hy=>by simp[j9h]at hy;subst hy;exact hx
 |z::zs,h=>by
  unfold j9h;split
  .intro y hy;rcases List.mem_cons.1 hy with rfl|hy
   .exact h _ smp_
   .exact jr0 hx (l:=zs) (λw hw=>h w (by simp[hw])) y hy
  .intro y hy;rcases List.mem_cons.1 hy with rfl|hy
   .exact hx
   .exact h y hy
theorem jC1(rp mid:TrL)(x:u×u):(rp.reverse++x::mid).getD rp.length (0,0)=x:=by
 rw[S,List.getElem?_append_right smp_];simp
theorem jAo(n s8:u)(x:u×u)(hx : -1000000000000<=x.1/\x.1<=1000000000000):∀(rp mid:TrL),Sm rp->rp.length+mid.length<=1000->
  j1w 0 n s8 (rp.length:u) (rp.reverse++x::mid)=A (0,n,s8,(j9h x rp).reverse++mid)
 |[],mid,_,_=>by
  rw[j2l];simp(disch:=omega)only[S0];rfl
 |y::ys,mid,hsm,hlen=>by
  have hy:=hsm y smp_;have hL:((y::ys).reverse++x::mid).length=ys.length+1+(mid.length+1):=sqo_;simp only[H]at hlen;rw[j2l];simp only[j0w,H];rw[j00 (show ((ys.length+1:B):u)>0 by omega),j0B omg_ (by rw[hL];omega),j07 (x:=((ys.length+1:B):u)-1),j0B omg_ (by rw[hL];omega)];simp only[j6,j8];have g1:((y::ys).reverse++x::mid).getD (ys.length+1) (0,0)=x:=jC1 (y::ys) mid x;have g2:((y::ys).reverse++x::mid).getD ((((ys.length+1:B):u)-1).toNat) (0,0)=y:=by simp(disch:=omega)only[S0];simp
  simp(disch:=omega)only[g1,g2,j40,S0];by_cases hc:x.1<y.1
  .simp(disch:=omega)only[S0];have hset:Ë (Ë ((y::ys).reverse++x::mid) (ys.length+1) (y.1,y.2)) ((((ys.length+1:B):u)-1).toNat) (x.1,x.2)=ys.reverse++x::(y::mid):=by rw[show (((ys.length+1:B):u)-1).toNat=ys.length by omega];simp
   rw[j0B omg_ (by rw[List.length_set,hL];omega)];simp only[j6,j04,hset];have he:=jAo n s8 x hx ys (y::mid) (λz hz=>hsm z (by simp[hz])) sqo_;rw[show ((ys.length+1:B):u)-1=(ys.length:u) by omega,he];simp[j9h,hc]
  .simp(disch:=omega)only[S0];simp[j9h,hc]
theorem jAp:∀(xs rp:TrL),Sm rp->Sm xs->rp.length+xs.length<=1000->
  j1x 0 ((rp.length+xs.length:B):u) (rp.length:u) (rp.reverse++xs)=A (j4R xs rp).reverse
 |[],rp,_,_,_=>by
  rw[j1i];simp(disch:=omega)only[j0j,S0];simp[j4R]
 |x::xs,rp,hr,hx,hlen=>by
  have hxx:=hx x smp_;simp only[H]at hlen;have he:=jAo ((rp.length+(x::xs).length:B):u) (rp.length:u) x hxx rp xs hr omg_;have ih:=jAp xs (j9h x rp) (jr0 hxx hr) (λz hz=>hx z (by simp[hz])) (by rw[jf3];omega);rw[jf3]at ih;rw[j1i];simp only[j0j];rw[j00 (by simp only[H];omega),he];simp only[j6,j4,j4R];rw[show rp.length+1+xs.length=rp.length+(x::xs).length by simp;omega]at ih;rw[j07,j04];exact ih
theorem jjE{l:TrL}(hs:Sm l)(hl:l.length<20):j0g l=A (j6x l):=by
 have hins:j0x l 0 (l.length:u)=A (j6x l):=by
  simp only[j0x];cases l with
  |nil=>rw[j1i];rfl
  |cons x xs=>have:=jAp xs [x] (λz hz=>by simp at hz;subst hz;exact hs _ smp_) (λz hz=>hs z (by simp[hz])) (by simp at hl ⊢;omega);rw[show w64 (0+1)=(([x]:TrL).length:u) from rfl,show ((x::xs).length:u)=(([x].length+xs.length:B):u) by simp;omega];rw[show (x::xs)=[x].reverse++xs from rfl,this];rfl
 have e0:j27 (l.length:u) 20 0 20 l=A ((l.length:u),20,0,l):=by rw[j7n];simp(disch:=omega)only[j0Y,S0]
 have e2:j28 (l.length:u) 20 (j6x l)=A (j6x l):=by rw[j7o];simp(disch:=omega)only[j0Z,S0]
 simp(disch:=omega)only[j0g,j2A,e0,hins,e2,S0]
def jr1(y:u):Bool:=K (y%4=0)&&(!K (y%100=0)||decide (y%400=0))
def jcA(y:u):Int:=if y%4=0/\(y%100≠0\/y%400=0) then 1 else 0
theorem jr2(y:u):jr1 y=J↔y%4=0/\(y%100≠0\/y%400=0):=by simp[jr1]
theorem jtB(y:u):jcA y=if jr1 y then 1 else 0:=by
 grind[jcA,jr2]
theorem jjF(y:u):0<=jcA y/\jcA y<=1:=by unfold jcA;split<;>omega
def dim(y m:u):Int:=
 if m<1\/12<m then 0 else if m=2 then 28+jcA y else if m=4\/m=6\/m=9\/m=11 then 30 else 31
def cnt(y:u):Int:=365*(y-1970)+(y-1)/4-(y-1)/100+(y-1)/400-477
def cum(y m:u):Int:=
 if m<=1 then 0 else if m=2 then 31 else if m=3 then 59+jcA y else if m=4 then 90+jcA y else if m=5 then 120+jcA y else if m=6 then 151+jcA y
 else if m=7 then 181+jcA y else if m=8 then 212+jcA y else if m=9 then 243+jcA y else if m=10 then 273+jcA y else if m=11 then 304+jcA y else if m=12 then 334+jcA y else 365+jcA y
def num(y m d:u):Int:=cnt y+cum y m+d-1
theorem jpc(y:u):cnt (y+1)=cnt y+365+jcA y:=by
 unfold cnt jcA;split<;>omega
theorem je5{a b:u}(h:a<=b):cnt a+365*(b-a)<=cnt b:=by unfold cnt;omega
theorem jDD{a b:u}(h:a<b):cnt a<cnt b:=by have:=je5 (a:=a) (b:=b) omg_;omega
theorem jfG(y m:u)(h1:1<=m)(h2:m<=12):cum y (m+1)=cum y m+dim y m:=by
 obtain rfl|rfl|rfl|rfl|rfl|rfl|rfl|rfl|rfl|rfl|rfl|rfl:m=1\/m=2\/m=3\/m=4\/m=5\/m=6\/m=7\/m=8\/m=9\/m=10\/m=11\/m=12:=omg_;all_goals (simp[cum,dim];try omega)
theorem j5e(y m:u):0<=dim y m/\dim y m<=31:=by
 have:=jjF y;grind[dim]
theorem jmR(y m:u)(h1:1<=m)(h2:m<=12):28<=dim y m:=by
 have:=jjF y;grind[dim]
theorem jdm(y m:u):0<=cum y m/\cum y m<=366:=by
 have:=jjF y;unfold cum;omega
theorem jx4(y:u):jkd y=A (jr1 y):=by
 have e:(cond (D y 4==(0:u)) (cond (D y 100 != (0:u)) J (D y 400==(0:u))) N)=jr1 y:=by grind[jr2]
 exact congrArg A e
theorem jmS(y m:u):j8E y m=A (dim y m):=by
 by_cases h:m<1\/12<m
 .grind[dim,j8E]
 .obtain rfl|rfl|rfl|rfl|rfl|rfl|rfl|rfl|rfl|rfl|rfl|rfl:m=1\/m=2\/m=3\/m=4\/m=5\/m=6\/m=7\/m=8\/m=9\/m=10\/m=11\/m=12:=omg_
  case inr.inl=>simp only[j8E,jx4,dim,jtB,j4];cases jr1 y<;>rfl
  all_goals rfl
theorem jzs(y m d:u):jcQ (y,m,d)=A (K (1970<=y/\y<=2240/\1<=d/\d<=dim y m)):=by
 grind[jcQ,jmS]
theorem jlr(a b:u)(hb:0<b)(h1 : -1000000000000<=a)(h2:a<=1000000000000):j9w a b=A (a/b):=by
 have hb0:(b==0)=false:=sqo_;obtain⟨e,p1,p2,p3,p4⟩:=tdm a b hb
 have hq : -1000000000000<=I a b/\I a b<=1000000000000:=by
  rcases Int.le_total 0 a with h|h
  .have h0:0<=a/b:=Ç h omg_;have h3:a/b<=a:=Ä b h;rw[jei h];omega
  .have h0:0<=(-a)/b:=Ç omg_ omg_;have h3:(-a)/b <= -a:=Ä b omg_;grind[Int.neg_tdiv]
 simp only[j9w,hb0,O,j6];rw[j07 (x:=I a b)];by_cases hm:D a b<0
 .rw[j00 hm,j6,j07];congr 1
  have:a/b=I a b-1:=by
   have h3:a=(a.tmod b+b)+b*(I a b-1):=by rw[Int.mul_sub];omega
   rw[h3,Â _ _ omg_,Á omg_ omg_];rw[<-h3];omega
  omega
 .rw[j01 hm,j7];congr 1;have h3:a=a.tmod b+b*I a b:=omg_
  have:a/b=I a b:=by
   conv=>lhs;rw[h3]
   rw[Â _ _ omg_,Á omg_ omg_];omega
  omega
theorem je6(y:u)(h1 : -1000000000<=y)(h2:y<=1000000000):j6t y=A (cnt y):=by
 simp only[j6t];rw[j07 (x:=y-1),j07 (x:=y-1970),jlr _ 4 omg_ omg_ omg_,jlr _ 100 omg_ omg_ omg_,jlr _ 400 omg_ omg_ omg_];simp only[j4];simp (disch:=omega) only[j24];rfl
theorem jr3(y m d:u)(hm:m<=13):∀(n:B)(s k:u),1<=k->k+n=m -> -1000000000000<=s->s+31*n<=1000000000000->jcR s k y m d=A (s+cum y m-cum y k)
 |0,s,k,hk,hn,_,_=>by
  rw[jdG];have:k=m:=omg_;subst this;simp(disch:=omega)only[j4X,S0];congr 1;omega
 |n+1,s,k,hk,hn,h1,h2=>by
  rw[jdG];have hd:=j5e y k;have hc:=jfG y k hk omg_;simp(disch:=omega)only[j4X,jmS,S0];have ih:=jr3 y m d hm n (s+dim y k) (k+1) omg_ omg_ omg_ omg_;rw[ih];congr 1;omega
theorem jx5(y m d:u)(h1 : -1000000<=y)(h2:y<=1000000)(hm1:1<=m)(hm2:m<=12)(hd1 : -1000000<=d)(hd2:d<=1000000):jdH (y,m,d)=A (num y m d):=by
 have hb : -1000000000<=cnt y/\cnt y<=1000000000:=by unfold cnt;omega
 simp only[jdH,je6 y omg_ omg_,j4];rw[j07 (x:=cnt y+d),j07,jr3 y m d omg_ (m-1).toNat _ 1 omg_ omg_ omg_ omg_];grind[cum,num]
theorem jo0(day:u):j71 day=A ((D day 7+10)%7):=by
 obtain⟨e,p1,p2,p3,p4⟩:=tdm day 7 omg_;simp(disch:=omega)only[j71,jks,S0]
theorem jhy(day:u)(_h : -3<=day):j71 day=A ((day+3)%7):=by
 grind[jo0]
def jl9(y m d:u):Prop:=1970<=y/\y<=2240/\1<=d/\d<=dim y m
instance(y m d:u):U (jl9 y m d):=by unfold jl9;infer_instance
theorem jdn{y m d:u}(h:jl9 y m d):1<=m/\m<=12:=by
 obtain⟨_,_,h3,h4⟩:=h;grind[dim]
theorem jx6{y m d:u}:K (1970<=y/\y<=2240/\1<=d/\d<=dim y m)=K (jl9 y m d):=rfl
theorem jdo{y m d:u}(h:jl9 y m d):0<=num y m d/\num y m d<98981:=by
 have hm:=jdn h;obtain⟨h1,h2,h3,h4⟩:=h;have hc:=jdm y m;have c1:=je5 (a:=1970) (b:=y) omg_;have c2:=je5 (a:=y) (b:=2240) omg_;have e1:cnt 1970=0:=by decide
 have hd:=j5e y m;have e2:cnt 2240=98615:=by decide
 have hcs:cum y m+dim y m<=365+jcA y:=by
  have:=jfG y m hm.1 hm.2;have:cum y (m+1)<=365+jcA y:=by have:=jjF y;unfold cum;omega
  omega
 grind[jpc,cnt,num]
theorem jx7:cnt 1970=0:=by decide
theorem jsq:cnt 2241=98981:=by decide
def nth(y m k w:u):Int:=
 let d:=num y m 1+(w-(num y m 1+3)%7+7)%7+7*(k-1)
 if d>=num y m 1+dim y m then d-7 else d
theorem jcJ(y m:u)(h1:1970<=y)(h2:y<=2240)(hm1:1<=m)(hm2:m<=12):jl9 y m 1:=⟨h1,h2,omg_,by have:=jmR y m hm1 hm2;omega⟩
theorem jDE(y m k w:u)(h1:1970<=y)(h2:y<=2240)(hm1:1<=m)(hm2:m<=12)(hk1:1<=k)(hk2:k<=5)(hw1:0<=w)(hw2:w<=6):jiZ y m k w=A (nth y m k w,0):=by
 have hv:=jcJ y m h1 h2 hm1 hm2;have hr:=jdo hv;have hd:=j5e y m;have hVal:jcQ (y,m,1)=A true:=by rw[jzs,jx6,decide_eq_true hv]
 simp only[jiZ,hVal,j4,X,j7];rw[j01 (show¬k<1 by omega),j01 (show¬k>5 by omega),j01 (show¬w<0 by omega),j01 (show¬w>6 by omega)];simp only[j7,jx5 y m 1 omg_ omg_ hm1 hm2 omg_ omg_,j4,jhy _ (show -3<=num y m 1 by omega),jmS];generalize hn:num y m 1=n at *;have hm7:0<=(n+3)%7/\(n+3)%7<=6:=omg_;rw[j07 (x:=w-(n+3)%7),j07 (x:=w-(n+3)%7+7),jks (show 0<=w-(n+3)%7+7 by omega)];rw[j07 (x:=k-1),j07 (x:=7*(k-1))];rw[j07 (x:=n+(w-(n+3)%7+7)%7),j07 (x:=n+(w-(n+3)%7+7)%7+7*(k-1)),j07 (x:=n+dim y m)];unfold nth;grind[S0]
def DOk(l:G u)(a:u):Prop:=0<=a/\a<=(l.length:u)/\l.length<=1000000
theorem j0J{l:G u}{a n:u}(h:DOk l a)(hn:1<=n)(hn2:n<=1000000000000):∃x a',j02 l a n=A (x,l,a')/\0<=x/\x<n/\DOk l a':=by
 obtain⟨h1,h2,h3⟩:=h;simp only[j02,show W (R l)=(l.length:u) from rfl];by_cases ha:a>=(l.length:u)
 .rw[j00 ha,j6];exact⟨0,a,rfl,omg_,omg_,h1,h2,h3⟩
 .rw[j01 ha,j7,j01 (show¬n<1 by omega),j7,j0B h1 omg_,j6,j3Z (show n≠0 by omega)];obtain⟨e,p1,p2,p3,p4⟩:=tdm (l.getD a.toNat 0) n omg_;rw[j07 (x:=a+1)];simp only[O,j6];by_cases ht:D (l.getD a.toNat 0) n<0
  .rw[j00 ht,j6,j07];exact⟨_,_,rfl,omg_,omg_,omg_,omg_,h3⟩
  .rw[j01 ht,j7];exact⟨_,_,rfl,omg_,omg_,omg_,omg_,h3⟩
theorem jb7{l:G u}{a:u}(h:DOk l a){xs:G u}(hx0:0<xs.length)(hx1:xs.length<=1000000):∃x a',j09 l a xs=A (x,l,a')/\x∈xs/\DOk l a':=by
 obtain⟨x,a',e,h1,h2,h3⟩:=j0J (n:=(xs.length:u)) h omg_ omg_;simp only[j09,show W (R xs)=(xs.length:u) from rfl,e,j4];rw[j0B h1 omg_,j6];have hlt:x.toNat<xs.length:=omg_;refine⟨_,_,rfl,?_,h3⟩;rw[S,List.getElem?_eq_getElem hlt];exact À hlt
theorem jx8:jhi=A true:=by kernel_rfl
abbrev Rule:=u×u×u×u×u×u×u
theorem in_t{n lo hi:u}(h1:lo<=n)(h2:n<=hi):j8Y n lo hi=A true:=by
 grind[j8Y]
theorem in_f{n lo hi:u}(h:¬(lo<=n/\n<=hi)):j8Y n lo hi=A false:=by
 grind[j8Y]
structure ROk(r:Rule):Prop where
 y0:1970<=r.1
 y1:r.1<=r.2.1
 y2:r.2.1<=2240
 m0:1<=r.2.2.1
 m1:r.2.2.1<=12
 k0:1<=r.2.2.2.1
 k1:r.2.2.2.1<=5
 d0:0<=r.2.2.2.2.1
 d1:r.2.2.2.2.1<=6
 s0:0<=r.2.2.2.2.2.1
 s1:r.2.2.2.2.2.1<=86399
 o0 : -64800<=r.2.2.2.2.2.2
 o1:r.2.2.2.2.2.2<=64800
theorem jC2{r:Rule}(h:ROk r):jbt r=A 0:=by
 simp only[jbt,in_t h.y0 (show r.1<=2240 by have:=h.y1;have:=h.y2;omega),in_t h.y1 h.y2,in_t h.m0 h.m1,in_t h.k0 h.k1,in_t h.d0 h.d1,in_t h.s0 h.s1,in_t h.o0 h.o1,j4,X,j7]
theorem jjG{y m k w:u}(_h1:1970<=y)(_h2:y<=2240)(hm1:1<=m)(hm2:m<=12)(hk1:1<=k)(hk2:k<=5):num y m 1<=nth y m k w/\nth y m k w<num y m 1+dim y m\/nth y m k w<num y m 1+35/\num y m 1<=nth y m k w:=by
 right;have hd:=jmR y m hm1 hm2;grind[nth]
def occ(r:Rule)(y:u):u×Int:=(nth y r.2.2.1 r.2.2.2.1 r.2.2.2.2.1*86400+r.2.2.2.2.2.1,r.2.2.2.2.2.2)
def occR(r:Rule):TrL:=(Z (r.2.1-r.1+1).toNat).map λ(i:B)=>occ r (r.1+(i:u))
def occs(l:G Rule):TrL:=l.flatMap occR
theorem jx9{r:Rule}(h:ROk r){y:u}(h1:1970<=y)(h2:y<=2240):0<=(occ r y).1/\(occ r y).1<=10000000000:=by
 have hv:=jdo (jcJ y r.2.2.1 h1 h2 h.m0 h.m1);have hs0:=h.s0;have hs1:=h.s1;have:=jjG (w:=r.2.2.2.2.1) h1 h2 h.m0 h.m1 h.k0 h.k1;have hd:=j5e y r.2.2.1;grind[occ]
theorem jC3{r:Rule}(h:ROk r):Sm (occR r):=by
 intro x hx;obtain⟨i,hi,rfl⟩:=List.mem_map.1 hx;have hi:=List.mem_range.1 hi;have h0:=h.y0;have h2:=h.y2;have:=jx9 h (y:=r.1+(i:u)) omg_ omg_;omega
theorem jsr{l:G Rule}(h:∀r∈l,ROk r):Sm (occs l):=by
 intro x hx;obtain⟨r,hr,hx⟩:=List.mem_flatMap.1 hx;exact jC3 (h r hr) x hx
theorem jAq{r:Rule}(h:ROk r)(rs:G Rule)(a b:u):∀(n:B)(i:B)(acc:TrL),r.1+(i:u)+n=r.2.1+1->acc.length+n<=100000->
  j9x (r.1+(i:u)) rs a b r.1 r.2.1 r.2.2.1 r.2.2.2.1 r.2.2.2.2.1 r.2.2.2.2.2.1 r.2.2.2.2.2.2 acc=A (rs,a,b,acc++(Z n).map λ(j:B)=>occ r (r.1+(i:u)+(j:u)))
 |0,i,acc,hi,_=>by
  rw[jaF];simp(disch:=omega)only[j2X,S0];simp
 |n+1,i,acc,hi,hl=>by
  have h0:=h.y0;have h2:=h.y2;have hs0:=h.s0;have hs1:=h.s1;have hv:=jdo (jcJ (r.1+(i:u)) r.2.2.1 omg_ omg_ h.m0 h.m1);have hn:=jjG (w:=r.2.2.2.2.1) (y:=r.1+(i:u)) omg_ omg_ h.m0 h.m1 h.k0 h.k1;have hd:=j5e (r.1+(i:u)) r.2.2.1;rw[jaF];simp only[j2X];rw[j00 (show r.1+(i:u)<=r.2.1 by omega),jDE _ _ _ _ omg_ omg_ h.m0 h.m1 h.k0 h.k1 h.d0 h.d1];simp(disch:=omega)only[S0];have ih:=jAq h rs a b n (i+1) (acc++[occ r (r.1+(i:u))]) omg_ sqo_;rw[show r.1+(i:u)+1=r.1+((i+1:B):u) by omega];refine ih.trans ?_
  have hmap:(Z n).map (λ(j:B)=>occ r (r.1+((i+1:B):u)+(j:u)))=(Z n).map ((λ(j:B)=>occ r (r.1+(i:u)+(j:u))) ∘ Nat.succ):=List.map_congr_left λj _=>by
   grind
  grind[List.range_succ_eq_map]
theorem jxa{rs:G Rule}(h:∀r∈rs,ROk r)(hlen:rs.length<=100):∀(n i:B)(acc:TrL),i+n=rs.length->acc.length<=300*i->
  j73 rs (rs.length:u) (i:u) acc=A (acc++occs (rs.drop i))
 |0,i,acc,hi,_=>by
  grind[jaG,j2Y,S0,occs]
 |n+1,i,acc,hi,hl=>by
  have hlt:i<rs.length:=omg_;have hr:=h rs[i] (À hlt);have h0:=hr.y0;have h1:=hr.y1;have h2:=hr.y2;have hg:rs.getD i (0,0,0,0,0,0,0)=rs[i]:=by simp[hlt]
  have hl4:=jAq hr rs (rs.length:u) (i:u) (rs[i].2.1-rs[i].1+1).toNat 0 acc omg_ omg_;rw[show rs[i].1+((0:B):u)=rs[i].1 by omega]at hl4;have ih:=jxa h hlen n (i+1) (acc++occR rs[i]) omg_ (by simp[occR];omega);rw[jaG];simp(disch:=omega)only[j2Y,hl4,F hlt,S0];refine ih.trans ?_;rw[Y];rfl
theorem jxb{rs:G Rule}(h:∀r∈rs,ROk r)(hlen:rs.length<=100)(nm:E)(o:u):∀(n i:B)(s:u),i+n=rs.length->0<=s->s<=300*i->
  j5v s rs (rs.length:u) (i:u) nm o rs=A (.inr (s+((occs (rs.drop i)).length:u),nm,o,rs))
 |0,i,s,hi,_,_=>by
  grind[j7R,j25,S0,occs]
 |n+1,i,s,hi,hs0,hs1=>by
  have hlt:i<rs.length:=omg_;have hr:=h rs[i] (À hlt);have h0:=hr.y0;have h1:=hr.y1;have h2:=hr.y2;have hg:rs.getD i (0,0,0,0,0,0,0)=rs[i]:=by simp[hlt]
  have ih:=jxb h hlen nm o n (i+1) (s+(rs[i].2.1-rs[i].1+1)) omg_ omg_ omg_;have hrule:jbt (rs[i].1,rs[i].2.1,rs[i].2.2.1,rs[i].2.2.2.1,rs[i].2.2.2.2.1,rs[i].2.2.2.2.2.1,rs[i].2.2.2.2.2.2)=A 0:=jC2 hr;rw[j7R];simp(disch:=omega)only[j25,hrule,S0];refine ih.trans ?_;rw[F hlt];grind[occs,occR]
theorem jnq{nm:E}{o:u}{rs:G Rule}(h:∀r∈rs,ROk r)(ho0 : -64800<=o)(ho1:o<=64800)(hlen:rs.length<=16)(hn:(occs rs).length<20):j3H (nm,o,rs)=A (j6x (occs rs),0):=by
 have e0:=jxb h omg_ nm o rs.length 0 0 omg_ omg_ omg_;have e2:=jxa h omg_ rs.length 0 [] omg_ smp_;grind[j3H,in_t,jjE,jsr,S0]
def outT(now:u):TrL->TrL
 |[]=>[]
 |x::r=>if x.2=now then outT now r else (x.1-now,x.2)::outT x.2 r
def Good(now:u)(p:M u):TrL->Prop
 |[]=>True
 |x::r=>if x.2=now then Good now p r else (-86400<x.2-now/\x.2-now<86400/\1000000<x.1-now/\x.1-now<=8589000000/\(∀q,p=A q->q+604800<=x.1-now) /\ -64800<=x.2/\x.2<=64800)/\Good x.2 (A (x.1-now)) r
theorem jpd(L:TrL)(hL:L.length<=1000):∀(n i:B)(now:u)(acc:TrL),i+n=L.length -> -64800<=now->now<=64800->acc.length<=i->(∀x∈acc,0<=x.1/\x.1<=8589934592)->Good now (acc.getLast?.map (·.1)) (L.drop i)->
  j5w now (L.length:u) (i:u) acc L=A (.inr (acc++outT now (L.drop i)))
 |0,i,now,acc,hi,_,_,_,_,_=>by
  grind[j5L,j1B,j0e,outT]
 |n+1,i,now,acc,hi,hn0,hn1,hal,hacc,hg=>by
  have hlt:i<L.length:=omg_;rw[F hlt]at hg ⊢;have hgd:L.getD i (0,0)=L[i]:=by simp[hlt]
  rw[j5L];simp only[j1B];rw[j00 (show (i:u)<(L.length:u) by omega),j2j];simp only[j6,j8,hgd];generalize L[i]=x at *;rw[j07 (x:=(i:u)+1)];simp only[Good]at hg;by_cases hx:x.2=now
  .rw[if_pos hx]at hg;rw[j8T hx];simp only[j6,j04,outT];rw[if_pos hx];exact jpd L hL n (i+1) now acc omg_ hn0 hn1 omg_ hacc hg
  .rw[if_neg hx]at hg;obtain⟨⟨g1,g2,g3,g4,g5,g6,g7⟩,g8⟩:=hg;rw[j3Z hx,j07 (x:=x.1-now),j07 (x:=x.2-now),j01 (show¬x.2-now>=86400 by omega),j01 (show¬x.2-now <= -86400 by omega)];simp only[j7,in_t (show (0:u)<=x.1-now by omega) (show x.1-now<=8589934592 by omega),j4,X,O,Bool.true_and,show W (R acc)=(acc.length:u) from rfl];rw[j07 (x:=(acc.length:u)-1)]
   have hnext:=jpd L hL n (i+1) x.2 (acc++[(x.1-now,x.2)]) omg_ g6 g7 sqo_
    (λy hy=>by
     grind) (by simpa using g8)
   have hout:outT now (x::L.drop (i+1))=(x.1-now,x.2)::outT x.2 (L.drop (i+1)):=by simp[outT,hx]
   rw[hout];rw[Y]at hnext;by_cases ha:acc=[]
   .grind[j03,j04]
   .have hpos:0<acc.length:=List.length_pos_iff.2 ha;have hlast:acc.getLast? = A (acc.getD (acc.length-1) (0,0)):=by grind
    rw[hlast]at g5;have g5:(acc.getD (acc.length-1) (0,0)).1+604800<=x.1-now:=g5 _ rfl;have hb:=hacc (acc.getD (acc.length-1) (0,0)) (List.mem_of_getLast? hlast);rw[j2j,j00 (show (acc.length:u)>0 by omega),show ((acc.length:u)-1).toNat=acc.length-1 by omega];simp only[Bool.true_or,j6];grind[j24,j03,j04]
def Chn(p:M u):TrL->Prop
 |[]=>True
 |x::r=>(1000000<x.1/\x.1<=8589000000/\(∀q,p=A q->q+604800<=x.1) /\ -64800<=x.2/\x.2<=64800)/\Chn (A x.1) r
theorem jss:∀(L:TrL)(now:u)(p:M u),Good now p L->Chn p (outT now L)
 |[],_,_,_=>trivial
 |x::r,now,p,h=>by
  simp only[Good]at h;by_cases hx:x.2=now
  .rw[if_pos hx]at h;simp only[outT];rw[if_pos hx];exact jss r now p h
  .rw[if_neg hx]at h;simp only[outT];rw[if_neg hx];obtain⟨⟨g1,g2,g3,g4,g5,g6,g7⟩,g8⟩:=h;exact⟨⟨g3,g4,g5,g6,g7⟩,jss r x.2 _ g8⟩
theorem jpe:∀(L:TrL)(now:u),(outT now L).length<=L.length
 |[],_=>Nat.le_refl _
 |x::r,now=>by
  simp only[outT];split
  .have:=jpe r now;simp;omega
  .have:=jpe r x.2;simp;omega
theorem jxc:∀(l:TrL)(p:M u),Chn p l->(∀i,i+1<l.length->tat l i+604800<=tat l (i+1))/\(∀i,i<l.length->1000000<tat l i/\tat l i<=8589000000)/\
  (∀o i, -64800<=o->o<=64800->i<=l.length -> -64800<=tof o l i/\tof o l i<=64800)
 |[],_,_=>⟨λi h=>by simp at h,λi h=>by simp at h,λo i h1 h2 h3=>by
  have:i=0:=by simpa using h3
  subst this;exact⟨h1,h2⟩⟩
 |x::r,p,h=>by
  obtain⟨⟨g3,g4,g5,g6,g7⟩,g8⟩:=h;obtain⟨h1,h2,h3⟩:=jxc r _ g8;refine⟨λi hi=>?_,λi hi=>?_,λo i ho0 ho1 hi=>?_⟩
  .cases i with
   |zero=>
    cases r with
    |nil=>simp at hi
    |cons y ys=>have:=g8.1.2.2.1 _ rfl;exact this
   |succ i=>exact h1 i (by simp at hi ⊢;omega)
  .cases i with
   |zero=>exact⟨g3,g4⟩
   |succ i=>exact h2 i (by simp at hi ⊢;omega)
  .cases i with
   |zero=>exact⟨ho0,ho1⟩
   |succ i=>
    cases i with
    |zero=>exact⟨g6,g7⟩
    |succ i=>exact h3 x.2 (i+1) g6 g7 (by simp at hi ⊢;omega)
theorem jC4{o:u}{l:TrL}(h:Chn Ê l)(hl:l.length<=1000)(h0 : -64800<=o)(h1:o<=64800):TOk o l:=by
 obtain⟨a,b,c⟩:=jxc l Ê h;exact⟨hl,a,λi hi=>(b i hi).1,λi hi=>(b i hi).2,λi hi=>(c o i h0 h1 hi).1,λi hi=>(c o i h0 h1 hi).2⟩
def ZTab(z:E×u×G Rule)(l:TrL):Prop:=j1A z=A (l,0)/\TOk z.2.1 l
theorem jC5{nm:E}{o:u}{rs:G Rule}(h:∀r∈rs,ROk r)(ho0 : -64800<=o)(ho1:o<=64800)(hlen:rs.length<=16)(hn:(occs rs).length<20)(hg:Good o Ê (j6x (occs rs))):ZTab (nm,o,rs) (outT o (j6x (occs rs))):=by
 have hl:(j6x (occs rs)).length<=1000:=by simp[j6x,j9P];omega
 refine⟨?_,jC4 (jss _ _ _ hg) (by grind[jpe]) ho0 ho1⟩;have:=jpd (j6x (occs rs)) hl (j6x (occs rs)).length 0 o [] omg_ ho0 ho1 smp_ smp_ hg;grind[j1A,jnq,S0]
theorem jFg{z:E×u×G Rule}{l:TrL}(h:ZTab z l):jmg z=A ((z.2.1,l),0):=by
 simp only[jmg,show j1A (z.1,z.2.1,z.2.2)=_ from h.1,j4]
theorem jAr{y m k w:u}(hm1:1<=m)(hm2:m<=12)(hk1:2<=k)(hk2:k<=5):num y m 1+7<=nth y m k w/\nth y m k w<=num y m 1+34:=by
 have hd:=jmR y m hm1 hm2;grind[nth]
theorem jxd{y m k w:u}(hm1:1<=m)(hm2:m<=12)(hk1:1<=k)(hk2:k<=4):num y m 1<=nth y m k w/\nth y m k w<=num y m 1+27:=by
 have hd:=jmR y m hm1 hm2;grind[nth]
theorem jAs{a b:u×u}(h:a.1<b.1):j6x [a,b]=[a,b]:=by
 grind[j6x,j4R,j9h]
theorem jAt{a b c d:u×u}(h1:a.1<c.1)(h2:c.1<b.1)(h3:b.1<d.1):j6x [a,b,c,d]=[a,c,b,d]:=by
 simp[j6x,j4R,j9h,show¬b.1<a.1 by omega,h2,show¬c.1<a.1 by omega,show¬d.1<b.1 by omega]
theorem jtC(r1 r2:Rule)(h1:r1.1=2025)(h2:r1.2.1=2025)(h3:r2.1=2025)(h4:r2.2.1=2025):occs [r1,r2]=[occ r1 2025,occ r2 2025]:=by
 simp_all[occs,occR]
theorem jtD(r1 r2:Rule)(h1:r1.1=2025)(h2:r1.2.1=2026)(h3:r2.1=2025)(h4:r2.2.1=2026):occs [r1,r2]=[occ r1 2025,occ r1 2026,occ r2 2025,occ r2 2026]:=by
 simp_all[occs,occR,Æ]
theorem j8U{now:u}{p:M u}{x:u×u}{r:TrL}(hx:x.2≠now)(h : -86400<x.2-now/\x.2-now<86400/\1000000<x.1-now/\x.1-now<=8589000000 /\ -64800<=x.2/\x.2<=64800)
  (hp:∀q,p=A q->q+604800<=x.1-now)(hr:Good x.2 (A (x.1-now)) r):Good now p (x::r):=by
 grind[Good]
theorem jxe{now:u}{p:M u}{x:u×u}{r:TrL}(hx:x.2=now)(hr:Good now p r):Good now p (x::r):=by
 grind[Good]
theorem jmT{P:u->Prop}:∀q,(Ê:M u)=A q->P q:=λ_ h=>by simp at h
theorem je7{P:u->Prop}{a:u}(h:P a):∀q,A a=A q->P q:=λq hq=>by simp_all
theorem n251:num 2025 1 1=20089:=by decide
theorem n261:num 2026 1 1=20454:=by decide
theorem n252:num 2025 2 1=20120:=by decide
theorem n253:num 2025 3 1=20148:=by decide
theorem n262:num 2026 2 1=20485:=by decide
theorem n263:num 2026 3 1=20513:=by decide
structure MZ(o:u)(rs:G Rule):Prop where
 o0 : -64800<=o
 o1:o<=64800
 ok:∀r∈rs,ROk r
 len:rs.length<=2
 yr:∀r∈rs,2025<=r.1
 few:(occs rs).length<=4
 good:Good o Ê (j6x (occs rs))
theorem MZ.tab{o:u}{rs:G Rule}(h:MZ o rs)(nm:E):ZTab (nm,o,rs) (outT o (j6x (occs rs))):=
 jC5 h.ok (by have:=h.o0;omega) (by have:=h.o1;omega) (by have:=h.len;omega) (by have:=h.few;omega) h.good
theorem mz0{o:u}(h0 : -43200<=o)(h1:o<=45000):MZ o []:=⟨omg_,omg_,smp_,smp_,smp_,by decide,trivial⟩
theorem ok2{r1 r2:Rule}(h1:ROk r1)(h2:ROk r2):∀r∈[r1,r2],ROk r:=by
 simp_all
theorem mz1{o last:u}(h0 : -43200<=o)(h1:o<=45000)(hl:last=2025\/last=2026):MZ o [(2025,last,3,5,6,7200,o+3600),(2025,last,10,5,6,10800,o)]:=by
 have a1:nth 2025 3 5 6=20177:=by decide
 have a2:nth 2025 10 5 6=20387:=by decide
 have a3:nth 2026 3 5 6=20541:=by decide
 have a4:nth 2026 10 5 6=20751:=by decide
 have hok:=ok2 (r1:=(2025,last,3,5,6,7200,o+3600)) (r2:=(2025,last,10,5,6,10800,o)) (by constructor<;>(dsimp only;omega)) (by constructor<;>(dsimp only;omega));rcases hl with rfl|rfl
 .have e:=jtC (2025,2025,3,5,6,7200,o+3600) (2025,2025,10,5,6,10800,o) rfl rfl rfl rfl;refine⟨omg_,omg_,hok,smp_,smp_,by rw[e];simp,?_⟩;rw[e,jAs (by simp only[occ];omega)];refine j8U (by simp only[occ];omega) (by simp only[occ];omega) jmT (j8U (by simp only[occ];omega) (by simp only[occ];omega) (je7 (by simp only[occ];omega)) trivial)
 .have e:=jtD (2025,2026,3,5,6,7200,o+3600) (2025,2026,10,5,6,10800,o) rfl rfl rfl rfl;refine⟨omg_,omg_,hok,smp_,smp_,by rw[e];simp,?_⟩;rw[e,jAt (by simp only[occ];omega) (by simp only[occ];omega) (by simp only[occ];omega)]
  refine j8U (by simp only[occ];omega) (by simp only[occ];omega) jmT (j8U (by simp only[occ];omega) (by simp only[occ];omega) (je7 (by simp only[occ];omega))
   (j8U (by simp only[occ];omega) (by simp only[occ];omega) (je7 (by simp only[occ];omega)) (j8U (by simp only[occ];omega) (by simp only[occ];omega) (je7 (by simp only[occ];omega)) trivial)))
theorem mz2{o last k1 w1 s1 c m2 k2 w2 s2:u}(h0 : -43200<=o)(h1:o<=45000)(hl:last=2025\/last=2026)(hk:1<=k1)(hk':k1<=4)(hw:0<=w1)(hw':w1<=6)(hs:0<=s1)(hs':s1<=82800)(hc:1800<=c)(hc':c<=14400)
  (hm:m2=2\/m2=3)(hj:2<=k2)(hj':k2<=5)(hx:0<=w2)(hx':w2<=6)(ht:0<=s2)(ht':s2<=82800):MZ o [(2025,last,1,k1,w1,s1,o+c),(2025,last,m2,k2,w2,s2,o)]:=by
 have hok:=ok2 (r1:=(2025,last,1,k1,w1,s1,o+c)) (r2:=(2025,last,m2,k2,w2,s2,o)) (by constructor<;>(dsimp only;omega)) (by constructor<;>(dsimp only;omega));have b1:=jxd (y:=2025) (m:=1) (k:=k1) (w:=w1) omg_ omg_ hk hk';have b2:=jxd (y:=2026) (m:=1) (k:=k1) (w:=w1) omg_ omg_ hk hk';have b3:=jAr (y:=2025) (m:=m2) (k:=k2) (w:=w2) omg_ omg_ hj hj';have b4:=jAr (y:=2026) (m:=m2) (k:=k2) (w:=w2) omg_ omg_ hj hj';have c1:20120<=num 2025 m2 1/\num 2025 m2 1<=20148:=by grind[n252,n253]
 have c2:20485<=num 2026 m2 1/\num 2026 m2 1<=20513:=by grind[n262,n263]
 rw[n251]at b1;rw[n261]at b2;rcases hl with rfl|rfl
 .have e:=jtC (2025,2025,1,k1,w1,s1,o+c) (2025,2025,m2,k2,w2,s2,o) rfl rfl rfl rfl;refine⟨omg_,omg_,hok,smp_,smp_,by rw[e];simp,?_⟩;rw[e,jAs (by simp only[occ];omega)];refine j8U (by simp only[occ];omega) (by simp only[occ];omega) jmT (j8U (by simp only[occ];omega) (by simp only[occ];omega) (je7 (by simp only[occ];omega)) trivial)
 .have e:=jtD (2025,2026,1,k1,w1,s1,o+c) (2025,2026,m2,k2,w2,s2,o) rfl rfl rfl rfl;refine⟨omg_,omg_,hok,smp_,smp_,by rw[e];simp,?_⟩;rw[e,jAt (by simp only[occ];omega) (by simp only[occ];omega) (by simp only[occ];omega)]
  refine j8U (by simp only[occ];omega) (by simp only[occ];omega) jmT (j8U (by simp only[occ];omega) (by simp only[occ];omega) (je7 (by simp only[occ];omega))
   (j8U (by simp only[occ];omega) (by simp only[occ];omega) (je7 (by simp only[occ];omega)) (j8U (by simp only[occ];omega) (by simp only[occ];omega) (je7 (by simp only[occ];omega)) trivial)))
theorem mz3{o w s x:u}(h0 : -43200<=o)(h1:o<=45000)(hw:0<=w)(hw':w<=6)(hs:0<=s)(hs':s<=84600)(hx0 : -64800<=x)(hx1:x<=64800)(hc0 : -86400<x-o)(hc1:x-o<86400):MZ o [(2026,2026,1,2,w,s,x)]:=by
 have b:=jxd (y:=2026) (m:=1) (k:=2) (w:=w) omg_ omg_ omg_ omg_;rw[n261]at b;have e:occs [((2026:u),(2026:u),(1:u),(2:u),w,s,x)]=[occ (2026,2026,1,2,w,s,x) 2026]:=by simp[occs,occR]
 refine⟨omg_,omg_,λr hr=>?_,smp_,smp_,by rw[e];simp,?_⟩
 .simp at hr;subst hr;constructor<;>(dsimp only;omega)
 .rw[e];have hi:j6x [occ (2026,2026,1,2,w,s,x) 2026]=[occ (2026,2026,1,2,w,s,x) 2026]:=by simp[j6x,j4R,j9h]
  rw[hi];by_cases hxo:x=o
  .exact jxe hxo trivial
  .exact j8U hxo (by simp only[occ];omega) jmT trivial
theorem jC6{L:G u}{a:u}(h:DOk L a)(nm:E):∃o rs a',jbg L a nm=A ((nm,o,rs),L,a')/\MZ o rs/\DOk L a':=by
 obtain⟨p,a1,e1,m1,d1⟩:=jb7 h (xs:=[(0:u),(4:u),(-20:u),(22:u),(48:u),(-47:u)]) smp_ smp_;obtain⟨x2,a2,e2,x20,x21,d2⟩:=j0J (n:=2) d1 omg_ omg_;obtain⟨x3,a3,e3,x30,x31,d3⟩:=j0J (n:=3) d2 omg_ omg_;obtain⟨y,a4,e4,y0,y1,d4⟩:=j0J (n:=2) d3 omg_ omg_;obtain⟨q,a5,e5,q0,q1,d5⟩:=j0J (n:=4) d4 omg_ omg_;have hp : -47<=p/\p<=48:=by simp at m1;omega
 have hmul:0<=x2*x3/\x2*x3<=2:=by obtain rfl|rfl:x2=0\/x2=1:=omg_;all_goals omega
 have ho0 : -43200<=900*(p+x2*x3):=omg_;have ho1:900*(p+x2*x3)<=45000:=omg_;have hlast:2025+y=2025\/2025+y=2026:=omg_;simp only[jbg,e1,e2,e3,e4,e5,j4];rw[j07 (x:=x2*x3),j07 (x:=p+x2*x3),j07 (x:=900*(p+x2*x3)),j07 (x:=2025+y)];generalize 900*(p+x2*x3)=o at *;generalize 2025+y=last at *;by_cases hq1:q=1
 .simp(disch:=omega)only[S0];grind[mz1]
 .rw[j3Z hq1,j7];by_cases hq2:q=2
  .rw[j8T hq2,j6];obtain⟨b1,c1,f1,b10,b11,g1⟩:=j0J (n:=4) d5 omg_ omg_;obtain⟨b2,c2,f2,b20,b21,g2⟩:=j0J (n:=7) g1 omg_ omg_;obtain⟨b3,c3,f3,b30,b31,g3⟩:=j0J (n:=24) g2 omg_ omg_;obtain⟨b4,c4,f4,b40,b41,g4⟩:=j0J (n:=8) g3 omg_ omg_;obtain⟨b5,c5,f5,b50,b51,g5⟩:=j0J (n:=2) g4 omg_ omg_;obtain⟨b6,c6,f6,m6,g6⟩:=jb7 g5 (xs:=[(2:u),(3:u),(5:u)]) smp_ smp_;obtain⟨b7,c7,f7,b70,b71,g7⟩:=j0J (n:=7) g6 omg_ omg_;obtain⟨b8,c8,f8,b80,b81,g8⟩:=j0J (n:=24) g7 omg_ omg_;have h6:2<=b6/\b6<=5:=by simp at m6;omega
   simp(disch:=omega)only[f1,f2,f3,f4,f5,f6,f7,f8,S0];exact⟨_,_,_,rfl,mz2 ho0 ho1 hlast omg_ omg_ b20 omg_ omg_ omg_ omg_ omg_ omg_ h6.1 h6.2 b70 omg_ omg_ omg_,g8⟩
  .rw[j3Z hq2,j7];by_cases hq3:q=3
   .rw[j8T hq3,j6];obtain⟨b1,c1,f1,m1,g1⟩:=jb7 d5 (xs:=[(3600:u),(-3600:u),(82800:u),(-82800:u),(43200:u)]) smp_ smp_;obtain⟨b2,c2,f2,b20,b21,g2⟩:=j0J (n:=7) g1 omg_ omg_;obtain⟨b3,c3,f3,b30,b31,g3⟩:=j0J (n:=48) g2 omg_ omg_;have hb1 : -82800<=b1/\b1<=82800:=by simp at m1;omega
    simp(disch:=omega)only[f1,f2,f3,S0];by_cases hbig:o+b1>64800\/o+b1 < -64800
    .have hb:cond (K (o+b1>64800)) J (K (o+b1 < -64800))=true:=by
      simp_all
     rw[hb,j6];grind[mz3]
    .simp(disch:=omega)only[S0];grind[mz3]
   .rw[j3Z hq3,j7];grind[mz0]
theorem jst:∀(L:TrL)(now:u)(p:M u),Good now p L->∀i,i<(outT now L).length -> -86400<tof now (outT now L) (i+1)-tof now (outT now L) i/\tof now (outT now L) (i+1)-tof now (outT now L) i<86400
 |[],_,_,_,i,hi=>by simp[outT]at hi
 |x::r,now,p,h,i,hi=>by
  simp only[Good]at h;by_cases hx:x.2=now
  .rw[if_pos hx]at h;have e:outT now (x::r)=outT now r:=by simp[outT,hx]
   rw[e]at hi ⊢;exact jst r now p h i hi
  .rw[if_neg hx]at h;have e:outT now (x::r)=(x.1-now,x.2)::outT x.2 r:=by simp[outT,hx]
   rw[e]at hi ⊢;obtain⟨⟨g1,g2,_⟩,g8⟩:=h;cases i with
   |zero=>exact⟨g1,g2⟩
   |succ i=>
    have:=jst r x.2 _ g8 i (by simpa using hi);cases i with
    |zero=>exact this
    |succ i=>exact this
section
variable{o:u}{l:TrL}(h:TOk o l)
include h
theorem jhz{i j:B}{t:u}(hi:i<=l.length)(hj:j<=l.length)(a1:frm l i<=t)(a2:t<frm l (i+1))(b1:frm l j<=t)(b2:t<frm l (j+1)):i=j:=by
 rcases Nat.lt_trichotomy i j with hij|hij|hij
 .have:=h.frm_le (i:=i+1) (j:=j) omg_ omg_;omega
 .exact hij
 .have:=h.frm_le (i:=j+1) (j:=i) omg_ omg_;omega
end
abbrev WL:=G (u×u)
def WOk(p:u):WL->Prop
 |[]=>p<=604800
 |x::r=>p<=x.1/\x.1<x.2/\x.2<=604800/\WOk x.2 r
def hasB(s:u):WL->Bool
 |[]=>N
 |x::r=>cond (cond (K (x.1<=s)) (K (s<x.2)) N) J (hasB s r)
theorem WOk.top{p:u}:∀{w:WL},WOk p w->p<=604800
 |[],h=>h
 |_::_,h=>by have:=h.1;have:=h.2.1;have:=h.2.2.1;omega
theorem WOk.weak{p q:u}(hq:q<=p):∀{w:WL},WOk p w->WOk q w
 |[],h=>by show q<=604800;have:p<=604800:=h;omega
 |_::_,h=>⟨by have:=h.1;omega,h.2⟩
theorem jix:∀{w:WL}{p:u},WOk p w->∀i,i<w.length->p<=(w.getD i (0,0)).1/\(w.getD i (0,0)).1<(w.getD i (0,0)).2/\(w.getD i (0,0)).2<=604800
 |[],_,_,i,hi=>by simp at hi
 |x::r,p,h,i,hi=>by
  obtain⟨h1,h2,h3,h4⟩:=h;cases i with
  |zero=>exact⟨h1,h2,h3⟩
  |succ i=>exact jix (h4.weak (show p<=x.2 by omega)) i (by simpa using hi)
theorem jxf:∀{w:WL}{p:u},WOk p w->∀i,i+1<w.length->(w.getD i (0,0)).2<=(w.getD (i+1) (0,0)).1
 |[],_,_,i,hi=>by simp at hi
 |x::[],_,_,i,hi=>by simp at hi
 |x::y::r,p,h,i,hi=>by
  cases i with
  |zero=>exact h.2.2.2.1
  |succ i=>exact jxf h.2.2.2 i (by simpa using hi)
theorem jo1{L:G u}:∀(n:B)(p a:u)(acc:WL),DOk L a->0<=p->p<=604800->acc.length+n<=100->
  ∃w a',j91 p (n:u) L a acc=A (L,a',acc++w)/\WOk p w/\w.length<=n/\DOk L a'
 |0,p,a,acc,hd,_,hp,_=>by
  rw[jab];simp(disch:=omega)only[j2G,S0];exact⟨[],a,smp_,hp,smp_,hd⟩
 |n+1,p,a,acc,hd,hp0,hp,ha=>by
  obtain⟨x,a1,e1,x0,x1,d1⟩:=j0J (n:=30) hd omg_ omg_;obtain⟨y,a2,e2,y0,y1,d2⟩:=j0J (n:=2) d1 omg_ omg_;obtain⟨q,a3,e3,m3,d3⟩:=jb7 d2 (xs:=[(3600:u),(28800:u),(43200:u),(86400:u),(61:u),(1:u)]) smp_ smp_;have hq:1<=q/\q<=86400:=by simp at m3;omega
  rw[jab];simp only[j2G];rw[j00 omg_];simp only[j6,e1,e2,e3,j4];rw[j07 (x:=3600*x),j07 (x:=p+3600*x),j07 (x:=60*y),j07 (x:=p+3600*x+60*y),j07 (x:=p+3600*x+60*y+q),j07 (x:=((n+1:B):u)-1)];by_cases hbig:p+3600*x+60*y+q>604800
  .rw[j00 hbig,j6,j0e];exact⟨[],a3,smp_,hp,smp_,d3⟩
  .simp(disch:=omega)only[S0];obtain⟨w,a4,e4,hw,hwl,d4⟩:=jo1 n (p+3600*x+60*y+q) a3 (acc++[(p+3600*x+60*y,p+3600*x+60*y+q)]) d3 omg_ omg_ sqo_;rw[show ((n+1:B):u)-1=(n:u) by omega];refine⟨(p+3600*x+60*y,p+3600*x+60*y+q)::w,a4,by rw[e4,Y];rfl,⟨by dsimp only;omega,by dsimp only;omega,by dsimp only;omega,hw⟩,sqo_,d4⟩
theorem jku{L:G u}{a:u}(h:DOk L a):∃w a',j5p L a=A (w,L,a')/\WOk 0 w/\w.length<=3/\DOk L a':=by
 obtain⟨x,a1,e1,x0,x1,d1⟩:=j0J (n:=4) h omg_ omg_;obtain⟨w,a',e2,h1,h2,h3⟩:=jo1 x.toNat 0 a1 [] d1 omg_ omg_ sqo_;rw[show ((x.toNat:B):u)=x by omega,List.nil_append]at e2;simp only[j5p,e1,j4,e2];exact⟨w,a',rfl,h1,omg_,h3⟩
theorem jkv{L:G u}{a:u}(h:DOk L a):∃t a',j5q L a=A (t,L,a')/\1767139199<=t/\t<=1767139200+3600*575+3599/\DOk L a':=by
 obtain⟨x,a1,e1,x0,x1,d1⟩:=j0J (n:=576) h omg_ omg_;obtain⟨y,a2,e2,y0,y1,d2⟩:=j0J (n:=3) d1 omg_ omg_;obtain⟨q,a3,e3,m3,d3⟩:=jb7 d2 (xs:=[(-1:u),(1:u),(1800:u),(3599:u)]) smp_ smp_;have hq : -1<=q/\q<=3599:=by simp at m3;omega
 simp only[j5q,e1,j4,j1f,e2,e3];rw[j07 (x:=3600*x),j07 (x:=1767139200+3600*x),j07 (x:=1767139200+3600*x+q)];cases (y==w64 (3-1)) with
 |true=>exact⟨_,_,rfl,omg_,omg_,d3⟩
 |false=>exact⟨_,_,rfl,omg_,omg_,d2⟩
theorem jAu{w:WL}(hl:w.length<=14)(s:u):∀(n i:B),i+n=w.length->jih s w (w.length:u) (i:u)=A (cond (hasB s (w.drop i)) (.inl J) (.inr ()))
 |0,i,hi=>by
  rw[jhH];simp(disch:=omega)only[j7t,List.drop_of_length_le,S0];rfl
 |n+1,i,hi=>by
  have hlt:i<w.length:=omg_;have hgd:w.getD i (0,0)=w[i]:=by simp[hlt]
  have ih:=jAu hl s n (i+1) omg_;rw[jhH];simp(disch:=omega)only[F hlt,j7t,hasB,S0];cases hb:cond (K (w[i].1<=s)) (K (s<w[i].2)) N with
  |true=>simp only[j6,j0e]
  |false=>simp only[j7,j04];exact ih
theorem jDF{w:WL}(hl:w.length<=14)(s:u):jj3 w s=A (hasB s w):=by
 have:=jAu hl s w.length 0 omg_;rw[show ((0:B):u)=0 from rfl,List.drop_zero]at this;simp(disch:=omega)only[jj3,this,S0];cases hasB s w<;>rfl
end Go.Proofs.Pw
