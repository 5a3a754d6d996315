/- week.SecondOf as a plain function, for seats that do not reach it (PwDTm and others state their lemmas by it). Not to be used where PwFns prints it. -/
import Derived.Test.YtgepoeafaklbjaaGreatPFFns
import Derived.Test.YtgepoeafaklbjaaGreatPFLD
open _root_ renaming Int->u,Nat->B,ByteArray->D,List->E,Option->M,Decidable->Y
open Option renaming some->A,none->Í
open Int renaming tmod->F,tdiv->I,ofNat->U,ediv_eq_zero_of_lt->Ã,add_mul_ediv_left->Ä,tmod_lt_of_pos->Å,ediv_le_self->Æ,tmod_nonneg->Ç,ediv_nonneg->Ê,neg_tmod->Ë
open List renaming length_cons->G,drop_eq_getElem_cons->H,getElem_mem->N,length->R,getD_eq_getElem?_getD->X,append_assoc->À,getElem?_eq_getElem->Á,range->Â,map_append->È,range_succ->É,set->Î
open Bool renaming not_false->J,not_true->O,true->S,false->Z
open Decidable renaming decide->W
open Go Go.Lft
namespace Go.Proofs.Pw
def j7P(a0_l:(u×u)):M (u):=
 (j6a a0_l.1).bind λr5=>
 let t6:Int:=(w64 (r5*(86400:u)))
 let t9:Int:=(w64 (t6+a0_l.2))
 A t9
theorem tdm(a b:u)(hb:0<b):b*I a b+F a b=a/\(0<=a->0<=F a b)/\(a<=0->F a b<=0)/\F a b<b /\ -b<F a b:=by
 have h1:=Int.mul_tdiv_add_tmod a b;have h2:0<=a->0<=F a b:=λh=>Ç b h
 have h3:a<=0->F a b<=0:=λh=>by
  have:=Ç (a:= -a) b omg_;rw[Ë]at this;omega
 have h4:=Å a hb;have h5 : -b<F a b:=by have:=Å (-a) hb;rw[Ë]at this;omega
 exact⟨h1,h2,h3,h4,h5⟩
theorem jcm{a b:u}(ha:0<=a):I a b=a/b:=Int.tdiv_eq_ediv_of_nonneg ha
theorem jfR{a b:u}(ha:0<=a):F a b=a%b:=Int.tmod_eq_emod_of_nonneg ha
theorem jpt(a b:u):(F a b==0)=(a%b==0):=by
 rw[Bool.eq_iff_iff];simp only[beq_iff_eq];rw[<-Int.dvd_iff_tmod_eq_zero,<-Int.dvd_iff_emod_eq_zero]
theorem j00{p:Prop}[Y p](h:p):decide p=true:=decide_eq_true h
theorem j01{p:Prop}[Y p](h:¬p):decide p=false:=decide_eq_false h
theorem j43{a b:u}(h:a=b):(a==b)=true:=by simp[h]
theorem j1G{a b:u}(h:a≠b):(a==b)=false:=by simp[h]
theorem j0X{i:u}{n:B}(h1:0<=i)(h2:i<n):inR i n=true:=by simp[inR,h1,h2]
theorem S0:(∀(p:Prop)[Y p],p->decide p=S)/\(∀(p:Prop)[Y p],¬p->decide p=Z)/\(∀(i:u)(n:B),0<=i->i<n->inR i n=S)/\(∀x:u, -9223372036854775808<=x->x<=9223372036854775807->w64 x=x)/\(∀a b:u,a=b->(a==b)=S)/\(∀a b:u,a≠b->(a==b)=Z)/\
 (∀n:B,n<=4294967296->W (n<=j02)=S)/\(∀{α:Type}(a:α)(l:E α),(a::l).length=l.length+1)/\(∀α:Type,([]:E α).length=0)/\(∀{α:Type}(l:E α)(d:α)(i:B)(_:i<l.length),l.getD i d=l[i])/\
 (∀{α β:Type}(s:α)(f:α->M β),lpK (A (.inl s)) f=f s)/\(∀{α β:Type}(x:β)(f:α->M β),lpK (A (.inr x)) f=A x)/\(∀{α β γ:Type}(x:α)(f:α->γ)(g:β->γ),sumC (.inl x) f g=f x)/\(∀{α β γ:Type}(x:β)(f:α->γ)(g:β->γ),sumC (.inr x) f g=g x)/\
 (∀{α:Type}(a b:α),cond S a b=a)/\(∀{α:Type}(a b:α),cond Z a b=b)/\(∀{α β:Type}(a:α)(f:α->M β),(A a).bind f=f a)/\(∀n:B,Int.toNat (n:u)=n)/\(∀n:B,U n=(n:u))/\(∀a b:u,(a != b) = !(a==b))/\(!S)=Z/\(!Z)=true:=
 ⟨λ_ _ h=>decide_eq_true h,λ_ _ h=>decide_eq_false h,λ_ _=>j0X,λ_=>j4N,λ_ _=>j43,λ_ _=>j1G,λ_ h=>decide_eq_true h,λ_ _=>rfl,λ_=>rfl,λ_ _ _ _=>(List.getElem_eq_getD _).symm,λ_ _=>rfl,λ_ _=>rfl,λ_ _ _=>rfl,λ_ _ _=>rfl,λ_ _=>rfl,λ_ _=>rfl,λ_ _=>rfl,λ_=>rfl,λ_=>rfl,λ_ _=>rfl,rfl,rfl⟩
theorem j05{x:u}(h1 : -9223372036854775808<=x:=by omega)(h2:x<=9223372036854775807:=by omega):w64 x=x:=j4N h1 h2
theorem j0O{i:u}{n:B}(h1:0<=i:=by omega)(h2:i<n:=by omega):inR i n=true:=j0X h1 h2
def jdT(ks:E D):E (D×Bool):=ks.map λk=>(k,S)
def NmL(ks:E D):Prop:=ks.Nodup/\∀k∈ks,j8O k=A S
theorem jvM{s:D}:∀{l:E D},s∉l->j1x Z (jdT l) s=Z/\j2Y (jdT l) s S=jdT (l++[s])
 |[],_=>⟨rfl,rfl⟩
 |k::l,h=>by
  simp only[List.mem_cons,not_or]at h;obtain⟨h1,h2⟩:=jvM (l:=l) h.2;have hb:(s==k)=false:=Bool.eq_false_iff.2 λhh=>h.1 ((MapKept.bytes_beq s k).1 hh);refine⟨?_,?_⟩
  .show cond (s==k) S (j1x Z (jdT l) s)=Z;rw[hb];exact h1
  .show cond (s==k) ((s,S)::jdT l) ((k,S)::j2Y (jdT l) s S)=_;rw[hb,j7,h2];rfl
theorem jj2{α:Type}(f:α->D){xs:E α}(h:NmL (xs.map f)){i:B}(hi:i<xs.length):j4V (f xs[i]) (jdT ((xs.take i).map f))=A (0,jdT ((xs.take (i+1)).map f)):=by
 have hm:f xs[i]∈xs.map f:=List.mem_map_of_mem (N hi)
 have hn:f xs[i]∉(xs.take i).map f:=by
  intro hx;have hs:xs.map f=(xs.take i).map f++(f xs[i]::(xs.drop (i+1)).map f):=by rw[<-List.map_cons,<-È,List.getElem_cons_drop hi,List.take_append_drop]
  have:=h.1;rw[hs,List.nodup_append]at this;exact this.2.2 _ hx _ smp_ rfl
 obtain⟨h1,h2⟩:=jvM hn;simp only[j4V,h.2 _ hm,j4,O,j7,h1,h2];rw[List.take_add_one,Á hi,È];rfl
abbrev TrL:=E (u×u)
def tat(l:TrL)(i:B):Int:=(l.getD i (0,0)).1
def tof(o:u)(l:TrL)(i:B):Int:=if i=0 then o else (l.getD (i-1) (0,0)).2
def frm(l:TrL)(i:B):Int:=if i=0 then 0 else if i<=l.length then tat l (i-1) else 8589934593
structure TOk(o:u)(l:TrL):Prop where
 len:l.length<=1000
 gap:∀i,i+1<l.length->tat l i+604800<=tat l (i+1)
 pos:∀i,i<l.length->1000000<tat l i
 max:∀i,i<l.length->tat l i<=8589000000
 of0:∀i,i<=l.length -> -64800<=tof o l i
 of1:∀i,i<=l.length->tof o l i<=64800
section
variable{o:u}{l:TrL}(h:TOk o l)
include h
theorem TOk.at_lt:∀(k i:B),i+k+1<l.length->tat l i+604800<=tat l (i+k+1)
 |0,i,hk=>h.gap i hk
 |k+1,i,hk=>by
  have h1:=TOk.at_lt k i omg_;have h2:=h.gap (i+k+1) omg_;rw[show i+(k+1)+1=i+k+1+1 by omega];omega
theorem TOk.at_le{i j:B}(hij:i<j)(hj:j<l.length):tat l i+604800<=tat l j:=by
 have:=h.at_lt (j-i-1) i omg_;grind
omit h in
theorem frm0:frm l 0=0:=rfl
omit h in
theorem jdi{i:B}(hi:i<l.length):frm l (i+1)=tat l i:=by
 grind[frm]
omit h in
theorem j81:frm l (l.length+1)=8589934593:=by
 grind[frm]
theorem TOk.frm_lt{i:B}(hi:i<=l.length):frm l i<frm l (i+1):=by
 rcases Nat.lt_or_ge i l.length with hl|hl
 .rw[jdi hl];cases i with
  |zero=>rw[frm0];exact(by have:=h.pos 0 hl;omega)
  |succ i=>rw[jdi omg_];have:=h.gap i hl;omega
 .have:i=l.length:=omg_;subst this;rw[j81];cases hq:l.length with
  |zero=>rw[frm0];omega
  |succ n=>rw[jdi omg_];have:=h.max n omg_;omega
theorem TOk.frm_le{i j:B}(hij:i<=j)(hj:j<=l.length+1):frm l i<=frm l j:=by
 induction j with
 |zero=>simp_all
 |succ j ih=>
  by_cases he:i=j+1
  .subst he;omega
  .have h1:=ih omg_ omg_;have h2:=h.frm_lt (i:=j) omg_;omega
theorem jlt{t:u}{k:B}(hk:k<=l.length)(hlo:∀i,i<k->tat l i<=t)(hhi:∀i,k<=i->i<l.length->t<tat l i) :
  ∀(n:B)(a b:B),b-a<=n->a<=k->k<=b->b<=l.length->jaj o l t (a:u) (b:u)=A (k:u)
 |0,a,b,hn,ha,hb,hbl=>by
  grind[jdF,j3g,j06]
 |n+1,a,b,hn,ha,hb,hbl=>by
  have hlen:=h.len;rw[jdF];by_cases hab:a<b
  .have hm:IntKind.wrap .u64 ((a:u)+(b:u))=(a:u)+(b:u):=IntWalk.u64_in _ ⟨omg_,omg_⟩;have hd:Int.fdiv ((a:u)+(b:u)) 2=(((a+b)/2:B):u):=by grind
   simp only[j3g,j00 (show (a:u)<(b:u) by omega),j6];rw[j4N (x:=(a:u)+(b:u)) omg_ omg_,hm,hd,j4N (x:=(((a+b)/2:B):u)) omg_ omg_];simp only[j8E];rw[j0X omg_ omg_];simp only[j6,j4,j8];by_cases hc:tat l ((a+b)/2)>t
   .rw[j00 (show (l.getD ((a+b)/2) (0,0)).1>t from hc)];simp only[O,j7,j03];have hkm:k<=(a+b)/2:=by grind
    exact jlt hk hlo hhi n a ((a+b)/2) omg_ ha hkm omg_
   .rw[j01 (show¬(l.getD ((a+b)/2) (0,0)).1>t from hc)];simp only[J,j6,j03];rw[j4N omg_ omg_];have hkm:(a+b)/2<k:=by grind
    exact jlt hk hlo hhi n ((a+b)/2+1) b omg_ omg_ hb hbl
  grind[j3g,j06]
theorem jnT{t:u}{k:B}(hk:k<=l.length)(h1:frm l k<=t)(h2:t<frm l (k+1)):j6x (o,l) t=A (k:u):=by
 have hlo:∀i,i<k->tat l i<=t:=by
  intro i hi;have:frm l k=tat l (k-1):=by have:=jdi (l:=l) (i:=k-1) omg_;grind
  rw[this]at h1;by_cases he:i=k-1
  .subst he;exact h1
  .have:=h.at_le (i:=i) (j:=k-1) omg_ omg_;omega
 have hhi:∀i,k<=i->i<l.length->t<tat l i:=by
  intro i hi hl;have:frm l (k+1)=tat l k:=jdi omg_;rw[this]at h2;by_cases he:i=k
  .subst he;exact h2
  .have:=h.at_le (i:=k) (j:=i) omg_ hl;omega
 have:=jlt h hk hlo hhi l.length 0 l.length omg_ omg_ hk omg_;grind[j6x,jgS]
theorem jlu{k:B}(hk:k<=l.length):j4u (o,l) (k:u)=A (tof o l k):=by
 have hlen:=h.len;unfold tof;by_cases h0:k=0
 .subst h0;rfl
 .simp only[j4u];rw[j1G (show (k:u)≠0 by omega),j7,j4N omg_ omg_,j0X omg_ omg_,show ((k:u)-1).toNat=k-1 by omega,if_neg h0];rfl
theorem jvN{t:u}{k:B}(hk:k<=l.length)(h1:frm l k<=t)(h2:t<frm l (k+1)):j7K (o,l) t=A (tof o l k):=by
 grind[j7K,jnT,jlu]
theorem jaq{t:u}(h0:0<=t)(h1:t<=8589934592):∃k,k<=l.length/\frm l k<=t/\t<frm l (k+1):=by
 have _:=h;have:∀n,n<=l.length+1->t<frm l n->∃k,k<n/\frm l k<=t/\t<frm l (k+1):=by intro n;induction n<;>grind[frm]
 have hlast:frm l (l.length+1)=8589934593:=j81;grind
def pc(o:u)(l:TrL)(i:B):u×u×Int:=(frm l i,frm l (i+1),tof o l i)
def pcs(o:u)(l:TrL)(n:B):E (u×u×u):=(Â n).map (pc o l)
omit h in
theorem js1(n:B):pcs o l (n+1)=pcs o l n++[pc o l n]:=by simp[pcs,É]
omit h in
theorem jhb(n:B):(pcs o l n).length=n:=by simp[pcs]
omit h in
theorem jqT{n i:B}(hi:i<n):(pcs o l n).getD i (0,0,0)=pc o l i:=by
 grind[pcs]
theorem jpu:∀(n k:B),k+n=l.length+1->j2W (frm l k) 8589934593 o l (pcs o l k)=A (pcs o l (l.length+1))
 |0,k,hk=>by
  grind[j81,j1S,j0F,j06]
 |n+1,k,hk=>by
  have hlen:=h.len;have hkl:k<=l.length:=omg_;have hlt:=h.frm_lt hkl;have hle:=h.frm_le (i:=k+1) (j:=l.length+1) omg_ omg_;have hlast:frm l (l.length+1)=8589934593:=j81;have ih:=jpu n (k+1) omg_;rw[j1S];simp only[j0F];rw[j00 (show frm l k<8589934593 by omega),jnT h hkl omg_ hlt];simp only[j6,j4,show U (R l)=(l.length:u) from rfl,jlu h hkl];by_cases hlast2:k<l.length
  .rw[j00 (show (k:u)<(l.length:u) by omega),j0X omg_ omg_];simp only[j6,j8];have hto:(if (l.getD k (0,0)).1<8589934593 then (l.getD k (0,0)).1 else 8589934593)=frm l (k+1):=by grind[tat,jdi]
   rw[hto,j00 (by grind[jhb,j02])];simp only[j6,j03];rw[js1]at ih;exact ih
  grind[jhb,j02,j03,js1,pc]
theorem jpv:j1T (o,l) 0 8589934593=A (pcs o l (l.length+1)):=by
 have:=jpu h (l.length+1) 0 omg_;simp only[j1T];rw[show j2W 0 8589934593 o l []=_ from this];rfl
def Sol(o:u)(l:TrL)(s:u)(i:B):Prop:=frm l i<=s-tof o l i/\s-tof o l i<frm l (i+1)
instance(o:u)(l:TrL)(s:u)(i:B):Y (Sol o l s i):=by unfold Sol;infer_instance
omit h in
theorem jj3{d c:u}(hd : -1000000<=d)(hd2:d<=1000000)(hc : -86400<=c)(hc2:c<=172800):j4p (d,c)=A (d*86400+c):=by
 grind[j4p,j4N]
theorem js2{d c:u}(hd : -1000000<=d)(hd2:d<=1000000)(hc : -86400<=c)(hc2:c<=172800){k:B}(hk:k<=l.length)(hks:d*86400+c-tof o l k<frm l (k+1))(hbef:∀j,j<k->frm l (j+1)<=d*86400+c-tof o l j) :
  ∀(n i:B),i+n=k->j6f ((l.length+1:B):u) (i:u) d c (pcs o l (l.length+1))=A (.inl (max (frm l k) (d*86400+c-tof o l k),S))
 |0,i,hi=>by
  have hlen:=h.len;have:i=k:=omg_;subst this;have o1:=h.of0 i hk;have o2:=h.of1 i hk;have hlt:=h.frm_lt hk;rw[j4M];simp only[j1m];rw[j00 (show (i:u)<((l.length+1:B):u) by omega),j0X omg_ (by rw[jhb];omega)];simp only[j6,j8,jqT (show i<l.length+1 by omega),jj3 hd hd2 hc hc2,j4,pc];grind[j4N,j06]
 |n+1,i,hi=>by
  have hlen:=h.len;have hil:i<=l.length:=omg_;have o1:=h.of0 i hil;have o2:=h.of1 i hil;have hb:=hbef i omg_;rw[j4M];simp only[j1m];rw[j00 (show (i:u)<((l.length+1:B):u) by omega),j0X omg_ (by rw[jhb];omega)];simp only[j6,j8,jqT (show i<l.length+1 by omega),jj3 hd hd2 hc hc2,j4,pc];rw[j4N (x:=d*86400+c-tof o l i) omg_ omg_,j4N (x:=(i:u)+1) omg_ omg_];have hm:(if d*86400+c-tof o l i>frm l i then d*86400+c-tof o l i else frm l i)=max (frm l i) (d*86400+c-tof o l i):=by split<;>omega
  rw[hm,j01 omg_,j7,j03];exact js2 hd hd2 hc hc2 hk hks hbef n (i+1) omg_
theorem jyf{d c:u}(hd : -1000000<=d)(hd2:d<=1000000)(hc : -86400<=c)(hc2:c<=172800){k:B}(hk:k<=l.length)(hks:d*86400+c-tof o l k<frm l (k+1))(hbef:∀j,j<k->frm l (j+1)<=d*86400+c-tof o l j) :
  j2Z (o,l) (d,c)=A (max (frm l k) (d*86400+c-tof o l k),S):=by
 have:=js2 h hd hd2 hc hc2 hk hks hbef k 0 omg_;simp only[j2Z,jpv h,j4,jhb,show U (R l+1)=((l.length+1:B):u) from rfl];rw[show (0:u)=((0:B):u) from rfl,this];rfl
omit h in
theorem jyg{n:u}(h1 : -1000000000000<=n)(h2:n<=1000000000000):jg4 n=A (n/86400,n%86400):=by
 grind[jg4,j4N]
theorem jge{t:u}{k:B}(hk:k<=l.length)(h1:frm l k<=t)(h2:t<frm l (k+1)):j1B (o,l) t=A ((t+tof o l k)/86400,(t+tof o l k)%86400):=by
 have o1:=h.of0 k hk;have o2:=h.of1 k hk;have g1:0<=frm l k:=by have:=h.frm_le (i:=0) (j:=k) omg_ omg_;grind[frm]
 have hlast:frm l (l.length+1)=8589934593:=j81;have g2:=h.frm_le (i:=k+1) (j:=l.length+1) omg_ omg_;grind[j1B,jvN,j4N,jyg]
end
def ja2(x:u×u):TrL->TrL
 |[]=>[x]
 |y::ys=>if x.1<y.1 then y::ja2 x ys else x::y::ys
def j4o:TrL->TrL->TrL
 |[],acc=>acc
 |x::xs,acc=>j4o xs (ja2 x acc)
def j8g(l:TrL):TrL:=(j4o l []).reverse
theorem jdU(x:u×u):∀l,(ja2 x l).length=l.length+1
 |[]=>rfl
 |y::ys=>by unfold ja2;split<;>simp[jdU x ys]
theorem jaO:∀(l acc:TrL),(j4o l acc).length=l.length+acc.length
 |[],acc=>by simp[j4o]
 |x::xs,acc=>by simp only[j4o,jaO xs,jdU,G];omega
def Sm(l:TrL):Prop:=∀x∈l, -1000000000000<=x.1/\x.1<=1000000000000
theorem jpw{x:u×u}(hx : -1000000000000<=x.1/\x.1<=1000000000000):∀{l:TrL},Sm l->Sm (ja2 x l)
 |[],_=>λy hy=>by simp[ja2]at hy;subst hy;exact hx
 |z::zs,h=>by
  unfold ja2;split
  .intro y hy;rcases List.mem_cons.1 hy with rfl|hy
   .exact h _ smp_
   .exact jpw hx (l:=zs) (λw hw=>h w (by simp[hw])) y hy
  .intro y hy;rcases List.mem_cons.1 hy with rfl|hy
   .exact hx
   .exact h y hy
theorem jAM(rp mid:TrL)(x:u×u):(rp.reverse++x::mid).getD rp.length (0,0)=x:=by
 rw[X,List.getElem?_append_right smp_];simp
theorem jzg(n s8:u)(x:u×u)(hx : -1000000000000<=x.1/\x.1<=1000000000000):∀(rp mid:TrL),Sm rp->rp.length+mid.length<=1000->
  j1g 0 n s8 (rp.length:u) (rp.reverse++x::mid)=A (0,n,s8,(ja2 x rp).reverse++mid)
 |[],mid,_,_=>by
  rw[j1X];simp(disch:=omega)only[S0];rfl
 |y::ys,mid,hsm,hlen=>by
  have hy:=hsm y smp_;have hL:((y::ys).reverse++x::mid).length=ys.length+1+(mid.length+1):=sqo_;simp only[G]at hlen;rw[j1X];simp only[j0t,G];rw[j00 (show ((ys.length+1:B):u)>0 by omega),j0X omg_ (by rw[hL];omega),j05 (x:=((ys.length+1:B):u)-1),j0X omg_ (by rw[hL];omega)];simp only[j6,j8];have g1:((y::ys).reverse++x::mid).getD (ys.length+1) (0,0)=x:=jAM (y::ys) mid x;have g2:((y::ys).reverse++x::mid).getD ((((ys.length+1:B):u)-1).toNat) (0,0)=y:=by simp(disch:=omega)only[S0];simp
  simp(disch:=omega)only[g1,g2,j8B,S0];by_cases hc:x.1<y.1
  .simp(disch:=omega)only[S0];have hset:Î (Î ((y::ys).reverse++x::mid) (ys.length+1) (y.1,y.2)) ((((ys.length+1:B):u)-1).toNat) (x.1,x.2)=ys.reverse++x::(y::mid):=by rw[show (((ys.length+1:B):u)-1).toNat=ys.length by omega];simp
   rw[j0X omg_ (by rw[List.length_set,hL];omega)];simp only[j6,j03,hset];have he:=jzg n s8 x hx ys (y::mid) (λz hz=>hsm z (by simp[hz])) sqo_;rw[show ((ys.length+1:B):u)-1=(ys.length:u) by omega,he];simp[ja2,hc]
  .simp(disch:=omega)only[S0];simp[ja2,hc]
theorem jzh:∀(xs rp:TrL),Sm rp->Sm xs->rp.length+xs.length<=1000->
  j1h 0 ((rp.length+xs.length:B):u) (rp.length:u) (rp.reverse++xs)=A (j4o xs rp).reverse
 |[],rp,_,_,_=>by
  rw[j12];simp(disch:=omega)only[j0g,S0];simp[j4o]
 |x::xs,rp,hr,hx,hlen=>by
  have hxx:=hx x smp_;simp only[G]at hlen;have he:=jzg ((rp.length+(x::xs).length:B):u) (rp.length:u) x hxx rp xs hr omg_;have ih:=jzh xs (ja2 x rp) (jpw hxx hr) (λz hz=>hx z (by simp[hz])) (by rw[jdU];omega);rw[jdU]at ih;rw[j12];simp only[j0g];rw[j00 (by simp only[G];omega),he];simp only[j6,j4,j4o];rw[show rp.length+1+xs.length=rp.length+(x::xs).length by simp;omega]at ih;rw[j05,j03];exact ih
theorem jnU{l:TrL}(hs:Sm l)(hl:l.length<20):j0s l=A (j8g l):=by
 have hins:j0u l 0 (l.length:u)=A (j8g l):=by
  simp only[j0u];cases l with
  |nil=>rw[j12];rfl
  |cons x xs=>have:=jzh xs [x] (λz hz=>by simp at hz;subst hz;exact hs _ smp_) (λz hz=>hs z (by simp[hz])) (by simp at hl ⊢;omega);rw[show w64 (0+1)=(([x]:TrL).length:u) from rfl,show ((x::xs).length:u)=(([x].length+xs.length:B):u) by simp;omega];rw[show (x::xs)=[x].reverse++xs from rfl,this];rfl
 have e0:j1L (l.length:u) 20 0 20 l=A ((l.length:u),20,0,l):=by rw[j6t];simp(disch:=omega)only[j0L,S0]
 have e2:j1M (l.length:u) 20 (j8g l)=A (j8g l):=by rw[j6u];simp(disch:=omega)only[j0M,S0]
 simp(disch:=omega)only[j0s,j2c,e0,hins,e2,S0]
def jpx(y:u):Bool:=W (y%4=0)&&(!W (y%100=0)||decide (y%400=0))
def jdj(y:u):Int:=if y%4=0/\(y%100≠0\/y%400=0) then 1 else 0
theorem jpy(y:u):jpx y=S↔y%4=0/\(y%100≠0\/y%400=0):=by simp[jpx]
theorem js3(y:u):jdj y=if jpx y then 1 else 0:=by
 grind[jdj,jpy]
theorem jk3(y:u):0<=jdj y/\jdj y<=1:=by unfold jdj;split<;>omega
def dim(y m:u):Int:=
 if m<1\/12<m then 0 else if m=2 then 28+jdj y else if m=4\/m=6\/m=9\/m=11 then 30 else 31
def cnt(y:u):Int:=365*(y-1970)+(y-1)/4-(y-1)/100+(y-1)/400-477
def cum(y m:u):Int:=
 if m<=1 then 0 else if m=2 then 31 else if m=3 then 59+jdj y else if m=4 then 90+jdj y else if m=5 then 120+jdj y else if m=6 then 151+jdj y
 else if m=7 then 181+jdj y else if m=8 then 212+jdj y else if m=9 then 243+jdj y else if m=10 then 273+jdj y else if m=11 then 304+jdj y else if m=12 then 334+jdj y else 365+jdj y
def num(y m d:u):Int:=cnt y+cum y m+d-1
theorem jyh(y:u):cnt (y+1)=cnt y+365+jdj y:=by
 unfold cnt jdj;split<;>omega
theorem js4{a b:u}(h:a<=b):cnt a+365*(b-a)<=cnt b:=by unfold cnt;omega
theorem jnV(y m:u)(h1:1<=m)(h2:m<=12):cum y (m+1)=cum y m+dim y m:=by
 obtain rfl|rfl|rfl|rfl|rfl|rfl|rfl|rfl|rfl|rfl|rfl|rfl:m=1\/m=2\/m=3\/m=4\/m=5\/m=6\/m=7\/m=8\/m=9\/m=10\/m=11\/m=12:=omg_;all_goals (simp[cum,dim];try omega)
theorem j7D(y m:u):0<=dim y m/\dim y m<=31:=by
 have:=jk3 y;grind[dim]
theorem jlv(y m:u)(h1:1<=m)(h2:m<=12):28<=dim y m:=by
 have:=jk3 y;grind[dim]
theorem jpz(y m:u):0<=cum y m/\cum y m<=366:=by
 have:=jk3 y;unfold cum;omega
theorem jvO(y:u):jiK y=A (jpx y):=by
 have e:(cond (F y 4==(0:u)) (cond (F y 100 != (0:u)) S (F y 400==(0:u))) Z)=jpx y:=by grind[jpy]
 exact congrArg A e
theorem jqU(y m:u):j7F y m=A (dim y m):=by
 by_cases h:m<1\/12<m
 .grind[dim,j7F]
 .obtain rfl|rfl|rfl|rfl|rfl|rfl|rfl|rfl|rfl|rfl|rfl|rfl:m=1\/m=2\/m=3\/m=4\/m=5\/m=6\/m=7\/m=8\/m=9\/m=10\/m=11\/m=12:=omg_
  case inr.inl=>simp only[j7F,jvO,dim,js3,j4];cases jpx y<;>rfl
  all_goals rfl
theorem jyi(y m d:u):jbM (y,m,d)=A (W (1970<=y/\y<=2240/\1<=d/\d<=dim y m)):=by
 grind[jbM,jqU]
theorem jnW(a b:u)(hb:0<b)(h1 : -1000000000000<=a)(h2:a<=1000000000000):j8A a b=A (a/b):=by
 have hb0:(b==0)=false:=sqo_;obtain⟨e,p1,p2,p3,p4⟩:=tdm a b hb
 have hq : -1000000000000<=I a b/\I a b<=1000000000000:=by
  rcases Int.le_total 0 a with h|h
  .have h0:0<=a/b:=Ê h omg_;have h3:a/b<=a:=Æ b h;rw[jcm h];omega
  .have h0:0<=(-a)/b:=Ê omg_ omg_;have h3:(-a)/b <= -a:=Æ b omg_;grind[Int.neg_tdiv]
 simp only[j8A,hb0,J,j6];rw[j05 (x:=I a b)];by_cases hm:F a b<0
 .rw[j00 hm,j6,j05];congr 1
  have:a/b=I a b-1:=by
   have h3:a=(a.tmod b+b)+b*(I a b-1):=by rw[Int.mul_sub];omega
   rw[h3,Ä _ _ omg_,Ã omg_ omg_];rw[<-h3];omega
  omega
 .rw[j01 hm,j7];congr 1;have h3:a=a.tmod b+b*I a b:=omg_
  have:a/b=I a b:=by
   conv=>lhs;rw[h3]
   rw[Ä _ _ omg_,Ã omg_ omg_];omega
  omega
theorem jyj(y:u)(h1 : -1000000000<=y)(h2:y<=1000000000):j5i y=A (cnt y):=by
 simp only[j5i];rw[j05 (x:=y-1),j05 (x:=y-1970),jnW _ 4 omg_ omg_ omg_,jnW _ 100 omg_ omg_ omg_,jnW _ 400 omg_ omg_ omg_];simp only[j4];simp (disch:=omega) only[j4N];rfl
theorem jpA(y m d:u)(hm:m<=13):∀(n:B)(s k:u),1<=k->k+n=m -> -1000000000000<=s->s+31*n<=1000000000000->jbN s k y m d=A (s+cum y m-cum y k)
 |0,s,k,hk,hn,_,_=>by
  rw[jcA];have:k=m:=omg_;subst this;simp(disch:=omega)only[j44,S0];congr 1;omega
 |n+1,s,k,hk,hn,h1,h2=>by
  rw[jcA];have hd:=j7D y k;have hc:=jnV y k hk omg_;simp(disch:=omega)only[j44,jqU,S0];have ih:=jpA y m d hm n (s+dim y k) (k+1) omg_ omg_ omg_ omg_;rw[ih];congr 1;omega
theorem jvP(y m d:u)(h1 : -1000000<=y)(h2:y<=1000000)(hm1:1<=m)(hm2:m<=12)(hd1 : -1000000<=d)(hd2:d<=1000000):jcB (y,m,d)=A (num y m d):=by
 have hb : -1000000000<=cnt y/\cnt y<=1000000000:=by unfold cnt;omega
 simp only[jcB,jyj y omg_ omg_,j4];rw[j05 (x:=cnt y+d),j05,jpA y m d omg_ (m-1).toNat _ 1 omg_ omg_ omg_ omg_];grind[cum,num]
theorem jmK(day:u):j6a day=A ((F day 7+10)%7):=by
 obtain⟨e,p1,p2,p3,p4⟩:=tdm day 7 omg_;simp(disch:=omega)only[j6a,jfR,S0]
theorem jgf(day:u)(_h : -3<=day):j6a day=A ((day+3)%7):=by
 grind[jmK]
def jnX(y m d:u):Prop:=1970<=y/\y<=2240/\1<=d/\d<=dim y m
instance(y m d:u):Y (jnX y m d):=by unfold jnX;infer_instance
theorem jhc{y m d:u}(h:jnX y m d):1<=m/\m<=12:=by
 obtain⟨_,_,h3,h4⟩:=h;grind[dim]
theorem jvQ{y m d:u}:W (1970<=y/\y<=2240/\1<=d/\d<=dim y m)=W (jnX y m d):=rfl
theorem jfS{y m d:u}(h:jnX y m d):0<=num y m d/\num y m d<98981:=by
 have hm:=jhc h;obtain⟨h1,h2,h3,h4⟩:=h;have hc:=jpz y m;have c1:=js4 (a:=1970) (b:=y) omg_;have c2:=js4 (a:=y) (b:=2240) omg_;have e1:cnt 1970=0:=by decide
 have hd:=j7D y m;have e2:cnt 2240=98615:=by decide
 have hcs:cum y m+dim y m<=365+jdj y:=by
  have:=jnV y m hm.1 hm.2;have:cum y (m+1)<=365+jdj y:=by have:=jk3 y;unfold cum;omega
  omega
 grind[jyh,cnt,num]
def nth(y m k w:u):Int:=
 let d:=num y m 1+(w-(num y m 1+3)%7+7)%7+7*(k-1)
 if d>=num y m 1+dim y m then d-7 else d
theorem jdV(y m:u)(h1:1970<=y)(h2:y<=2240)(hm1:1<=m)(hm2:m<=12):jnX y m 1:=⟨h1,h2,omg_,by have:=jlv y m hm1 hm2;omega⟩
theorem jC9(y m k w:u)(h1:1970<=y)(h2:y<=2240)(hm1:1<=m)(hm2:m<=12)(hk1:1<=k)(hk2:k<=5)(hw1:0<=w)(hw2:w<=6):jhC y m k w=A (nth y m k w,0):=by
 have hv:=jdV y m h1 h2 hm1 hm2;have hr:=jfS hv;have hd:=j7D y m;have hVal:jbM (y,m,1)=A true:=by rw[jyi,jvQ,decide_eq_true hv]
 simp only[jhC,hVal,j4,O,j7];rw[j01 (show¬k<1 by omega),j01 (show¬k>5 by omega),j01 (show¬w<0 by omega),j01 (show¬w>6 by omega)];simp only[j7,jvP y m 1 omg_ omg_ hm1 hm2 omg_ omg_,j4,jgf _ (show -3<=num y m 1 by omega),jqU];generalize hn:num y m 1=n at *;have hm7:0<=(n+3)%7/\(n+3)%7<=6:=omg_;rw[j05 (x:=w-(n+3)%7),j05 (x:=w-(n+3)%7+7),jfR (show 0<=w-(n+3)%7+7 by omega)];rw[j05 (x:=k-1),j05 (x:=7*(k-1))];rw[j05 (x:=n+(w-(n+3)%7+7)%7),j05 (x:=n+(w-(n+3)%7+7)%7+7*(k-1)),j05 (x:=n+dim y m)];unfold nth;grind[S0]
theorem jCa(x n:u)(hn:0<n)(hn2:n<=1000000000000):jk2 x n=A (x%n):=by
 have h0:(n==0)=false:=sqo_;obtain⟨e,p1,p2,p3,p4⟩:=tdm x n hn;simp only[jk2,h0,J,j6];rw[j05,jfR omg_];congr 1;have h3:x=x.tmod n+n*I x n:=omg_;conv=>rhs;rw[h3]
 rw[Int.add_mul_emod_self_left,Int.add_emod_right]
def DOk(l:E u)(a:u):Prop:=0<=a/\a<=(l.length:u)/\l.length<=1000000
theorem j0E{l:E u}{a n:u}(h:DOk l a)(hn:1<=n)(hn2:n<=1000000000000):∃x a',j04 l a n=A (x,l,a')/\0<=x/\x<n/\DOk l a':=by
 obtain⟨h1,h2,h3⟩:=h;simp only[j04,show U (R l)=(l.length:u) from rfl];by_cases ha:a>=(l.length:u)
 .rw[j00 ha,j6];exact⟨0,a,rfl,omg_,omg_,h1,h2,h3⟩
 .rw[j01 ha,j7,j01 (show¬n<1 by omega),j7,j0X h1 omg_,j6,j1G (show n≠0 by omega)];obtain⟨e,p1,p2,p3,p4⟩:=tdm (l.getD a.toNat 0) n omg_;rw[j05 (x:=a+1)];simp only[J,j6];by_cases ht:F (l.getD a.toNat 0) n<0
  .rw[j00 ht,j6,j05];exact⟨_,_,rfl,omg_,omg_,omg_,omg_,h3⟩
  .rw[j01 ht,j7];exact⟨_,_,rfl,omg_,omg_,omg_,omg_,h3⟩
theorem j8K{l:E u}{a:u}(h:DOk l a){xs:E u}(hx0:0<xs.length)(hx1:xs.length<=1000000):∃x a',j18 l a xs=A (x,l,a')/\x∈xs/\DOk l a':=by
 obtain⟨x,a',e,h1,h2,h3⟩:=j0E (n:=(xs.length:u)) h omg_ omg_;simp only[j18,show U (R xs)=(xs.length:u) from rfl,e,j4];rw[j0X h1 omg_,j6];have hlt:x.toNat<xs.length:=omg_;refine⟨_,_,rfl,?_,h3⟩;rw[X,Á hlt];exact N hlt
abbrev Rule:=u×u×u×u×u×u×u
theorem in_t{n lo hi:u}(h1:lo<=n)(h2:n<=hi):jaS n lo hi=A true:=by
 grind[jaS]
structure ROk(r:Rule):Prop where
 y0:1970<=r.1
 y1:r.1<=r.2.1
 y2:r.2.1<=2240
 m0:1<=r.2.2.1
 m1:r.2.2.1<=12
 k0:1<=r.2.2.2.1
 k1:r.2.2.2.1<=5
 d0:0<=r.2.2.2.2.1
 d1:r.2.2.2.2.1<=6
 s0:0<=r.2.2.2.2.2.1
 s1:r.2.2.2.2.2.1<=86399
 o0 : -64800<=r.2.2.2.2.2.2
 o1:r.2.2.2.2.2.2<=64800
theorem jAN{r:Rule}(h:ROk r):jfd r=A 0:=by
 simp only[jfd,in_t h.y0 (show r.1<=2240 by have:=h.y1;have:=h.y2;omega),in_t h.y1 h.y2,in_t h.m0 h.m1,in_t h.k0 h.k1,in_t h.d0 h.d1,in_t h.s0 h.s1,in_t h.o0 h.o1,j4,O,j7]
theorem jlw{y m k w:u}(_h1:1970<=y)(_h2:y<=2240)(hm1:1<=m)(hm2:m<=12)(hk1:1<=k)(hk2:k<=5):num y m 1<=nth y m k w/\nth y m k w<num y m 1+dim y m\/nth y m k w<num y m 1+35/\num y m 1<=nth y m k w:=by
 right;have hd:=jlv y m hm1 hm2;grind[nth]
def occ(r:Rule)(y:u):u×Int:=(nth y r.2.2.1 r.2.2.2.1 r.2.2.2.2.1*86400+r.2.2.2.2.2.1,r.2.2.2.2.2.2)
def occR(r:Rule):TrL:=(Â (r.2.1-r.1+1).toNat).map λ(i:B)=>occ r (r.1+(i:u))
def occs(l:E Rule):TrL:=l.flatMap occR
theorem jvR{r:Rule}(h:ROk r){y:u}(h1:1970<=y)(h2:y<=2240):0<=(occ r y).1/\(occ r y).1<=10000000000:=by
 have hv:=jfS (jdV y r.2.2.1 h1 h2 h.m0 h.m1);have hs0:=h.s0;have hs1:=h.s1;have:=jlw (w:=r.2.2.2.2.1) h1 h2 h.m0 h.m1 h.k0 h.k1;have hd:=j7D y r.2.2.1;grind[occ]
theorem jAO{r:Rule}(h:ROk r):Sm (occR r):=by
 intro x hx;obtain⟨i,hi,rfl⟩:=List.mem_map.1 hx;have hi:=List.mem_range.1 hi;have h0:=h.y0;have h2:=h.y2;have:=jvR h (y:=r.1+(i:u)) omg_ omg_;omega
theorem jAP{l:E Rule}(h:∀r∈l,ROk r):Sm (occs l):=by
 intro x hx;obtain⟨r,hr,hx⟩:=List.mem_flatMap.1 hx;exact jAO (h r hr) x hx
theorem jzi{r:Rule}(h:ROk r)(rs:E Rule)(a b:u):∀(n:B)(i:B)(acc:TrL),r.1+(i:u)+n=r.2.1+1->acc.length+n<=100000->
  j8C (r.1+(i:u)) rs a b r.1 r.2.1 r.2.2.1 r.2.2.2.1 r.2.2.2.2.1 r.2.2.2.2.2.1 r.2.2.2.2.2.2 acc=A (rs,a,b,acc++(Â n).map λ(j:B)=>occ r (r.1+(i:u)+(j:u)))
 |0,i,acc,hi,_=>by
  rw[j9R];simp(disch:=omega)only[j2m,S0];simp
 |n+1,i,acc,hi,hl=>by
  have h0:=h.y0;have h2:=h.y2;have hs0:=h.s0;have hs1:=h.s1;have hv:=jfS (jdV (r.1+(i:u)) r.2.2.1 omg_ omg_ h.m0 h.m1);have hn:=jlw (w:=r.2.2.2.2.1) (y:=r.1+(i:u)) omg_ omg_ h.m0 h.m1 h.k0 h.k1;have hd:=j7D (r.1+(i:u)) r.2.2.1;rw[j9R];simp only[j2m];rw[j00 (show r.1+(i:u)<=r.2.1 by omega),jC9 _ _ _ _ omg_ omg_ h.m0 h.m1 h.k0 h.k1 h.d0 h.d1];simp(disch:=omega)only[S0];have ih:=jzi h rs a b n (i+1) (acc++[occ r (r.1+(i:u))]) omg_ sqo_;rw[show r.1+(i:u)+1=r.1+((i+1:B):u) by omega];refine ih.trans ?_
  have hmap:(Â n).map (λ(j:B)=>occ r (r.1+((i+1:B):u)+(j:u)))=(Â n).map ((λ(j:B)=>occ r (r.1+(i:u)+(j:u))) ∘ Nat.succ):=List.map_congr_left λj _=>by
   grind
  grind[List.range_succ_eq_map]
theorem jzj{rs:E Rule}(h:∀r∈rs,ROk r)(hlen:rs.length<=100):∀(n i:B)(acc:TrL),i+n=rs.length->acc.length<=300*i->
  j6c rs (rs.length:u) (i:u) acc=A (acc++occs (rs.drop i))
 |0,i,acc,hi,_=>by
  grind[j9S,j2n,S0,occs]
 |n+1,i,acc,hi,hl=>by
  have hlt:i<rs.length:=omg_;have hr:=h rs[i] (N hlt);have h0:=hr.y0;have h1:=hr.y1;have h2:=hr.y2;have hg:rs.getD i (0,0,0,0,0,0,0)=rs[i]:=by simp[hlt]
  have hl4:=jzi hr rs (rs.length:u) (i:u) (rs[i].2.1-rs[i].1+1).toNat 0 acc omg_ omg_;rw[show rs[i].1+((0:B):u)=rs[i].1 by omega]at hl4;have ih:=jzj h hlen n (i+1) (acc++occR rs[i]) omg_ (by simp[occR];omega);rw[j9S];simp(disch:=omega)only[j2n,hl4,H hlt,S0];refine ih.trans ?_;rw[À];rfl
theorem jzk{rs:E Rule}(h:∀r∈rs,ROk r)(hlen:rs.length<=100)(nm:D)(o:u):∀(n i:B)(s:u),i+n=rs.length->0<=s->s<=300*i->
  j6b s rs (rs.length:u) (i:u) nm o rs=A (.inr (s+((occs (rs.drop i)).length:u),nm,o,rs))
 |0,i,s,hi,_,_=>by
  grind[j9Q,j2l,S0,occs]
 |n+1,i,s,hi,hs0,hs1=>by
  have hlt:i<rs.length:=omg_;have hr:=h rs[i] (N hlt);have h0:=hr.y0;have h1:=hr.y1;have h2:=hr.y2;have hg:rs.getD i (0,0,0,0,0,0,0)=rs[i]:=by simp[hlt]
  have ih:=jzk h hlen nm o n (i+1) (s+(rs[i].2.1-rs[i].1+1)) omg_ omg_ omg_;have hrule:jfd (rs[i].1,rs[i].2.1,rs[i].2.2.1,rs[i].2.2.2.1,rs[i].2.2.2.2.1,rs[i].2.2.2.2.2.1,rs[i].2.2.2.2.2.2)=A 0:=jAN hr;rw[j9Q];simp(disch:=omega)only[j2l,hrule,S0];refine ih.trans ?_;rw[H hlt];grind[occs,occR]
theorem jm6{nm:D}{o:u}{rs:E Rule}(h:∀r∈rs,ROk r)(ho0 : -64800<=o)(ho1:o<=64800)(hlen:rs.length<=16)(hn:(occs rs).length<20):j8k (nm,o,rs)=A (j8g (occs rs),0):=by
 have e0:=jzk h omg_ nm o rs.length 0 0 omg_ omg_ omg_;have e2:=jzj h omg_ rs.length 0 [] omg_ smp_;grind[j8k,in_t,jnU,jAP,S0]
def outT(now:u):TrL->TrL
 |[]=>[]
 |x::r=>if x.2=now then outT now r else (x.1-now,x.2)::outT x.2 r
def Good(now:u)(p:M u):TrL->Prop
 |[]=>True
 |x::r=>if x.2=now then Good now p r else (-86400<x.2-now/\x.2-now<86400/\1000000<x.1-now/\x.1-now<=8589000000/\(∀q,p=A q->q+604800<=x.1-now) /\ -64800<=x.2/\x.2<=64800)/\Good x.2 (A (x.1-now)) r
theorem jnY(L:TrL)(hL:L.length<=1000):∀(n i:B)(now:u)(acc:TrL),i+n=L.length -> -64800<=now->now<=64800->acc.length<=i->(∀x∈acc,0<=x.1/\x.1<=8589934592)->Good now (acc.getLast?.map (·.1)) (L.drop i)->
  j6d now (L.length:u) (i:u) acc L=A (.inr (acc++outT now (L.drop i)))
 |0,i,now,acc,hi,_,_,_,_,_=>by
  grind[j9T,j2o,j06,outT]
 |n+1,i,now,acc,hi,hn0,hn1,hal,hacc,hg=>by
  have hlt:i<L.length:=omg_;rw[H hlt]at hg ⊢;have hgd:L.getD i (0,0)=L[i]:=by simp[hlt]
  rw[j9T];simp only[j2o];rw[j00 (show (i:u)<(L.length:u) by omega),j0O];simp only[j6,j8,hgd];generalize L[i]=x at *;rw[j05 (x:=(i:u)+1)];simp only[Good]at hg;by_cases hx:x.2=now
  .rw[if_pos hx]at hg;rw[j43 hx];simp only[j6,j03,outT];rw[if_pos hx];exact jnY L hL n (i+1) now acc omg_ hn0 hn1 omg_ hacc hg
  .rw[if_neg hx]at hg;obtain⟨⟨g1,g2,g3,g4,g5,g6,g7⟩,g8⟩:=hg;rw[j1G hx,j05 (x:=x.1-now),j05 (x:=x.2-now),j01 (show¬x.2-now>=86400 by omega),j01 (show¬x.2-now <= -86400 by omega)];simp only[j7,in_t (show (0:u)<=x.1-now by omega) (show x.1-now<=8589934592 by omega),j4,O,J,Bool.true_and,show U (R acc)=(acc.length:u) from rfl];rw[j05 (x:=(acc.length:u)-1)]
   have hnext:=jnY L hL n (i+1) x.2 (acc++[(x.1-now,x.2)]) omg_ g6 g7 sqo_
    (λy hy=>by
     grind) (by simpa using g8)
   have hout:outT now (x::L.drop (i+1))=(x.1-now,x.2)::outT x.2 (L.drop (i+1)):=by simp[outT,hx]
   rw[hout];rw[À]at hnext;by_cases ha:acc=[]
   .grind[j02,j03]
   .have hpos:0<acc.length:=List.length_pos_iff.2 ha;have hlast:acc.getLast? = A (acc.getD (acc.length-1) (0,0)):=by grind
    rw[hlast]at g5;have g5:(acc.getD (acc.length-1) (0,0)).1+604800<=x.1-now:=g5 _ rfl;have hb:=hacc (acc.getD (acc.length-1) (0,0)) (List.mem_of_getLast? hlast);rw[j0O,j00 (show (acc.length:u)>0 by omega),show ((acc.length:u)-1).toNat=acc.length-1 by omega];simp only[Bool.true_or,j6];grind[j4N,j02,j03]
def Chn(p:M u):TrL->Prop
 |[]=>True
 |x::r=>(1000000<x.1/\x.1<=8589000000/\(∀q,p=A q->q+604800<=x.1) /\ -64800<=x.2/\x.2<=64800)/\Chn (A x.1) r
theorem jqV:∀(L:TrL)(now:u)(p:M u),Good now p L->Chn p (outT now L)
 |[],_,_,_=>trivial
 |x::r,now,p,h=>by
  simp only[Good]at h;by_cases hx:x.2=now
  .rw[if_pos hx]at h;simp only[outT];rw[if_pos hx];exact jqV r now p h
  .rw[if_neg hx]at h;simp only[outT];rw[if_neg hx];obtain⟨⟨g1,g2,g3,g4,g5,g6,g7⟩,g8⟩:=h;exact⟨⟨g3,g4,g5,g6,g7⟩,jqV r x.2 _ g8⟩
theorem jnZ:∀(L:TrL)(now:u),(outT now L).length<=L.length
 |[],_=>Nat.le_refl _
 |x::r,now=>by
  simp only[outT];split
  .have:=jnZ r now;simp;omega
  .have:=jnZ r x.2;simp;omega
theorem jvS:∀(l:TrL)(p:M u),Chn p l->(∀i,i+1<l.length->tat l i+604800<=tat l (i+1))/\(∀i,i<l.length->1000000<tat l i/\tat l i<=8589000000)/\
  (∀o i, -64800<=o->o<=64800->i<=l.length -> -64800<=tof o l i/\tof o l i<=64800)
 |[],_,_=>⟨λi h=>by simp at h,λi h=>by simp at h,λo i h1 h2 h3=>by
  have:i=0:=by simpa using h3
  subst this;exact⟨h1,h2⟩⟩
 |x::r,p,h=>by
  obtain⟨⟨g3,g4,g5,g6,g7⟩,g8⟩:=h;obtain⟨h1,h2,h3⟩:=jvS r _ g8;refine⟨λi hi=>?_,λi hi=>?_,λo i ho0 ho1 hi=>?_⟩
  .cases i with
   |zero=>
    cases r with
    |nil=>simp at hi
    |cons y ys=>have:=g8.1.2.2.1 _ rfl;exact this
   |succ i=>exact h1 i (by simp at hi ⊢;omega)
  .cases i with
   |zero=>exact⟨g3,g4⟩
   |succ i=>exact h2 i (by simp at hi ⊢;omega)
  .cases i with
   |zero=>exact⟨ho0,ho1⟩
   |succ i=>
    cases i with
    |zero=>exact⟨g6,g7⟩
    |succ i=>exact h3 x.2 (i+1) g6 g7 (by simp at hi ⊢;omega)
theorem jAQ{o:u}{l:TrL}(h:Chn Í l)(hl:l.length<=1000)(h0 : -64800<=o)(h1:o<=64800):TOk o l:=by
 obtain⟨a,b,c⟩:=jvS l Í h;exact⟨hl,a,λi hi=>(b i hi).1,λi hi=>(b i hi).2,λi hi=>(c o i h0 h1 hi).1,λi hi=>(c o i h0 h1 hi).2⟩
def ZTab(z:D×u×E Rule)(l:TrL):Prop:=j40 z=A (l,0)/\TOk z.2.1 l
theorem jAR{nm:D}{o:u}{rs:E Rule}(h:∀r∈rs,ROk r)(ho0 : -64800<=o)(ho1:o<=64800)(hlen:rs.length<=16)(hn:(occs rs).length<20)(hg:Good o Í (j8g (occs rs))):ZTab (nm,o,rs) (outT o (j8g (occs rs))):=by
 have hl:(j8g (occs rs)).length<=1000:=by simp[j8g,jaO];omega
 refine⟨?_,jAQ (jqV _ _ _ hg) (by grind[jnZ]) ho0 ho1⟩;have:=jnY (j8g (occs rs)) hl (j8g (occs rs)).length 0 o [] omg_ ho0 ho1 smp_ smp_ hg;grind[j40,jm6,S0]
theorem jCb{z:D×u×E Rule}{l:TrL}(h:ZTab z l):jgQ z=A ((z.2.1,l),0):=by
 simp only[jgQ,show j40 (z.1,z.2.1,z.2.2)=_ from h.1,j4]
theorem jzl{y m k w:u}(hm1:1<=m)(hm2:m<=12)(hk1:2<=k)(hk2:k<=5):num y m 1+7<=nth y m k w/\nth y m k w<=num y m 1+34:=by
 have hd:=jlv y m hm1 hm2;grind[nth]
theorem jvT{y m k w:u}(hm1:1<=m)(hm2:m<=12)(hk1:1<=k)(hk2:k<=4):num y m 1<=nth y m k w/\nth y m k w<=num y m 1+27:=by
 have hd:=jlv y m hm1 hm2;grind[nth]
theorem jzm{a b:u×u}(h:a.1<b.1):j8g [a,b]=[a,b]:=by
 grind[j8g,j4o,ja2]
theorem jzn{a b c d:u×u}(h1:a.1<c.1)(h2:c.1<b.1)(h3:b.1<d.1):j8g [a,b,c,d]=[a,c,b,d]:=by
 simp[j8g,j4o,ja2,show¬b.1<a.1 by omega,h2,show¬c.1<a.1 by omega,show¬d.1<b.1 by omega]
theorem js5(r1 r2:Rule)(h1:r1.1=2025)(h2:r1.2.1=2025)(h3:r2.1=2025)(h4:r2.2.1=2025):occs [r1,r2]=[occ r1 2025,occ r2 2025]:=by
 simp_all[occs,occR]
theorem js6(r1 r2:Rule)(h1:r1.1=2025)(h2:r1.2.1=2026)(h3:r2.1=2025)(h4:r2.2.1=2026):occs [r1,r2]=[occ r1 2025,occ r1 2026,occ r2 2025,occ r2 2026]:=by
 simp_all[occs,occR,É]
theorem j7Q{now:u}{p:M u}{x:u×u}{r:TrL}(hx:x.2≠now)(h : -86400<x.2-now/\x.2-now<86400/\1000000<x.1-now/\x.1-now<=8589000000 /\ -64800<=x.2/\x.2<=64800)
  (hp:∀q,p=A q->q+604800<=x.1-now)(hr:Good x.2 (A (x.1-now)) r):Good now p (x::r):=by
 grind[Good]
theorem jvU{now:u}{p:M u}{x:u×u}{r:TrL}(hx:x.2=now)(hr:Good now p r):Good now p (x::r):=by
 grind[Good]
theorem jlx{P:u->Prop}:∀q,(Í:M u)=A q->P q:=λ_ h=>by simp at h
theorem jd7{P:u->Prop}{a:u}(h:P a):∀q,A a=A q->P q:=λq hq=>by simp_all
theorem n251:num 2025 1 1=20089:=by decide
theorem n261:num 2026 1 1=20454:=by decide
theorem n252:num 2025 2 1=20120:=by decide
theorem n253:num 2025 3 1=20148:=by decide
theorem n262:num 2026 2 1=20485:=by decide
theorem n263:num 2026 3 1=20513:=by decide
structure MZ(o:u)(rs:E Rule):Prop where
 o0 : -64800<=o
 o1:o<=64800
 ok:∀r∈rs,ROk r
 len:rs.length<=2
 yr:∀r∈rs,2025<=r.1
 few:(occs rs).length<=4
 good:Good o Í (j8g (occs rs))
theorem MZ.tab{o:u}{rs:E Rule}(h:MZ o rs)(nm:D):ZTab (nm,o,rs) (outT o (j8g (occs rs))):=
 jAR h.ok (by have:=h.o0;omega) (by have:=h.o1;omega) (by have:=h.len;omega) (by have:=h.few;omega) h.good
theorem mz0{o:u}(h0 : -43200<=o)(h1:o<=45000):MZ o []:=⟨omg_,omg_,smp_,smp_,smp_,by decide,trivial⟩
theorem ok2{r1 r2:Rule}(h1:ROk r1)(h2:ROk r2):∀r∈[r1,r2],ROk r:=by
 simp_all
theorem mz1{o last:u}(h0 : -43200<=o)(h1:o<=45000)(hl:last=2025\/last=2026):MZ o [(2025,last,3,5,6,7200,o+3600),(2025,last,10,5,6,10800,o)]:=by
 have a1:nth 2025 3 5 6=20177:=by decide
 have a2:nth 2025 10 5 6=20387:=by decide
 have a3:nth 2026 3 5 6=20541:=by decide
 have a4:nth 2026 10 5 6=20751:=by decide
 have hok:=ok2 (r1:=(2025,last,3,5,6,7200,o+3600)) (r2:=(2025,last,10,5,6,10800,o)) (by constructor<;>(dsimp only;omega)) (by constructor<;>(dsimp only;omega));rcases hl with rfl|rfl
 .have e:=js5 (2025,2025,3,5,6,7200,o+3600) (2025,2025,10,5,6,10800,o) rfl rfl rfl rfl;refine⟨omg_,omg_,hok,smp_,smp_,by rw[e];simp,?_⟩;rw[e,jzm (by simp only[occ];omega)];refine j7Q (by simp only[occ];omega) (by simp only[occ];omega) jlx (j7Q (by simp only[occ];omega) (by simp only[occ];omega) (jd7 (by simp only[occ];omega)) trivial)
 .have e:=js6 (2025,2026,3,5,6,7200,o+3600) (2025,2026,10,5,6,10800,o) rfl rfl rfl rfl;refine⟨omg_,omg_,hok,smp_,smp_,by rw[e];simp,?_⟩;rw[e,jzn (by simp only[occ];omega) (by simp only[occ];omega) (by simp only[occ];omega)]
  refine j7Q (by simp only[occ];omega) (by simp only[occ];omega) jlx (j7Q (by simp only[occ];omega) (by simp only[occ];omega) (jd7 (by simp only[occ];omega))
   (j7Q (by simp only[occ];omega) (by simp only[occ];omega) (jd7 (by simp only[occ];omega)) (j7Q (by simp only[occ];omega) (by simp only[occ];omega) (jd7 (by simp only[occ];omega)) trivial)))
theorem mz2{o last k1 w1 s1 c m2 k2 w2 s2:u}(h0 : -43200<=o)(h1:o<=45000)(hl:last=2025\/last=2026)(hk:1<=k1)(hk':k1<=4)(hw:0<=w1)(hw':w1<=6)(hs:0<=s1)(hs':s1<=82800)(hc:1800<=c)(hc':c<=14400)
  (hm:m2=2\/m2=3)(hj:2<=k2)(hj':k2<=5)(hx:0<=w2)(hx':w2<=6)(ht:0<=s2)(ht':s2<=82800):MZ o [(2025,last,1,k1,w1,s1,o+c),(2025,last,m2,k2,w2,s2,o)]:=by
 have hok:=ok2 (r1:=(2025,last,1,k1,w1,s1,o+c)) (r2:=(2025,last,m2,k2,w2,s2,o)) (by constructor<;>(dsimp only;omega)) (by constructor<;>(dsimp only;omega));have b1:=jvT (y:=2025) (m:=1) (k:=k1) (w:=w1) omg_ omg_ hk hk';have b2:=jvT (y:=2026) (m:=1) (k:=k1) (w:=w1) omg_ omg_ hk hk';have b3:=jzl (y:=2025) (m:=m2) (k:=k2) (w:=w2) omg_ omg_ hj hj';have b4:=jzl (y:=2026) (m:=m2) (k:=k2) (w:=w2) omg_ omg_ hj hj';have c1:20120<=num 2025 m2 1/\num 2025 m2 1<=20148:=by grind[n252,n253]
 have c2:20485<=num 2026 m2 1/\num 2026 m2 1<=20513:=by grind[n262,n263]
 rw[n251]at b1;rw[n261]at b2;rcases hl with rfl|rfl
 .have e:=js5 (2025,2025,1,k1,w1,s1,o+c) (2025,2025,m2,k2,w2,s2,o) rfl rfl rfl rfl;refine⟨omg_,omg_,hok,smp_,smp_,by rw[e];simp,?_⟩;rw[e,jzm (by simp only[occ];omega)];refine j7Q (by simp only[occ];omega) (by simp only[occ];omega) jlx (j7Q (by simp only[occ];omega) (by simp only[occ];omega) (jd7 (by simp only[occ];omega)) trivial)
 .have e:=js6 (2025,2026,1,k1,w1,s1,o+c) (2025,2026,m2,k2,w2,s2,o) rfl rfl rfl rfl;refine⟨omg_,omg_,hok,smp_,smp_,by rw[e];simp,?_⟩;rw[e,jzn (by simp only[occ];omega) (by simp only[occ];omega) (by simp only[occ];omega)]
  refine j7Q (by simp only[occ];omega) (by simp only[occ];omega) jlx (j7Q (by simp only[occ];omega) (by simp only[occ];omega) (jd7 (by simp only[occ];omega))
   (j7Q (by simp only[occ];omega) (by simp only[occ];omega) (jd7 (by simp only[occ];omega)) (j7Q (by simp only[occ];omega) (by simp only[occ];omega) (jd7 (by simp only[occ];omega)) trivial)))
theorem mz3{o w s x:u}(h0 : -43200<=o)(h1:o<=45000)(hw:0<=w)(hw':w<=6)(hs:0<=s)(hs':s<=84600)(hx0 : -64800<=x)(hx1:x<=64800)(hc0 : -86400<x-o)(hc1:x-o<86400):MZ o [(2026,2026,1,2,w,s,x)]:=by
 have b:=jvT (y:=2026) (m:=1) (k:=2) (w:=w) omg_ omg_ omg_ omg_;rw[n261]at b;have e:occs [((2026:u),(2026:u),(1:u),(2:u),w,s,x)]=[occ (2026,2026,1,2,w,s,x) 2026]:=by simp[occs,occR]
 refine⟨omg_,omg_,λr hr=>?_,smp_,smp_,by rw[e];simp,?_⟩
 .simp at hr;subst hr;constructor<;>(dsimp only;omega)
 .rw[e];have hi:j8g [occ (2026,2026,1,2,w,s,x) 2026]=[occ (2026,2026,1,2,w,s,x) 2026]:=by simp[j8g,j4o,ja2]
  rw[hi];by_cases hxo:x=o
  .exact jvU hxo trivial
  .exact j7Q hxo (by simp only[occ];omega) jlx trivial
theorem jAS{L:E u}{a:u}(h:DOk L a)(nm:D):∃o rs a',j4s L a nm=A ((nm,o,rs),L,a')/\MZ o rs/\DOk L a':=by
 obtain⟨p,a1,e1,m1,d1⟩:=j8K h (xs:=[(0:u),(4:u),(-20:u),(22:u),(48:u),(-47:u)]) smp_ smp_;obtain⟨x2,a2,e2,x20,x21,d2⟩:=j0E (n:=2) d1 omg_ omg_;obtain⟨x3,a3,e3,x30,x31,d3⟩:=j0E (n:=3) d2 omg_ omg_;obtain⟨y,a4,e4,y0,y1,d4⟩:=j0E (n:=2) d3 omg_ omg_;obtain⟨q,a5,e5,q0,q1,d5⟩:=j0E (n:=4) d4 omg_ omg_;have hp : -47<=p/\p<=48:=by simp at m1;omega
 have hmul:0<=x2*x3/\x2*x3<=2:=by obtain rfl|rfl:x2=0\/x2=1:=omg_;all_goals omega
 have ho0 : -43200<=900*(p+x2*x3):=omg_;have ho1:900*(p+x2*x3)<=45000:=omg_;have hlast:2025+y=2025\/2025+y=2026:=omg_;simp only[j4s,e1,e2,e3,e4,e5,j4];rw[j05 (x:=x2*x3),j05 (x:=p+x2*x3),j05 (x:=900*(p+x2*x3)),j05 (x:=2025+y)];generalize 900*(p+x2*x3)=o at *;generalize 2025+y=last at *;by_cases hq1:q=1
 .simp(disch:=omega)only[S0];grind[mz1]
 .rw[j1G hq1,j7];by_cases hq2:q=2
  .rw[j43 hq2,j6];obtain⟨b1,c1,f1,b10,b11,g1⟩:=j0E (n:=4) d5 omg_ omg_;obtain⟨b2,c2,f2,b20,b21,g2⟩:=j0E (n:=7) g1 omg_ omg_;obtain⟨b3,c3,f3,b30,b31,g3⟩:=j0E (n:=24) g2 omg_ omg_;obtain⟨b4,c4,f4,b40,b41,g4⟩:=j0E (n:=8) g3 omg_ omg_;obtain⟨b5,c5,f5,b50,b51,g5⟩:=j0E (n:=2) g4 omg_ omg_;obtain⟨b6,c6,f6,m6,g6⟩:=j8K g5 (xs:=[(2:u),(3:u),(5:u)]) smp_ smp_;obtain⟨b7,c7,f7,b70,b71,g7⟩:=j0E (n:=7) g6 omg_ omg_;obtain⟨b8,c8,f8,b80,b81,g8⟩:=j0E (n:=24) g7 omg_ omg_;have h6:2<=b6/\b6<=5:=by simp at m6;omega
   simp(disch:=omega)only[f1,f2,f3,f4,f5,f6,f7,f8,S0];exact⟨_,_,_,rfl,mz2 ho0 ho1 hlast omg_ omg_ b20 omg_ omg_ omg_ omg_ omg_ omg_ h6.1 h6.2 b70 omg_ omg_ omg_,g8⟩
  .rw[j1G hq2,j7];by_cases hq3:q=3
   .rw[j43 hq3,j6];obtain⟨b1,c1,f1,m1,g1⟩:=j8K d5 (xs:=[(3600:u),(-3600:u),(82800:u),(-82800:u),(43200:u)]) smp_ smp_;obtain⟨b2,c2,f2,b20,b21,g2⟩:=j0E (n:=7) g1 omg_ omg_;obtain⟨b3,c3,f3,b30,b31,g3⟩:=j0E (n:=48) g2 omg_ omg_;have hb1 : -82800<=b1/\b1<=82800:=by simp at m1;omega
    simp(disch:=omega)only[f1,f2,f3,S0];by_cases hbig:o+b1>64800\/o+b1 < -64800
    .have hb:cond (W (o+b1>64800)) S (W (o+b1 < -64800))=true:=by
      simp_all
     rw[hb,j6];grind[mz3]
    .simp(disch:=omega)only[S0];grind[mz3]
   .rw[j1G hq3,j7];grind[mz0]
theorem jqW:∀(L:TrL)(now:u)(p:M u),Good now p L->∀i,i<(outT now L).length -> -86400<tof now (outT now L) (i+1)-tof now (outT now L) i/\tof now (outT now L) (i+1)-tof now (outT now L) i<86400
 |[],_,_,_,i,hi=>by simp[outT]at hi
 |x::r,now,p,h,i,hi=>by
  simp only[Good]at h;by_cases hx:x.2=now
  .rw[if_pos hx]at h;have e:outT now (x::r)=outT now r:=by simp[outT,hx]
   rw[e]at hi ⊢;exact jqW r now p h i hi
  .rw[if_neg hx]at h;have e:outT now (x::r)=(x.1-now,x.2)::outT x.2 r:=by simp[outT,hx]
   rw[e]at hi ⊢;obtain⟨⟨g1,g2,_⟩,g8⟩:=h;cases i with
   |zero=>exact⟨g1,g2⟩
   |succ i=>
    have:=jqW r x.2 _ g8 i (by simpa using hi);cases i with
    |zero=>exact this
    |succ i=>exact this
section
variable{o:u}{l:TrL}(h:TOk o l)
include h
theorem jgg{i j:B}{t:u}(hi:i<=l.length)(hj:j<=l.length)(a1:frm l i<=t)(a2:t<frm l (i+1))(b1:frm l j<=t)(b2:t<frm l (j+1)):i=j:=by
 rcases Nat.lt_trichotomy i j with hij|hij|hij
 .have:=h.frm_le (i:=i+1) (j:=j) omg_ omg_;omega
 .exact hij
 .have:=h.frm_le (i:=j+1) (j:=i) omg_ omg_;omega
end
abbrev WL:=E (u×u)
def WOk(p:u):WL->Prop
 |[]=>p<=604800
 |x::r=>p<=x.1/\x.1<x.2/\x.2<=604800/\WOk x.2 r
def gaps(p:u):WL->WL
 |[]=>[]
 |x::r=>if p<x.1 then (p,x.1)::gaps x.2 r else gaps x.2 r
def hasB(s:u):WL->Bool
 |[]=>Z
 |x::r=>cond (cond (W (x.1<=s)) (W (s<x.2)) Z) S (hasB s r)
theorem WOk.top{p:u}:∀{w:WL},WOk p w->p<=604800
 |[],h=>h
 |_::_,h=>by have:=h.1;have:=h.2.1;have:=h.2.2.1;omega
theorem WOk.weak{p q:u}(hq:q<=p):∀{w:WL},WOk p w->WOk q w
 |[],h=>by show q<=604800;have:p<=604800:=h;omega
 |_::_,h=>⟨by have:=h.1;omega,h.2⟩
theorem jfT:∀{w:WL}{p:u},WOk p w->∀i,i<w.length->p<=(w.getD i (0,0)).1/\(w.getD i (0,0)).1<(w.getD i (0,0)).2/\(w.getD i (0,0)).2<=604800
 |[],_,_,i,hi=>by simp at hi
 |x::r,p,h,i,hi=>by
  obtain⟨h1,h2,h3,h4⟩:=h;cases i with
  |zero=>exact⟨h1,h2,h3⟩
  |succ i=>exact jfT (h4.weak (show p<=x.2 by omega)) i (by simpa using hi)
theorem jqX:∀{w:WL}{p:u},WOk p w->∀i,i+1<w.length->(w.getD i (0,0)).2<=(w.getD (i+1) (0,0)).1
 |[],_,_,i,hi=>by simp at hi
 |x::[],_,_,i,hi=>by simp at hi
 |x::y::r,p,h,i,hi=>by
  cases i with
  |zero=>exact h.2.2.2.1
  |succ i=>exact jqX h.2.2.2 i (by simpa using hi)
theorem jmL{L:E u}:∀(n:B)(p a:u)(acc:WL),DOk L a->0<=p->p<=604800->acc.length+n<=100->
  ∃w a',j7Y p (n:u) L a acc=A (L,a',acc++w)/\WOk p w/\w.length<=n/\DOk L a'
 |0,p,a,acc,hd,_,hp,_=>by
  rw[j9u];simp(disch:=omega)only[j2f,S0];exact⟨[],a,smp_,hp,smp_,hd⟩
 |n+1,p,a,acc,hd,hp0,hp,ha=>by
  obtain⟨x,a1,e1,x0,x1,d1⟩:=j0E (n:=30) hd omg_ omg_;obtain⟨y,a2,e2,y0,y1,d2⟩:=j0E (n:=2) d1 omg_ omg_;obtain⟨q,a3,e3,m3,d3⟩:=j8K d2 (xs:=[(3600:u),(28800:u),(43200:u),(86400:u),(61:u),(1:u)]) smp_ smp_;have hq:1<=q/\q<=86400:=by simp at m3;omega
  rw[j9u];simp only[j2f];rw[j00 omg_];simp only[j6,e1,e2,e3,j4];rw[j05 (x:=3600*x),j05 (x:=p+3600*x),j05 (x:=60*y),j05 (x:=p+3600*x+60*y),j05 (x:=p+3600*x+60*y+q),j05 (x:=((n+1:B):u)-1)];by_cases hbig:p+3600*x+60*y+q>604800
  .rw[j00 hbig,j6,j06];exact⟨[],a3,smp_,hp,smp_,d3⟩
  .simp(disch:=omega)only[S0];obtain⟨w,a4,e4,hw,hwl,d4⟩:=jmL n (p+3600*x+60*y+q) a3 (acc++[(p+3600*x+60*y,p+3600*x+60*y+q)]) d3 omg_ omg_ sqo_;rw[show ((n+1:B):u)-1=(n:u) by omega];refine⟨(p+3600*x+60*y,p+3600*x+60*y+q)::w,a4,by rw[e4,À];rfl,⟨by dsimp only;omega,by dsimp only;omega,by dsimp only;omega,hw⟩,sqo_,d4⟩
theorem jj4{L:E u}{a:u}(h:DOk L a):∃w a',j4w L a=A (w,L,a')/\WOk 0 w/\w.length<=3/\DOk L a':=by
 obtain⟨x,a1,e1,x0,x1,d1⟩:=j0E (n:=4) h omg_ omg_;obtain⟨w,a',e2,h1,h2,h3⟩:=jmL x.toNat 0 a1 [] d1 omg_ omg_ sqo_;rw[show ((x.toNat:B):u)=x by omega,List.nil_append]at e2;simp only[j4w,e1,j4,e2];exact⟨w,a',rfl,h1,omg_,h3⟩
theorem jmM{L:E u}{a:u}(h:DOk L a):∃t a',j5S L a=A (t,L,a')/\1767139199<=t/\t<=1767139200+3600*575+3599/\DOk L a':=by
 obtain⟨x,a1,e1,x0,x1,d1⟩:=j0E (n:=576) h omg_ omg_;obtain⟨y,a2,e2,y0,y1,d2⟩:=j0E (n:=3) d1 omg_ omg_;obtain⟨q,a3,e3,m3,d3⟩:=j8K d2 (xs:=[(-1:u),(1:u),(1800:u),(3599:u)]) smp_ smp_;have hq : -1<=q/\q<=3599:=by simp at m3;omega
 simp only[j5S,e1,j4,j0Z,e2,e3];rw[j05 (x:=3600*x),j05 (x:=1767139200+3600*x),j05 (x:=1767139200+3600*x+q)];cases (y==w64 (3-1)) with
 |true=>exact⟨_,_,rfl,omg_,omg_,d3⟩
 |false=>exact⟨_,_,rfl,omg_,omg_,d2⟩
theorem js7{w:WL}(h:WOk 0 w)(hl:w.length<=14):∀(n i:B),i+n=w.length->jec w w (w.length:u) (i:u)=A (.inr ())
 |0,i,hi=>by
  rw[jeI];simp only[j4W];rw[j01 omg_,j7,j06]
 |n+1,i,hi=>by
  have ih:=js7 h hl n (i+1) omg_;have hg:=jfT h i omg_;rw[jeI];simp only[j4W];rw[j00 (show (i:u)<(w.length:u) by omega),j0O];simp only[j6,j8];rw[j01 (show¬(w.getD i (0,0)).1<0 by omega),j01 (show¬(w.getD i (0,0)).1>=(w.getD i (0,0)).2 by omega),j01 (show¬(w.getD i (0,0)).2>604800 by omega)];rw[j05 (x:=(i:u)+1)];simp only[j7];by_cases h0:i=0
  .rw[j01 omg_];simp only[j7,j03];exact ih
  .obtain⟨j,rfl⟩:∃j,i=j+1:=⟨i-1,omg_⟩;have hgap:=jqX h j omg_;rw[j00 omg_,j05 (x:=((j+1:B):u)-1),j0O,show (((j+1:B):u)-1).toNat=j by omega,j01 omg_];simp only[j6,j7,j03];exact ih
theorem jo0{w:WL}(h:WOk 0 w)(hl:w.length<=14):jbB w=A 0:=by
 have:=js7 h hl w.length 0 omg_;rw[show ((0:B):u)=0 from rfl]at this;simp only[jbB,show U (R w)=(w.length:u) from rfl];rw[j01 omg_,j7,this];rfl
abbrev j0D:=D×u×E Rule
abbrev j0h:=D×u×WL×u×u×Bool
abbrev CalT:=D×u×E u
abbrev j0b:=D×u×(u×u)×u×u×E u×WL×u×u
abbrev j0r:=D×E j0b×E (u×u×u×u×u)
def ZOk(z:j0D):Prop:=MZ z.2.1 z.2.2
theorem jj5{L:E u}{a n:u}(h:DOk L a)(hn:1<=n)(hn2:n<=1000000):∃b a',j0Z L a n=A (b,L,a')/\DOk L a':=by
 obtain⟨x,a1,e1,x0,x1,d1⟩:=j0E (n:=n) h omg_ omg_;simp only[j0Z,e1,j4];exact⟨_,_,rfl,d1⟩
structure SOk(zs:E j0D)(ps:E j0h)(cs:E CalT):Prop where
 z0:1<=zs.length
 z1:zs.length<=2
 ok:∀z∈zs,ZOk z
 p0:1<=ps.length
 p1:ps.length<=4
 c1:cs.length<=1
structure LOk(l:j0b):Prop where
 d0:20452<=l.2.2.1.1
 d1:l.2.2.1.1<=20457
 c0:0<=l.2.2.1.2
 c1:l.2.2.1.2<=79200
 u0:0<=l.2.2.2.1
 u1:l.2.2.2.1<=2
 e0:1<=l.2.2.2.2.1
 e1:l.2.2.2.2.1<=49
 e2:l.2.2.2.1≠0->l.2.2.2.2.1<=2
 m0:1<=l.2.2.2.2.2.1.length
 m1:l.2.2.2.2.2.1.length<=3
end Go.Proofs.Pw
