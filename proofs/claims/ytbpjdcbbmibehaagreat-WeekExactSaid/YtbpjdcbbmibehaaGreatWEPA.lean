/- Small facts on Tn xz. -/
import Derived.Test.YtbpjdcbbmibehaaGreatWELD
import Derived.Test.YtbpjdcbbmibehaaGreatWEFns
import Derived.KernelRfl
open Go Go.Lft
namespace Go.Proofs.Pw
theorem uy(a b:Int)(hb:0<b):b*Int.tdiv a b+Int.tmod a b=a/\(0<=a->0<=Int.tmod a b)/\(a<=0->Int.tmod a b<=0)/\Int.tmod a b<b /\ -b<Int.tmod a b:=by
 have h1:=Int.mul_tdiv_add_tmod a b;have h2:0<=a->0<=Int.tmod a b:=λh=>Int.tmod_nonneg b h
 have h3:a<=0->Int.tmod a b<=0:=λh=>by
  have:=Int.tmod_nonneg (a:= -a) b (by omega);rw[Int.neg_tmod]at this;omega
 have h4:=Int.tmod_lt_of_pos a hb;have h5 : -b<Int.tmod a b:=by have:=Int.tmod_lt_of_pos (-a) hb;rw[Int.neg_tmod]at this;omega
 exact⟨h1,h2,h3,h4,h5⟩
theorem sK{a b:Int}(ha:0<=a):Int.tdiv a b=a/b:=Int.tdiv_eq_ediv_of_nonneg ha
theorem qQ{a b:Int}(ha:0<=a):Int.tmod a b=a%b:=Int.tmod_eq_emod_of_nonneg ha
theorem E9(a b:Int):(Int.tmod a b==0)=(a%b==0):=by
 rw[Bool.eq_iff_iff];simp only[qw];rw[<-Int.dvd_iff_tmod_eq_zero,<-Int.dvd_iff_emod_eq_zero]
theorem ao{p:Prop}[Decidable p](h:p):decide p=true:=decide_eq_true h
theorem aw{p:Prop}[Decidable p](h:¬p):decide p=false:=decide_eq_false h
theorem uz{a b:Int}(h:a=b):(a==b)=true:=by simp[h]
theorem nC{a b:Int}(h:a≠b):(a==b)=false:=by simp[h]
theorem bT{i:Int}{n:Nat}(h1:0<=i)(h2:i<n):inR i n=true:=by simp[inR,h1,h2]
def lu(l:List Int)(a:Int):Prop:=0<=a/\a<=(l.length:Int)/\l.length<=1000000
theorem gE{l:List Int}{a n:Int}(h:lu l a)(hn:1<=n)(rE:n<=1000000000000):∃x a',j0g l a n=some (x,l,a')/\0<=x/\x<n/\lu l a':=by
 obtain⟨h1,h2,h3⟩:=h;simp only[j0g,show Int.ofNat (List.length l)=(l.length:Int) from rfl];by_cases ha:a>=(l.length:Int)
 .rw[ao ha,j6];exact⟨0,a,rfl,by omega,by omega,h1,h2,h3⟩
 .rw[aw ha,j7,aw (show¬n<1 by omega),j7,bT h1 (by omega),j6,nC (show n≠0 by omega)];obtain⟨e,p1,p2,p3,p4⟩:=uy (l.getD a.toNat 0) n (by omega);rw[an (x:=a+1) (by omega) (by omega)];simp only[qc,j6];by_cases ht:Int.tmod (l.getD a.toNat 0) n<0
  .rw[ao ht,j6,an (by omega) (by omega)];exact⟨_,_,rfl,by omega,by omega,by omega,by omega,h3⟩
  .rw[aw ht,j7];exact⟨_,_,rfl,by omega,by omega,by omega,by omega,h3⟩
theorem sL{l:List Int}{a:Int}(h:lu l a){xs:List Int}(ry:0<xs.length)(iW:xs.length<=1000000):∃x a',j15 l a xs=some (x,l,a')/\x∈xs/\lu l a':=by
 obtain⟨x,a',e,h1,h2,h3⟩:=gE (n:=(xs.length:Int)) h (by omega) (by omega);simp only[j15,show Int.ofNat (List.length xs)=(xs.length:Int) from rfl,e,j4];rw[bT h1 (by omega),j6];have ak:x.toNat<xs.length:=by omega
 refine⟨_,_,rfl,?_,h3⟩;rw[jz,jq ak];exact qr ak
abbrev bd:=List (Int×Int)
def eN(l:bd)(i:Nat):Int:=(l.getD i (0,0)).1
def du(o:Int)(l:bd)(i:Nat):Int:=if i=0 then o else (l.getD (i-1) (0,0)).2
def aH(l:bd)(i:Nat):Int:=if i=0 then 0 else if i<=l.length then eN l (i-1) else 8589934593
structure jB(o:Int)(l:bd):Prop where
 len:l.length<=1000
 gap:∀i,i+1<l.length->eN l i+604800<=eN l (i+1)
 pos:∀i,i<l.length->1000000<eN l i
 max:∀i,i<l.length->eN l i<=8589000000
 of0:∀i,i<=l.length -> -64800<=du o l i
 of1:∀i,i<=l.length->du o l i<=64800
section
variable{o:Int}{l:bd}(h:jB o l)
include h
theorem jB.at_lt:∀(k i:Nat),i+k+1<l.length->eN l i+604800<=eN l (i+k+1)
 |0,i,hk=>h.gap i hk
 |k+1,i,hk=>by
  have h1:=jB.at_lt k i (by omega);have h2:=h.gap (i+k+1) (by omega);rw[show i+(k+1)+1=i+k+1+1 by omega];omega
theorem jB.at_le{i j:Nat}(cg:i<j)(hj:j<l.length):eN l i+604800<=eN l j:=by
 have:=h.at_lt (j-i-1) i (by omega);rwa[show i+(j-i-1)+1=j by omega]at this
omit h in
theorem oV:aH l 0=0:=rfl
omit h in
theorem mO{i:Nat}(hi:i<l.length):aH l (i+1)=eN l i:=by
 unfold aH;rw[if_neg (Nat.succ_ne_zero i),if_pos (show i+1<=l.length by omega)];rfl
omit h in
theorem uA:aH l (l.length+1)=8589934593:=by
 unfold aH;rw[if_neg (Nat.succ_ne_zero _),if_neg (show¬l.length+1<=l.length by omega)]
theorem jB.frm_lt{i:Nat}(hi:i<=l.length):aH l i<aH l (i+1):=by
 rcases qk i l.length with hl|hl
 .rw[mO hl];cases i with
  |zero=>rw[oV];exact(by have:=h.pos 0 hl;omega)
  |succ i=>rw[mO (by omega)];have:=h.gap i hl;omega
 .have:i=l.length:=by omega
  subst this;rw[uA];cases hq:l.length with
  |zero=>rw[oV];omega
  |succ n=>rw[mO (by omega)];have:=h.max n (by omega);omega
theorem jB.frm_le{i j:Nat}(cg:i<=j)(hj:j<=l.length+1):aH l i<=aH l j:=by
 induction j with
 |zero=>
  have:i=0:=by omega
  subst this;omega
 |succ j ih=>
  by_cases he:i=j+1
  .subst he;omega
  .have h1:=ih (by omega) (by omega);have h2:=h.frm_lt (i:=j) (by omega);omega
theorem Fa{t:Int}{k:Nat}(hk:k<=l.length)(eQ:∀i,i<k->eN l i<=t)(eR:∀i,k<=i->i<l.length->t<eN l i) :
  ∀(n:Nat)(a b:Nat),b-a<=n->a<=k->k<=b->b<=l.length->uq o l t (a:Int) (b:Int)=some (k:Int)
 |0,a,b,hn,ha,hb,tD=>by
  rw[Jq];simp only[j1o,aw (show¬(a:Int)<(b:Int) by omega),j7,bC];congr 1;omega
 |n+1,a,b,hn,ha,hb,tD=>by
  have hlen:=h.len;rw[Jq];by_cases eS:a<b
  .have hm:IntKind.wrap .u64 ((a:Int)+(b:Int))=(a:Int)+(b:Int):=IntWalk.u64_in _ ⟨by omega,by omega⟩;have hd:Int.fdiv ((a:Int)+(b:Int)) 2=(((a+b)/2:Nat):Int):=by rw[Int.fdiv_eq_ediv_of_nonneg _ (by omega)];omega
   simp only[j1o,ao (show (a:Int)<(b:Int) by omega),j6];rw[an (x:=(a:Int)+(b:Int)) (by omega) (by omega),hm,hd,an (x:=(((a+b)/2:Nat):Int)) (by omega) (by omega)];simp only[j3x];rw[bT (by omega) (by omega)];simp only[j6,j4,j8];by_cases hc:eN l ((a+b)/2)>t
   .rw[ao (show (l.getD ((a+b)/2) ((0:Int),(0:Int))).1>t from hc)];simp only[ju,j7,bF]
    have nw:k<=(a+b)/2:=by
     rcases qk ((a+b)/2) k with h'|h'
     .have:=eQ _ h';omega
     .exact h'
    exact Fa hk eQ eR n a ((a+b)/2) (by omega) ha nw (by omega)
   .rw[aw (show¬(l.getD ((a+b)/2) ((0:Int),(0:Int))).1>t from hc)];simp only[qc,j6,bF];rw[an (by omega) (by omega)]
    have nw:(a+b)/2<k:=by
     rcases qk ((a+b)/2) k with h'|h'
     .exact h'
     .have:=eR _ h' (by omega);omega
    exact Fa hk eQ eR n ((a+b)/2+1) b (by omega) (by omega) hb tD
  .simp only[j1o,aw (show¬(a:Int)<(b:Int) by omega),j7,bC];congr 1;omega
theorem J8{t:Int}{k:Nat}(hk:k<=l.length)(h1:aH l k<=t)(h2:t<aH l (k+1)):j1k (o,l) t=some (k:Int):=by
 have eQ:∀i,i<k->eN l i<=t:=by
  intro i hi;have:aH l k=eN l (k-1):=by have:=mO (l:=l) (i:=k-1) (by omega);rwa[show k-1+1=k by omega]at this
  rw[this]at h1;by_cases he:i=k-1
  .subst he;exact h1
  .have:=h.at_le (i:=i) (j:=k-1) (by omega) (by omega);omega
 have eR:∀i,k<=i->i<l.length->t<eN l i:=by
  intro i hi hl;have:aH l (k+1)=eN l k:=mO (by omega);rw[this]at h2;by_cases he:i=k
  .subst he;exact h2
  .have:=h.at_le (i:=k) (j:=i) (by omega) hl;omega
 have:=Fa h hk eQ eR l.length 0 l.length (by omega) (by omega) hk (by omega);simp only[j1k,j4k,show Int.ofNat (List.length l)=(l.length:Int) from rfl];rw[show (0:Int)=((0:Nat):Int) from rfl,this];rfl
theorem J9{k:Nat}(hk:k<=l.length):j1P (o,l) (k:Int)=some (du o l k):=by
 have hlen:=h.len;unfold du;by_cases h0:k=0
 .subst h0;rfl
 .simp only[j1P];rw[nC (show (k:Int)≠0 by omega),j7,an (by omega) (by omega),bT (by omega) (by omega),show ((k:Int)-1).toNat=k-1 by omega,if_neg h0];rfl
theorem To{t:Int}{k:Nat}(hk:k<=l.length)(h1:aH l k<=t)(h2:t<aH l (k+1)):j1p (o,l) t=some (du o l k):=by
 simp only[j1p,J8 h hk h1 h2,j4,J9 h hk]
theorem Fb{t:Int}(h0:0<=t)(h1:t<=8589934592):∃k,k<=l.length/\aH l k<=t/\t<aH l (k+1):=by
 have _:=h
 have:∀n,n<=l.length+1->t<aH l n->∃k,k<n/\aH l k<=t/\t<aH l (k+1):=by
  intro n;induction n with
  |zero=>intro _ hn;have:aH l 0=0:=rfl;omega
  |succ n ih=>
   intro hn ak;by_cases hc:aH l n<=t
   .exact⟨n,by omega,hc,ak⟩
   .obtain⟨k,a1,a2,a3⟩:=ih (by omega) (by omega);exact⟨k,by omega,a2,a3⟩
 have cZ:aH l (l.length+1)=8589934593:=uA;obtain⟨k,a1,a2,a3⟩:=this (l.length+1) (by omega) (by omega);exact⟨k,by omega,a2,a3⟩
def pc(o:Int)(l:bd)(i:Nat):Int×(Int×Int):=(aH l i,(aH l (i+1),du o l i))
def Ka(o:Int)(l:bd)(s:Int)(i:Nat):Prop:=aH l i<=s-du o l i/\s-du o l i<aH l (i+1)
instance(o:Int)(l:bd)(s:Int)(i:Nat):Decidable (Ka o l s i):=by unfold Ka;infer_instance
omit h in
theorem Tp{n:Int}(h1 : -1000000000000<=n)(h2:n<=1000000000000):j8g n=some (n/86400,n%86400):=by
 obtain⟨e,p1,p2,p3,p4⟩:=uy n 86400 (by omega);simp only[j8g];rw[an (x:=Int.tdiv n 86400) (by omega) (by omega)];by_cases hm:Int.tmod n 86400<0
 .rw[ao hm,j6,an (x:=Int.tdiv n 86400-1) (by omega) (by omega),an (x:=(Int.tdiv n 86400-1)*86400) (by omega) (by omega),an (by omega) (by omega)];have:n/86400=Int.tdiv n 86400-1:=by omega
  congr 2
  .omega
  .omega
 .rw[aw hm,j7,an (x:=Int.tdiv n 86400*86400) (by omega) (by omega),an (by omega) (by omega)];congr 2
  .omega
  .omega
theorem Tq{t:Int}{k:Nat}(hk:k<=l.length)(h1:aH l k<=t)(h2:t<aH l (k+1)):j1E (o,l) t=some ((t+du o l k)/86400,(t+du o l k)%86400):=by
 have o1:=h.of0 k hk;have o2:=h.of1 k hk;have g1:0<=aH l k:=by have:=h.frm_le (i:=0) (j:=k) (by omega) (by omega);have e:aH l 0=0:=rfl;omega
 have cZ:aH l (l.length+1)=8589934593:=uA;have g2:=h.frm_le (i:=k+1) (j:=l.length+1) (by omega) (by omega);simp only[j1E,To h hk h1 h2,j4];rw[an (x:=t+du o l k) (by omega) (by omega),Tp (by omega) (by omega)];rfl
end
def gN(x:Int×Int):bd->bd
 |[]=>[x]
 |y::ys=>if x.1<y.1 then y::gN x ys else x::y::ys
def gg:bd->bd->bd
 |[],acc=>acc
 |x::xs,acc=>gg xs (gN x acc)
def c9(l:bd):bd:=(gg l []).reverse
theorem xA(x:Int×Int):∀l,(gN x l).length=l.length+1
 |[]=>rfl
 |y::ys=>by unfold gN;split<;>simp[xA x ys]
theorem xB:∀(l acc:bd),(gg l acc).length=l.length+acc.length
 |[],acc=>by simp[gg]
 |x::xs,acc=>by simp only[gg,xB xs,xA,jm];omega
def Sm(l:bd):Prop:=∀x∈l, -1000000000000<=x.1/\x.1<=1000000000000
theorem Kb{x:Int×Int}(hx : -1000000000000<=x.1/\x.1<=1000000000000):∀{l:bd},Sm l->Sm (gN x l)
 |[],_=>λy hy=>by simp[gN]at hy;subst hy;exact hx
 |z::zs,h=>by
  unfold gN;split
  .intro y hy;rcases jf.1 hy with rfl|hy
   .exact h _ (by simp)
   .exact Kb hx (l:=zs) (λw hw=>h w (by simp[hw])) y hy
  .intro y hy;rcases jf.1 hy with rfl|hy
   .exact hx
   .exact h y hy
theorem Tr(rp mid:bd)(x:Int×Int):(rp.reverse++x::mid).getD rp.length (0,0)=x:=by
 rw[jz,k5 (by simp)];simp
theorem Kc(n s8:Int)(x:Int×Int)(hx : -1000000000000<=x.1/\x.1<=1000000000000):∀(rp mid:bd),Sm rp->rp.length+mid.length<=1000->
  ug 0 n s8 (rp.length:Int) (rp.reverse++x::mid)=some (0,n,s8,(gN x rp).reverse++mid)
 |[],mid,_,_=>by
  rw[Jl];simp only[j0f];rw[aw (by simp),j7,bC];rfl
 |y::ys,mid,uc,hlen=>by
  have hy:=uc y (by simp);have hL:((y::ys).reverse++x::mid).length=ys.length+1+(mid.length+1):=by simp;omega
  simp only[jm]at hlen;rw[Jl];simp only[j0f,jm];rw[ao (show ((ys.length+1:Nat):Int)>0 by omega),bT (by omega) (by rw[hL];omega),an (x:=((ys.length+1:Nat):Int)-1) (by omega) (by omega),bT (by omega) (by rw[hL];omega)];simp only[j6,j8];have g1:((y::ys).reverse++x::mid).getD (ys.length+1) ((0:Int),(0:Int))=x:=Tr (y::ys) mid x;have g2:((y::ys).reverse++x::mid).getD ((((ys.length+1:Nat):Int)-1).toNat) ((0:Int),(0:Int))=y:=by rw[show (((ys.length+1:Nat):Int)-1).toNat=ys.length by omega];simp
  rw[g1,g2];simp only[j3w,j4];rw[an (x:=x.1-y.1) (by omega) (by omega)];by_cases hc:x.1<y.1
  .rw[ao (show x.1-y.1<0 by omega)];have fv:List.set (List.set ((y::ys).reverse++x::mid) (ys.length+1) (y.1,y.2)) ((((ys.length+1:Nat):Int)-1).toNat) (x.1,x.2)=ys.reverse++x::(y::mid):=by rw[show (((ys.length+1:Nat):Int)-1).toNat=ys.length by omega];simp
   rw[bT (by omega) (by rw[qq,hL];omega)];simp only[j6,bF,fv];have he:=Kc n s8 x hx ys (y::mid) (λz hz=>uc z (by simp[hz])) (by simp;omega);rw[show ((ys.length+1:Nat):Int)-1=(ys.length:Int) by omega,he];simp[gN,hc]
  .rw[aw (show¬x.1-y.1<0 by omega)];simp only[j7,bC];simp[gN,hc]
theorem Kd:∀(xs rp:bd),Sm rp->Sm xs->rp.length+xs.length<=1000->
  uh 0 ((rp.length+xs.length:Nat):Int) (rp.length:Int) (rp.reverse++xs)=some (gg xs rp).reverse
 |[],rp,_,_,_=>by
  rw[DY];simp only[j04];rw[aw (by simp),j7,bC];simp[gg]
 |x::xs,rp,hr,hx,hlen=>by
  have Ke:=hx x (by simp);simp only[jm]at hlen;have he:=Kc ((rp.length+(x::xs).length:Nat):Int) (rp.length:Int) x Ke rp xs hr (by omega);have ih:=Kd xs (gN x rp) (Kb Ke hr) (λz hz=>hx z (by simp[hz])) (by rw[xA];omega);rw[xA]at ih;rw[DY];simp only[j04];rw[ao (by simp only[jm];omega),he];simp only[j6,j4,gg];rw[show rp.length+1+xs.length=rp.length+(x::xs).length by simp;omega]at ih;rw[an (by omega) (by omega),bF];exact ih
theorem Ts{l:bd}(hs:Sm l)(hl:l.length<20):j05 l=some (c9 l):=by
 have sM:j07 l 0 (l.length:Int)=some (c9 l):=by
  simp only[j07];cases l with
  |nil=>rw[DY];rfl
  |cons x xs=>have:=Kd xs [x] (λz hz=>by simp at hz;subst hz;exact hs _ (by simp)) (λz hz=>hs z (by simp[hz])) (by simp at hl ⊢;omega);rw[show w64 (0+1)=(([x]:bd).length:Int) from rfl,show ((x::xs).length:Int)=(([x].length+xs.length:Nat):Int) by simp;omega];rw[show (x::xs)=[x].reverse++xs from rfl,this];rfl
 have e0:ui (l.length:Int) 20 0 20 l=some ((l.length:Int),20,0,l):=by rw[QI];simp only[j08];rw[aw (by omega),j7,bC]
 have e2:uj (l.length:Int) 20 (c9 l)=some (c9 l):=by rw[QJ];simp only[j09];rw[aw (by omega),j7,bC]
 simp only[j05,j0s,show Int.ofNat (List.length l)=(l.length:Int) from rfl,e0,j4,sM,e2]
def oW(y:Int):Bool:=decide (y%4=0)&&(!decide (y%100=0)||decide (y%400=0))
def fH(y:Int):Int:=if y%4=0/\(y%100≠0\/y%400=0) then 1 else 0
theorem Fc(y:Int):oW y=true↔y%4=0/\(y%100≠0\/y%400=0):=by simp[oW]
theorem Kf(y:Int):fH y=if oW y then 1 else 0:=by
 unfold fH;by_cases h:oW y=true
 .rw[if_pos ((Fc y).1 h),if_pos h]
 .rw[if_neg (λh'=>h ((Fc y).2 h')),if_neg h]
theorem Ar(y:Int):0<=fH y/\fH y<=1:=by unfold fH;split<;>omega
def dx(y m:Int):Int:=
 if m<1\/12<m then 0 else if m=2 then 28+fH y else if m=4\/m=6\/m=9\/m=11 then 30 else 31
def fp(y:Int):Int:=365*(y-1970)+(y-1)/4-(y-1)/100+(y-1)/400-477
def gO(y m:Int):Int:=
 if m<=1 then 0 else if m=2 then 31 else if m=3 then 59+fH y else if m=4 then 90+fH y else if m=5 then 120+fH y else if m=6 then 151+fH y
 else if m=7 then 181+fH y else if m=8 then 212+fH y else if m=9 then 243+fH y else if m=10 then 273+fH y else if m=11 then 304+fH y else if m=12 then 334+fH y else 365+fH y
def num(y m d:Int):Int:=fp y+gO y m+d-1
theorem Tt(y:Int):fp (y+1)=fp y+365+fH y:=by
 unfold fp fH;split<;>omega
theorem Fe{a b:Int}(h:a<=b):fp a+365*(b-a)<=fp b:=by unfold fp;omega
theorem Ff(y m:Int)(h1:1<=m)(h2:m<=12):gO y (m+1)=gO y m+dx y m:=by
 obtain rfl|rfl|rfl|rfl|rfl|rfl|rfl|rfl|rfl|rfl|rfl|rfl:m=1\/m=2\/m=3\/m=4\/m=5\/m=6\/m=7\/m=8\/m=9\/m=10\/m=11\/m=12:=by omega
 all_goals (simp[gO,dx];try omega)
theorem mP(y m:Int):0<=dx y m/\dx y m<=31:=by
 have:=Ar y;unfold dx;repeat' split;all_goals omega
theorem xC(y m:Int)(h1:1<=m)(h2:m<=12):28<=dx y m:=by
 have:=Ar y;unfold dx;rw[if_neg (by omega)];repeat' split;all_goals omega
theorem Kg(y m:Int):0<=gO y m/\gO y m<=366:=by
 have:=Ar y;unfold gO;omega
theorem Kh(y:Int):ja8 y=some (oW y):=by
 have e:(cond (Int.tmod y 4==(0:Int)) (cond (Int.tmod y 100 != (0:Int)) true (Int.tmod y 400==(0:Int))) false)=oW y:=by unfold bne;rw[E9,E9,E9,Bool.eq_iff_iff,Fc];by_cases h1:y%4=0<;>by_cases h2:y%100=0<;>by_cases h3:y%400=0<;>simp[h1,h2,h3]
 exact kc some e
theorem Fg(y m:Int):j4i y m=some (dx y m):=by
 by_cases h:m<1\/12<m
 .have hc:cond (decide (m<(1:Int))) true (decide (m>(12:Int)))=true:=by rcases h with h|h<;>by_cases h1:m<1<;>simp[h1]<;>omega
  have:dx y m=0:=if_pos h;rw[this];unfold j4i;rw[hc];rfl
 .obtain rfl|rfl|rfl|rfl|rfl|rfl|rfl|rfl|rfl|rfl|rfl|rfl:m=1\/m=2\/m=3\/m=4\/m=5\/m=6\/m=7\/m=8\/m=9\/m=10\/m=11\/m=12:=by omega
  case inr.inl=>simp only[j4i,Kh,dx,Kf,j4];cases oW y<;>rfl
  all_goals rfl
theorem Tu(y m d:Int):j5i (y,m,d)=some (decide (1970<=y/\y<=2240/\1<=d/\d<=dx y m)):=by
 simp only[j5i,Fg,j4];by_cases h1:1970<=y<;>by_cases h2:y<=2240<;>by_cases h3:1<=d<;>simp[h1,h2,h3]
theorem Fh(a b:Int)(hb:0<b)(h1 : -1000000000000<=a)(h2:a<=1000000000000):j4j a b=some (a/b):=by
 have cI:(b==0)=false:=by simp;omega
 obtain⟨e,p1,p2,p3,p4⟩:=uy a b hb
 have hq : -1000000000000<=Int.tdiv a b/\Int.tdiv a b<=1000000000000:=by
  rcases Int.le_total 0 a with h|h
  .have h0:0<=a/b:=Int.ediv_nonneg h (by omega);have h3:a/b<=a:=Int.ediv_le_self b h;rw[sK h];omega
  .have h0:0<=(-a)/b:=Int.ediv_nonneg (by omega) (by omega);have h3:(-a)/b <= -a:=Int.ediv_le_self b (by omega);have h4:Int.tdiv (-a) b=(-a)/b:=sK (by omega);rw[Int.neg_tdiv]at h4;omega
 simp only[j4j,cI,qc,j6];rw[an (x:=Int.tdiv a b) (by omega) (by omega)];by_cases hm:Int.tmod a b<0
 .rw[ao hm,j6,an (by omega) (by omega)];congr 1
  have:a/b=Int.tdiv a b-1:=by
   have h3:a=(a.tmod b+b)+b*(Int.tdiv a b-1):=by rw[Int.mul_sub];omega
   rw[h3,Int.add_mul_ediv_left _ _ (by omega),Int.ediv_eq_zero_of_lt (by omega) (by omega)];rw[<-h3];omega
  omega
 .rw[aw hm,j7];congr 1;have h3:a=a.tmod b+b*Int.tdiv a b:=by omega
  have:a/b=Int.tdiv a b:=by
   conv=>lhs;rw[h3]
   rw[Int.add_mul_ediv_left _ _ (by omega),Int.ediv_eq_zero_of_lt (by omega) (by omega)];omega
  omega
theorem Tv(y:Int)(h1 : -1000000000<=y)(h2:y<=1000000000):j6S y=some (fp y):=by
 simp only[j6S];rw[an (x:=y-1) (by omega) (by omega),an (x:=y-1970) (by omega) (by omega),Fh _ 4 (by omega) (by omega) (by omega),Fh _ 100 (by omega) (by omega) (by omega),Fh _ 400 (by omega) (by omega) (by omega)];simp only[j4];simp (disch:=omega) only[an];rfl
theorem Ki(y m d:Int)(hm:m<=13):∀(n:Nat)(s k:Int),1<=k->k+n=m -> -1000000000000<=s->s+31*n<=1000000000000->uf s k y m d=some (s+gO y m-gO y k)
 |0,s,k,hk,hn,_,_=>by
  rw[Jk];have:k=m:=by omega
  subst this;simp only[j1I,aw (show¬k<k by omega),j7,bC];congr 1;omega
 |n+1,s,k,hk,hn,h1,h2=>by
  rw[Jk];have hd:=mP y k;have hc:=Ff y k hk (by omega);simp only[j1I,Fg,j4,ao (show k<m by omega),j6,bF];rw[an (x:=s+dx y k) (by omega) (by omega),an (x:=k+1) (by omega) (by omega)];have ih:=Ki y m d hm n (s+dx y k) (k+1) (by omega) (by omega) (by omega) (by omega);rw[ih];congr 1;omega
theorem Tw(y m d:Int)(h1 : -1000000<=y)(h2:y<=1000000)(fU:1<=m)(iv:m<=12)(mZ : -1000000<=d)(na:d<=1000000):j2W (y,m,d)=some (num y m d):=by
 have hb : -1000000000<=fp y/\fp y<=1000000000:=by unfold fp;omega
 simp only[j2W,Tv y (by omega) (by omega),j4];rw[an (x:=fp y+d) (by omega) (by omega),an (by omega) (by omega),Ki y m d (by omega) (m-1).toNat _ 1 (by omega) (by omega) (by omega) (by omega)];have:gO y 1=0:=rfl;simp only[j4,num];congr 1;omega
theorem Tx(day:Int):j2y day=some ((Int.tmod day 7+10)%7):=by
 obtain⟨e,p1,p2,p3,p4⟩:=uy day 7 (by omega);simp only[j2y];rw[an (by omega) (by omega),qQ (by omega)]
theorem As(day:Int)(_h : -3<=day):j2y day=some ((day+3)%7):=by
 rw[Tx];congr 1;obtain⟨e,p1,p2,p3,p4⟩:=uy day 7 (by omega);omega
def oX(y m d:Int):Prop:=1970<=y/\y<=2240/\1<=d/\d<=dx y m
instance(y m d:Int):Decidable (oX y m d):=by unfold oX;infer_instance
theorem Fi{y m d:Int}(h:oX y m d):1<=m/\m<=12:=by
 obtain⟨_,_,h3,h4⟩:=h;by_cases hm:m<1\/12<m
 .have:dx y m=0:=if_pos hm;omega
 .omega
theorem Tz{y m d:Int}:decide (1970<=y/\y<=2240/\1<=d/\d<=dx y m)=decide (oX y m d):=rfl
theorem xD{y m d:Int}(h:oX y m d):0<=num y m d/\num y m d<98981:=by
 have hm:=Fi h;obtain⟨h1,h2,h3,h4⟩:=h;have hc:=Kg y m;have c1:=Fe (a:=1970) (b:=y) (by omega);have c2:=Fe (a:=y) (b:=2240) (by omega);have e1:fp 1970=0:=by decide
 have hd:=mP y m;have e2:fp 2240=98615:=by decide
 have cB:gO y m+dx y m<=365+fH y:=by
  have:=Ff y m hm.1 hm.2;have:gO y (m+1)<=365+fH y:=by have:=Ar y;unfold gO;omega
  omega
 have c3:=Tt y;have c4:=Fe (a:=y+1) (b:=2241) (by omega);have e3:fp 2241=98981:=by decide
 unfold num;omega
def nth(y m k w:Int):Int:=
 let d:=num y m 1+(w-(num y m 1+3)%7+7)%7+7*(k-1)
 if d>=num y m 1+dx y m then d-7 else d
theorem xE(y m:Int)(h1:1970<=y)(h2:y<=2240)(fU:1<=m)(iv:m<=12):oX y m 1:=⟨h1,h2,by omega,by have:=xC y m fU iv;omega⟩
theorem TA(y m k w:Int)(h1:1970<=y)(h2:y<=2240)(fU:1<=m)(iv:m<=12)(b9:1<=k)(dj:k<=5)(BP:0<=w)(qI:w<=6):j5j y m k w=some (nth y m k w,0):=by
 have hv:=xE y m h1 h2 fU iv;have hr:=xD hv;have hd:=mP y m;have Fj:j5i (y,m,1)=some true:=by rw[Tu,Tz,decide_eq_true hv]
 simp only[j5j,Fj,j4,ju,j7];rw[aw (show¬k<1 by omega),aw (show¬k>5 by omega),aw (show¬w<0 by omega),aw (show¬w>6 by omega)];simp only[j7,Tw y m 1 (by omega) (by omega) fU iv (by omega) (by omega),j4,As _ (show -3<=num y m 1 by omega),Fg];generalize hn:num y m 1=n at *;have hm7:0<=(n+3)%7/\(n+3)%7<=6:=by omega
 rw[an (x:=w-(n+3)%7) (by omega) (by omega),an (x:=w-(n+3)%7+7) (by omega) (by omega),qQ (show 0<=w-(n+3)%7+7 by omega)];rw[an (x:=k-1) (by omega) (by omega),an (x:=7*(k-1)) (by omega) (by omega)];rw[an (x:=n+(w-(n+3)%7+7)%7) (by omega) (by omega),an (x:=n+(w-(n+3)%7+7)%7+7*(k-1)) (by omega) (by omega),an (x:=n+dx y m) (by omega) (by omega)];unfold nth;simp only[hn];by_cases hc:n+(w-(n+3)%7+7)%7+7*(k-1)>=n+dx y m
 .rw[ao hc,j6,if_pos hc,an (by omega) (by omega)]
 .rw[aw hc,j7,if_neg hc]
theorem TB(x n:Int)(hn:0<n)(rE:n<=1000000000000):j9G x n=some (x%n):=by
 have h0:(n==0)=false:=by simp;omega
 obtain⟨e,p1,p2,p3,p4⟩:=uy x n hn;simp only[j9G,h0,qc,j6];rw[an (by omega) (by omega),qQ (by omega)];congr 1;have h3:x=x.tmod n+n*Int.tdiv x n:=by omega
 conv=>rhs;rw[h3]
 rw[Int.add_mul_emod_self_left,Int.add_emod_right]
end Go.Proofs.Pw
open Go Go.Lft
set_option linter.unusedVariables false
set_option maxRecDepth 100000
namespace Go.Proofs.Pw
noncomputable section
theorem TC(N a b c d):OLe (@sC (cT N) a b c d) (sC a b c d):=OLe.loop N _ λ_=>oR _
theorem Kj(N a):OLe (@j1w (cT N) a) (j1w a):=by
 unfold j1w;with_reducible repeat' (first|exact oR _|exact oN _|exact TC N _ _ _ _|apply oC|apply oS|refine oB ?_ ?_|intro _)
theorem TD(N a b c d e):OLe (@ue (cT N) a b c d e) (ue a b c d e):=OLe.loop N _ λ_=>oR _
theorem TE(N a):OLe (@j2x (cT N) a) (j2x a):=by
 unfold j2x;with_reducible repeat' (first|exact oR _|exact oN _|exact Kj N _|exact TD N _ _ _ _ _|apply oC|apply oS|refine oB ?_ ?_|intro _)
theorem TF(N a b c d e):OLe (@uf (cT N) a b c d e) (uf a b c d e):=OLe.loop N _ λ_=>oR _
theorem TG(N a):OLe (@j2W (cT N) a) (j2W a):=by
 unfold j2W;with_reducible repeat' (first|exact oR _|exact oN _|exact TF N _ _ _ _ _|apply oC|apply oS|refine oB ?_ ?_|intro _)
theorem TH(N a b c d):OLe (@j5j (cT N) a b c d) (j5j a b c d):=by
 unfold j5j;with_reducible repeat' (first|exact oR _|exact oN _|exact TG N _|apply oC|apply oS|refine oB ?_ ?_|intro _)
theorem TI(N a b c d e):OLe (@ug (cT N) a b c d e) (ug a b c d e):=OLe.loop N _ λ_=>oR _
theorem TJ(N a b c d):OLe (@j04 (cT N) a b c d) (j04 a b c d):=by
 unfold j04;with_reducible repeat' (first|exact oR _|exact oN _|exact TI N _ _ _ _ _|apply oC|apply oS|refine oB ?_ ?_|intro _)
theorem TK(N a b c d):OLe (@uh (cT N) a b c d) (uh a b c d):=OLe.loop N _ λ_=>TJ N _ _ _ _
theorem Kk(N a b c):OLe (@j07 (cT N) a b c) (j07 a b c):=by
 unfold j07;with_reducible repeat' (first|exact oR _|exact oN _|exact TK N _ _ _ _|apply oC|apply oS|refine oB ?_ ?_|intro _)
theorem TL(N a b c d e):OLe (@j08 (cT N) a b c d e) (j08 a b c d e):=by
 unfold j08;with_reducible repeat' (first|exact oR _|exact oN _|exact Kk N _ _ _|apply oC|apply oS|refine oB ?_ ?_|intro _)
theorem TM(N a b c d e):OLe (@ui (cT N) a b c d e) (ui a b c d e):=OLe.loop N _ λ_=>TL N _ _ _ _ _
theorem TN(N a b c d e):OLe (@DZ (cT N) a b c d e) (DZ a b c d e):=OLe.loop N _ λ_=>oR _
theorem TO(N a b c):OLe (@j09 (cT N) a b c) (j09 a b c):=by
 unfold j09;with_reducible repeat' (first|exact oR _|exact oN _|exact TN N _ _ _ _ _|apply oC|apply oS|refine oB ?_ ?_|intro _)
theorem TP(N a b c):OLe (@uj (cT N) a b c) (uj a b c):=OLe.loop N _ λ_=>TO N _ _ _
theorem TQ(N a b):OLe (@j0s (cT N) a b) (j0s a b):=by
 unfold j0s;with_reducible repeat' (first|exact oR _|exact oN _|exact TM N _ _ _ _ _|exact Kk N _ _ _|exact TP N _ _ _|apply oC|apply oS|refine oB ?_ ?_|intro _)
theorem TR(N a):OLe (@j05 (cT N) a) (j05 a):=by
 unfold j05;with_reducible repeat' (first|exact oR _|exact oN _|exact TQ N _ _|apply oC|apply oS|refine oB ?_ ?_|intro _)
theorem TS(N a b c d e f g):OLe (@sD (cT N) a b c d e f g) (sD a b c d e f g):=OLe.loop N _ λ_=>oR _
theorem TT(N a b c d e f g h i j k l):OLe (@j0w (cT N) a b c d e f g h i j k l) (j0w a b c d e f g h i j k l):=by
 unfold j0w;with_reducible repeat' (first|exact oR _|exact oN _|exact TH N _ _ _ _|apply oC|apply oS|refine oB ?_ ?_|intro _)
theorem TU(N a b c d e f g h i j k l):OLe (@um (cT N) a b c d e f g h i j k l) (um a b c d e f g h i j k l):=OLe.loop N _ λ_=>TT N _ _ _ _ _ _ _ _ _ _ _ _
theorem TW(N a b c d):OLe (@j0x (cT N) a b c d) (j0x a b c d):=by
 unfold j0x;with_reducible repeat' (first|exact oR _|exact oN _|exact TU N _ _ _ _ _ _ _ _ _ _ _ _|apply oC|apply oS|refine oB ?_ ?_|intro _)
theorem TX(N a b c d):OLe (@sE (cT N) a b c d) (sE a b c d):=OLe.loop N _ λ_=>TW N _ _ _ _
theorem TY(N a):OLe (@j1D (cT N) a) (j1D a):=by
 unfold j1D;with_reducible repeat' (first|exact oR _|exact oN _|exact TS N _ _ _ _ _ _ _|exact TX N _ _ _ _|exact TR N _|apply oC|apply oS|refine oB ?_ ?_|intro _)
theorem TZ(N a b c d e):OLe (@sF (cT N) a b c d e) (sF a b c d e):=OLe.loop N _ λ_=>oR _
theorem T0(N a):OLe (@j1j (cT N) a) (j1j a):=by
 unfold j1j;with_reducible repeat' (first|exact oR _|exact oN _|exact TY N _|exact TZ N _ _ _ _ _|apply oC|apply oS|refine oB ?_ ?_|intro _)
theorem T1(N a):OLe (@j5k (cT N) a) (j5k a):=by
 unfold j5k;with_reducible repeat' (first|exact oR _|exact oN _|exact T0 N _|apply oC|apply oS|refine oB ?_ ?_|intro _)
theorem T2(N a b):OLe (@j3O (cT N) a b) (j3O a b):=by
 unfold j3O;with_reducible repeat' (first|exact oR _|exact oN _|exact T1 N _|apply oC|apply oS|refine oB ?_ ?_|intro _)
theorem T3(N a b c d e):OLe (@uq (cT N) a b c d e) (uq a b c d e):=OLe.loop N _ λ_=>oR _
theorem T4(N a b c d):OLe (@j4k (cT N) a b c d) (j4k a b c d):=by
 unfold j4k;with_reducible repeat' (first|exact oR _|exact oN _|exact T3 N _ _ _ _ _|apply oC|apply oS|refine oB ?_ ?_|intro _)
theorem T5(N a b):OLe (@j1k (cT N) a b) (j1k a b):=by
 unfold j1k;with_reducible repeat' (first|exact oR _|exact oN _|exact T4 N _ _ _ _|apply oC|apply oS|refine oB ?_ ?_|intro _)
theorem T6(N a b):OLe (@j1p (cT N) a b) (j1p a b):=by
 unfold j1p;with_reducible repeat' (first|exact oR _|exact oN _|exact T5 N _ _|apply oC|apply oS|refine oB ?_ ?_|intro _)
theorem T7(N a b):OLe (@j1E (cT N) a b) (j1E a b):=by
 unfold j1E;with_reducible repeat' (first|exact oR _|exact oN _|exact T6 N _ _|apply oC|apply oS|refine oB ?_ ?_|intro _)
theorem T8(N a b):OLe (@j1Z (cT N) a b) (j1Z a b):=by
 unfold j1Z;with_reducible repeat' (first|exact oR _|exact oN _|exact T2 N _ _|exact T7 N _ _|apply oC|apply oS|refine oB ?_ ?_|intro _)
theorem Kl(N a b):OLe (@j1F (cT N) a b) (j1F a b):=by
 unfold j1F;with_reducible repeat' (first|exact oR _|exact oN _|exact T8 N _ _|apply oC|apply oS|refine oB ?_ ?_|intro _)
theorem T9(N a b c d):OLe (@ur (cT N) a b c d) (ur a b c d):=OLe.loop N _ λ_=>oR _
theorem Ua(N a b):OLe (@j6U (cT N) a b) (j6U a b):=by
 unfold j6U;with_reducible repeat' (first|exact oR _|exact oN _|exact T9 N _ _ _ _|apply oC|apply oS|refine oB ?_ ?_|intro _)
theorem Ub(N a b c):OLe (@j6V (cT N) a b c) (j6V a b c):=by
 unfold j6V;with_reducible repeat' (first|exact oR _|exact oN _|exact Kl N _ _|exact Kj N _|exact Ua N _ _|apply oC|apply oS|refine oB ?_ ?_|intro _)
theorem Uc(N):OLe (@j3D (cT N) ) (j3D ):=by
 unfold j3D;with_reducible repeat' (first|exact oR _|exact oN _|exact TE N _|exact Kl N _ _|exact Ub N _ _ _|apply oC|apply oS|refine oB ?_ ?_|intro _)
end
theorem Fk:j3D=some true:=Uc 60 true (by kernel_rfl)
end Go.Proofs.Pw
