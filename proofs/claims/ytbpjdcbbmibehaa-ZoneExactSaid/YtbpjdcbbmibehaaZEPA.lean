/- Small facts on SU xI. -/
import Derived.Test.YtbpjdcbbmibehaaZELD
import Derived.Test.YtbpjdcbbmibehaaZEFns
open Go Go.Lft
namespace Go.Proofs.Pw
theorem uQ(a b:Int)(hb:0<b):b*Int.tdiv a b+Int.tmod a b=a/\(0<=a->0<=Int.tmod a b)/\(a<=0->Int.tmod a b<=0)/\Int.tmod a b<b /\ -b<Int.tmod a b:=by
 have h1:=Int.mul_tdiv_add_tmod a b;have h2:0<=a->0<=Int.tmod a b:=λh=>Int.tmod_nonneg b h
 have h3:a<=0->Int.tmod a b<=0:=λh=>by
  have:=Int.tmod_nonneg (a:= -a) b (by omega);rw[Int.neg_tmod]at this;omega
 have h4:=Int.tmod_lt_of_pos a hb;have h5 : -b<Int.tmod a b:=by have:=Int.tmod_lt_of_pos (-a) hb;rw[Int.neg_tmod]at this;omega
 exact⟨h1,h2,h3,h4,h5⟩
theorem uR{a b:Int}(ha:0<=a):Int.tdiv a b=a/b:=Int.tdiv_eq_ediv_of_nonneg ha
theorem AD{a b:Int}(ha:0<=a):Int.tmod a b=a%b:=Int.tmod_eq_emod_of_nonneg ha
theorem E9(a b:Int):(Int.tmod a b==0)=(a%b==0):=by
 rw[Bool.eq_iff_iff];simp only[qt];rw[<-Int.dvd_iff_tmod_eq_zero,<-Int.dvd_iff_emod_eq_zero]
theorem aw{p:Prop}[Decidable p](h:p):decide p=true:=decide_eq_true h
theorem ay{p:Prop}[Decidable p](h:¬p):decide p=false:=decide_eq_false h
theorem qZ{a b:Int}(h:a=b):(a==b)=true:=by simp[h]
theorem jK{a b:Int}(h:a≠b):(a==b)=false:=by simp[h]
theorem bG{i:Int}{n:Nat}(h1:0<=i)(h2:i<n):inR i n=true:=by simp[inR,h1,h2]
def sY(l:List Int)(a:Int):Prop:=0<=a/\a<=(l.length:Int)/\l.length<=1000000
theorem ic{l:List Int}{a n:Int}(h:sY l a)(hn:1<=n)(tU:n<=1000000000000):∃x a',j0I l a n=some (x,l,a')/\0<=x/\x<n/\sY l a':=by
 obtain⟨h1,h2,h3⟩:=h;simp only[j0I,show Int.ofNat (List.length l)=(l.length:Int) from rfl];by_cases ha:a>=(l.length:Int)
 .rw[aw ha,j4];exact⟨0,a,rfl,by omega,by omega,h1,h2,h3⟩
 .rw[ay ha,j5,ay (show¬n<1 by omega),j5,bG h1 (by omega),j4,jK (show n≠0 by omega)];obtain⟨e,p1,p2,p3,p4⟩:=uQ (l.getD a.toNat 0) n (by omega);rw[ak (x:=a+1) (by omega) (by omega)];simp only[jj,j4];by_cases ht:Int.tmod (l.getD a.toNat 0) n<0
  .rw[aw ht,j4,ak (by omega) (by omega)];exact⟨_,_,rfl,by omega,by omega,by omega,by omega,h3⟩
  .rw[ay ht,j5];exact⟨_,_,rfl,by omega,by omega,by omega,by omega,h3⟩
theorem uS{l:List Int}{a:Int}(h:sY l a){xs:List Int}(na:0<xs.length)(nr:xs.length<=1000000):∃x a',j0T l a xs=some (x,l,a')/\x∈xs/\sY l a':=by
 obtain⟨x,a',e,h1,h2,h3⟩:=ic (n:=(xs.length:Int)) h (by omega) (by omega);simp only[j0T,show Int.ofNat (List.length xs)=(xs.length:Int) from rfl,e,j0];rw[bG h1 (by omega),j4];have ax:x.toNat<xs.length:=by omega
 refine⟨_,_,rfl,?_,h3⟩;rw[jl,jt ax];exact qh ax
abbrev aR:=List (Int×Int)
def cN(l:aR)(i:Nat):Int:=(l.getD i (0,0)).1
def bX(o:Int)(l:aR)(i:Nat):Int:=if i=0 then o else (l.getD (i-1) (0,0)).2
def aA(l:aR)(i:Nat):Int:=if i=0 then 0 else if i<=l.length then cN l (i-1) else 8589934593
structure jL(o:Int)(l:aR):Prop where
 len:l.length<=1000
 gap:∀i,i+1<l.length->cN l i+604800<=cN l (i+1)
 pos:∀i,i<l.length->1000000<cN l i
 max:∀i,i<l.length->cN l i<=8589000000
 of0:∀i,i<=l.length -> -64800<=bX o l i
 of1:∀i,i<=l.length->bX o l i<=64800
section
variable{o:Int}{l:aR}(h:jL o l)
include h
theorem jL.at_lt:∀(k i:Nat),i+k+1<l.length->cN l i+604800<=cN l (i+k+1)
 |0,i,hk=>h.gap i hk
 |k+1,i,hk=>by
  have h1:=jL.at_lt k i (by omega);have h2:=h.gap (i+k+1) (by omega);rw[show i+(k+1)+1=i+k+1+1 by omega];omega
theorem jL.at_le{i j:Nat}(cC:i<j)(hj:j<l.length):cN l i+604800<=cN l j:=by
 have:=h.at_lt (j-i-1) i (by omega);rwa[show i+(j-i-1)+1=j by omega]at this
omit h in
theorem mE:aA l 0=0:=rfl
omit h in
theorem fp{i:Nat}(hi:i<l.length):aA l (i+1)=cN l i:=by
 unfold aA;rw[if_neg (Nat.succ_ne_zero i),if_pos (show i+1<=l.length by omega)];rfl
omit h in
theorem kQ:aA l (l.length+1)=8589934593:=by
 unfold aA;rw[if_neg (Nat.succ_ne_zero _),if_neg (show¬l.length+1<=l.length by omega)]
theorem jL.frm_lt{i:Nat}(hi:i<=l.length):aA l i<aA l (i+1):=by
 rcases qc i l.length with hl|hl
 .rw[fp hl];cases i with
  |zero=>rw[mE];exact(by have:=h.pos 0 hl;omega)
  |succ i=>rw[fp (by omega)];have:=h.gap i hl;omega
 .have:i=l.length:=by omega
  subst this;rw[kQ];cases hq:l.length with
  |zero=>rw[mE];omega
  |succ n=>rw[fp (by omega)];have:=h.max n (by omega);omega
theorem jL.frm_gap{i j:Nat}(hi:1<=i)(cC:i<j)(hj:j<=l.length):aA l i+604800<=aA l j:=by
 obtain⟨i,rfl⟩:∃i',i=i'+1:=⟨i-1,by omega⟩;obtain⟨j,rfl⟩:∃j',j=j'+1:=⟨j-1,by omega⟩;rw[fp (by omega),fp (by omega)];exact h.at_le (by omega) (by omega)
theorem jL.frm_le{i j:Nat}(cC:i<=j)(hj:j<=l.length+1):aA l i<=aA l j:=by
 induction j with
 |zero=>
  have:i=0:=by omega
  subst this;omega
 |succ j ih=>
  by_cases he:i=j+1
  .subst he;omega
  .have h1:=ih (by omega) (by omega);have h2:=h.frm_lt (i:=j) (by omega);omega
def pc(o:Int)(l:aR)(i:Nat):Int×(Int×Int):=(aA l i,(aA l (i+1),bX o l i))
def kR(o:Int)(l:aR)(s:Int)(i:Nat):Prop:=aA l i<=s-bX o l i/\s-bX o l i<aA l (i+1)
instance(o:Int)(l:aR)(s:Int)(i:Nat):Decidable (kR o l s i):=by unfold kR;infer_instance
omit h in
theorem SV{n:Int}(h1 : -1000000000000<=n)(h2:n<=1000000000000):j8l n=some (n/86400,n%86400):=by
 obtain⟨e,p1,p2,p3,p4⟩:=uQ n 86400 (by omega);simp only[j8l];rw[ak (x:=Int.tdiv n 86400) (by omega) (by omega)];by_cases hm:Int.tmod n 86400<0
 .rw[aw hm,j4,ak (x:=Int.tdiv n 86400-1) (by omega) (by omega),ak (x:=(Int.tdiv n 86400-1)*86400) (by omega) (by omega),ak (by omega) (by omega)];have:n/86400=Int.tdiv n 86400-1:=by omega
  congr 2
  .omega
  .omega
 .rw[ay hm,j5,ak (x:=Int.tdiv n 86400*86400) (by omega) (by omega),ak (by omega) (by omega)];congr 2
  .omega
  .omega
end
def e8(x:Int×Int):aR->aR
 |[]=>[x]
 |y::ys=>if x.1<y.1 then y::e8 x ys else x::y::ys
def eK:aR->aR->aR
 |[],acc=>acc
 |x::xs,acc=>eK xs (e8 x acc)
def cD(l:aR):aR:=(eK l []).reverse
theorem xJ(x:Int×Int):∀l,(e8 x l).length=l.length+1
 |[]=>rfl
 |y::ys=>by unfold e8;split<;>simp[xJ x ys]
theorem xK:∀(l acc:aR),(eK l acc).length=l.length+acc.length
 |[],acc=>by simp[eK]
 |x::xs,acc=>by simp only[eK,xK xs,xJ,jn];omega
def Sm(l:aR):Prop:=∀x∈l, -1000000000000<=x.1/\x.1<=1000000000000
theorem Ka{x:Int×Int}(hx : -1000000000000<=x.1/\x.1<=1000000000000):∀{l:aR},Sm l->Sm (e8 x l)
 |[],_=>λy hy=>by simp[e8]at hy;subst hy;exact hx
 |z::zs,h=>by
  unfold e8;split
  .intro y hy;rcases jf.1 hy with rfl|hy
   .exact h _ (by simp)
   .exact Ka hx (l:=zs) (λw hw=>h w (by simp[hw])) y hy
  .intro y hy;rcases jf.1 hy with rfl|hy
   .exact hx
   .exact h y hy
theorem SX(rp mid:aR)(x:Int×Int):(rp.reverse++x::mid).getD rp.length (0,0)=x:=by
 rw[jl,jx (by simp)];simp
theorem Kb(n s8:Int)(x:Int×Int)(hx : -1000000000000<=x.1/\x.1<=1000000000000):∀(rp mid:aR),Sm rp->rp.length+mid.length<=1000->
  sS 0 n s8 (rp.length:Int) (rp.reverse++x::mid)=some (0,n,s8,(e8 x rp).reverse++mid)
 |[],mid,_,_=>by
  rw[zX];simp only[j0f];rw[ay (by simp),j5,bS];rfl
 |y::ys,mid,Kc,hlen=>by
  have hy:=Kc y (by simp);have hL:((y::ys).reverse++x::mid).length=ys.length+1+(mid.length+1):=by simp;omega
  simp only[jn]at hlen;rw[zX];simp only[j0f,jn];rw[aw (show ((ys.length+1:Nat):Int)>0 by omega),bG (by omega) (by rw[hL];omega),ak (x:=((ys.length+1:Nat):Int)-1) (by omega) (by omega),bG (by omega) (by rw[hL];omega)];simp only[j4,j6];have g1:((y::ys).reverse++x::mid).getD (ys.length+1) ((0:Int),(0:Int))=x:=SX (y::ys) mid x;have g2:((y::ys).reverse++x::mid).getD ((((ys.length+1:Nat):Int)-1).toNat) ((0:Int),(0:Int))=y:=by rw[show (((ys.length+1:Nat):Int)-1).toNat=ys.length by omega];simp
  rw[g1,g2];simp only[j1e,j0];rw[ak (x:=x.1-y.1) (by omega) (by omega)];by_cases hc:x.1<y.1
  .rw[aw (show x.1-y.1<0 by omega)];have gP:List.set (List.set ((y::ys).reverse++x::mid) (ys.length+1) (y.1,y.2)) ((((ys.length+1:Nat):Int)-1).toNat) (x.1,x.2)=ys.reverse++x::(y::mid):=by rw[show (((ys.length+1:Nat):Int)-1).toNat=ys.length by omega];simp
   rw[bG (by omega) (by rw[qn,hL];omega)];simp only[j4,bR,gP];have he:=Kb n s8 x hx ys (y::mid) (λz hz=>Kc z (by simp[hz])) (by simp;omega);rw[show ((ys.length+1:Nat):Int)-1=(ys.length:Int) by omega,he];simp[e8,hc]
  .rw[ay (show¬x.1-y.1<0 by omega)];simp only[j5,bS];simp[e8,hc]
theorem Kd:∀(xs rp:aR),Sm rp->Sm xs->rp.length+xs.length<=1000->
  sT 0 ((rp.length+xs.length:Nat):Int) (rp.length:Int) (rp.reverse++xs)=some (eK xs rp).reverse
 |[],rp,_,_,_=>by
  rw[uD];simp only[j02];rw[ay (by simp),j5,bS];simp[eK]
 |x::xs,rp,hr,hx,hlen=>by
  have AE:=hx x (by simp);simp only[jn]at hlen;have he:=Kb ((rp.length+(x::xs).length:Nat):Int) (rp.length:Int) x AE rp xs hr (by omega);have ih:=Kd xs (e8 x rp) (Ka AE hr) (λz hz=>hx z (by simp[hz])) (by rw[xJ];omega);rw[xJ]at ih;rw[uD];simp only[j02];rw[aw (by simp only[jn];omega),he];simp only[j4,j0,eK];rw[show rp.length+1+xs.length=rp.length+(x::xs).length by simp;omega]at ih;rw[ak (by omega) (by omega),bR];exact ih
theorem SY{l:aR}(hs:Sm l)(hl:l.length<20):j03 l=some (cD l):=by
 have sZ:j05 l 0 (l.length:Int)=some (cD l):=by
  simp only[j05];cases l with
  |nil=>rw[uD];rfl
  |cons x xs=>have:=Kd xs [x] (λz hz=>by simp at hz;subst hz;exact hs _ (by simp)) (λz hz=>hs z (by simp[hz])) (by simp at hl ⊢;omega);rw[show w64 (0+1)=(([x]:aR).length:Int) from rfl,show ((x::xs).length:Int)=(([x].length+xs.length:Nat):Int) by simp;omega];rw[show (x::xs)=[x].reverse++xs from rfl,this];rfl
 have e0:qT (l.length:Int) 20 0 20 l=some ((l.length:Int),20,0,l):=by rw[zY];simp only[j08];rw[ay (by omega),j5,bS]
 have e2:qU (l.length:Int) 20 (cD l)=some (cD l):=by rw[Ed];simp only[j0c];rw[ay (by omega),j5,bS]
 simp only[j03,j0A,show Int.ofNat (List.length l)=(l.length:Int) from rfl,e0,j0,sZ,e2]
def oV(y:Int):Bool:=decide (y%4=0)&&(!decide (y%100=0)||decide (y%400=0))
def fD(y:Int):Int:=if y%4=0/\(y%100≠0\/y%400=0) then 1 else 0
theorem Fa(y:Int):oV y=true↔y%4=0/\(y%100≠0\/y%400=0):=by simp[oV]
theorem Ke(y:Int):fD y=if oV y then 1 else 0:=by
 unfold fD;by_cases h:oV y=true
 .rw[if_pos ((Fa y).1 h),if_pos h]
 .rw[if_neg (λh'=>h ((Fa y).2 h')),if_neg h]
theorem AF(y:Int):0<=fD y/\fD y<=1:=by unfold fD;split<;>omega
def dA(y m:Int):Int:=
 if m<1\/12<m then 0 else if m=2 then 28+fD y else if m=4\/m=6\/m=9\/m=11 then 30 else 31
def fq(y:Int):Int:=365*(y-1970)+(y-1)/4-(y-1)/100+(y-1)/400-477
def gH(y m:Int):Int:=
 if m<=1 then 0 else if m=2 then 31 else if m=3 then 59+fD y else if m=4 then 90+fD y else if m=5 then 120+fD y else if m=6 then 151+fD y
 else if m=7 then 181+fD y else if m=8 then 212+fD y else if m=9 then 243+fD y else if m=10 then 273+fD y else if m=11 then 304+fD y else if m=12 then 334+fD y else 365+fD y
def num(y m d:Int):Int:=fq y+gH y m+d-1
theorem SZ(y:Int):fq (y+1)=fq y+365+fD y:=by
 unfold fq fD;split<;>omega
theorem Fb{a b:Int}(h:a<=b):fq a+365*(b-a)<=fq b:=by unfold fq;omega
theorem Fc(y m:Int)(h1:1<=m)(h2:m<=12):gH y (m+1)=gH y m+dA y m:=by
 obtain rfl|rfl|rfl|rfl|rfl|rfl|rfl|rfl|rfl|rfl|rfl|rfl:m=1\/m=2\/m=3\/m=4\/m=5\/m=6\/m=7\/m=8\/m=9\/m=10\/m=11\/m=12:=by omega
 all_goals (simp[gH,dA];try omega)
theorem mF(y m:Int):0<=dA y m/\dA y m<=31:=by
 have:=AF y;unfold dA;repeat' split;all_goals omega
theorem xL(y m:Int)(h1:1<=m)(h2:m<=12):28<=dA y m:=by
 have:=AF y;unfold dA;rw[if_neg (by omega)];repeat' split;all_goals omega
theorem Kf(y m:Int):0<=gH y m/\gH y m<=366:=by
 have:=AF y;unfold gH;omega
theorem Kg(y:Int):ja1 y=some (oV y):=by
 have e:(cond (Int.tmod y 4==(0:Int)) (cond (Int.tmod y 100 != (0:Int)) true (Int.tmod y 400==(0:Int))) false)=oV y:=by unfold bne;rw[E9,E9,E9,Bool.eq_iff_iff,Fa];by_cases h1:y%4=0<;>by_cases h2:y%100=0<;>by_cases h3:y%400=0<;>simp[h1,h2,h3]
 exact congrArg some e
theorem Fe(y m:Int):j4O y m=some (dA y m):=by
 by_cases h:m<1\/12<m
 .have hc:cond (decide (m<(1:Int))) true (decide (m>(12:Int)))=true:=by rcases h with h|h<;>by_cases h1:m<1<;>simp[h1]<;>omega
  have:dA y m=0:=if_pos h;rw[this];unfold j4O;rw[hc];rfl
 .obtain rfl|rfl|rfl|rfl|rfl|rfl|rfl|rfl|rfl|rfl|rfl|rfl:m=1\/m=2\/m=3\/m=4\/m=5\/m=6\/m=7\/m=8\/m=9\/m=10\/m=11\/m=12:=by omega
  case inr.inl=>simp only[j4O,Kg,dA,Ke,j0];cases oV y<;>rfl
  all_goals rfl
theorem S7(y m d:Int):j5I (y,m,d)=some (decide (1970<=y/\y<=2240/\1<=d/\d<=dA y m)):=by
 simp only[j5I,Fe,j0];by_cases h1:1970<=y<;>by_cases h2:y<=2240<;>by_cases h3:1<=d<;>simp[h1,h2,h3]
theorem Ff(a b:Int)(hb:0<b)(h1 : -1000000000000<=a)(h2:a<=1000000000000):j4P a b=some (a/b):=by
 have cJ:(b==0)=false:=by simp;omega
 obtain⟨e,p1,p2,p3,p4⟩:=uQ a b hb
 have hq : -1000000000000<=Int.tdiv a b/\Int.tdiv a b<=1000000000000:=by
  rcases Int.le_total 0 a with h|h
  .have h0:0<=a/b:=Int.ediv_nonneg h (by omega);have h3:a/b<=a:=Int.ediv_le_self b h;rw[uR h];omega
  .have h0:0<=(-a)/b:=Int.ediv_nonneg (by omega) (by omega);have h3:(-a)/b <= -a:=Int.ediv_le_self b (by omega);have h4:Int.tdiv (-a) b=(-a)/b:=uR (by omega);rw[Int.neg_tdiv]at h4;omega
 simp only[j4P,cJ,jj,j4];rw[ak (x:=Int.tdiv a b) (by omega) (by omega)];by_cases hm:Int.tmod a b<0
 .rw[aw hm,j4,ak (by omega) (by omega)];congr 1
  have:a/b=Int.tdiv a b-1:=by
   have h3:a=(a.tmod b+b)+b*(Int.tdiv a b-1):=by rw[Int.mul_sub];omega
   rw[h3,Int.add_mul_ediv_left _ _ (by omega),Int.ediv_eq_zero_of_lt (by omega) (by omega)];rw[<-h3];omega
  omega
 .rw[ay hm,j5];congr 1;have h3:a=a.tmod b+b*Int.tdiv a b:=by omega
  have:a/b=Int.tdiv a b:=by
   conv=>lhs;rw[h3]
   rw[Int.add_mul_ediv_left _ _ (by omega),Int.ediv_eq_zero_of_lt (by omega) (by omega)];omega
  omega
theorem S8(y:Int)(h1 : -1000000000<=y)(h2:y<=1000000000):j7a y=some (fq y):=by
 simp only[j7a];rw[ak (x:=y-1) (by omega) (by omega),ak (x:=y-1970) (by omega) (by omega),Ff _ 4 (by omega) (by omega) (by omega),Ff _ 100 (by omega) (by omega) (by omega),Ff _ 400 (by omega) (by omega) (by omega)];simp only[j0];simp (disch:=omega) only[ak];rfl
theorem Kh(y m d:Int)(hm:m<=13):∀(n:Nat)(s k:Int),1<=k->k+n=m -> -1000000000000<=s->s+31*n<=1000000000000->uC s k y m d=some (s+gH y m-gH y k)
 |0,s,k,hk,hn,_,_=>by
  rw[Jr];have:k=m:=by omega
  subst this;simp only[j29,ay (show¬k<k by omega),j5,bS];congr 1;omega
 |n+1,s,k,hk,hn,h1,h2=>by
  rw[Jr];have hd:=mF y k;have hc:=Fc y k hk (by omega);simp only[j29,Fe,j0,aw (show k<m by omega),j4,bR];rw[ak (x:=s+dA y k) (by omega) (by omega),ak (x:=k+1) (by omega) (by omega)];have ih:=Kh y m d hm n (s+dA y k) (k+1) (by omega) (by omega) (by omega) (by omega);rw[ih];congr 1;omega
theorem S9(y m d:Int)(h1 : -1000000<=y)(h2:y<=1000000)(ew:1<=m)(ij:m<=12)(mX : -1000000<=d)(jY:d<=1000000):j3A (y,m,d)=some (num y m d):=by
 have hb : -1000000000<=fq y/\fq y<=1000000000:=by unfold fq;omega
 simp only[j3A,S8 y (by omega) (by omega),j0];rw[ak (x:=fq y+d) (by omega) (by omega),ak (by omega) (by omega),Kh y m d (by omega) (m-1).toNat _ 1 (by omega) (by omega) (by omega) (by omega)];have:gH y 1=0:=rfl;simp only[j0,num];congr 1;omega
theorem Ta(day:Int):j3P day=some ((Int.tmod day 7+10)%7):=by
 obtain⟨e,p1,p2,p3,p4⟩:=uQ day 7 (by omega);simp only[j3P];rw[ak (by omega) (by omega),AD (by omega)]
theorem Fg(day:Int)(_h : -3<=day):j3P day=some ((day+3)%7):=by
 rw[Ta];congr 1;obtain⟨e,p1,p2,p3,p4⟩:=uQ day 7 (by omega);omega
def oW(y m d:Int):Prop:=1970<=y/\y<=2240/\1<=d/\d<=dA y m
instance(y m d:Int):Decidable (oW y m d):=by unfold oW;infer_instance
theorem Fh{y m d:Int}(h:oW y m d):1<=m/\m<=12:=by
 obtain⟨_,_,h3,h4⟩:=h;by_cases hm:m<1\/12<m
 .have:dA y m=0:=if_pos hm;omega
 .omega
theorem Tb{y m d:Int}:decide (1970<=y/\y<=2240/\1<=d/\d<=dA y m)=decide (oW y m d):=rfl
theorem xM{y m d:Int}(h:oW y m d):0<=num y m d/\num y m d<98981:=by
 have hm:=Fh h;obtain⟨h1,h2,h3,h4⟩:=h;have hc:=Kf y m;have c1:=Fb (a:=1970) (b:=y) (by omega);have c2:=Fb (a:=y) (b:=2240) (by omega);have e1:fq 1970=0:=by decide
 have hd:=mF y m;have e2:fq 2240=98615:=by decide
 have cp:gH y m+dA y m<=365+fD y:=by
  have:=Fc y m hm.1 hm.2;have:gH y (m+1)<=365+fD y:=by have:=AF y;unfold gH;omega
  omega
 have c3:=SZ y;have c4:=Fb (a:=y+1) (b:=2241) (by omega);have e3:fq 2241=98981:=by decide
 unfold num;omega
def nth(y m k w:Int):Int:=
 let d:=num y m 1+(w-(num y m 1+3)%7+7)%7+7*(k-1)
 if d>=num y m 1+dA y m then d-7 else d
theorem xN(y m:Int)(h1:1970<=y)(h2:y<=2240)(ew:1<=m)(ij:m<=12):oW y m 1:=⟨h1,h2,by omega,by have:=xL y m ew ij;omega⟩
theorem Tc(y m k w:Int)(h1:1970<=y)(h2:y<=2240)(ew:1<=m)(ij:m<=12)(cZ:1<=k)(et:k<=5)(Ce:0<=w)(qH:w<=6):j5J y m k w=some (nth y m k w,0):=by
 have hv:=xN y m h1 h2 ew ij;have hr:=xM hv;have hd:=mF y m;have Fi:j5I (y,m,1)=some true:=by rw[S7,Tb,decide_eq_true hv]
 simp only[j5J,Fi,j0,jc,j5];rw[ay (show¬k<1 by omega),ay (show¬k>5 by omega),ay (show¬w<0 by omega),ay (show¬w>6 by omega)];simp only[j5,S9 y m 1 (by omega) (by omega) ew ij (by omega) (by omega),j0,Fg _ (show -3<=num y m 1 by omega),Fe];generalize hn:num y m 1=n at *;have hm7:0<=(n+3)%7/\(n+3)%7<=6:=by omega
 rw[ak (x:=w-(n+3)%7) (by omega) (by omega),ak (x:=w-(n+3)%7+7) (by omega) (by omega),AD (show 0<=w-(n+3)%7+7 by omega)];rw[ak (x:=k-1) (by omega) (by omega),ak (x:=7*(k-1)) (by omega) (by omega)];rw[ak (x:=n+(w-(n+3)%7+7)%7) (by omega) (by omega),ak (x:=n+(w-(n+3)%7+7)%7+7*(k-1)) (by omega) (by omega),ak (x:=n+dA y m) (by omega) (by omega)];unfold nth;simp only[hn];by_cases hc:n+(w-(n+3)%7+7)%7+7*(k-1)>=n+dA y m
 .rw[aw hc,j4,if_pos hc,ak (by omega) (by omega)]
 .rw[ay hc,j5,if_neg hc]
theorem xO(x n:Int)(hn:0<n)(tU:n<=1000000000000):j4Y x n=some (x%n):=by
 have h0:(n==0)=false:=by simp;omega
 obtain⟨e,p1,p2,p3,p4⟩:=uQ x n hn;simp only[j4Y,h0,jj,j4];rw[ak (by omega) (by omega),AD (by omega)];congr 1;have h3:x=x.tmod n+n*Int.tdiv x n:=by omega
 conv=>rhs;rw[h3]
 rw[Int.add_mul_emod_self_left,Int.add_emod_right]
end Go.Proofs.Pw
