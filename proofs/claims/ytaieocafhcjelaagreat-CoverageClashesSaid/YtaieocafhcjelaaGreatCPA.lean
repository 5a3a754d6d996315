/- Small facts on Go's DM. -/
import Derived.Test.YtaieocafhcjelaaGreatCLD
import Derived.Test.YtaieocafhcjelaaGreatCFns
open Go Go.Lft
namespace Go.Proofs.Pw
theorem An(a b:Int)(hb:0<b):b*Int.tdiv a b+Int.tmod a b=a/\(0<=a->0<=Int.tmod a b)/\(a<=0->Int.tmod a b<=0)/\Int.tmod a b<b /\ -b<Int.tmod a b:=by
 have h1:=Int.mul_tdiv_add_tmod a b;have h2:0<=a->0<=Int.tmod a b:=λh=>Int.tmod_nonneg b h
 have h3:a<=0->Int.tmod a b<=0:=λh=>by
  have:=Int.tmod_nonneg (a:= -a) b (by omega);rw[Int.neg_tmod]at this;omega
 have h4:=vr a hb;have h5 : -b<Int.tmod a b:=by have:=vr (-a) hb;rw[Int.neg_tmod]at this;omega
 exact⟨h1,h2,h3,h4,h5⟩
theorem sW{a b:Int}(ha:0<=a):Int.tdiv a b=a/b:=qo ha
theorem Ao{a b:Int}(ha:0<=a):Int.tmod a b=a%b:=Int.tmod_eq_emod_of_nonneg ha
theorem DN(a b:Int):(Int.tmod a b==0)=(a%b==0):=by
 rw[Bool.eq_iff_iff];simp only[zm];rw[<-Int.dvd_iff_tmod_eq_zero,<-Int.dvd_iff_emod_eq_zero]
theorem ag{p:Prop}[Decidable p](h:p):decide p=true:=y9 h
theorem ah{p:Prop}[Decidable p](h:¬p):decide p=false:=decide_eq_false h
theorem cP{a b:Int}(h:a=b):(a==b)=true:=by simp[h]
theorem bW{a b:Int}(h:a≠b):(a==b)=false:=by simp[h]
theorem aR{i:Int}{n:Nat}(h1:0<=i)(h2:i<n):inR i n=true:=by simp[inR,h1,h2]
def nP(ks:List ByteArray):List (ByteArray×Bool):=ks.map λk=>(k,true)
def ez(ks:List ByteArray):Prop:=ks.Nodup/\∀k∈ks,j7F k=some true
theorem UJ{s:ByteArray}:∀{l:List ByteArray},s∉l->gy false (nP l) s=false/\gX (nP l) s true=nP (l++[s])
 |[],_=>⟨rfl,rfl⟩
 |k::l,h=>by
  simp only[jg,not_or]at h;obtain⟨h1,h2⟩:=UJ (l:=l) h.2;have hb:(s==k)=false:=qf.2 λhh=>h.1 ((MapKept.bytes_beq s k).1 hh);refine⟨?_,?_⟩
  .show cond (s==k) true (gy false (nP l) s)=false;rw[hb];exact h1
  .show cond (s==k) ((s,true)::nP l) ((k,true)::gX (nP l) s true)=_;rw[hb,j6,h2];rfl
theorem DO{α:Type}(f:α->ByteArray){xs:List α}(h:ez (xs.map f)){i:Nat}(hi:i<xs.length):j4o (f xs[i]) (nP ((xs.take i).map f))=some (0,nP ((xs.take (i+1)).map f)):=by
 have hm:f xs[i]∈xs.map f:=List.mem_map_of_mem (je hi)
 have hn:f xs[i]∉(xs.take i).map f:=by
  intro hx;have hs:xs.map f=(xs.take i).map f++(f xs[i]::(xs.drop (i+1)).map f):=by rw[<-ku,<-zq,List.getElem_cons_drop hi,kf]
  have:=h.1;rw[hs,qq]at this;exact this.2.2 _ hx _ (by simp) rfl
 obtain⟨h1,h2⟩:=UJ hn;simp only[j4o,h.2 _ hm,j3,ji,j6,h1,h2];rw[ko,jh hi,zq];rfl
abbrev bE:=List (Int×Int)
def fU(l:bE)(i:Nat):Int:=(l.getD i (0,0)).1
def bB(o:Int)(l:bE)(i:Nat):Int:=if i=0 then o else (l.getD (i-1) (0,0)).2
def bc(l:bE)(i:Nat):Int:=if i=0 then 0 else if i<=l.length then fU l (i-1) else 8589934593
structure iq(o:Int)(l:bE):Prop where
 len:l.length<=1000
 gap:∀i,i+1<l.length->fU l i+604800<=fU l (i+1)
 pos:∀i,i<l.length->1000000<fU l i
 max:∀i,i<l.length->fU l i<=8589000000
 of0:∀i,i<=l.length -> -64800<=bB o l i
 of1:∀i,i<=l.length->bB o l i<=64800
section
variable{o:Int}{l:bE}(h:iq o l)
include h
theorem iq.at_lt:∀(k i:Nat),i+k+1<l.length->fU l i+604800<=fU l (i+k+1)
 |0,i,hk=>h.gap i hk
 |k+1,i,hk=>by
  have h1:=iq.at_lt k i (by omega);have h2:=h.gap (i+k+1) (by omega);rw[show i+(k+1)+1=i+k+1+1 by omega];omega
theorem iq.at_le{i j:Nat}(dP:i<j)(hj:j<l.length):fU l i+604800<=fU l j:=by
 have:=h.at_lt (j-i-1) i (by omega);rwa[show i+(j-i-1)+1=j by omega]at this
omit h in
theorem sX:bc l 0=0:=rfl
omit h in
theorem mq{i:Nat}(hi:i<l.length):bc l (i+1)=fU l i:=by
 unfold bc;rw[if_neg (Nat.succ_ne_zero i),if_pos (show i+1<=l.length by omega)];rfl
omit h in
theorem nQ:bc l (l.length+1)=8589934593:=by
 unfold bc;rw[if_neg (Nat.succ_ne_zero _),if_neg (show¬l.length+1<=l.length by omega)]
theorem iq.frm_lt{i:Nat}(hi:i<=l.length):bc l i<bc l (i+1):=by
 rcases qx i l.length with hl|hl
 .rw[mq hl];cases i with
  |zero=>rw[sX];exact(by have:=h.pos 0 hl;omega)
  |succ i=>rw[mq (by omega)];have:=h.gap i hl;omega
 .have:i=l.length:=by omega
  subst this;rw[nQ];cases hq:l.length with
  |zero=>rw[sX];omega
  |succ n=>rw[mq (by omega)];have:=h.max n (by omega);omega
theorem iq.frm_le{i j:Nat}(dP:i<=j)(hj:j<=l.length+1):bc l i<=bc l j:=by
 induction j with
 |zero=>
  have:i=0:=by omega
  subst this;omega
 |succ j ih=>
  by_cases he:i=j+1
  .subst he;omega
  .have h1:=ih (by omega) (by omega);have h2:=h.frm_lt (i:=j) (by omega);omega
theorem Nd{t:Int}{k:Nat}(hk:k<=l.length)(jC:∀i,i<k->fU l i<=t)(jD:∀i,k<=i->i<l.length->t<fU l i) :
  ∀(n:Nat)(a b:Nat),b-a<=n->a<=k->k<=b->b<=l.length->zS o l t (a:Int) (b:Int)=some (k:Int)
 |0,a,b,hn,ha,hb,wA=>by
  rw[SI];simp only[j49,ah (show¬(a:Int)<(b:Int) by omega),j6,aU];congr 1;omega
 |n+1,a,b,hn,ha,hb,wA=>by
  have hlen:=h.len;rw[SI];by_cases cj:a<b
  .have hm:IntKind.wrap .u64 ((a:Int)+(b:Int))=(a:Int)+(b:Int):=IntWalk.u64_in _ ⟨by omega,by omega⟩;have hd:Int.fdiv ((a:Int)+(b:Int)) 2=(((a+b)/2:Nat):Int):=by rw[Int.fdiv_eq_ediv_of_nonneg _ (by omega)];omega
   simp only[j49,ag (show (a:Int)<(b:Int) by omega),j5];rw[aj (x:=(a:Int)+(b:Int)) (by omega) (by omega),hm,hd,aj (x:=(((a+b)/2:Nat):Int)) (by omega) (by omega)];simp only[j9C];rw[aR (by omega) (by omega)];simp only[j5,j3,j7];by_cases hc:fU l ((a+b)/2)>t
   .rw[ag (show (l.getD ((a+b)/2) ((0:Int),(0:Int))).1>t from hc)];simp only[ji,j6,aJ]
    have nI:k<=(a+b)/2:=by
     rcases qx ((a+b)/2) k with h'|h'
     .have:=jC _ h';omega
     .exact h'
    exact Nd hk jC jD n a ((a+b)/2) (by omega) ha nI (by omega)
   .rw[ah (show¬(l.getD ((a+b)/2) ((0:Int),(0:Int))).1>t from hc)];simp only[jt,j5,aJ];rw[aj (by omega) (by omega)]
    have nI:(a+b)/2<k:=by
     rcases qx ((a+b)/2) k with h'|h'
     .exact h'
     .have:=jD _ h' (by omega);omega
    exact Nd hk jC jD n ((a+b)/2+1) b (by omega) (by omega) hb wA
  .simp only[j49,ah (show¬(a:Int)<(b:Int) by omega),j6,aU];congr 1;omega
theorem Nf{t:Int}{k:Nat}(hk:k<=l.length)(h1:bc l k<=t)(h2:t<bc l (k+1)):j42 (o,l) t=some (k:Int):=by
 have jC:∀i,i<k->fU l i<=t:=by
  intro i hi;have:bc l k=fU l (k-1):=by have:=mq (l:=l) (i:=k-1) (by omega);rwa[show k-1+1=k by omega]at this
  rw[this]at h1;by_cases he:i=k-1
  .subst he;exact h1
  .have:=h.at_le (i:=i) (j:=k-1) (by omega) (by omega);omega
 have jD:∀i,k<=i->i<l.length->t<fU l i:=by
  intro i hi hl;have:bc l (k+1)=fU l k:=mq (by omega);rw[this]at h2;by_cases he:i=k
  .subst he;exact h2
  .have:=h.at_le (i:=k) (j:=i) (by omega) hl;omega
 have:=Nd h hk jC jD l.length 0 l.length (by omega) (by omega) hk (by omega);simp only[j42,jbd,show Int.ofNat (List.length l)=(l.length:Int) from rfl];rw[show (0:Int)=((0:Nat):Int) from rfl,this];rfl
theorem Ng{k:Nat}(hk:k<=l.length):j5m (o,l) (k:Int)=some (bB o l k):=by
 have hlen:=h.len;unfold bB;by_cases h0:k=0
 .subst h0;rfl
 .simp only[j5m];rw[bW (show (k:Int)≠0 by omega),j6,aj (by omega) (by omega),aR (by omega) (by omega),show ((k:Int)-1).toNat=k-1 by omega,if_neg h0];rfl
theorem jyI{t:Int}{k:Nat}(hk:k<=l.length)(h1:bc l k<=t)(h2:t<bc l (k+1)):j4c (o,l) t=some (bB o l k):=by
 simp only[j4c,Nf h hk h1 h2,j3,Ng h hk]
theorem xP{t:Int}(h0:0<=t)(h1:t<=8589934592):∃k,k<=l.length/\bc l k<=t/\t<bc l (k+1):=by
 have _:=h
 have:∀n,n<=l.length+1->t<bc l n->∃k,k<n/\bc l k<=t/\t<bc l (k+1):=by
  intro n;induction n with
  |zero=>intro _ hn;have:bc l 0=0:=rfl;omega
  |succ n ih=>
   intro hn aA;by_cases hc:bc l n<=t
   .exact⟨n,by omega,hc,aA⟩
   .obtain⟨k,a1,a2,a3⟩:=ih (by omega) (by omega);exact⟨k,by omega,a2,a3⟩
 have dD:bc l (l.length+1)=8589934593:=nQ;obtain⟨k,a1,a2,a3⟩:=this (l.length+1) (by omega) (by omega);exact⟨k,by omega,a2,a3⟩
def pc(o:Int)(l:bE)(i:Nat):Int×(Int×Int):=(bc l i,(bc l (i+1),bB o l i))
def oL(o:Int)(l:bE)(n:Nat):List (Int×(Int×Int)):=(List.range n).map (pc o l)
omit h in
theorem UK(n:Nat):oL o l (n+1)=oL o l n++[pc o l n]:=by simp[oL,List.range_succ]
omit h in
theorem xQ(n:Nat):(oL o l n).length=n:=by simp[oL]
omit h in
theorem Nh{n i:Nat}(hi:i<n):(oL o l n).getD i ((0:Int),((0:Int),(0:Int)))=pc o l i:=by
 simp[oL,List.getD,hi]
theorem UL:∀(n k:Nat),k+n=l.length+1->uN (bc l k) 8589934593 o l (oL o l k)=some (oL o l (l.length+1))
 |0,k,hk=>by
  have dD:bc l k=8589934593:=by rw[show k=l.length+1 by omega];exact nQ
  rw[zT,dD];simp only[j0r];rw[ah (by omega),j6,aU,show k=l.length+1 by omega]
 |n+1,k,hk=>by
  have hlen:=h.len;have jG:k<=l.length:=by omega
  have aA:=h.frm_lt jG;have hle:=h.frm_le (i:=k+1) (j:=l.length+1) (by omega) (by omega);have dD:bc l (l.length+1)=8589934593:=nQ;have ih:=UL n (k+1) (by omega);rw[zT];simp only[j0r];rw[ag (show bc l k<8589934593 by omega),Nf h jG (by omega) aA];simp only[j5,j3,show Int.ofNat (List.length l)=(l.length:Int) from rfl,Ng h jG];by_cases qG:k<l.length
  .rw[ag (show (k:Int)<(l.length:Int) by omega),aR (by omega) (by omega)];simp only[j5,j7];have iF:(if (l.getD k ((0:Int),(0:Int))).1<8589934593 then (l.getD k ((0:Int),(0:Int))).1 else 8589934593)=bc l (k+1):=by have hf:bc l (k+1)=fU l k:=mq qG;have:=h.max k qG;rw[hf,if_pos (show (l.getD k ((0:Int),(0:Int))).1<8589934593 by show fU l k<_;omega)];rfl
   rw[iF,ag (by rw[xQ];simp[aY];omega)];simp only[j5,aJ];rw[UK]at ih;exact ih
  .rw[ah (show¬(k:Int)<(l.length:Int) by omega)];simp only[j6];rw[ag (by rw[xQ];simp[aY];omega)];simp only[j5,aJ];have br:k=l.length:=by omega
   rw[UK]at ih;unfold pc at ih;rw[show k+1=l.length+1 by omega,dD]at ih;exact ih
theorem UM:j1A (o,l) 0 8589934593=some (oL o l (l.length+1)):=by
 have:=UL h (l.length+1) 0 (by omega);simp only[j1A];rw[show uN 0 8589934593 o l []=_ from this];rfl
def UN(o:Int)(l:bE)(s:Int)(i:Nat):Prop:=bc l i<=s-bB o l i/\s-bB o l i<bc l (i+1)
instance(o:Int)(l:bE)(s:Int)(i:Nat):Decidable (UN o l s i):=by unfold UN;infer_instance
omit h in
theorem Ni{d c:Int}(hd : -1000000<=d)(kJ:d<=1000000)(hc : -86400<=c)(fW:c<=172800):j5g (d,c)=some (d*86400+c):=by
 simp only[j5g];rw[if_neg (show¬(-1048576:Int)>d by omega),if_neg (show¬(1048576:Int)<d by omega),aj (x:=d*86400) (by omega) (by omega),aj (by omega) (by omega)]
theorem UO{d c:Int}(hd : -1000000<=d)(kJ:d<=1000000)(hc : -86400<=c)(fW:c<=172800){k:Nat}(hk:k<=l.length)(hks:d*86400+c-bB o l k<bc l (k+1))(sY:∀j,j<k->bc l (j+1)<=d*86400+c-bB o l j) :
  ∀(n i:Nat),i+n=k->xp ((l.length+1:Nat):Int) (i:Int) d c (oL o l (l.length+1))=some (.inl (max (bc l k) (d*86400+c-bB o l k),true))
 |0,i,hi=>by
  have hlen:=h.len;have:i=k:=by omega
  subst this;have o1:=h.of0 i hk;have o2:=h.of1 i hk;have aA:=h.frm_lt hk;rw[FV];simp only[j23];rw[ag (show (i:Int)<((l.length+1:Nat):Int) by omega),aR (by omega) (by rw[xQ];omega)];simp only[j5,j7,Nh (show i<l.length+1 by omega),Ni hd kJ hc fW,j3,pc];rw[aj (x:=d*86400+c-bB o l i) (by omega) (by omega)];have hm:(if d*86400+c-bB o l i>bc l i then d*86400+c-bB o l i else bc l i)=max (bc l i) (d*86400+c-bB o l i):=by split<;>omega
  rw[hm,ag (by omega),j5,aU]
 |n+1,i,hi=>by
  have hlen:=h.len;have iE:i<=l.length:=by omega
  have o1:=h.of0 i iE;have o2:=h.of1 i iE;have hb:=sY i (by omega);rw[FV];simp only[j23];rw[ag (show (i:Int)<((l.length+1:Nat):Int) by omega),aR (by omega) (by rw[xQ];omega)];simp only[j5,j7,Nh (show i<l.length+1 by omega),Ni hd kJ hc fW,j3,pc];rw[aj (x:=d*86400+c-bB o l i) (by omega) (by omega),aj (x:=(i:Int)+1) (by omega) (by omega)];have hm:(if d*86400+c-bB o l i>bc l i then d*86400+c-bB o l i else bc l i)=max (bc l i) (d*86400+c-bB o l i):=by split<;>omega
  rw[hm,ah (by omega),j6,aJ];exact UO hd kJ hc fW hk hks sY n (i+1) (by omega)
theorem jAv{d c:Int}(hd : -1000000<=d)(kJ:d<=1000000)(hc : -86400<=c)(fW:c<=172800){k:Nat}(hk:k<=l.length)(hks:d*86400+c-bB o l k<bc l (k+1))(sY:∀j,j<k->bc l (j+1)<=d*86400+c-bB o l j) :
  j1B (o,l) (d,c)=some (max (bc l k) (d*86400+c-bB o l k),true):=by
 have:=UO h hd kJ hc fW hk hks sY k 0 (by omega);simp only[j1B,UM h,j3,xQ,show Int.ofNat (List.length l+1)=((l.length+1:Nat):Int) from rfl];rw[show (0:Int)=((0:Nat):Int) from rfl,this];rfl
omit h in
theorem jAw{n:Int}(h1 : -1000000000000<=n)(h2:n<=1000000000000):jiu n=some (n/86400,n%86400):=by
 obtain⟨e,p1,p2,p3,p4⟩:=An n 86400 (by omega);simp only[jiu];rw[aj (x:=Int.tdiv n 86400) (by omega) (by omega)];by_cases hm:Int.tmod n 86400<0
 .rw[ag hm,j5,aj (x:=Int.tdiv n 86400-1) (by omega) (by omega),aj (x:=(Int.tdiv n 86400-1)*86400) (by omega) (by omega),aj (by omega) (by omega)];have:n/86400=Int.tdiv n 86400-1:=by omega
  congr 2
  .omega
  .omega
 .rw[ah hm,j6,aj (x:=Int.tdiv n 86400*86400) (by omega) (by omega),aj (by omega) (by omega)];congr 2
  .omega
  .omega
theorem DP{t:Int}{k:Nat}(hk:k<=l.length)(h1:bc l k<=t)(h2:t<bc l (k+1)):j1C (o,l) t=some ((t+bB o l k)/86400,(t+bB o l k)%86400):=by
 have o1:=h.of0 k hk;have o2:=h.of1 k hk;have g1:0<=bc l k:=by have:=h.frm_le (i:=0) (j:=k) (by omega) (by omega);have e:bc l 0=0:=rfl;omega
 have dD:bc l (l.length+1)=8589934593:=nQ;have g2:=h.frm_le (i:=k+1) (j:=l.length+1) (by omega) (by omega);simp only[j1C,jyI h hk h1 h2,j3];rw[aj (x:=t+bB o l k) (by omega) (by omega),jAw (by omega) (by omega)];rfl
end
def jZ(x:Int×Int):bE->bE
 |[]=>[x]
 |y::ys=>if x.1<y.1 then y::jZ x ys else x::y::ys
def iP:bE->bE->bE
 |[],acc=>acc
 |x::xs,acc=>iP xs (jZ x acc)
def dZ(l:bE):bE:=(iP l []).reverse
theorem DQ(x:Int×Int):∀l,(jZ x l).length=l.length+1
 |[]=>rfl
 |y::ys=>by unfold jZ;split<;>simp[DQ x ys]
theorem DR:∀(l acc:bE),(iP l acc).length=l.length+acc.length
 |[],acc=>by simp[iP]
 |x::xs,acc=>by simp only[iP,DR xs,DQ,jm];omega
def Sm(l:bE):Prop:=∀x∈l, -1000000000000<=x.1/\x.1<=1000000000000
theorem UP{x:Int×Int}(hx : -1000000000000<=x.1/\x.1<=1000000000000):∀{l:bE},Sm l->Sm (jZ x l)
 |[],_=>λy hy=>by simp[jZ]at hy;subst hy;exact hx
 |z::zs,h=>by
  unfold jZ;split
  .intro y hy;rcases jg.1 hy with rfl|hy
   .exact h _ (by simp)
   .exact UP hx (l:=zs) (λw hw=>h w (by simp[hw])) y hy
  .intro y hy;rcases jg.1 hy with rfl|hy
   .exact hx
   .exact h y hy
theorem jCd(rp mid:bE)(x:Int×Int):(rp.reverse++x::mid).getD rp.length (0,0)=x:=by
 rw[List.getD_eq_getElem?_getD,jy (by simp)];simp
theorem UQ(n s8:Int)(x:Int×Int)(hx : -1000000000000<=x.1/\x.1<=1000000000000):∀(rp mid:bE),Sm rp->rp.length+mid.length<=1000->
  zH 0 n s8 (rp.length:Int) (rp.reverse++x::mid)=some (0,n,s8,(jZ x rp).reverse++mid)
 |[],mid,_,_=>by
  rw[Sk];simp only[j0q];rw[ah (by simp),j6,aU];rfl
 |y::ys,mid,mS,hlen=>by
  have hy:=mS y (by simp);have hL:((y::ys).reverse++x::mid).length=ys.length+1+(mid.length+1):=by simp;omega
  simp only[jm]at hlen;rw[Sk];simp only[j0q,jm];rw[ag (show ((ys.length+1:Nat):Int)>0 by omega),aR (by omega) (by rw[hL];omega),aj (x:=((ys.length+1:Nat):Int)-1) (by omega) (by omega),aR (by omega) (by rw[hL];omega)];simp only[j5,j7];have g1:((y::ys).reverse++x::mid).getD (ys.length+1) ((0:Int),(0:Int))=x:=jCd (y::ys) mid x;have g2:((y::ys).reverse++x::mid).getD ((((ys.length+1:Nat):Int)-1).toNat) ((0:Int),(0:Int))=y:=by rw[show (((ys.length+1:Nat):Int)-1).toNat=ys.length by omega];simp
  rw[g1,g2];simp only[j9B,j3];rw[aj (x:=x.1-y.1) (by omega) (by omega)];by_cases hc:x.1<y.1
  .rw[ag (show x.1-y.1<0 by omega)];have vX:List.set (List.set ((y::ys).reverse++x::mid) (ys.length+1) (y.1,y.2)) ((((ys.length+1:Nat):Int)-1).toNat) (x.1,x.2)=ys.reverse++x::(y::mid):=by rw[show (((ys.length+1:Nat):Int)-1).toNat=ys.length by omega];simp
   rw[aR (by omega) (by rw[List.length_set,hL];omega)];simp only[j5,aJ,vX];have he:=UQ n s8 x hx ys (y::mid) (λz hz=>mS z (by simp[hz])) (by simp;omega);rw[show ((ys.length+1:Nat):Int)-1=(ys.length:Int) by omega,he];simp[jZ,hc]
  .rw[ah (show¬x.1-y.1<0 by omega)];simp only[j6,aU];simp[jZ,hc]
theorem UR:∀(xs rp:bE),Sm rp->Sm xs->rp.length+xs.length<=1000->
  zI 0 ((rp.length+xs.length:Nat):Int) (rp.length:Int) (rp.reverse++xs)=some (iP xs rp).reverse
 |[],rp,_,_,_=>by
  rw[Kf];simp only[j09];rw[ah (by simp),j6,aU];simp[iP]
 |x::xs,rp,hr,hx,hlen=>by
  have GK:=hx x (by simp);simp only[jm]at hlen;have he:=UQ ((rp.length+(x::xs).length:Nat):Int) (rp.length:Int) x GK rp xs hr (by omega);have ih:=UR xs (jZ x rp) (UP GK hr) (λz hz=>hx z (by simp[hz])) (by rw[DQ];omega);rw[DQ]at ih;rw[Kf];simp only[j09];rw[ag (by simp only[jm];omega),he];simp only[j5,j3,iP];rw[show rp.length+1+xs.length=rp.length+(x::xs).length by simp;omega]at ih;rw[aj (by omega) (by omega),aJ];exact ih
theorem jri{l:bE}(hs:Sm l)(hl:l.length<20):j0c l=some (dZ l):=by
 have xR:j0d l 0 (l.length:Int)=some (dZ l):=by
  simp only[j0d];cases l with
  |nil=>rw[Kf];rfl
  |cons x xs=>have:=UR xs [x] (λz hz=>by simp at hz;subst hz;exact hs _ (by simp)) (λz hz=>hs z (by simp[hz])) (by simp at hl ⊢;omega);rw[show w64 (0+1)=(([x]:bE).length:Int) from rfl,show ((x::xs).length:Int)=(([x].length+xs.length:Nat):Int) by simp;omega];rw[show (x::xs)=[x].reverse++xs from rfl,this];rfl
 have e0:zJ (l.length:Int) 20 0 20 l=some ((l.length:Int),20,0,l):=by rw[j7j];simp only[j0g];rw[ah (by omega),j6,aU]
 have e2:zK (l.length:Int) 20 (dZ l)=some (dZ l):=by rw[j7k];simp only[j0h];rw[ah (by omega),j6,aU]
 simp only[j0c,j0S,show Int.ofNat (List.length l)=(l.length:Int) from rfl,e0,j3,xR,e2]
def sZ(y:Int):Bool:=decide (y%4=0)&&(!decide (y%100=0)||decide (y%400=0))
def ir(y:Int):Int:=if y%4=0/\(y%100≠0\/y%400=0) then 1 else 0
theorem Nj(y:Int):sZ y=true↔y%4=0/\(y%100≠0\/y%400=0):=by simp[sZ]
theorem US(y:Int):ir y=if sZ y then 1 else 0:=by
 unfold ir;by_cases h:sZ y=true
 .rw[if_pos ((Nj y).1 h),if_pos h]
 .rw[if_neg (λh'=>h ((Nj y).2 h')),if_neg h]
theorem GL(y:Int):0<=ir y/\ir y<=1:=by unfold ir;split<;>omega
def fc(y m:Int):Int:=
 if m<1\/12<m then 0 else if m=2 then 28+ir y else if m=4\/m=6\/m=9\/m=11 then 30 else 31
def hQ(y:Int):Int:=365*(y-1970)+(y-1)/4-(y-1)/100+(y-1)/400-477
def kA(y m:Int):Int:=
 if m<=1 then 0 else if m=2 then 31 else if m=3 then 59+ir y else if m=4 then 90+ir y else if m=5 then 120+ir y else if m=6 then 151+ir y
 else if m=7 then 181+ir y else if m=8 then 212+ir y else if m=9 then 243+ir y else if m=10 then 273+ir y else if m=11 then 304+ir y else if m=12 then 334+ir y else 365+ir y
def num(y m d:Int):Int:=hQ y+kA y m+d-1
theorem jAx(y:Int):hQ (y+1)=hQ y+365+ir y:=by
 unfold hQ ir;split<;>omega
theorem Nk{a b:Int}(h:a<=b):hQ a+365*(b-a)<=hQ b:=by unfold hQ;omega
theorem Nl(y m:Int)(h1:1<=m)(h2:m<=12):kA y (m+1)=kA y m+fc y m:=by
 obtain rfl|rfl|rfl|rfl|rfl|rfl|rfl|rfl|rfl|rfl|rfl|rfl:m=1\/m=2\/m=3\/m=4\/m=5\/m=6\/m=7\/m=8\/m=9\/m=10\/m=11\/m=12:=by omega
 all_goals (simp[kA,fc];try omega)
theorem qH(y m:Int):0<=fc y m/\fc y m<=31:=by
 have:=GL y;unfold fc;repeat' split;all_goals omega
theorem DS(y m:Int)(h1:1<=m)(h2:m<=12):28<=fc y m:=by
 have:=GL y;unfold fc;rw[if_neg (by omega)];repeat' split;all_goals omega
theorem UT(y m:Int):0<=kA y m/\kA y m<=366:=by
 have:=GL y;unfold kA;omega
theorem UU(y:Int):jlT y=some (sZ y):=by
 have e:(cond (Int.tmod y 4==(0:Int)) (cond (Int.tmod y 100 != (0:Int)) true (Int.tmod y 400==(0:Int))) false)=sZ y:=by unfold bne;rw[DN,DN,DN,Bool.eq_iff_iff,Nj];by_cases h1:y%4=0<;>by_cases h2:y%100=0<;>by_cases h3:y%400=0<;>simp[h1,h2,h3]
 exact jp some e
theorem Nn(y m:Int):j8y y m=some (fc y m):=by
 by_cases h:m<1\/12<m
 .have hc:cond (decide (m<(1:Int))) true (decide (m>(12:Int)))=true:=by rcases h with h|h<;>by_cases h1:m<1<;>simp[h1]<;>omega
  have:fc y m=0:=if_pos h;rw[this];unfold j8y;rw[hc];rfl
 .obtain rfl|rfl|rfl|rfl|rfl|rfl|rfl|rfl|rfl|rfl|rfl|rfl:m=1\/m=2\/m=3\/m=4\/m=5\/m=6\/m=7\/m=8\/m=9\/m=10\/m=11\/m=12:=by omega
  case inr.inl=>simp only[j8y,UU,fc,US,j3];cases sZ y<;>rfl
  all_goals rfl
theorem jAy(y m d:Int):jdf (y,m,d)=some (decide (1970<=y/\y<=2240/\1<=d/\d<=fc y m)):=by
 simp only[jdf,Nn,j3];by_cases h1:1970<=y<;>by_cases h2:y<=2240<;>by_cases h3:1<=d<;>simp[h1,h2,h3]
theorem Np(a b:Int)(hb:0<b)(h1 : -1000000000000<=a)(h2:a<=1000000000000):j9A a b=some (a/b):=by
 have eE:(b==0)=false:=by simp;omega
 obtain⟨e,p1,p2,p3,p4⟩:=An a b hb
 have hq : -1000000000000<=Int.tdiv a b/\Int.tdiv a b<=1000000000000:=by
  rcases Int.le_total 0 a with h|h
  .have h0:0<=a/b:=vu h (by omega);have h3:a/b<=a:=vi b h;rw[sW h];omega
  .have h0:0<=(-a)/b:=vu (by omega) (by omega);have h3:(-a)/b <= -a:=vi b (by omega);have h4:Int.tdiv (-a) b=(-a)/b:=sW (by omega);rw[Int.neg_tdiv]at h4;omega
 simp only[j9A,eE,jt,j5];rw[aj (x:=Int.tdiv a b) (by omega) (by omega)];by_cases hm:Int.tmod a b<0
 .rw[ag hm,j5,aj (by omega) (by omega)];congr 1
  have:a/b=Int.tdiv a b-1:=by
   have h3:a=(a.tmod b+b)+b*(Int.tdiv a b-1):=by rw[Int.mul_sub];omega
   rw[h3,Int.add_mul_ediv_left _ _ (by omega),Int.ediv_eq_zero_of_lt (by omega) (by omega)];rw[<-h3];omega
  omega
 .rw[ah hm,j6];congr 1;have h3:a=a.tmod b+b*Int.tdiv a b:=by omega
  have:a/b=Int.tdiv a b:=by
   conv=>lhs;rw[h3]
   rw[Int.add_mul_ediv_left _ _ (by omega),Int.ediv_eq_zero_of_lt (by omega) (by omega)];omega
  omega
theorem jAz(y:Int)(h1 : -1000000000<=y)(h2:y<=1000000000):j6g y=some (hQ y):=by
 simp only[j6g];rw[aj (x:=y-1) (by omega) (by omega),aj (x:=y-1970) (by omega) (by omega),Np _ 4 (by omega) (by omega) (by omega),Np _ 100 (by omega) (by omega) (by omega),Np _ 400 (by omega) (by omega) (by omega)];simp only[j3];simp (disch:=omega) only[aj];rfl
theorem UW(y m d:Int)(hm:m<=13):∀(n:Nat)(s k:Int),1<=k->k+n=m -> -1000000000000<=s->s+31*n<=1000000000000->zG s k y m d=some (s+kA y m-kA y k)
 |0,s,k,hk,hn,_,_=>by
  rw[Sj];have:k=m:=by omega
  subst this;simp only[j4X,ah (show¬k<k by omega),j6,aU];congr 1;omega
 |n+1,s,k,hk,hn,h1,h2=>by
  rw[Sj];have hd:=qH y k;have hc:=Nl y k hk (by omega);simp only[j4X,Nn,j3,ag (show k<m by omega),j5,aJ];rw[aj (x:=s+fc y k) (by omega) (by omega),aj (x:=k+1) (by omega) (by omega)];have ih:=UW y m d hm n (s+fc y k) (k+1) (by omega) (by omega) (by omega) (by omega);rw[ih];congr 1;omega
theorem jyK(y m d:Int)(h1 : -1000000<=y)(h2:y<=1000000)(eZ:1<=m)(ik:m<=12)(ov : -1000000<=d)(kJ:d<=1000000):j80 (y,m,d)=some (num y m d):=by
 have hb : -1000000000<=hQ y/\hQ y<=1000000000:=by unfold hQ;omega
 simp only[j80,jAz y (by omega) (by omega),j3];rw[aj (x:=hQ y+d) (by omega) (by omega),aj (by omega) (by omega),UW y m d (by omega) (m-1).toNat _ 1 (by omega) (by omega) (by omega) (by omega)];have:kA y 1=0:=rfl;simp only[j3,num];congr 1;omega
theorem UX(day:Int):j6Z day=some ((Int.tmod day 7+10)%7):=by
 obtain⟨e,p1,p2,p3,p4⟩:=An day 7 (by omega);simp only[j6Z];rw[aj (by omega) (by omega),Ao (by omega)]
theorem GM(day:Int)(_h : -3<=day):j6Z day=some ((day+3)%7):=by
 rw[UX];congr 1;obtain⟨e,p1,p2,p3,p4⟩:=An day 7 (by omega);omega
def s7(y m d:Int):Prop:=1970<=y/\y<=2240/\1<=d/\d<=fc y m
instance(y m d:Int):Decidable (s7 y m d):=by unfold s7;infer_instance
theorem Nq{y m d:Int}(h:s7 y m d):1<=m/\m<=12:=by
 obtain⟨_,_,h3,h4⟩:=h;by_cases hm:m<1\/12<m
 .have:fc y m=0:=if_pos hm;omega
 .omega
theorem jyL{y m d:Int}:decide (1970<=y/\y<=2240/\1<=d/\d<=fc y m)=decide (s7 y m d):=rfl
theorem DT{y m d:Int}(h:s7 y m d):0<=num y m d/\num y m d<98981:=by
 have hm:=Nq h;obtain⟨h1,h2,h3,h4⟩:=h;have hc:=UT y m;have c1:=Nk (a:=1970) (b:=y) (by omega);have c2:=Nk (a:=y) (b:=2240) (by omega);have e1:hQ 1970=0:=by decide
 have hd:=qH y m;have e2:hQ 2240=98615:=by decide
 have dL:kA y m+fc y m<=365+ir y:=by
  have:=Nl y m hm.1 hm.2;have:kA y (m+1)<=365+ir y:=by have:=GL y;unfold kA;omega
  omega
 have c3:=jAx y;have c4:=Nk (a:=y+1) (b:=2241) (by omega);have e3:hQ 2241=98981:=by decide
 unfold num;omega
def nth(y m k w:Int):Int:=
 let d:=num y m 1+(w-(num y m 1+3)%7+7)%7+7*(k-1)
 if d>=num y m 1+fc y m then d-7 else d
theorem DU(y m:Int)(h1:1970<=y)(h2:y<=2240)(eZ:1<=m)(ik:m<=12):s7 y m 1:=⟨h1,h2,by omega,by have:=DS y m eZ ik;omega⟩
theorem jDq(y m k w:Int)(h1:1970<=y)(h2:y<=2240)(eZ:1<=m)(ik:m<=12)(dj:1<=k)(eW:k<=5)(Ih:0<=w)(J5:w<=6):jdg y m k w=some (nth y m k w,0):=by
 have hv:=DU y m h1 h2 eZ ik;have hr:=DT hv;have hd:=qH y m;have Nr:jdf (y,m,1)=some true:=by rw[jAy,jyL,y9 hv]
 simp only[jdg,Nr,j3,ji,j6];rw[ah (show¬k<1 by omega),ah (show¬k>5 by omega),ah (show¬w<0 by omega),ah (show¬w>6 by omega)];simp only[j6,jyK y m 1 (by omega) (by omega) eZ ik (by omega) (by omega),j3,GM _ (show -3<=num y m 1 by omega),Nn];generalize hn:num y m 1=n at *;have hm7:0<=(n+3)%7/\(n+3)%7<=6:=by omega
 rw[aj (x:=w-(n+3)%7) (by omega) (by omega),aj (x:=w-(n+3)%7+7) (by omega) (by omega),Ao (show 0<=w-(n+3)%7+7 by omega)];rw[aj (x:=k-1) (by omega) (by omega),aj (x:=7*(k-1)) (by omega) (by omega)];rw[aj (x:=n+(w-(n+3)%7+7)%7) (by omega) (by omega),aj (x:=n+(w-(n+3)%7+7)%7+7*(k-1)) (by omega) (by omega),aj (x:=n+fc y m) (by omega) (by omega)];unfold nth;simp only[hn];by_cases hc:n+(w-(n+3)%7+7)%7+7*(k-1)>=n+fc y m
 .rw[ag hc,j5,if_pos hc,aj (by omega) (by omega)]
 .rw[ah hc,j6,if_neg hc]
theorem UY(x n:Int)(hn:0<n)(GN:n<=1000000000000):jiC x n=some (x%n):=by
 have h0:(n==0)=false:=by simp;omega
 obtain⟨e,p1,p2,p3,p4⟩:=An x n hn;simp only[jiC,h0,jt,j5];rw[aj (by omega) (by omega),Ao (by omega)];congr 1;have h3:x=x.tmod n+n*Int.tdiv x n:=by omega
 conv=>rhs;rw[h3]
 rw[Int.add_mul_emod_self_left,Int.add_emod_right]
def du(l:List Int)(a:Int):Prop:=0<=a/\a<=(l.length:Int)/\l.length<=1000000
theorem cO{l:List Int}{a n:Int}(h:du l a)(hn:1<=n)(GN:n<=1000000000000):∃x a',j06 l a n=some (x,l,a')/\0<=x/\x<n/\du l a':=by
 obtain⟨h1,h2,h3⟩:=h;simp only[j06,show Int.ofNat (List.length l)=(l.length:Int) from rfl];by_cases ha:a>=(l.length:Int)
 .rw[ag ha,j5];exact⟨0,a,rfl,by omega,by omega,h1,h2,h3⟩
 .rw[ah ha,j6,ah (show¬n<1 by omega),j6,aR h1 (by omega),j5,bW (show n≠0 by omega)];obtain⟨e,p1,p2,p3,p4⟩:=An (l.getD a.toNat 0) n (by omega);rw[aj (x:=a+1) (by omega) (by omega)];simp only[jt,j5];by_cases ht:Int.tmod (l.getD a.toNat 0) n<0
  .rw[ag ht,j5,aj (by omega) (by omega)];exact⟨_,_,rfl,by omega,by omega,by omega,by omega,h3⟩
  .rw[ah ht,j6];exact⟨_,_,rfl,by omega,by omega,by omega,by omega,h3⟩
theorem mr{l:List Int}{a:Int}(h:du l a){xs:List Int}(tP:0<xs.length)(nF:xs.length<=1000000):∃x a',j1P l a xs=some (x,l,a')/\x∈xs/\du l a':=by
 obtain⟨x,a',e,h1,h2,h3⟩:=cO (n:=(xs.length:Int)) h (by omega) (by omega);simp only[j1P,show Int.ofNat (List.length xs)=(xs.length:Int) from rfl,e,j3];rw[aR h1 (by omega),j5];have aA:x.toNat<xs.length:=by omega
 refine⟨_,_,rfl,?_,h3⟩;rw[List.getD_eq_getElem?_getD,jh aA];exact je aA
end Go.Proofs.Pw
