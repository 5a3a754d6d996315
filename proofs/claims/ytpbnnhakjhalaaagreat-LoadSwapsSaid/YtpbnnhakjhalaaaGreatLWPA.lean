/- Small facts on Go's CS. -/
import Derived.Test.YtpbnnhakjhalaaaGreatLWLD
import Derived.Test.YtpbnnhakjhalaaaGreatLWFns
import Derived.KernelRfl
open Go Go.Lft
namespace Go.Proofs.Pw
theorem CT(a b:Int)(hb:0<b):b*Int.tdiv a b+Int.tmod a b=a/\(0<=a->0<=Int.tmod a b)/\(a<=0->Int.tmod a b<=0)/\Int.tmod a b<b /\ -b<Int.tmod a b:=by
 have h1:=Int.mul_tdiv_add_tmod a b;have h2:0<=a->0<=Int.tmod a b:=λh=>Int.tmod_nonneg b h
 have h3:a<=0->Int.tmod a b<=0:=λh=>by
  have:=Int.tmod_nonneg (a:= -a) b (by omega);rw[Int.neg_tmod]at this;omega
 have h4:=Int.tmod_lt_of_pos a hb;have h5 : -b<Int.tmod a b:=by have:=Int.tmod_lt_of_pos (-a) hb;rw[Int.neg_tmod]at this;omega
 exact⟨h1,h2,h3,h4,h5⟩
theorem sG{a b:Int}(ha:0<=a):Int.tdiv a b=a/b:=zv ha
theorem CU{a b:Int}(ha:0<=a):Int.tmod a b=a%b:=Int.tmod_eq_emod_of_nonneg ha
theorem CV(a b:Int):(Int.tmod a b==0)=(a%b==0):=by
 rw[Bool.eq_iff_iff];simp only[qv];rw[<-Int.dvd_iff_tmod_eq_zero,<-Int.dvd_iff_emod_eq_zero]
theorem ag{p:Prop}[Decidable p](h:p):decide p=true:=vw h
theorem aj{p:Prop}[Decidable p](h:¬p):decide p=false:=decide_eq_false h
theorem eA{a b:Int}(h:a=b):(a==b)=true:=by simp[h]
theorem cB{a b:Int}(h:a≠b):(a==b)=false:=by simp[h]
theorem aZ{i:Int}{n:Nat}(h1:0<=i)(h2:i<n):inR i n=true:=by simp[inR,h1,h2]
def nQ(ks:List ByteArray):List (ByteArray×Bool):=ks.map λk=>(k,true)
def eG(ks:List ByteArray):Prop:=ks.Nodup/\∀k∈ks,j4Y k=some true
theorem Tz{s:ByteArray}:∀{l:List ByteArray},s∉l->df false (nQ l) s=false/\fI (nQ l) s true=nQ (l++[s])
 |[],_=>⟨rfl,rfl⟩
 |k::l,h=>by
  simp only[jd,not_or]at h;obtain⟨h1,h2⟩:=Tz (l:=l) h.2;have hb:(s==k)=false:=qb.2 λhh=>h.1 ((MapKept.bytes_beq s k).1 hh);refine⟨?_,?_⟩
  .show cond (s==k) true (df false (nQ l) s)=false;rw[hb];exact h1
  .show cond (s==k) ((s,true)::nQ l) ((k,true)::fI (nQ l) s true)=_;rw[hb,j6,h2];rfl
theorem CW{α:Type}(f:α->ByteArray){xs:List α}(h:eG (xs.map f)){i:Nat}(hi:i<xs.length):j5i (f xs[i]) (nQ ((xs.take i).map f))=some (0,nQ ((xs.take (i+1)).map f)):=by
 have hm:f xs[i]∈xs.map f:=List.mem_map_of_mem (jh hi)
 have hn:f xs[i]∉(xs.take i).map f:=by
  intro hx;have hs:xs.map f=(xs.take i).map f++(f xs[i]::(xs.drop (i+1)).map f):=by rw[<-ka,<-z8,List.getElem_cons_drop hi,qn]
  have:=h.1;rw[hs,qj]at this;exact this.2.2 _ hx _ (by simp) rfl
 obtain⟨h1,h2⟩:=Tz hn;simp only[j5i,h.2 _ hm,j3,jn,j6,h1,h2];rw[km,jj hi,z8];rfl
abbrev bC:=List (Int×Int)
def ib(l:bC)(i:Nat):Int:=(l.getD i (0,0)).1
def cp(o:Int)(l:bC)(i:Nat):Int:=if i=0 then o else (l.getD (i-1) (0,0)).2
def bq(l:bC)(i:Nat):Int:=if i=0 then 0 else if i<=l.length then ib l (i-1) else 8589934593
structure ic(o:Int)(l:bC):Prop where
 len:l.length<=1000
 gap:∀i,i+1<l.length->ib l i+604800<=ib l (i+1)
 pos:∀i,i<l.length->1000000<ib l i
 max:∀i,i<l.length->ib l i<=8589000000
 of0:∀i,i<=l.length -> -64800<=cp o l i
 of1:∀i,i<=l.length->cp o l i<=64800
section
variable{o:Int}{l:bC}(h:ic o l)
include h
theorem ic.at_lt:∀(k i:Nat),i+k+1<l.length->ib l i+604800<=ib l (i+k+1)
 |0,i,hk=>h.gap i hk
 |k+1,i,hk=>by
  have h1:=ic.at_lt k i (by omega);have h2:=h.gap (i+k+1) (by omega);rw[show i+(k+1)+1=i+k+1+1 by omega];omega
theorem ic.at_le{i j:Nat}(ec:i<j)(hj:j<l.length):ib l i+604800<=ib l j:=by
 have:=h.at_lt (j-i-1) i (by omega);rwa[show i+(j-i-1)+1=j by omega]at this
omit h in
theorem p9:bq l 0=0:=rfl
omit h in
theorem w6{i:Nat}(hi:i<l.length):bq l (i+1)=ib l i:=by
 unfold bq;rw[if_neg (Nat.succ_ne_zero i),if_pos (show i+1<=l.length by omega)];rfl
omit h in
theorem sH:bq l (l.length+1)=8589934593:=by
 unfold bq;rw[if_neg (Nat.succ_ne_zero _),if_neg (show¬l.length+1<=l.length by omega)]
theorem ic.frm_lt{i:Nat}(hi:i<=l.length):bq l i<bq l (i+1):=by
 rcases qr i l.length with hl|hl
 .rw[w6 hl];cases i with
  |zero=>rw[p9];exact(by have:=h.pos 0 hl;omega)
  |succ i=>rw[w6 (by omega)];have:=h.gap i hl;omega
 .have:i=l.length:=by omega
  subst this;rw[sH];cases hq:l.length with
  |zero=>rw[p9];omega
  |succ n=>rw[w6 (by omega)];have:=h.max n (by omega);omega
theorem ic.frm_le{i j:Nat}(ec:i<=j)(hj:j<=l.length+1):bq l i<=bq l j:=by
 induction j with
 |zero=>
  have:i=0:=by omega
  subst this;omega
 |succ j ih=>
  by_cases he:i=j+1
  .subst he;omega
  .have h1:=ih (by omega) (by omega);have h2:=h.frm_lt (i:=j) (by omega);omega
theorem Mz{t:Int}{k:Nat}(hk:k<=l.length)(gU:∀i,i<k->ib l i<=t)(gK:∀i,k<=i->i<l.length->t<ib l i) :
  ∀(n:Nat)(a b:Nat),b-a<=n->a<=k->k<=b->b<=l.length->Fm o l t (a:Int) (b:Int)=some (k:Int)
 |0,a,b,hn,ha,hb,r8=>by
  rw[Ss];simp only[j2C,aj (show¬(a:Int)<(b:Int) by omega),j6,aY];congr 1;omega
 |n+1,a,b,hn,ha,hb,r8=>by
  have hlen:=h.len;rw[Ss];by_cases cG:a<b
  .have hm:IntKind.wrap .u64 ((a:Int)+(b:Int))=(a:Int)+(b:Int):=IntWalk.u64_in _ ⟨by omega,by omega⟩;have hd:Int.fdiv ((a:Int)+(b:Int)) 2=(((a+b)/2:Nat):Int):=by rw[Int.fdiv_eq_ediv_of_nonneg _ (by omega)];omega
   simp only[j2C,ag (show (a:Int)<(b:Int) by omega),j5];rw[ah (x:=(a:Int)+(b:Int)) (by omega) (by omega),hm,hd,ah (x:=(((a+b)/2:Nat):Int)) (by omega) (by omega)];simp only[j7u];rw[aZ (by omega) (by omega)];simp only[j5,j3,j7];by_cases hc:ib l ((a+b)/2)>t
   .rw[ag (show (l.getD ((a+b)/2) ((0:Int),(0:Int))).1>t from hc)];simp only[jn,j6,aQ]
    have pF:k<=(a+b)/2:=by
     rcases qr ((a+b)/2) k with h'|h'
     .have:=gU _ h';omega
     .exact h'
    exact Mz hk gU gK n a ((a+b)/2) (by omega) ha pF (by omega)
   .rw[aj (show¬(l.getD ((a+b)/2) ((0:Int),(0:Int))).1>t from hc)];simp only[k5,j5,aQ];rw[ah (by omega) (by omega)]
    have pF:(a+b)/2<k:=by
     rcases qr ((a+b)/2) k with h'|h'
     .exact h'
     .have:=gK _ h' (by omega);omega
    exact Mz hk gU gK n ((a+b)/2+1) b (by omega) (by omega) hb r8
  .simp only[j2C,aj (show¬(a:Int)<(b:Int) by omega),j6,aY];congr 1;omega
theorem MA{t:Int}{k:Nat}(hk:k<=l.length)(h1:bq l k<=t)(h2:t<bq l (k+1)):j5O (o,l) t=some (k:Int):=by
 have gU:∀i,i<k->ib l i<=t:=by
  intro i hi;have:bq l k=ib l (k-1):=by have:=w6 (l:=l) (i:=k-1) (by omega);rwa[show k-1+1=k by omega]at this
  rw[this]at h1;by_cases he:i=k-1
  .subst he;exact h1
  .have:=h.at_le (i:=i) (j:=k-1) (by omega) (by omega);omega
 have gK:∀i,k<=i->i<l.length->t<ib l i:=by
  intro i hi hl;have:bq l (k+1)=ib l k:=w6 (by omega);rw[this]at h2;by_cases he:i=k
  .subst he;exact h2
  .have:=h.at_le (i:=k) (j:=i) (by omega) hl;omega
 have:=Mz h hk gU gK l.length 0 l.length (by omega) (by omega) hk (by omega);simp only[j5O,jfA,show Int.ofNat (List.length l)=(l.length:Int) from rfl];rw[show (0:Int)=((0:Nat):Int) from rfl,this];rfl
theorem MB{k:Nat}(hk:k<=l.length):j3G (o,l) (k:Int)=some (cp o l k):=by
 have hlen:=h.len;unfold cp;by_cases h0:k=0
 .subst h0;rfl
 .simp only[j3G];rw[cB (show (k:Int)≠0 by omega),j6,ah (by omega) (by omega),aZ (by omega) (by omega),show ((k:Int)-1).toNat=k-1 by omega,if_neg h0];rfl
theorem jtN{t:Int}{k:Nat}(hk:k<=l.length)(h1:bq l k<=t)(h2:t<bq l (k+1)):j6F (o,l) t=some (cp o l k):=by
 simp only[j6F,MA h hk h1 h2,j3,MB h hk]
theorem CX{t:Int}(h0:0<=t)(h1:t<=8589934592):∃k,k<=l.length/\bq l k<=t/\t<bq l (k+1):=by
 have _:=h
 have:∀n,n<=l.length+1->t<bq l n->∃k,k<n/\bq l k<=t/\t<bq l (k+1):=by
  intro n;induction n with
  |zero=>intro _ hn;have:bq l 0=0:=rfl;omega
  |succ n ih=>
   intro hn au;by_cases hc:bq l n<=t
   .exact⟨n,by omega,hc,au⟩
   .obtain⟨k,a1,a2,a3⟩:=ih (by omega) (by omega);exact⟨k,by omega,a2,a3⟩
 have dK:bq l (l.length+1)=8589934593:=sH;obtain⟨k,a1,a2,a3⟩:=this (l.length+1) (by omega) (by omega);exact⟨k,by omega,a2,a3⟩
def pc(o:Int)(l:bC)(i:Nat):Int×(Int×Int):=(bq l i,(bq l (i+1),cp o l i))
def oI(o:Int)(l:bC)(n:Nat):List (Int×(Int×Int)):=(List.range n).map (pc o l)
omit h in
theorem TA(n:Nat):oI o l (n+1)=oI o l n++[pc o l n]:=by simp[oI,List.range_succ]
omit h in
theorem w7(n:Nat):(oI o l n).length=n:=by simp[oI]
omit h in
theorem MC{n i:Nat}(hi:i<n):(oI o l n).getD i ((0:Int),((0:Int),(0:Int)))=pc o l i:=by
 simp[oI,List.getD,hi]
theorem TB:∀(n k:Nat),k+n=l.length+1->yr (bq l k) 8589934593 o l (oI o l k)=some (oI o l (l.length+1))
 |0,k,hk=>by
  have dK:bq l k=8589934593:=by rw[show k=l.length+1 by omega];exact sH
  rw[yt,dK];simp only[j0s];rw[aj (by omega),j6,aY,show k=l.length+1 by omega]
 |n+1,k,hk=>by
  have hlen:=h.len;have gN:k<=l.length:=by omega
  have au:=h.frm_lt gN;have hle:=h.frm_le (i:=k+1) (j:=l.length+1) (by omega) (by omega);have dK:bq l (l.length+1)=8589934593:=sH;have ih:=TB n (k+1) (by omega);rw[yt];simp only[j0s];rw[ag (show bq l k<8589934593 by omega),MA h gN (by omega) au];simp only[j5,j3,show Int.ofNat (List.length l)=(l.length:Int) from rfl,MB h gN];by_cases qA:k<l.length
  .rw[ag (show (k:Int)<(l.length:Int) by omega),aZ (by omega) (by omega)];simp only[j5,j7];have il:(if (l.getD k ((0:Int),(0:Int))).1<8589934593 then (l.getD k ((0:Int),(0:Int))).1 else 8589934593)=bq l (k+1):=by have hf:bq l (k+1)=ib l k:=w6 qA;have:=h.max k qA;rw[hf,if_pos (show (l.getD k ((0:Int),(0:Int))).1<8589934593 by show ib l k<_;omega)];rfl
   rw[il,ag (by rw[w7];simp[aP];omega)];simp only[j5,aQ];rw[TA]at ih;exact ih
  .rw[aj (show¬(k:Int)<(l.length:Int) by omega)];simp only[j6];rw[ag (by rw[w7];simp[aP];omega)];simp only[j5,aQ];have bf:k=l.length:=by omega
   rw[TA]at ih;unfold pc at ih;rw[show k+1=l.length+1 by omega,dK]at ih;exact ih
theorem TC:j1w (o,l) 0 8589934593=some (oI o l (l.length+1)):=by
 have:=TB h (l.length+1) 0 (by omega);simp only[j1w];rw[show yr 0 8589934593 o l []=_ from this];rfl
def TD(o:Int)(l:bC)(s:Int)(i:Nat):Prop:=bq l i<=s-cp o l i/\s-cp o l i<bq l (i+1)
instance(o:Int)(l:bC)(s:Int)(i:Nat):Decidable (TD o l s i):=by unfold TD;infer_instance
omit h in
theorem MD{d c:Int}(hd : -1000000<=d)(me:d<=1000000)(hc : -86400<=c)(gz:c<=172800):j3D (d,c)=some (d*86400+c):=by
 simp only[j3D];rw[if_neg (show¬(-1048576:Int)>d by omega),if_neg (show¬(1048576:Int)<d by omega),ah (x:=d*86400) (by omega) (by omega),ah (by omega) (by omega)]
theorem TE{d c:Int}(hd : -1000000<=d)(me:d<=1000000)(hc : -86400<=c)(gz:c<=172800){k:Nat}(hk:k<=l.length)(hks:d*86400+c-cp o l k<bq l (k+1))(sJ:∀j,j<k->bq l (j+1)<=d*86400+c-cp o l j) :
  ∀(n i:Nat),i+n=k->Ck ((l.length+1:Nat):Int) (i:Int) d c (oI o l (l.length+1))=some (.inl (max (bq l k) (d*86400+c-cp o l k),true))
 |0,i,hi=>by
  have hlen:=h.len;have:i=k:=by omega
  subst this;have o1:=h.of0 i hk;have o2:=h.of1 i hk;have au:=h.frm_lt hk;rw[Fo];simp only[j13];rw[ag (show (i:Int)<((l.length+1:Nat):Int) by omega),aZ (by omega) (by rw[w7];omega)];simp only[j5,j7,MC (show i<l.length+1 by omega),MD hd me hc gz,j3,pc];rw[ah (x:=d*86400+c-cp o l i) (by omega) (by omega)];have hm:(if d*86400+c-cp o l i>bq l i then d*86400+c-cp o l i else bq l i)=max (bq l i) (d*86400+c-cp o l i):=by split<;>omega
  rw[hm,ag (by omega),j5,aY]
 |n+1,i,hi=>by
  have hlen:=h.len;have jX:i<=l.length:=by omega
  have o1:=h.of0 i jX;have o2:=h.of1 i jX;have hb:=sJ i (by omega);rw[Fo];simp only[j13];rw[ag (show (i:Int)<((l.length+1:Nat):Int) by omega),aZ (by omega) (by rw[w7];omega)];simp only[j5,j7,MC (show i<l.length+1 by omega),MD hd me hc gz,j3,pc];rw[ah (x:=d*86400+c-cp o l i) (by omega) (by omega),ah (x:=(i:Int)+1) (by omega) (by omega)];have hm:(if d*86400+c-cp o l i>bq l i then d*86400+c-cp o l i else bq l i)=max (bq l i) (d*86400+c-cp o l i):=by split<;>omega
  rw[hm,aj (by omega),j6,aQ];exact TE hd me hc gz hk hks sJ n (i+1) (by omega)
theorem jvF{d c:Int}(hd : -1000000<=d)(me:d<=1000000)(hc : -86400<=c)(gz:c<=172800){k:Nat}(hk:k<=l.length)(hks:d*86400+c-cp o l k<bq l (k+1))(sJ:∀j,j<k->bq l (j+1)<=d*86400+c-cp o l j) :
  j2s (o,l) (d,c)=some (max (bq l k) (d*86400+c-cp o l k),true):=by
 have:=TE h hd me hc gz hk hks sJ k 0 (by omega);simp only[j2s,TC h,j3,w7,show Int.ofNat (List.length l+1)=((l.length+1:Nat):Int) from rfl];rw[show (0:Int)=((0:Nat):Int) from rfl,this];rfl
omit h in
theorem jvG{n:Int}(h1 : -1000000000000<=n)(h2:n<=1000000000000):jeP n=some (n/86400,n%86400):=by
 obtain⟨e,p1,p2,p3,p4⟩:=CT n 86400 (by omega);simp only[jeP];rw[ah (x:=Int.tdiv n 86400) (by omega) (by omega)];by_cases hm:Int.tmod n 86400<0
 .rw[ag hm,j5,ah (x:=Int.tdiv n 86400-1) (by omega) (by omega),ah (x:=(Int.tdiv n 86400-1)*86400) (by omega) (by omega),ah (by omega) (by omega)];have:n/86400=Int.tdiv n 86400-1:=by omega
  congr 2
  .omega
  .omega
 .rw[aj hm,j6,ah (x:=Int.tdiv n 86400*86400) (by omega) (by omega),ah (by omega) (by omega)];congr 2
  .omega
  .omega
theorem F0{t:Int}{k:Nat}(hk:k<=l.length)(h1:bq l k<=t)(h2:t<bq l (k+1)):j1P (o,l) t=some ((t+cp o l k)/86400,(t+cp o l k)%86400):=by
 have o1:=h.of0 k hk;have o2:=h.of1 k hk;have g1:0<=bq l k:=by have:=h.frm_le (i:=0) (j:=k) (by omega) (by omega);have e:bq l 0=0:=rfl;omega
 have dK:bq l (l.length+1)=8589934593:=sH;have g2:=h.frm_le (i:=k+1) (j:=l.length+1) (by omega) (by omega);simp only[j1P,jtN h hk h1 h2,j3];rw[ah (x:=t+cp o l k) (by omega) (by omega),jvG (by omega) (by omega)];rfl
end
def kC(x:Int×Int):bC->bC
 |[]=>[x]
 |y::ys=>if x.1<y.1 then y::kC x ys else x::y::ys
def jA:bC->bC->bC
 |[],acc=>acc
 |x::xs,acc=>jA xs (kC x acc)
def eh(l:bC):bC:=(jA l []).reverse
theorem CY(x:Int×Int):∀l,(kC x l).length=l.length+1
 |[]=>rfl
 |y::ys=>by unfold kC;split<;>simp[CY x ys]
theorem CZ:∀(l acc:bC),(jA l acc).length=l.length+acc.length
 |[],acc=>by simp[jA]
 |x::xs,acc=>by simp only[jA,CZ xs,CY,jo];omega
def Sm(l:bC):Prop:=∀x∈l, -1000000000000<=x.1/\x.1<=1000000000000
theorem TF{x:Int×Int}(hx : -1000000000000<=x.1/\x.1<=1000000000000):∀{l:bC},Sm l->Sm (kC x l)
 |[],_=>λy hy=>by simp[kC]at hy;subst hy;exact hx
 |z::zs,h=>by
  unfold kC;split
  .intro y hy;rcases jd.1 hy with rfl|hy
   .exact h _ (by simp)
   .exact TF hx (l:=zs) (λw hw=>h w (by simp[hw])) y hy
  .intro y hy;rcases jd.1 hy with rfl|hy
   .exact hx
   .exact h y hy
theorem jxh(rp mid:bC)(x:Int×Int):(rp.reverse++x::mid).getD rp.length (0,0)=x:=by
 rw[List.getD_eq_getElem?_getD,k9 (by simp)];simp
theorem TG(n s8:Int)(x:Int×Int)(hx : -1000000000000<=x.1/\x.1<=1000000000000):∀(rp mid:bC),Sm rp->rp.length+mid.length<=1000->
  E9 0 n s8 (rp.length:Int) (rp.reverse++x::mid)=some (0,n,s8,(kC x rp).reverse++mid)
 |[],mid,_,_=>by
  rw[R4];simp only[j0d];rw[aj (by simp),j6,aY];rfl
 |y::ys,mid,oG,hlen=>by
  have hy:=oG y (by simp);have hL:((y::ys).reverse++x::mid).length=ys.length+1+(mid.length+1):=by simp;omega
  simp only[jo]at hlen;rw[R4];simp only[j0d,jo];rw[ag (show ((ys.length+1:Nat):Int)>0 by omega),aZ (by omega) (by rw[hL];omega),ah (x:=((ys.length+1:Nat):Int)-1) (by omega) (by omega),aZ (by omega) (by rw[hL];omega)];simp only[j5,j7];have g1:((y::ys).reverse++x::mid).getD (ys.length+1) ((0:Int),(0:Int))=x:=jxh (y::ys) mid x;have g2:((y::ys).reverse++x::mid).getD ((((ys.length+1:Nat):Int)-1).toNat) ((0:Int),(0:Int))=y:=by rw[show (((ys.length+1:Nat):Int)-1).toNat=ys.length by omega];simp
  rw[g1,g2];simp only[j7t,j3];rw[ah (x:=x.1-y.1) (by omega) (by omega)];by_cases hc:x.1<y.1
  .rw[ag (show x.1-y.1<0 by omega)];have vC:List.set (List.set ((y::ys).reverse++x::mid) (ys.length+1) (y.1,y.2)) ((((ys.length+1:Nat):Int)-1).toNat) (x.1,x.2)=ys.reverse++x::(y::mid):=by rw[show (((ys.length+1:Nat):Int)-1).toNat=ys.length by omega];simp
   rw[aZ (by omega) (by rw[zr,hL];omega)];simp only[j5,aQ,vC];have he:=TG n s8 x hx ys (y::mid) (λz hz=>oG z (by simp[hz])) (by simp;omega);rw[show ((ys.length+1:Nat):Int)-1=(ys.length:Int) by omega,he];simp[kC,hc]
  .rw[aj (show¬x.1-y.1<0 by omega)];simp only[j6,aY];simp[kC,hc]
theorem TH:∀(xs rp:bC),Sm rp->Sm xs->rp.length+xs.length<=1000->
  Fa 0 ((rp.length+xs.length:Nat):Int) (rp.length:Int) (rp.reverse++xs)=some (jA xs rp).reverse
 |[],rp,_,_,_=>by
  rw[J1];simp only[j0e];rw[aj (by simp),j6,aY];simp[jA]
 |x::xs,rp,hr,hx,hlen=>by
  have TI:=hx x (by simp);simp only[jo]at hlen;have he:=TG ((rp.length+(x::xs).length:Nat):Int) (rp.length:Int) x TI rp xs hr (by omega);have ih:=TH xs (kC x rp) (TF TI hr) (λz hz=>hx z (by simp[hz])) (by rw[CY];omega);rw[CY]at ih;rw[J1];simp only[j0e];rw[ag (by simp only[jo];omega),he];simp only[j5,j3,jA];rw[show rp.length+1+xs.length=rp.length+(x::xs).length by simp;omega]at ih;rw[ah (by omega) (by omega),aQ];exact ih
theorem jmQ{l:bC}(hs:Sm l)(hl:l.length<20):j0i l=some (eh l):=by
 have w8:j0l l 0 (l.length:Int)=some (eh l):=by
  simp only[j0l];cases l with
  |nil=>rw[J1];rfl
  |cons x xs=>have:=TH xs [x] (λz hz=>by simp at hz;subst hz;exact hs _ (by simp)) (λz hz=>hs z (by simp[hz])) (by simp at hl ⊢;omega);rw[show w64 (0+1)=(([x]:bC).length:Int) from rfl,show ((x::xs).length:Int)=(([x].length+xs.length:Nat):Int) by simp;omega];rw[show (x::xs)=[x].reverse++xs from rfl,this];rfl
 have e0:Fb (l.length:Int) 20 0 20 l=some ((l.length:Int),20,0,l):=by rw[j5K];simp only[j0A];rw[aj (by omega),j6,aY]
 have e2:Fc (l.length:Int) 20 (eh l)=some (eh l):=by rw[j5L];simp only[j0B];rw[aj (by omega),j6,aY]
 simp only[j0i,j1K,show Int.ofNat (List.length l)=(l.length:Int) from rfl,e0,j3,w8,e2]
def sK(y:Int):Bool:=decide (y%4=0)&&(!decide (y%100=0)||decide (y%400=0))
def iH(y:Int):Int:=if y%4=0/\(y%100≠0\/y%400=0) then 1 else 0
theorem ME(y:Int):sK y=true↔y%4=0/\(y%100≠0\/y%400=0):=by simp[sK]
theorem TJ(y:Int):iH y=if sK y then 1 else 0:=by
 unfold iH;by_cases h:sK y=true
 .rw[if_pos ((ME y).1 h),if_pos h]
 .rw[if_neg (λh'=>h ((ME y).2 h')),if_neg h]
theorem F1(y:Int):0<=iH y/\iH y<=1:=by unfold iH;split<;>omega
def fc(y m:Int):Int:=
 if m<1\/12<m then 0 else if m=2 then 28+iH y else if m=4\/m=6\/m=9\/m=11 then 30 else 31
def im(y:Int):Int:=365*(y-1970)+(y-1)/4-(y-1)/100+(y-1)/400-477
def kD(y m:Int):Int:=
 if m<=1 then 0 else if m=2 then 31 else if m=3 then 59+iH y else if m=4 then 90+iH y else if m=5 then 120+iH y else if m=6 then 151+iH y
 else if m=7 then 181+iH y else if m=8 then 212+iH y else if m=9 then 243+iH y else if m=10 then 273+iH y else if m=11 then 304+iH y else if m=12 then 334+iH y else 365+iH y
def num(y m d:Int):Int:=im y+kD y m+d-1
theorem jvH(y:Int):im (y+1)=im y+365+iH y:=by
 unfold im iH;split<;>omega
theorem MF{a b:Int}(h:a<=b):im a+365*(b-a)<=im b:=by unfold im;omega
theorem MG(y m:Int)(h1:1<=m)(h2:m<=12):kD y (m+1)=kD y m+fc y m:=by
 obtain rfl|rfl|rfl|rfl|rfl|rfl|rfl|rfl|rfl|rfl|rfl|rfl:m=1\/m=2\/m=3\/m=4\/m=5\/m=6\/m=7\/m=8\/m=9\/m=10\/m=11\/m=12:=by omega
 all_goals (simp[kD,fc];try omega)
theorem qB(y m:Int):0<=fc y m/\fc y m<=31:=by
 have:=F1 y;unfold fc;repeat' split;all_goals omega
theorem C0(y m:Int)(h1:1<=m)(h2:m<=12):28<=fc y m:=by
 have:=F1 y;unfold fc;rw[if_neg (by omega)];repeat' split;all_goals omega
theorem TK(y m:Int):0<=kD y m/\kD y m<=366:=by
 have:=F1 y;unfold kD;omega
theorem TL(y:Int):jhs y=some (sK y):=by
 have e:(cond (Int.tmod y 4==(0:Int)) (cond (Int.tmod y 100 != (0:Int)) true (Int.tmod y 400==(0:Int))) false)=sK y:=by unfold bne;rw[CV,CV,CV,Bool.eq_iff_iff,ME];by_cases h1:y%4=0<;>by_cases h2:y%100=0<;>by_cases h3:y%400=0<;>simp[h1,h2,h3]
 exact jl some e
theorem MH(y m:Int):j6C y m=some (fc y m):=by
 by_cases h:m<1\/12<m
 .have hc:cond (decide (m<(1:Int))) true (decide (m>(12:Int)))=true:=by rcases h with h|h<;>by_cases h1:m<1<;>simp[h1]<;>omega
  have:fc y m=0:=if_pos h;rw[this];unfold j6C;rw[hc];rfl
 .obtain rfl|rfl|rfl|rfl|rfl|rfl|rfl|rfl|rfl|rfl|rfl|rfl:m=1\/m=2\/m=3\/m=4\/m=5\/m=6\/m=7\/m=8\/m=9\/m=10\/m=11\/m=12:=by omega
  case inr.inl=>simp only[j6C,TL,fc,TJ,j3];cases sK y<;>rfl
  all_goals rfl
theorem jvI(y m d:Int):jay (y,m,d)=some (decide (1970<=y/\y<=2240/\1<=d/\d<=fc y m)):=by
 simp only[jay,MH,j3];by_cases h1:1970<=y<;>by_cases h2:y<=2240<;>by_cases h3:1<=d<;>simp[h1,h2,h3]
theorem MI(a b:Int)(hb:0<b)(h1 : -1000000000000<=a)(h2:a<=1000000000000):j7s a b=some (a/b):=by
 have dG:(b==0)=false:=by simp;omega
 obtain⟨e,p1,p2,p3,p4⟩:=CT a b hb
 have hq : -1000000000000<=Int.tdiv a b/\Int.tdiv a b<=1000000000000:=by
  rcases Int.le_total 0 a with h|h
  .have h0:0<=a/b:=Int.ediv_nonneg h (by omega);have h3:a/b<=a:=Int.ediv_le_self b h;rw[sG h];omega
  .have h0:0<=(-a)/b:=Int.ediv_nonneg (by omega) (by omega);have h3:(-a)/b <= -a:=Int.ediv_le_self b (by omega);have h4:Int.tdiv (-a) b=(-a)/b:=sG (by omega);rw[Int.neg_tdiv]at h4;omega
 simp only[j7s,dG,k5,j5];rw[ah (x:=Int.tdiv a b) (by omega) (by omega)];by_cases hm:Int.tmod a b<0
 .rw[ag hm,j5,ah (by omega) (by omega)];congr 1
  have:a/b=Int.tdiv a b-1:=by
   have h3:a=(a.tmod b+b)+b*(Int.tdiv a b-1):=by rw[Int.mul_sub];omega
   rw[h3,Int.add_mul_ediv_left _ _ (by omega),Int.ediv_eq_zero_of_lt (by omega) (by omega)];rw[<-h3];omega
  omega
 .rw[aj hm,j6];congr 1;have h3:a=a.tmod b+b*Int.tdiv a b:=by omega
  have:a/b=Int.tdiv a b:=by
   conv=>lhs;rw[h3]
   rw[Int.add_mul_ediv_left _ _ (by omega),Int.ediv_eq_zero_of_lt (by omega) (by omega)];omega
  omega
theorem jvJ(y:Int)(h1 : -1000000000<=y)(h2:y<=1000000000):j4y y=some (im y):=by
 simp only[j4y];rw[ah (x:=y-1) (by omega) (by omega),ah (x:=y-1970) (by omega) (by omega),MI _ 4 (by omega) (by omega) (by omega),MI _ 100 (by omega) (by omega) (by omega),MI _ 400 (by omega) (by omega) (by omega)];simp only[j3];simp (disch:=omega) only[ah];rfl
theorem TM(y m d:Int)(hm:m<=13):∀(n:Nat)(s k:Int),1<=k->k+n=m -> -1000000000000<=s->s+31*n<=1000000000000->E8 s k y m d=some (s+kD y m-kD y k)
 |0,s,k,hk,hn,_,_=>by
  rw[R3];have:k=m:=by omega
  subst this;simp only[j3j,aj (show¬k<k by omega),j6,aY];congr 1;omega
 |n+1,s,k,hk,hn,h1,h2=>by
  rw[R3];have hd:=qB y k;have hc:=MG y k hk (by omega);simp only[j3j,MH,j3,ag (show k<m by omega),j5,aQ];rw[ah (x:=s+fc y k) (by omega) (by omega),ah (x:=k+1) (by omega) (by omega)];have ih:=TM y m d hm n (s+fc y k) (k+1) (by omega) (by omega) (by omega) (by omega);rw[ih];congr 1;omega
theorem jtP(y m d:Int)(h1 : -1000000<=y)(h2:y<=1000000)(gf:1<=m)(iB:m<=12)(qP : -1000000<=d)(me:d<=1000000):jbn (y,m,d)=some (num y m d):=by
 have hb : -1000000000<=im y/\im y<=1000000000:=by unfold im;omega
 simp only[jbn,jvJ y (by omega) (by omega),j3];rw[ah (x:=im y+d) (by omega) (by omega),ah (by omega) (by omega),TM y m d (by omega) (m-1).toNat _ 1 (by omega) (by omega) (by omega) (by omega)];have:kD y 1=0:=rfl;simp only[j3,num];congr 1;omega
theorem TN(day:Int):j5o day=some ((Int.tmod day 7+10)%7):=by
 obtain⟨e,p1,p2,p3,p4⟩:=CT day 7 (by omega);simp only[j5o];rw[ah (by omega) (by omega),CU (by omega)]
theorem F2(day:Int)(_h : -3<=day):j5o day=some ((day+3)%7):=by
 rw[TN];congr 1;obtain⟨e,p1,p2,p3,p4⟩:=CT day 7 (by omega);omega
def sL(y m d:Int):Prop:=1970<=y/\y<=2240/\1<=d/\d<=fc y m
instance(y m d:Int):Decidable (sL y m d):=by unfold sL;infer_instance
theorem MJ{y m d:Int}(h:sL y m d):1<=m/\m<=12:=by
 obtain⟨_,_,h3,h4⟩:=h;by_cases hm:m<1\/12<m
 .have:fc y m=0:=if_pos hm;omega
 .omega
theorem jtQ{y m d:Int}:decide (1970<=y/\y<=2240/\1<=d/\d<=fc y m)=decide (sL y m d):=rfl
theorem C1{y m d:Int}(h:sL y m d):0<=num y m d/\num y m d<98981:=by
 have hm:=MJ h;obtain⟨h1,h2,h3,h4⟩:=h;have hc:=TK y m;have c1:=MF (a:=1970) (b:=y) (by omega);have c2:=MF (a:=y) (b:=2240) (by omega);have e1:im 1970=0:=by decide
 have hd:=qB y m;have e2:im 2240=98615:=by decide
 have dr:kD y m+fc y m<=365+iH y:=by
  have:=MG y m hm.1 hm.2;have:kD y (m+1)<=365+iH y:=by have:=F1 y;unfold kD;omega
  omega
 have c3:=jvH y;have c4:=MF (a:=y+1) (b:=2241) (by omega);have e3:im 2241=98981:=by decide
 unfold num;omega
def nth(y m k w:Int):Int:=
 let d:=num y m 1+(w-(num y m 1+3)%7+7)%7+7*(k-1)
 if d>=num y m 1+fc y m then d-7 else d
theorem C2(y m:Int)(h1:1970<=y)(h2:y<=2240)(gf:1<=m)(iB:m<=12):sL y m 1:=⟨h1,h2,by omega,by have:=C0 y m gf iB;omega⟩
theorem jyr(y m k w:Int)(h1:1970<=y)(h2:y<=2240)(gf:1<=m)(iB:m<=12)(dD:1<=k)(fL:k<=5)(Hu:0<=w)(JJ:w<=6):jgy y m k w=some (nth y m k w,0):=by
 have hv:=C2 y m h1 h2 gf iB;have hr:=C1 hv;have hd:=qB y m;have MK:jay (y,m,1)=some true:=by rw[jvI,jtQ,vw hv]
 simp only[jgy,MK,j3,jn,j6];rw[aj (show¬k<1 by omega),aj (show¬k>5 by omega),aj (show¬w<0 by omega),aj (show¬w>6 by omega)];simp only[j6,jtP y m 1 (by omega) (by omega) gf iB (by omega) (by omega),j3,F2 _ (show -3<=num y m 1 by omega),MH];generalize hn:num y m 1=n at *;have hm7:0<=(n+3)%7/\(n+3)%7<=6:=by omega
 rw[ah (x:=w-(n+3)%7) (by omega) (by omega),ah (x:=w-(n+3)%7+7) (by omega) (by omega),CU (show 0<=w-(n+3)%7+7 by omega)];rw[ah (x:=k-1) (by omega) (by omega),ah (x:=7*(k-1)) (by omega) (by omega)];rw[ah (x:=n+(w-(n+3)%7+7)%7) (by omega) (by omega),ah (x:=n+(w-(n+3)%7+7)%7+7*(k-1)) (by omega) (by omega),ah (x:=n+fc y m) (by omega) (by omega)];unfold nth;simp only[hn];by_cases hc:n+(w-(n+3)%7+7)%7+7*(k-1)>=n+fc y m
 .rw[ag hc,j5,if_pos hc,ah (by omega) (by omega)]
 .rw[aj hc,j6,if_neg hc]
def dv(l:List Int)(a:Int):Prop:=0<=a/\a<=(l.length:Int)/\l.length<=1000000
theorem cM{l:List Int}{a n:Int}(h:dv l a)(hn:1<=n)(vL:n<=1000000000000):∃x a',j05 l a n=some (x,l,a')/\0<=x/\x<n/\dv l a':=by
 obtain⟨h1,h2,h3⟩:=h;simp only[j05,show Int.ofNat (List.length l)=(l.length:Int) from rfl];by_cases ha:a>=(l.length:Int)
 .rw[ag ha,j5];exact⟨0,a,rfl,by omega,by omega,h1,h2,h3⟩
 .rw[aj ha,j6,aj (show¬n<1 by omega),j6,aZ h1 (by omega),j5,cB (show n≠0 by omega)];obtain⟨e,p1,p2,p3,p4⟩:=CT (l.getD a.toNat 0) n (by omega);rw[ah (x:=a+1) (by omega) (by omega)];simp only[k5,j5];by_cases ht:Int.tmod (l.getD a.toNat 0) n<0
  .rw[ag ht,j5,ah (by omega) (by omega)];exact⟨_,_,rfl,by omega,by omega,by omega,by omega,h3⟩
  .rw[aj ht,j6];exact⟨_,_,rfl,by omega,by omega,by omega,by omega,h3⟩
theorem mJ{l:List Int}{a:Int}(h:dv l a){xs:List Int}(rU:0<xs.length)(mz:xs.length<=1000000):∃x a',j0V l a xs=some (x,l,a')/\x∈xs/\dv l a':=by
 obtain⟨x,a',e,h1,h2,h3⟩:=cM (n:=(xs.length:Int)) h (by omega) (by omega);simp only[j0V,show Int.ofNat (List.length xs)=(xs.length:Int) from rfl,e,j3];rw[aZ h1 (by omega),j5];have au:x.toNat<xs.length:=by omega
 refine⟨_,_,rfl,?_,h3⟩;rw[List.getD_eq_getElem?_getD,jj au];exact jh au
end Go.Proofs.Pw
open Go Go.Lft
set_option linter.unusedVariables false
set_option maxRecDepth 100000
namespace Go.Proofs.Pw
noncomputable section
theorem jio(N a b c d):OLe (@JT (gn N) a b c d) (JT a b c d):=OLe.loop N _ λ_=>oR _
theorem F3(N a):OLe (@j7G (gn N) a) (j7G a):=by
 unfold j7G;with_reducible repeat' (first|exact oR _|exact oN _|exact jio N _ _ _ _|apply oC|apply oS|refine oB ?_ ?_|intro _)
theorem jg1(N a b c d):OLe (@JU (gn N) a b c d) (JU a b c d):=OLe.loop N _ λ_=>oR _
theorem C3(N a b):OLe (@j1O (gn N) a b) (j1O a b):=by
 unfold j1O;with_reducible repeat' (first|exact oR _|exact oN _|exact jg1 N _ _ _ _|apply oC|apply oS|refine oB ?_ ?_|intro _)
theorem jkN(N a b c d e f g h i):OLe (@JV (gn N) a b c d e f g h i) (JV a b c d e f g h i):=OLe.loop N _ λ_=>oR _
theorem TO(N a):OLe (@jeK (gn N) a) (jeK a):=by
 unfold jeK;with_reducible repeat' (first|exact oR _|exact oN _|exact F3 N _|exact jkN N _ _ _ _ _ _ _ _ _|apply oC|apply oS|refine oB ?_ ?_|intro _)
theorem jk7(N a b):OLe (@JW (gn N) a b) (JW a b):=OLe.loop N _ λ_=>oR _
theorem joN(N a b):OLe (@je7 (gn N) a b) (je7 a b):=by
 unfold je7;with_reducible repeat' (first|exact oR _|exact oN _|exact jk7 N _ _|apply oC|apply oS|refine oB ?_ ?_|intro _)
theorem TP(N a b):OLe (@jcf (gn N) a b) (jcf a b):=by
 unfold jcf;with_reducible repeat' (first|exact oR _|exact oN _|exact joN N _ _|apply oC|apply oS|refine oB ?_ ?_|intro _)
theorem jmW(N a b):OLe (@jcg (gn N) a b) (jcg a b):=by
 unfold jcg;with_reducible repeat' (first|exact oR _|exact oN _|exact F3 N _|exact C3 N _ _|exact TO N _|exact TP N _ _|apply oC|apply oS|refine oB ?_ ?_|intro _)
theorem jf1(N a b c d e f g h):OLe (@j4R (gn N) a b c d e f g h) (j4R a b c d e f g h):=by
 unfold j4R;with_reducible repeat' (first|exact oR _|exact oN _|exact C3 N _ _|apply oC|apply oS|refine oB ?_ ?_|intro _)
theorem jk8(N a b c d e f g h):OLe (@JX (gn N) a b c d e f g h) (JX a b c d e f g h):=OLe.loop N _ λ_=>jf1 N _ _ _ _ _ _ _ _
theorem jf2(N a b c d e f g h i):OLe (@j4S (gn N) a b c d e f g h i) (j4S a b c d e f g h i):=by
 unfold j4S;with_reducible repeat' (first|exact oR _|exact oN _|exact C3 N _ _|apply oC|apply oS|refine oB ?_ ?_|intro _)
theorem jk9(N a b c d e f g h i):OLe (@JY (gn N) a b c d e f g h i) (JY a b c d e f g h i):=OLe.loop N _ λ_=>jf2 N _ _ _ _ _ _ _ _ _
theorem joO(N a b):OLe (@jea (gn N) a b) (jea a b):=by
 unfold jea;with_reducible repeat' (first|exact oR _|exact oN _|exact F3 N _|exact jk8 N _ _ _ _ _ _ _ _|exact jk9 N _ _ _ _ _ _ _ _ _|exact TP N _ _|apply oC|apply oS|refine oB ?_ ?_|intro _)
theorem jdJ(N a b c d e f):OLe (@j3I (gn N) a b c d e f) (j3I a b c d e f):=by
 unfold j3I;with_reducible repeat' (first|exact oR _|exact oN _|exact C3 N _ _|apply oC|apply oS|refine oB ?_ ?_|intro _)
theorem jhI(N a b c d e f):OLe (@JZ (gn N) a b c d e f) (JZ a b c d e f):=OLe.loop N _ λ_=>jdJ N _ _ _ _ _ _
theorem jkO(N a b):OLe (@jao (gn N) a b) (jao a b):=by
 unfold jao;with_reducible repeat' (first|exact oR _|exact oN _|exact F3 N _|exact C3 N _ _|exact jhI N _ _ _ _ _ _|apply oC|apply oS|refine oB ?_ ?_|intro _)
theorem jmX(N):OLe (@j7H (gn N) ) (j7H ):=by
 unfold j7H;with_reducible repeat' (first|exact oR _|exact oN _|exact jmW N _ _|exact joO N _ _|exact jkO N _ _|exact TO N _|apply oC|apply oS|refine oB ?_ ?_|intro _)
theorem jip(N a b c):OLe (@wR (gn N) a b c) (wR a b c):=OLe.loop N _ λ_=>oR _
theorem F4(N a):OLe (@j4Y (gn N) a) (j4Y a):=by
 unfold j4Y;with_reducible repeat' (first|exact oR _|exact oN _|exact jip N _ _ _|apply oC|apply oS|refine oB ?_ ?_|intro _)
theorem jiq(N a b):OLe (@J2 (gn N) a b) (J2 a b):=OLe.loop N _ λ_=>oR _
theorem jmY(N a):OLe (@jck (gn N) a) (jck a):=by
 unfold jck;with_reducible repeat' (first|exact oR _|exact oN _|exact jiq N _ _|apply oC|apply oS|refine oB ?_ ?_|intro _)
theorem jh3(N a b c d e f g):OLe (@J3 (gn N) a b c d e f g) (J3 a b c d e f g):=OLe.loop N _ λ_=>oR _
theorem jka(N a):OLe (@j4j (gn N) a) (j4j a):=by
 unfold j4j;with_reducible repeat' (first|exact oR _|exact oN _|exact jmY N _|exact jh3 N _ _ _ _ _ _ _|apply oC|apply oS|refine oB ?_ ?_|intro _)
theorem jkP(N a):OLe (@j0t (gn N) a) (j0t a):=by
 unfold j0t;with_reducible repeat' (first|exact oR _|exact oN _|exact jka N _|apply oC|apply oS|refine oB ?_ ?_|intro _)
abbrev jmZ(N:Nat):=@j0t (gn N)
end
theorem ML:j7H=some true:=jmX 60 true (by kernel_rfl)
end Go.Proofs.Pw
