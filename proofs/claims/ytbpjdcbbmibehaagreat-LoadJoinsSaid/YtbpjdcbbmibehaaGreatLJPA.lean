/- Small facts on Go's EP. -/
import Derived.Test.YtbpjdcbbmibehaaGreatLJLD
import Derived.Test.YtbpjdcbbmibehaaGreatLJFns
open Go Go.Lft
namespace Go.Proofs.Pw
theorem Bn(a b:Int)(hb:0<b):b*Int.tdiv a b+Int.tmod a b=a/\(0<=a->0<=Int.tmod a b)/\(a<=0->Int.tmod a b<=0)/\Int.tmod a b<b /\ -b<Int.tmod a b:=by
 have h1:=Int.mul_tdiv_add_tmod a b;have h2:0<=a->0<=Int.tmod a b:=λh=>Int.tmod_nonneg b h
 have h3:a<=0->Int.tmod a b<=0:=λh=>by
  have:=Int.tmod_nonneg (a:= -a) b (by omega);rw[Int.neg_tmod]at this;omega
 have h4:=Int.tmod_lt_of_pos a hb;have h5 : -b<Int.tmod a b:=by have:=Int.tmod_lt_of_pos (-a) hb;rw[Int.neg_tmod]at this;omega
 exact⟨h1,h2,h3,h4,h5⟩
theorem yO{a b:Int}(ha:0<=a):Int.tdiv a b=a/b:=vk ha
theorem ER{a b:Int}(ha:0<=a):Int.tmod a b=a%b:=Int.tmod_eq_emod_of_nonneg ha
theorem ES(a b:Int):(Int.tmod a b==0)=(a%b==0):=by
 rw[yg];simp only[zr];rw[<-Int.dvd_iff_tmod_eq_zero,<-Int.dvd_iff_emod_eq_zero]
theorem ag{p:Prop}[Decidable p](h:p):decide p=true:=yk h
theorem ao{p:Prop}[Decidable p](h:¬p):decide p=false:=decide_eq_false h
theorem ff{a b:Int}(h:a=b):(a==b)=true:=by simp[h]
theorem cP{a b:Int}(h:a≠b):(a==b)=false:=by simp[h]
theorem ba{i:Int}{n:Nat}(h1:0<=i)(h2:i<n):inR i n=true:=by simp[inR,h1,h2]
def po(ks:List ByteArray):List (ByteArray×Bool):=ks.map λk=>(k,true)
def gr(ks:List ByteArray):Prop:=ks.Nodup/\∀k∈ks,j6z k=some true
theorem VW{s:ByteArray}:∀{l:List ByteArray},s∉l->cR false (po l) s=false/\dO (po l) s true=po (l++[s])
 |[],_=>⟨rfl,rfl⟩
 |k::l,h=>by
  simp only[jc,not_or]at h;obtain⟨h1,h2⟩:=VW (l:=l) h.2;have hb:(s==k)=false:=qv.2 λhh=>h.1 ((MapKept.bytes_beq s k).1 hh);refine⟨?_,?_⟩
  .show cond (s==k) true (cR false (po l) s)=false;rw[hb];exact h1
  .show cond (s==k) ((s,true)::po l) ((k,true)::dO (po l) s true)=_;rw[hb,j6,h2];rfl
theorem ET{α:Type}(f:α->ByteArray){xs:List α}(h:gr (xs.map f)){i:Nat}(hi:i<xs.length):j5k (f xs[i]) (po ((xs.take i).map f))=some (0,po ((xs.take (i+1)).map f)):=by
 have hm:f xs[i]∈xs.map f:=List.mem_map_of_mem (ji hi)
 have hn:f xs[i]∉(xs.take i).map f:=by
  intro hx;have hs:xs.map f=(xs.take i).map f++(f xs[i]::(xs.drop (i+1)).map f):=by rw[<-jz,<-zq,List.getElem_cons_drop hi,qo]
  have:=h.1;rw[hs,qw]at this;exact this.2.2 _ hx _ (by simp) rfl
 obtain⟨h1,h2⟩:=VW hn;simp only[j5k,h.2 _ hm,j3,jw,j6,h1,h2];rw[qa,jk hi,zq];rfl
abbrev bA:=List (Int×Int)
def iK(l:bA)(i:Nat):Int:=(l.getD i (0,0)).1
def cu(o:Int)(l:bA)(i:Nat):Int:=if i=0 then o else (l.getD (i-1) (0,0)).2
def bh(l:bA)(i:Nat):Int:=if i=0 then 0 else if i<=l.length then iK l (i-1) else 8589934593
structure gU(o:Int)(l:bA):Prop where
 len:l.length<=1000
 gap:∀i,i+1<l.length->iK l i+604800<=iK l (i+1)
 pos:∀i,i<l.length->1000000<iK l i
 max:∀i,i<l.length->iK l i<=8589000000
 of0:∀i,i<=l.length -> -64800<=cu o l i
 of1:∀i,i<=l.length->cu o l i<=64800
section
variable{o:Int}{l:bA}(h:gU o l)
include h
theorem gU.at_lt:∀(k i:Nat),i+k+1<l.length->iK l i+604800<=iK l (i+k+1)
 |0,i,hk=>h.gap i hk
 |k+1,i,hk=>by
  have h1:=gU.at_lt k i (by omega);have h2:=h.gap (i+k+1) (by omega);rw[show i+(k+1)+1=i+k+1+1 by omega];omega
theorem gU.at_le{i j:Nat}(dG:i<j)(hj:j<l.length):iK l i+604800<=iK l j:=by
 have:=h.at_lt (j-i-1) i (by omega);rwa[show i+(j-i-1)+1=j by omega]at this
omit h in
theorem rY:bh l 0=0:=rfl
omit h in
theorem yP{i:Nat}(hi:i<l.length):bh l (i+1)=iK l i:=by
 unfold bh;rw[if_neg (Nat.succ_ne_zero i),if_pos (show i+1<=l.length by omega)];rfl
omit h in
theorem uz:bh l (l.length+1)=8589934593:=by
 unfold bh;rw[if_neg (Nat.succ_ne_zero _),if_neg (show¬l.length+1<=l.length by omega)]
theorem gU.frm_lt{i:Nat}(hi:i<=l.length):bh l i<bh l (i+1):=by
 rcases za i l.length with hl|hl
 .rw[yP hl];cases i with
  |zero=>rw[rY];exact(by have:=h.pos 0 hl;omega)
  |succ i=>rw[yP (by omega)];have:=h.gap i hl;omega
 .have:i=l.length:=by omega
  subst this;rw[uz];cases hq:l.length with
  |zero=>rw[rY];omega
  |succ n=>rw[yP (by omega)];have:=h.max n (by omega);omega
theorem gU.frm_le{i j:Nat}(dG:i<=j)(hj:j<=l.length+1):bh l i<=bh l j:=by
 induction j with
 |zero=>
  have:i=0:=by omega
  subst this;omega
 |succ j ih=>
  by_cases he:i=j+1
  .subst he;omega
  .have h1:=ih (by omega) (by omega);have h2:=h.frm_lt (i:=j) (by omega);omega
theorem OT{t:Int}{k:Nat}(hk:k<=l.length)(iS:∀i,i<k->iK l i<=t)(jC:∀i,k<=i->i<l.length->t<iK l i) :
  ∀(n:Nat)(a b:Nat),b-a<=n->a<=k->k<=b->b<=l.length->HD o l t (a:Int) (b:Int)=some (k:Int)
 |0,a,b,hn,ha,hb,sC=>by
  rw[UQ];simp only[j2P,ao (show¬(a:Int)<(b:Int) by omega),j6,aY];congr 1;omega
 |n+1,a,b,hn,ha,hb,sC=>by
  have hlen:=h.len;rw[UQ];by_cases dj:a<b
  .have hm:IntKind.wrap .u64 ((a:Int)+(b:Int))=(a:Int)+(b:Int):=IntWalk.u64_in _ ⟨by omega,by omega⟩;have hd:Int.fdiv ((a:Int)+(b:Int)) 2=(((a+b)/2:Nat):Int):=by rw[Int.fdiv_eq_ediv_of_nonneg _ (by omega)];omega
   simp only[j2P,ag (show (a:Int)<(b:Int) by omega),j5];rw[aj (x:=(a:Int)+(b:Int)) (by omega) (by omega),hm,hd,aj (x:=(((a+b)/2:Nat):Int)) (by omega) (by omega)];simp only[j7v];rw[ba (by omega) (by omega)];simp only[j5,j3,j7];by_cases hc:iK l ((a+b)/2)>t
   .rw[ag (show (l.getD ((a+b)/2) ((0:Int),(0:Int))).1>t from hc)];simp only[jw,j6,aP]
    have rm:k<=(a+b)/2:=by
     rcases za ((a+b)/2) k with h'|h'
     .have:=iS _ h';omega
     .exact h'
    exact OT hk iS jC n a ((a+b)/2) (by omega) ha rm (by omega)
   .rw[ao (show¬(l.getD ((a+b)/2) ((0:Int),(0:Int))).1>t from hc)];simp only[kf,j5,aP];rw[aj (by omega) (by omega)]
    have rm:(a+b)/2<k:=by
     rcases za ((a+b)/2) k with h'|h'
     .exact h'
     .have:=jC _ h' (by omega);omega
    exact OT hk iS jC n ((a+b)/2+1) b (by omega) (by omega) hb sC
  .simp only[j2P,ao (show¬(a:Int)<(b:Int) by omega),j6,aY];congr 1;omega
theorem OU{t:Int}{k:Nat}(hk:k<=l.length)(h1:bh l k<=t)(h2:t<bh l (k+1)):j5K (o,l) t=some (k:Int):=by
 have iS:∀i,i<k->iK l i<=t:=by
  intro i hi;have:bh l k=iK l (k-1):=by have:=yP (l:=l) (i:=k-1) (by omega);rwa[show k-1+1=k by omega]at this
  rw[this]at h1;by_cases he:i=k-1
  .subst he;exact h1
  .have:=h.at_le (i:=i) (j:=k-1) (by omega) (by omega);omega
 have jC:∀i,k<=i->i<l.length->t<iK l i:=by
  intro i hi hl;have:bh l (k+1)=iK l k:=yP (by omega);rw[this]at h2;by_cases he:i=k
  .subst he;exact h2
  .have:=h.at_le (i:=k) (j:=i) (by omega) hl;omega
 have:=OT h hk iS jC l.length 0 l.length (by omega) (by omega) hk (by omega);simp only[j5K,jfg,show Int.ofNat (List.length l)=(l.length:Int) from rfl];rw[show (0:Int)=((0:Nat):Int) from rfl,this];rfl
theorem OV{k:Nat}(hk:k<=l.length):j3Q (o,l) (k:Int)=some (cu o l k):=by
 have hlen:=h.len;unfold cu;by_cases h0:k=0
 .subst h0;rfl
 .simp only[j3Q];rw[cP (show (k:Int)≠0 by omega),j6,aj (by omega) (by omega),ba (by omega) (by omega),show ((k:Int)-1).toNat=k-1 by omega,if_neg h0];rfl
theorem jtL{t:Int}{k:Nat}(hk:k<=l.length)(h1:bh l k<=t)(h2:t<bh l (k+1)):j6D (o,l) t=some (cu o l k):=by
 simp only[j6D,OU h hk h1 h2,j3,OV h hk]
theorem wM{t:Int}(h0:0<=t)(h1:t<=8589934592):∃k,k<=l.length/\bh l k<=t/\t<bh l (k+1):=by
 have _:=h
 have:∀n,n<=l.length+1->t<bh l n->∃k,k<n/\bh l k<=t/\t<bh l (k+1):=by
  intro n;induction n with
  |zero=>intro _ hn;have:bh l 0=0:=rfl;omega
  |succ n ih=>
   intro hn ak;by_cases hc:bh l n<=t
   .exact⟨n,by omega,hc,ak⟩
   .obtain⟨k,a1,a2,a3⟩:=ih (by omega) (by omega);exact⟨k,by omega,a2,a3⟩
 have dC:bh l (l.length+1)=8589934593:=uz;obtain⟨k,a1,a2,a3⟩:=this (l.length+1) (by omega) (by omega);exact⟨k,by omega,a2,a3⟩
def pc(o:Int)(l:bA)(i:Nat):Int×(Int×Int):=(bh l i,(bh l (i+1),cu o l i))
def p7(o:Int)(l:bA)(n:Nat):List (Int×(Int×Int)):=(List.range n).map (pc o l)
omit h in
theorem VX(n:Nat):p7 o l (n+1)=p7 o l n++[pc o l n]:=by simp[p7,List.range_succ]
omit h in
theorem yQ(n:Nat):(p7 o l n).length=n:=by simp[p7]
omit h in
theorem OW{n i:Nat}(hi:i<n):(p7 o l n).getD i ((0:Int),((0:Int),(0:Int)))=pc o l i:=by
 simp[p7,List.getD,hi]
theorem VY:∀(n k:Nat),k+n=l.length+1->Bc (bh l k) 8589934593 o l (p7 o l k)=some (p7 o l (l.length+1))
 |0,k,hk=>by
  have dC:bh l k=8589934593:=by rw[show k=l.length+1 by omega];exact uz
  rw[Bd,dC];simp only[j0v];rw[ao (by omega),j6,aY,show k=l.length+1 by omega]
 |n+1,k,hk=>by
  have hlen:=h.len;have jH:k<=l.length:=by omega
  have ak:=h.frm_lt jH;have hle:=h.frm_le (i:=k+1) (j:=l.length+1) (by omega) (by omega);have dC:bh l (l.length+1)=8589934593:=uz;have ih:=VY n (k+1) (by omega);rw[Bd];simp only[j0v];rw[ag (show bh l k<8589934593 by omega),OU h jH (by omega) ak];simp only[j5,j3,show Int.ofNat (List.length l)=(l.length:Int) from rfl,OV h jH];by_cases rZ:k<l.length
  .rw[ag (show (k:Int)<(l.length:Int) by omega),ba (by omega) (by omega)];simp only[j5,j7];have iQ:(if (l.getD k ((0:Int),(0:Int))).1<8589934593 then (l.getD k ((0:Int),(0:Int))).1 else 8589934593)=bh l (k+1):=by have hf:bh l (k+1)=iK l k:=yP rZ;have:=h.max k rZ;rw[hf,if_pos (show (l.getD k ((0:Int),(0:Int))).1<8589934593 by show iK l k<_;omega)];rfl
   rw[iQ,ag (by rw[yQ];simp[aQ];omega)];simp only[j5,aP];rw[VX]at ih;exact ih
  .rw[ao (show¬(k:Int)<(l.length:Int) by omega)];simp only[j6];rw[ag (by rw[yQ];simp[aQ];omega)];simp only[j5,aP];have bc:k=l.length:=by omega
   rw[VX]at ih;unfold pc at ih;rw[show k+1=l.length+1 by omega,dC]at ih;exact ih
theorem VZ:j1F (o,l) 0 8589934593=some (p7 o l (l.length+1)):=by
 have:=VY h (l.length+1) 0 (by omega);simp only[j1F];rw[show Bc 0 8589934593 o l []=_ from this];rfl
def V0(o:Int)(l:bA)(s:Int)(i:Nat):Prop:=bh l i<=s-cu o l i/\s-cu o l i<bh l (i+1)
instance(o:Int)(l:bA)(s:Int)(i:Nat):Decidable (V0 o l s i):=by unfold V0;infer_instance
omit h in
theorem OX{d c:Int}(hd : -1000000<=d)(lO:d<=1000000)(hc : -86400<=c)(gW:c<=172800):j3P (d,c)=some (d*86400+c):=by
 simp only[j3P];rw[if_neg (show¬(-1048576:Int)>d by omega),if_neg (show¬(1048576:Int)<d by omega),aj (x:=d*86400) (by omega) (by omega),aj (by omega) (by omega)]
theorem V1{d c:Int}(hd : -1000000<=d)(lO:d<=1000000)(hc : -86400<=c)(gW:c<=172800){k:Nat}(hk:k<=l.length)(hks:d*86400+c-cu o l k<bh l (k+1))(uA:∀j,j<k->bh l (j+1)<=d*86400+c-cu o l j) :
  ∀(n i:Nat),i+n=k->D4 ((l.length+1:Nat):Int) (i:Int) d c (p7 o l (l.length+1))=some (.inl (max (bh l k) (d*86400+c-cu o l k),true))
 |0,i,hi=>by
  have hlen:=h.len;have:i=k:=by omega
  subst this;have o1:=h.of0 i hk;have o2:=h.of1 i hk;have ak:=h.frm_lt hk;rw[HE];simp only[j1a];rw[ag (show (i:Int)<((l.length+1:Nat):Int) by omega),ba (by omega) (by rw[yQ];omega)];simp only[j5,j7,OW (show i<l.length+1 by omega),OX hd lO hc gW,j3,pc];rw[aj (x:=d*86400+c-cu o l i) (by omega) (by omega)];have hm:(if d*86400+c-cu o l i>bh l i then d*86400+c-cu o l i else bh l i)=max (bh l i) (d*86400+c-cu o l i):=by split<;>omega
  rw[hm,ag (by omega),j5,aY]
 |n+1,i,hi=>by
  have hlen:=h.len;have lv:i<=l.length:=by omega
  have o1:=h.of0 i lv;have o2:=h.of1 i lv;have hb:=uA i (by omega);rw[HE];simp only[j1a];rw[ag (show (i:Int)<((l.length+1:Nat):Int) by omega),ba (by omega) (by rw[yQ];omega)];simp only[j5,j7,OW (show i<l.length+1 by omega),OX hd lO hc gW,j3,pc];rw[aj (x:=d*86400+c-cu o l i) (by omega) (by omega),aj (x:=(i:Int)+1) (by omega) (by omega)];have hm:(if d*86400+c-cu o l i>bh l i then d*86400+c-cu o l i else bh l i)=max (bh l i) (d*86400+c-cu o l i):=by split<;>omega
  rw[hm,ao (by omega),j6,aP];exact V1 hd lO hc gW hk hks uA n (i+1) (by omega)
theorem jvA{d c:Int}(hd : -1000000<=d)(lO:d<=1000000)(hc : -86400<=c)(gW:c<=172800){k:Nat}(hk:k<=l.length)(hks:d*86400+c-cu o l k<bh l (k+1))(uA:∀j,j<k->bh l (j+1)<=d*86400+c-cu o l j) :
  j2F (o,l) (d,c)=some (max (bh l k) (d*86400+c-cu o l k),true):=by
 have:=V1 h hd lO hc gW hk hks uA k 0 (by omega);simp only[j2F,VZ h,j3,yQ,show Int.ofNat (List.length l+1)=((l.length+1:Nat):Int) from rfl];rw[show (0:Int)=((0:Nat):Int) from rfl,this];rfl
omit h in
theorem jvB{n:Int}(h1 : -1000000000000<=n)(h2:n<=1000000000000):jew n=some (n/86400,n%86400):=by
 obtain⟨e,p1,p2,p3,p4⟩:=Bn n 86400 (by omega);simp only[jew];rw[aj (x:=Int.tdiv n 86400) (by omega) (by omega)];by_cases hm:Int.tmod n 86400<0
 .rw[ag hm,j5,aj (x:=Int.tdiv n 86400-1) (by omega) (by omega),aj (x:=(Int.tdiv n 86400-1)*86400) (by omega) (by omega),aj (by omega) (by omega)];have:n/86400=Int.tdiv n 86400-1:=by omega
  congr 2
  .omega
  .omega
 .rw[ao hm,j6,aj (x:=Int.tdiv n 86400*86400) (by omega) (by omega),aj (by omega) (by omega)];congr 2
  .omega
  .omega
theorem Ie{t:Int}{k:Nat}(hk:k<=l.length)(h1:bh l k<=t)(h2:t<bh l (k+1)):j22 (o,l) t=some ((t+cu o l k)/86400,(t+cu o l k)%86400):=by
 have o1:=h.of0 k hk;have o2:=h.of1 k hk;have g1:0<=bh l k:=by have:=h.frm_le (i:=0) (j:=k) (by omega) (by omega);have e:bh l 0=0:=rfl;omega
 have dC:bh l (l.length+1)=8589934593:=uz;have g2:=h.frm_le (i:=k+1) (j:=l.length+1) (by omega) (by omega);simp only[j22,jtL h hk h1 h2,j3];rw[aj (x:=t+cu o l k) (by omega) (by omega),jvB (by omega) (by omega)];rfl
end
def lC(x:Int×Int):bA->bA
 |[]=>[x]
 |y::ys=>if x.1<y.1 then y::lC x ys else x::y::ys
def kF:bA->bA->bA
 |[],acc=>acc
 |x::xs,acc=>kF xs (lC x acc)
def eH(l:bA):bA:=(kF l []).reverse
theorem EU(x:Int×Int):∀l,(lC x l).length=l.length+1
 |[]=>rfl
 |y::ys=>by unfold lC;split<;>simp[EU x ys]
theorem EV:∀(l acc:bA),(kF l acc).length=l.length+acc.length
 |[],acc=>by simp[kF]
 |x::xs,acc=>by simp only[kF,EV xs,EU,jl];omega
def Sm(l:bA):Prop:=∀x∈l, -1000000000000<=x.1/\x.1<=1000000000000
theorem V2{x:Int×Int}(hx : -1000000000000<=x.1/\x.1<=1000000000000):∀{l:bA},Sm l->Sm (lC x l)
 |[],_=>λy hy=>by simp[lC]at hy;subst hy;exact hx
 |z::zs,h=>by
  unfold lC;split
  .intro y hy;rcases jc.1 hy with rfl|hy
   .exact h _ (by simp)
   .exact V2 hx (l:=zs) (λw hw=>h w (by simp[hw])) y hy
  .intro y hy;rcases jc.1 hy with rfl|hy
   .exact hx
   .exact h y hy
theorem jxj(rp mid:bA)(x:Int×Int):(rp.reverse++x::mid).getD rp.length (0,0)=x:=by
 rw[List.getD_eq_getElem?_getD,kc (by simp)];simp
theorem V3(n s8:Int)(x:Int×Int)(hx : -1000000000000<=x.1/\x.1<=1000000000000):∀(rp mid:bA),Sm rp->rp.length+mid.length<=1000->
  Hr 0 n s8 (rp.length:Int) (rp.reverse++x::mid)=some (0,n,s8,(lC x rp).reverse++mid)
 |[],mid,_,_=>by
  rw[Uv];simp only[j0d];rw[ao (by simp),j6,aY];rfl
 |y::ys,mid,pZ,hlen=>by
  have hy:=pZ y (by simp);have hL:((y::ys).reverse++x::mid).length=ys.length+1+(mid.length+1):=by simp;omega
  simp only[jl]at hlen;rw[Uv];simp only[j0d,jl];rw[ag (show ((ys.length+1:Nat):Int)>0 by omega),ba (by omega) (by rw[hL];omega),aj (x:=((ys.length+1:Nat):Int)-1) (by omega) (by omega),ba (by omega) (by rw[hL];omega)];simp only[j5,j7];have g1:((y::ys).reverse++x::mid).getD (ys.length+1) ((0:Int),(0:Int))=x:=jxj (y::ys) mid x;have g2:((y::ys).reverse++x::mid).getD ((((ys.length+1:Nat):Int)-1).toNat) ((0:Int),(0:Int))=y:=by rw[show (((ys.length+1:Nat):Int)-1).toNat=ys.length by omega];simp
  rw[g1,g2];simp only[j7u,j3];rw[aj (x:=x.1-y.1) (by omega) (by omega)];by_cases hc:x.1<y.1
  .rw[ag (show x.1-y.1<0 by omega)];have lP:List.set (List.set ((y::ys).reverse++x::mid) (ys.length+1) (y.1,y.2)) ((((ys.length+1:Nat):Int)-1).toNat) (x.1,x.2)=ys.reverse++x::(y::mid):=by rw[show (((ys.length+1:Nat):Int)-1).toNat=ys.length by omega];simp
   rw[ba (by omega) (by rw[zp,hL];omega)];simp only[j5,aP,lP];have he:=V3 n s8 x hx ys (y::mid) (λz hz=>pZ z (by simp[hz])) (by simp;omega);rw[show ((ys.length+1:Nat):Int)-1=(ys.length:Int) by omega,he];simp[lC,hc]
  .rw[ao (show¬x.1-y.1<0 by omega)];simp only[j6,aY];simp[lC,hc]
theorem V4:∀(xs rp:bA),Sm rp->Sm xs->rp.length+xs.length<=1000->
  Hs 0 ((rp.length+xs.length:Nat):Int) (rp.length:Int) (rp.reverse++xs)=some (kF xs rp).reverse
 |[],rp,_,_,_=>by
  rw[Mt];simp only[j0e];rw[ao (by simp),j6,aY];simp[kF]
 |x::xs,rp,hr,hx,hlen=>by
  have V5:=hx x (by simp);simp only[jl]at hlen;have he:=V3 ((rp.length+(x::xs).length:Nat):Int) (rp.length:Int) x V5 rp xs hr (by omega);have ih:=V4 xs (lC x rp) (V2 V5 hr) (λz hz=>hx z (by simp[hz])) (by rw[EU];omega);rw[EU]at ih;rw[Mt];simp only[j0e];rw[ag (by simp only[jl];omega),he];simp only[j5,j3,kF];rw[show rp.length+1+xs.length=rp.length+(x::xs).length by simp;omega]at ih;rw[aj (by omega) (by omega),aP];exact ih
theorem jmH{l:bA}(hs:Sm l)(hl:l.length<20):j0l l=some (eH l):=by
 have yR:j0n l 0 (l.length:Int)=some (eH l):=by
  simp only[j0n];cases l with
  |nil=>rw[Mt];rfl
  |cons x xs=>have:=V4 xs [x] (λz hz=>by simp at hz;subst hz;exact hs _ (by simp)) (λz hz=>hs z (by simp[hz])) (by simp at hl ⊢;omega);rw[show w64 (0+1)=(([x]:bA).length:Int) from rfl,show ((x::xs).length:Int)=(([x].length+xs.length:Nat):Int) by simp;omega];rw[show (x::xs)=[x].reverse++xs from rfl,this];rfl
 have e0:Ht (l.length:Int) 20 0 20 l=some ((l.length:Int),20,0,l):=by rw[j5G];simp only[j0D];rw[ao (by omega),j6,aY]
 have e2:Hu (l.length:Int) 20 (eH l)=some (eH l):=by rw[j5H];simp only[j0E];rw[ao (by omega),j6,aY]
 simp only[j0l,j1X,show Int.ofNat (List.length l)=(l.length:Int) from rfl,e0,j3,yR,e2]
def uB(y:Int):Bool:=decide (y%4=0)&&(!decide (y%100=0)||decide (y%400=0))
def jL(y:Int):Int:=if y%4=0/\(y%100≠0\/y%400=0) then 1 else 0
theorem OY(y:Int):uB y=true↔y%4=0/\(y%100≠0\/y%400=0):=by simp[uB]
theorem V6(y:Int):jL y=if uB y then 1 else 0:=by
 unfold jL;by_cases h:uB y=true
 .rw[if_pos ((OY y).1 h),if_pos h]
 .rw[if_neg (λh'=>h ((OY y).2 h')),if_neg h]
theorem Ig(y:Int):0<=jL y/\jL y<=1:=by unfold jL;split<;>omega
def fD(y m:Int):Int:=
 if m<1\/12<m then 0 else if m=2 then 28+jL y else if m=4\/m=6\/m=9\/m=11 then 30 else 31
def iY(y:Int):Int:=365*(y-1970)+(y-1)/4-(y-1)/100+(y-1)/400-477
def lD(y m:Int):Int:=
 if m<=1 then 0 else if m=2 then 31 else if m=3 then 59+jL y else if m=4 then 90+jL y else if m=5 then 120+jL y else if m=6 then 151+jL y
 else if m=7 then 181+jL y else if m=8 then 212+jL y else if m=9 then 243+jL y else if m=10 then 273+jL y else if m=11 then 304+jL y else if m=12 then 334+jL y else 365+jL y
def num(y m d:Int):Int:=iY y+lD y m+d-1
theorem jvC(y:Int):iY (y+1)=iY y+365+jL y:=by
 unfold iY jL;split<;>omega
theorem OZ{a b:Int}(h:a<=b):iY a+365*(b-a)<=iY b:=by unfold iY;omega
theorem O0(y m:Int)(h1:1<=m)(h2:m<=12):lD y (m+1)=lD y m+fD y m:=by
 obtain rfl|rfl|rfl|rfl|rfl|rfl|rfl|rfl|rfl|rfl|rfl|rfl:m=1\/m=2\/m=3\/m=4\/m=5\/m=6\/m=7\/m=8\/m=9\/m=10\/m=11\/m=12:=by omega
 all_goals (simp[lD,fD];try omega)
theorem r5(y m:Int):0<=fD y m/\fD y m<=31:=by
 have:=Ig y;unfold fD;repeat' split;all_goals omega
theorem EW(y m:Int)(h1:1<=m)(h2:m<=12):28<=fD y m:=by
 have:=Ig y;unfold fD;rw[if_neg (by omega)];repeat' split;all_goals omega
theorem V7(y m:Int):0<=lD y m/\lD y m<=366:=by
 have:=Ig y;unfold lD;omega
theorem V8(y:Int):jh6 y=some (uB y):=by
 have e:(cond (Int.tmod y 4==(0:Int)) (cond (Int.tmod y 100 != (0:Int)) true (Int.tmod y 400==(0:Int))) false)=uB y:=by unfold bne;rw[ES,ES,ES,yg,OY];by_cases h1:y%4=0<;>by_cases h2:y%100=0<;>by_cases h3:y%400=0<;>simp[h1,h2,h3]
 exact jj some e
theorem O1(y m:Int):j6A y m=some (fD y m):=by
 by_cases h:m<1\/12<m
 .have hc:cond (decide (m<(1:Int))) true (decide (m>(12:Int)))=true:=by rcases h with h|h<;>by_cases h1:m<1<;>simp[h1]<;>omega
  have:fD y m=0:=if_pos h;rw[this];unfold j6A;rw[hc];rfl
 .obtain rfl|rfl|rfl|rfl|rfl|rfl|rfl|rfl|rfl|rfl|rfl|rfl:m=1\/m=2\/m=3\/m=4\/m=5\/m=6\/m=7\/m=8\/m=9\/m=10\/m=11\/m=12:=by omega
  case inr.inl=>simp only[j6A,V8,fD,V6,j3];cases uB y<;>rfl
  all_goals rfl
theorem jvD(y m d:Int):jav (y,m,d)=some (decide (1970<=y/\y<=2240/\1<=d/\d<=fD y m)):=by
 simp only[jav,O1,j3];by_cases h1:1970<=y<;>by_cases h2:y<=2240<;>by_cases h3:1<=d<;>simp[h1,h2,h3]
theorem O2(a b:Int)(hb:0<b)(h1 : -1000000000000<=a)(h2:a<=1000000000000):j7t a b=some (a/b):=by
 have ew:(b==0)=false:=by simp;omega
 obtain⟨e,p1,p2,p3,p4⟩:=Bn a b hb
 have hq : -1000000000000<=Int.tdiv a b/\Int.tdiv a b<=1000000000000:=by
  rcases Int.le_total 0 a with h|h
  .have h0:0<=a/b:=Int.ediv_nonneg h (by omega);have h3:a/b<=a:=Int.ediv_le_self b h;rw[yO h];omega
  .have h0:0<=(-a)/b:=Int.ediv_nonneg (by omega) (by omega);have h3:(-a)/b <= -a:=Int.ediv_le_self b (by omega);have h4:Int.tdiv (-a) b=(-a)/b:=yO (by omega);rw[Int.neg_tdiv]at h4;omega
 simp only[j7t,ew,kf,j5];rw[aj (x:=Int.tdiv a b) (by omega) (by omega)];by_cases hm:Int.tmod a b<0
 .rw[ag hm,j5,aj (by omega) (by omega)];congr 1
  have:a/b=Int.tdiv a b-1:=by
   have h3:a=(a.tmod b+b)+b*(Int.tdiv a b-1):=by rw[Int.mul_sub];omega
   rw[h3,Int.add_mul_ediv_left _ _ (by omega),Int.ediv_eq_zero_of_lt (by omega) (by omega)];rw[<-h3];omega
  omega
 .rw[ao hm,j6];congr 1;have h3:a=a.tmod b+b*Int.tdiv a b:=by omega
  have:a/b=Int.tdiv a b:=by
   conv=>lhs;rw[h3]
   rw[Int.add_mul_ediv_left _ _ (by omega),Int.ediv_eq_zero_of_lt (by omega) (by omega)];omega
  omega
theorem jvE(y:Int)(h1 : -1000000000<=y)(h2:y<=1000000000):j4E y=some (iY y):=by
 simp only[j4E];rw[aj (x:=y-1) (by omega) (by omega),aj (x:=y-1970) (by omega) (by omega),O2 _ 4 (by omega) (by omega) (by omega),O2 _ 100 (by omega) (by omega) (by omega),O2 _ 400 (by omega) (by omega) (by omega)];simp only[j3];simp (disch:=omega) only[aj];rfl
theorem V9(y m d:Int)(hm:m<=13):∀(n:Nat)(s k:Int),1<=k->k+n=m -> -1000000000000<=s->s+31*n<=1000000000000->Hq s k y m d=some (s+lD y m-lD y k)
 |0,s,k,hk,hn,_,_=>by
  rw[Uu];have:k=m:=by omega
  subst this;simp only[j3v,ao (show¬k<k by omega),j6,aY];congr 1;omega
 |n+1,s,k,hk,hn,h1,h2=>by
  rw[Uu];have hd:=r5 y k;have hc:=O0 y k hk (by omega);simp only[j3v,O1,j3,ag (show k<m by omega),j5,aP];rw[aj (x:=s+fD y k) (by omega) (by omega),aj (x:=k+1) (by omega) (by omega)];have ih:=V9 y m d hm n (s+fD y k) (k+1) (by omega) (by omega) (by omega) (by omega);rw[ih];congr 1;omega
theorem jtN(y m d:Int)(h1 : -1000000<=y)(h2:y<=1000000)(gp:1<=m)(gI:m<=12)(pN : -1000000<=d)(lO:d<=1000000):jbd (y,m,d)=some (num y m d):=by
 have hb : -1000000000<=iY y/\iY y<=1000000000:=by unfold iY;omega
 simp only[jbd,jvE y (by omega) (by omega),j3];rw[aj (x:=iY y+d) (by omega) (by omega),aj (by omega) (by omega),V9 y m d (by omega) (m-1).toNat _ 1 (by omega) (by omega) (by omega) (by omega)];have:lD y 1=0:=rfl;simp only[j3,num];congr 1;omega
theorem Wa(day:Int):j5s day=some ((Int.tmod day 7+10)%7):=by
 obtain⟨e,p1,p2,p3,p4⟩:=Bn day 7 (by omega);simp only[j5s];rw[aj (by omega) (by omega),ER (by omega)]
theorem Ih(day:Int)(_h : -3<=day):j5s day=some ((day+3)%7):=by
 rw[Wa];congr 1;obtain⟨e,p1,p2,p3,p4⟩:=Bn day 7 (by omega);omega
def uC(y m d:Int):Prop:=1970<=y/\y<=2240/\1<=d/\d<=fD y m
instance(y m d:Int):Decidable (uC y m d):=by unfold uC;infer_instance
theorem O3{y m d:Int}(h:uC y m d):1<=m/\m<=12:=by
 obtain⟨_,_,h3,h4⟩:=h;by_cases hm:m<1\/12<m
 .have:fD y m=0:=if_pos hm;omega
 .omega
theorem jtO{y m d:Int}:decide (1970<=y/\y<=2240/\1<=d/\d<=fD y m)=decide (uC y m d):=rfl
theorem EX{y m d:Int}(h:uC y m d):0<=num y m d/\num y m d<98981:=by
 have hm:=O3 h;obtain⟨h1,h2,h3,h4⟩:=h;have hc:=V7 y m;have c1:=OZ (a:=1970) (b:=y) (by omega);have c2:=OZ (a:=y) (b:=2240) (by omega);have e1:iY 1970=0:=by decide
 have hd:=r5 y m;have e2:iY 2240=98615:=by decide
 have dF:lD y m+fD y m<=365+jL y:=by
  have:=O0 y m hm.1 hm.2;have:lD y (m+1)<=365+jL y:=by have:=Ig y;unfold lD;omega
  omega
 have c3:=jvC y;have c4:=OZ (a:=y+1) (b:=2241) (by omega);have e3:iY 2241=98981:=by decide
 unfold num;omega
def nth(y m k w:Int):Int:=
 let d:=num y m 1+(w-(num y m 1+3)%7+7)%7+7*(k-1)
 if d>=num y m 1+fD y m then d-7 else d
theorem EY(y m:Int)(h1:1970<=y)(h2:y<=2240)(gp:1<=m)(gI:m<=12):uC y m 1:=⟨h1,h2,by omega,by have:=EW y m gp gI;omega⟩
theorem jyx(y m k w:Int)(h1:1970<=y)(h2:y<=2240)(gp:1<=m)(gI:m<=12)(dT:1<=k)(gn:k<=5)(JO:0<=w)(wm:w<=6):jgc y m k w=some (nth y m k w,0):=by
 have hv:=EY y m h1 h2 gp gI;have hr:=EX hv;have hd:=r5 y m;have O4:jav (y,m,1)=some true:=by rw[jvD,jtO,yk hv]
 simp only[jgc,O4,j3,jw,j6];rw[ao (show¬k<1 by omega),ao (show¬k>5 by omega),ao (show¬w<0 by omega),ao (show¬w>6 by omega)];simp only[j6,jtN y m 1 (by omega) (by omega) gp gI (by omega) (by omega),j3,Ih _ (show -3<=num y m 1 by omega),O1];generalize hn:num y m 1=n at *;have hm7:0<=(n+3)%7/\(n+3)%7<=6:=by omega
 rw[aj (x:=w-(n+3)%7) (by omega) (by omega),aj (x:=w-(n+3)%7+7) (by omega) (by omega),ER (show 0<=w-(n+3)%7+7 by omega)];rw[aj (x:=k-1) (by omega) (by omega),aj (x:=7*(k-1)) (by omega) (by omega)];rw[aj (x:=n+(w-(n+3)%7+7)%7) (by omega) (by omega),aj (x:=n+(w-(n+3)%7+7)%7+7*(k-1)) (by omega) (by omega),aj (x:=n+fD y m) (by omega) (by omega)];unfold nth;simp only[hn];by_cases hc:n+(w-(n+3)%7+7)%7+7*(k-1)>=n+fD y m
 .rw[ag hc,j5,if_pos hc,aj (by omega) (by omega)]
 .rw[ao hc,j6,if_neg hc]
theorem Wb(x n:Int)(hn:0<n)(tI:n<=1000000000000):jgb x n=some (x%n):=by
 have h0:(n==0)=false:=by simp;omega
 obtain⟨e,p1,p2,p3,p4⟩:=Bn x n hn;simp only[jgb,h0,kf,j5];rw[aj (by omega) (by omega),ER (by omega)];congr 1;have h3:x=x.tmod n+n*Int.tdiv x n:=by omega
 conv=>rhs;rw[h3]
 rw[Int.add_mul_emod_self_left,Int.add_emod_right]
def dx(l:List Int)(a:Int):Prop:=0<=a/\a<=(l.length:Int)/\l.length<=1000000
theorem dg{l:List Int}{a n:Int}(h:dx l a)(hn:1<=n)(tI:n<=1000000000000):∃x a',j04 l a n=some (x,l,a')/\0<=x/\x<n/\dx l a':=by
 obtain⟨h1,h2,h3⟩:=h;simp only[j04,show Int.ofNat (List.length l)=(l.length:Int) from rfl];by_cases ha:a>=(l.length:Int)
 .rw[ag ha,j5];exact⟨0,a,rfl,by omega,by omega,h1,h2,h3⟩
 .rw[ao ha,j6,ao (show¬n<1 by omega),j6,ba h1 (by omega),j5,cP (show n≠0 by omega)];obtain⟨e,p1,p2,p3,p4⟩:=Bn (l.getD a.toNat 0) n (by omega);rw[aj (x:=a+1) (by omega) (by omega)];simp only[kf,j5];by_cases ht:Int.tmod (l.getD a.toNat 0) n<0
  .rw[ag ht,j5,aj (by omega) (by omega)];exact⟨_,_,rfl,by omega,by omega,by omega,by omega,h3⟩
  .rw[ao ht,j6];exact⟨_,_,rfl,by omega,by omega,by omega,by omega,h3⟩
theorem nR{l:List Int}{a:Int}(h:dx l a){xs:List Int}(tz:0<xs.length)(nD:xs.length<=1000000):∃x a',j11 l a xs=some (x,l,a')/\x∈xs/\dx l a':=by
 obtain⟨x,a',e,h1,h2,h3⟩:=dg (n:=(xs.length:Int)) h (by omega) (by omega);simp only[j11,show Int.ofNat (List.length xs)=(xs.length:Int) from rfl,e,j3];rw[ba h1 (by omega),j5];have ak:x.toNat<xs.length:=by omega
 refine⟨_,_,rfl,?_,h3⟩;rw[List.getD_eq_getElem?_getD,jk ak];exact ji ak
end Go.Proofs.Pw
open Go Go.Lft
set_option linter.unusedVariables false
set_option maxRecDepth 100000
namespace Go.Proofs.Pw
noncomputable section
theorem ji3(N a b c d):OLe (@yE (gR N) a b c d) (yE a b c d):=OLe.loop N _ λ_=>oR _
theorem Ii(N a):OLe (@j4j (gR N) a) (j4j a):=by
 unfold j4j;with_reducible repeat' (first|exact oR _|exact oN _|exact ji3 N _ _ _ _|apply oC|apply oS|refine oB ?_ ?_|intro _)
theorem jfK(N a b c d):OLe (@Ml (gR N) a b c d) (Ml a b c d):=OLe.loop N _ λ_=>oR _
theorem EZ(N a b):OLe (@j21 (gR N) a b) (j21 a b):=by
 unfold j21;with_reducible repeat' (first|exact oR _|exact oN _|exact jfK N _ _ _ _|apply oC|apply oS|refine oB ?_ ?_|intro _)
theorem jkv(N a b c d e f g h i):OLe (@Mm (gR N) a b c d e f g h i) (Mm a b c d e f g h i):=OLe.loop N _ λ_=>oR _
theorem Wc(N a):OLe (@jeu (gR N) a) (jeu a):=by
 unfold jeu;with_reducible repeat' (first|exact oR _|exact oN _|exact Ii N _|exact jkv N _ _ _ _ _ _ _ _ _|apply oC|apply oS|refine oB ?_ ?_|intro _)
theorem jjK(N a b):OLe (@Mn (gR N) a b) (Mn a b):=OLe.loop N _ λ_=>oR _
theorem joC(N a b):OLe (@jdX (gR N) a b) (jdX a b):=by
 unfold jdX;with_reducible repeat' (first|exact oR _|exact oN _|exact jjK N _ _|apply oC|apply oS|refine oB ?_ ?_|intro _)
theorem Wd(N a b):OLe (@jc6 (gR N) a b) (jc6 a b):=by
 unfold jc6;with_reducible repeat' (first|exact oR _|exact oN _|exact joC N _ _|apply oC|apply oS|refine oB ?_ ?_|intro _)
theorem jmN(N a b):OLe (@jc7 (gR N) a b) (jc7 a b):=by
 unfold jc7;with_reducible repeat' (first|exact oR _|exact oN _|exact Ii N _|exact EZ N _ _|exact Wc N _|exact Wd N _ _|apply oC|apply oS|refine oB ?_ ?_|intro _)
theorem jeN(N a b c d e f g h):OLe (@j4X (gR N) a b c d e f g h) (j4X a b c d e f g h):=by
 unfold j4X;with_reducible repeat' (first|exact oR _|exact oN _|exact EZ N _ _|apply oC|apply oS|refine oB ?_ ?_|intro _)
theorem jjL(N a b c d e f g h):OLe (@Mo (gR N) a b c d e f g h) (Mo a b c d e f g h):=OLe.loop N _ λ_=>jeN N _ _ _ _ _ _ _ _
theorem jeO(N a b c d e f g h i):OLe (@j4Y (gR N) a b c d e f g h i) (j4Y a b c d e f g h i):=by
 unfold j4Y;with_reducible repeat' (first|exact oR _|exact oN _|exact EZ N _ _|apply oC|apply oS|refine oB ?_ ?_|intro _)
theorem jjM(N a b c d e f g h i):OLe (@Mp (gR N) a b c d e f g h i) (Mp a b c d e f g h i):=OLe.loop N _ λ_=>jeO N _ _ _ _ _ _ _ _ _
theorem joD(N a b):OLe (@je0 (gR N) a b) (je0 a b):=by
 unfold je0;with_reducible repeat' (first|exact oR _|exact oN _|exact Ii N _|exact jjL N _ _ _ _ _ _ _ _|exact jjM N _ _ _ _ _ _ _ _ _|exact Wd N _ _|apply oC|apply oS|refine oB ?_ ?_|intro _)
theorem jdx(N a b c d e f):OLe (@j3S (gR N) a b c d e f) (j3S a b c d e f):=by
 unfold j3S;with_reducible repeat' (first|exact oR _|exact oN _|exact EZ N _ _|apply oC|apply oS|refine oB ?_ ?_|intro _)
theorem jhn(N a b c d e f):OLe (@Mq (gR N) a b c d e f) (Mq a b c d e f):=OLe.loop N _ λ_=>jdx N _ _ _ _ _ _
theorem jkw(N a b):OLe (@jau (gR N) a b) (jau a b):=by
 unfold jau;with_reducible repeat' (first|exact oR _|exact oN _|exact Ii N _|exact EZ N _ _|exact jhn N _ _ _ _ _ _|apply oC|apply oS|refine oB ?_ ?_|intro _)
theorem jmO(N):OLe (@j8M (gR N) ) (j8M ):=by
 unfold j8M;with_reducible repeat' (first|exact oR _|exact oN _|exact jmN N _ _|exact joD N _ _|exact jkw N _ _|exact Wc N _|apply oC|apply oS|refine oB ?_ ?_|intro _)
theorem ji4(N a b c):OLe (@Ms (gR N) a b c) (Ms a b c):=OLe.loop N _ λ_=>oR _
theorem Ij(N a):OLe (@j6z (gR N) a) (j6z a):=by
 unfold j6z;with_reducible repeat' (first|exact oR _|exact oN _|exact ji4 N _ _ _|apply oC|apply oS|refine oB ?_ ?_|intro _)
theorem ji5(N a b):OLe (@Mu (gR N) a b) (Mu a b):=OLe.loop N _ λ_=>oR _
theorem jmP(N a):OLe (@jc9 (gR N) a) (jc9 a):=by
 unfold jc9;with_reducible repeat' (first|exact oR _|exact oN _|exact ji5 N _ _|apply oC|apply oS|refine oB ?_ ?_|intro _)
theorem jgH(N a b c d e f g):OLe (@Mv (gR N) a b c d e f g) (Mv a b c d e f g):=OLe.loop N _ λ_=>oR _
theorem jjN(N a):OLe (@j6a (gR N) a) (j6a a):=by
 unfold j6a;with_reducible repeat' (first|exact oR _|exact oN _|exact jmP N _|exact jgH N _ _ _ _ _ _ _|apply oC|apply oS|refine oB ?_ ?_|intro _)
theorem jkx(N a):OLe (@j18 (gR N) a) (j18 a):=by
 unfold j18;with_reducible repeat' (first|exact oR _|exact oN _|exact jjN N _|apply oC|apply oS|refine oB ?_ ?_|intro _)
abbrev jmQ(N:Nat):=@j18 (gR N)
end
end Go.Proofs.Pw
