/- Small facts on Go's DS. -/
import Derived.Test.YtaieocafhcjelaaGreatELD
import Derived.Test.YtaieocafhcjelaaGreatEFns
open Go Go.Lft
namespace Go.Proofs.Pw
theorem DT(a b:Int)(hb:0<b):b*Int.tdiv a b+Int.tmod a b=a/\(0<=a->0<=Int.tmod a b)/\(a<=0->Int.tmod a b<=0)/\Int.tmod a b<b /\ -b<Int.tmod a b:=by
 have h1:=Int.mul_tdiv_add_tmod a b;have h2:0<=a->0<=Int.tmod a b:=λh=>Int.tmod_nonneg b h
 have h3:a<=0->Int.tmod a b<=0:=λh=>by
  have:=Int.tmod_nonneg (a:= -a) b (by omega);rw[Int.neg_tmod]at this;omega
 have h4:=Int.tmod_lt_of_pos a hb;have h5 : -b<Int.tmod a b:=by have:=Int.tmod_lt_of_pos (-a) hb;rw[Int.neg_tmod]at this;omega
 exact⟨h1,h2,h3,h4,h5⟩
theorem GN{a b:Int}(ha:0<=a):Int.tdiv a b=a/b:=zt ha
theorem GO{a b:Int}(ha:0<=a):Int.tmod a b=a%b:=Int.tmod_eq_emod_of_nonneg ha
theorem DU(a b:Int):(Int.tmod a b==0)=(a%b==0):=by
 rw[Bool.eq_iff_iff];simp only[z6];rw[<-Int.dvd_iff_tmod_eq_zero,<-Int.dvd_iff_emod_eq_zero]
theorem aj{p:Prop}[Decidable p](h:p):decide p=true:=v7 h
theorem al{p:Prop}[Decidable p](h:¬p):decide p=false:=decide_eq_false h
theorem ee{a b:Int}(h:a=b):(a==b)=true:=by simp[h]
theorem cP{a b:Int}(h:a≠b):(a==b)=false:=by simp[h]
theorem aX{i:Int}{n:Nat}(h1:0<=i)(h2:i<n):inR i n=true:=by simp[inR,h1,h2]
def oa(ks:List ByteArray):List (ByteArray×Bool):=ks.map λk=>(k,true)
def fS(ks:List ByteArray):Prop:=ks.Nodup/\∀k∈ks,j9Q k=some true
theorem T0{s:ByteArray}:∀{l:List ByteArray},s∉l->gw false (oa l) s=false/\gY (oa l) s true=oa (l++[s])
 |[],_=>⟨rfl,rfl⟩
 |k::l,h=>by
  simp only[je,not_or]at h;obtain⟨h1,h2⟩:=T0 (l:=l) h.2;have hb:(s==k)=false:=ze.2 λhh=>h.1 ((MapKept.bytes_beq s k).1 hh);refine⟨?_,?_⟩
  .show cond (s==k) true (gw false (oa l) s)=false;rw[hb];exact h1
  .show cond (s==k) ((s,true)::oa l) ((k,true)::gY (oa l) s true)=_;rw[hb,j6,h2];rfl
theorem DV{α:Type}(f:α->ByteArray){xs:List α}(h:fS (xs.map f)){i:Nat}(hi:i<xs.length):j4D (f xs[i]) (oa ((xs.take i).map f))=some (0,oa ((xs.take (i+1)).map f)):=by
 have hm:f xs[i]∈xs.map f:=List.mem_map_of_mem (jh hi)
 have hn:f xs[i]∉(xs.take i).map f:=by
  intro hx;have hs:xs.map f=(xs.take i).map f++(f xs[i]::(xs.drop (i+1)).map f):=by rw[<-kr,<-zr,List.getElem_cons_drop hi,ki]
  have:=h.1;rw[hs,qn]at this;exact this.2.2 _ hx _ (by simp) rfl
 obtain⟨h1,h2⟩:=T0 hn;simp only[j4D,h.2 _ hm,j3,jq,j6,h1,h2];rw[ko,jj hi,zr];rfl
abbrev bT:=List (Int×Int)
def gW(l:bT)(i:Nat):Int:=(l.getD i (0,0)).1
def cI(o:Int)(l:bT)(i:Nat):Int:=if i=0 then o else (l.getD (i-1) (0,0)).2
def bn(l:bT)(i:Nat):Int:=if i=0 then 0 else if i<=l.length then gW l (i-1) else 8589934593
structure jD(o:Int)(l:bT):Prop where
 len:l.length<=1000
 gap:∀i,i+1<l.length->gW l i+604800<=gW l (i+1)
 pos:∀i,i<l.length->1000000<gW l i
 max:∀i,i<l.length->gW l i<=8589000000
 of0:∀i,i<=l.length -> -64800<=cI o l i
 of1:∀i,i<=l.length->cI o l i<=64800
section
variable{o:Int}{l:bT}(h:jD o l)
include h
theorem jD.at_lt:∀(k i:Nat),i+k+1<l.length->gW l i+604800<=gW l (i+k+1)
 |0,i,hk=>h.gap i hk
 |k+1,i,hk=>by
  have h1:=jD.at_lt k i (by omega);have h2:=h.gap (i+k+1) (by omega);rw[show i+(k+1)+1=i+k+1+1 by omega];omega
theorem jD.at_le{i j:Nat}(dK:i<j)(hj:j<l.length):gW l i+604800<=gW l j:=by
 have:=h.at_lt (j-i-1) i (by omega);rwa[show i+(j-i-1)+1=j by omega]at this
omit h in
theorem tK:bn l 0=0:=rfl
omit h in
theorem yB{i:Nat}(hi:i<l.length):bn l (i+1)=gW l i:=by
 unfold bn;rw[if_neg (Nat.succ_ne_zero i),if_pos (show i+1<=l.length by omega)];rfl
omit h in
theorem tL:bn l (l.length+1)=8589934593:=by
 unfold bn;rw[if_neg (Nat.succ_ne_zero _),if_neg (show¬l.length+1<=l.length by omega)]
theorem jD.frm_lt{i:Nat}(hi:i<=l.length):bn l i<bn l (i+1):=by
 rcases qv i l.length with hl|hl
 .rw[yB hl];cases i with
  |zero=>rw[tK];exact(by have:=h.pos 0 hl;omega)
  |succ i=>rw[yB (by omega)];have:=h.gap i hl;omega
 .have:i=l.length:=by omega
  subst this;rw[tL];cases hq:l.length with
  |zero=>rw[tK];omega
  |succ n=>rw[yB (by omega)];have:=h.max n (by omega);omega
theorem jD.frm_le{i j:Nat}(dK:i<=j)(hj:j<=l.length+1):bn l i<=bn l j:=by
 induction j with
 |zero=>
  have:i=0:=by omega
  subst this;omega
 |succ j ih=>
  by_cases he:i=j+1
  .subst he;omega
  .have h1:=ih (by omega) (by omega);have h2:=h.frm_lt (i:=j) (by omega);omega
theorem MC{t:Int}{k:Nat}(hk:k<=l.length)(jO:∀i,i<k->gW l i<=t)(lF:∀i,k<=i->i<l.length->t<gW l i) :
  ∀(n:Nat)(a b:Nat),b-a<=n->a<=k->k<=b->b<=l.length->AG o l t (a:Int) (b:Int)=some (k:Int)
 |0,a,b,hn,ha,hb,uE=>by
  rw[Si];simp only[j4m,al (show¬(a:Int)<(b:Int) by omega),j6,aW];congr 1;omega
 |n+1,a,b,hn,ha,hb,uE=>by
  have hlen:=h.len;rw[Si];by_cases bR:a<b
  .have hm:IntKind.wrap .u64 ((a:Int)+(b:Int))=(a:Int)+(b:Int):=IntWalk.u64_in _ ⟨by omega,by omega⟩;have hd:Int.fdiv ((a:Int)+(b:Int)) 2=(((a+b)/2:Nat):Int):=by rw[Int.fdiv_eq_ediv_of_nonneg _ (by omega)];omega
   simp only[j4m,aj (show (a:Int)<(b:Int) by omega),j5];rw[ai (x:=(a:Int)+(b:Int)) (by omega) (by omega),hm,hd,ai (x:=(((a+b)/2:Nat):Int)) (by omega) (by omega)];simp only[j9E];rw[aX (by omega) (by omega)];simp only[j5,j3,j7];by_cases hc:gW l ((a+b)/2)>t
   .rw[aj (show (l.getD ((a+b)/2) ((0:Int),(0:Int))).1>t from hc)];simp only[jq,j6,aJ]
    have nS:k<=(a+b)/2:=by
     rcases qv ((a+b)/2) k with h'|h'
     .have:=jO _ h';omega
     .exact h'
    exact MC hk jO lF n a ((a+b)/2) (by omega) ha nS (by omega)
   .rw[al (show¬(l.getD ((a+b)/2) ((0:Int),(0:Int))).1>t from hc)];simp only[k7,j5,aJ];rw[ai (by omega) (by omega)]
    have nS:(a+b)/2<k:=by
     rcases qv ((a+b)/2) k with h'|h'
     .exact h'
     .have:=lF _ h' (by omega);omega
    exact MC hk jO lF n ((a+b)/2+1) b (by omega) (by omega) hb uE
  .simp only[j4m,al (show¬(a:Int)<(b:Int) by omega),j6,aW];congr 1;omega
theorem MD{t:Int}{k:Nat}(hk:k<=l.length)(h1:bn l k<=t)(h2:t<bn l (k+1)):j4f (o,l) t=some (k:Int):=by
 have jO:∀i,i<k->gW l i<=t:=by
  intro i hi;have:bn l k=gW l (k-1):=by have:=yB (l:=l) (i:=k-1) (by omega);rwa[show k-1+1=k by omega]at this
  rw[this]at h1;by_cases he:i=k-1
  .subst he;exact h1
  .have:=h.at_le (i:=i) (j:=k-1) (by omega) (by omega);omega
 have lF:∀i,k<=i->i<l.length->t<gW l i:=by
  intro i hi hl;have:bn l (k+1)=gW l k:=yB (by omega);rw[this]at h2;by_cases he:i=k
  .subst he;exact h2
  .have:=h.at_le (i:=k) (j:=i) (by omega) hl;omega
 have:=MC h hk jO lF l.length 0 l.length (by omega) (by omega) hk (by omega);simp only[j4f,jb6,show Int.ofNat (List.length l)=(l.length:Int) from rfl];rw[show (0:Int)=((0:Nat):Int) from rfl,this];rfl
theorem ME{k:Nat}(hk:k<=l.length):j5D (o,l) (k:Int)=some (cI o l k):=by
 have hlen:=h.len;unfold cI;by_cases h0:k=0
 .subst h0;rfl
 .simp only[j5D];rw[cP (show (k:Int)≠0 by omega),j6,ai (by omega) (by omega),aX (by omega) (by omega),show ((k:Int)-1).toNat=k-1 by omega,if_neg h0];rfl
theorem jvk{t:Int}{k:Nat}(hk:k<=l.length)(h1:bn l k<=t)(h2:t<bn l (k+1)):j4q (o,l) t=some (cI o l k):=by
 simp only[j4q,MD h hk h1 h2,j3,ME h hk]
theorem DW{t:Int}(h0:0<=t)(h1:t<=8589934592):∃k,k<=l.length/\bn l k<=t/\t<bn l (k+1):=by
 have _:=h
 have:∀n,n<=l.length+1->t<bn l n->∃k,k<n/\bn l k<=t/\t<bn l (k+1):=by
  intro n;induction n with
  |zero=>intro _ hn;have:bn l 0=0:=rfl;omega
  |succ n ih=>
   intro hn aq;by_cases hc:bn l n<=t
   .exact⟨n,by omega,hc,aq⟩
   .obtain⟨k,a1,a2,a3⟩:=ih (by omega) (by omega);exact⟨k,by omega,a2,a3⟩
 have cW:bn l (l.length+1)=8589934593:=tL;obtain⟨k,a1,a2,a3⟩:=this (l.length+1) (by omega) (by omega);exact⟨k,by omega,a2,a3⟩
def pc(o:Int)(l:bT)(i:Nat):Int×(Int×Int):=(bn l i,(bn l (i+1),cI o l i))
def o8(o:Int)(l:bT)(n:Nat):List (Int×(Int×Int)):=(List.range n).map (pc o l)
omit h in
theorem T1(n:Nat):o8 o l (n+1)=o8 o l n++[pc o l n]:=by simp[o8,List.range_succ]
omit h in
theorem yC(n:Nat):(o8 o l n).length=n:=by simp[o8]
omit h in
theorem MF{n i:Nat}(hi:i<n):(o8 o l n).getD i ((0:Int),((0:Int),(0:Int)))=pc o l i:=by
 simp[o8,List.getD,hi]
theorem T2:∀(n k:Nat),k+n=l.length+1->vJ (bn l k) 8589934593 o l (o8 o l k)=some (o8 o l (l.length+1))
 |0,k,hk=>by
  have cW:bn l k=8589934593:=by rw[show k=l.length+1 by omega];exact tL
  rw[AH,cW];simp only[j0H];rw[al (by omega),j6,aW,show k=l.length+1 by omega]
 |n+1,k,hk=>by
  have hlen:=h.len;have jB:k<=l.length:=by omega
  have aq:=h.frm_lt jB;have hle:=h.frm_le (i:=k+1) (j:=l.length+1) (by omega) (by omega);have cW:bn l (l.length+1)=8589934593:=tL;have ih:=T2 n (k+1) (by omega);rw[AH];simp only[j0H];rw[aj (show bn l k<8589934593 by omega),MD h jB (by omega) aq];simp only[j5,j3,show Int.ofNat (List.length l)=(l.length:Int) from rfl,ME h jB];by_cases qP:k<l.length
  .rw[aj (show (k:Int)<(l.length:Int) by omega),aX (by omega) (by omega)];simp only[j5,j7];have iH:(if (l.getD k ((0:Int),(0:Int))).1<8589934593 then (l.getD k ((0:Int),(0:Int))).1 else 8589934593)=bn l (k+1):=by have hf:bn l (k+1)=gW l k:=yB qP;have:=h.max k qP;rw[hf,if_pos (show (l.getD k ((0:Int),(0:Int))).1<8589934593 by show gW l k<_;omega)];rfl
   rw[iH,aj (by rw[yC];simp[aR];omega)];simp only[j5,aJ];rw[T1]at ih;exact ih
  .rw[al (show¬(k:Int)<(l.length:Int) by omega)];simp only[j6];rw[aj (by rw[yC];simp[aR];omega)];simp only[j5,aJ];have bg:k=l.length:=by omega
   rw[T1]at ih;unfold pc at ih;rw[show k+1=l.length+1 by omega,cW]at ih;exact ih
theorem T3:j1Z (o,l) 0 8589934593=some (o8 o l (l.length+1)):=by
 have:=T2 h (l.length+1) 0 (by omega);simp only[j1Z];rw[show vJ 0 8589934593 o l []=_ from this];rfl
def T4(o:Int)(l:bT)(s:Int)(i:Nat):Prop:=bn l i<=s-cI o l i/\s-cI o l i<bn l (i+1)
instance(o:Int)(l:bT)(s:Int)(i:Nat):Decidable (T4 o l s i):=by unfold T4;infer_instance
omit h in
theorem MG{d c:Int}(hd : -1000000<=d)(rD:d<=1000000)(hc : -86400<=c)(lx:c<=172800):j5u (d,c)=some (d*86400+c):=by
 simp only[j5u];rw[if_neg (show¬(-1048576:Int)>d by omega),if_neg (show¬(1048576:Int)<d by omega),ai (x:=d*86400) (by omega) (by omega),ai (by omega) (by omega)]
theorem T5{d c:Int}(hd : -1000000<=d)(rD:d<=1000000)(hc : -86400<=c)(lx:c<=172800){k:Nat}(hk:k<=l.length)(hks:d*86400+c-cI o l k<bn l (k+1))(tM:∀j,j<k->bn l (j+1)<=d*86400+c-cI o l j) :
  ∀(n i:Nat),i+n=k->xX ((l.length+1:Nat):Int) (i:Int) d c (o8 o l (l.length+1))=some (.inl (max (bn l k) (d*86400+c-cI o l k),true))
 |0,i,hi=>by
  have hlen:=h.len;have:i=k:=by omega
  subst this;have o1:=h.of0 i hk;have o2:=h.of1 i hk;have aq:=h.frm_lt hk;rw[Gf];simp only[j2p];rw[aj (show (i:Int)<((l.length+1:Nat):Int) by omega),aX (by omega) (by rw[yC];omega)];simp only[j5,j7,MF (show i<l.length+1 by omega),MG hd rD hc lx,j3,pc];rw[ai (x:=d*86400+c-cI o l i) (by omega) (by omega)];have hm:(if d*86400+c-cI o l i>bn l i then d*86400+c-cI o l i else bn l i)=max (bn l i) (d*86400+c-cI o l i):=by split<;>omega
  rw[hm,aj (by omega),j5,aW]
 |n+1,i,hi=>by
  have hlen:=h.len;have lE:i<=l.length:=by omega
  have o1:=h.of0 i lE;have o2:=h.of1 i lE;have hb:=tM i (by omega);rw[Gf];simp only[j2p];rw[aj (show (i:Int)<((l.length+1:Nat):Int) by omega),aX (by omega) (by rw[yC];omega)];simp only[j5,j7,MF (show i<l.length+1 by omega),MG hd rD hc lx,j3,pc];rw[ai (x:=d*86400+c-cI o l i) (by omega) (by omega),ai (x:=(i:Int)+1) (by omega) (by omega)];have hm:(if d*86400+c-cI o l i>bn l i then d*86400+c-cI o l i else bn l i)=max (bn l i) (d*86400+c-cI o l i):=by split<;>omega
  rw[hm,al (by omega),j6,aJ];exact T5 hd rD hc lx hk hks tM n (i+1) (by omega)
theorem jx6{d c:Int}(hd : -1000000<=d)(rD:d<=1000000)(hc : -86400<=c)(lx:c<=172800){k:Nat}(hk:k<=l.length)(hks:d*86400+c-cI o l k<bn l (k+1))(tM:∀j,j<k->bn l (j+1)<=d*86400+c-cI o l j) :
  j2H (o,l) (d,c)=some (max (bn l k) (d*86400+c-cI o l k),true):=by
 have:=T5 h hd rD hc lx hk hks tM k 0 (by omega);simp only[j2H,T3 h,j3,yC,show Int.ofNat (List.length l+1)=((l.length+1:Nat):Int) from rfl];rw[show (0:Int)=((0:Nat):Int) from rfl,this];rfl
omit h in
theorem jx7{n:Int}(h1 : -1000000000000<=n)(h2:n<=1000000000000):jh8 n=some (n/86400,n%86400):=by
 obtain⟨e,p1,p2,p3,p4⟩:=DT n 86400 (by omega);simp only[jh8];rw[ai (x:=Int.tdiv n 86400) (by omega) (by omega)];by_cases hm:Int.tmod n 86400<0
 .rw[aj hm,j5,ai (x:=Int.tdiv n 86400-1) (by omega) (by omega),ai (x:=(Int.tdiv n 86400-1)*86400) (by omega) (by omega),ai (by omega) (by omega)];have:n/86400=Int.tdiv n 86400-1:=by omega
  congr 2
  .omega
  .omega
 .rw[al hm,j6,ai (x:=Int.tdiv n 86400*86400) (by omega) (by omega),ai (by omega) (by omega)];congr 2
  .omega
  .omega
theorem GP{t:Int}{k:Nat}(hk:k<=l.length)(h1:bn l k<=t)(h2:t<bn l (k+1)):j1B (o,l) t=some ((t+cI o l k)/86400,(t+cI o l k)%86400):=by
 have o1:=h.of0 k hk;have o2:=h.of1 k hk;have g1:0<=bn l k:=by have:=h.frm_le (i:=0) (j:=k) (by omega) (by omega);have e:bn l 0=0:=rfl;omega
 have cW:bn l (l.length+1)=8589934593:=tL;have g2:=h.frm_le (i:=k+1) (j:=l.length+1) (by omega) (by omega);simp only[j1B,jvk h hk h1 h2,j3];rw[ai (x:=t+cI o l k) (by omega) (by omega),jx7 (by omega) (by omega)];rfl
end
def nk(x:Int×Int):bT->bT
 |[]=>[x]
 |y::ys=>if x.1<y.1 then y::nk x ys else x::y::ys
def qQ:bT->bT->bT
 |[],acc=>acc
 |x::xs,acc=>qQ xs (nk x acc)
def fL(l:bT):bT:=(qQ l []).reverse
theorem GQ(x:Int×Int):∀l,(nk x l).length=l.length+1
 |[]=>rfl
 |y::ys=>by unfold nk;split<;>simp[GQ x ys]
theorem MH:∀(l acc:bT),(qQ l acc).length=l.length+acc.length
 |[],acc=>by simp[qQ]
 |x::xs,acc=>by simp only[qQ,MH xs,GQ,jk];omega
def Sm(l:bT):Prop:=∀x∈l, -1000000000000<=x.1/\x.1<=1000000000000
theorem T6{x:Int×Int}(hx : -1000000000000<=x.1/\x.1<=1000000000000):∀{l:bT},Sm l->Sm (nk x l)
 |[],_=>λy hy=>by simp[nk]at hy;subst hy;exact hx
 |z::zs,h=>by
  unfold nk;split
  .intro y hy;rcases je.1 hy with rfl|hy
   .exact h _ (by simp)
   .exact T6 hx (l:=zs) (λw hw=>h w (by simp[hw])) y hy
  .intro y hy;rcases je.1 hy with rfl|hy
   .exact hx
   .exact h y hy
theorem jyR(rp mid:bT)(x:Int×Int):(rp.reverse++x::mid).getD rp.length (0,0)=x:=by
 rw[List.getD_eq_getElem?_getD,k5 (by simp)];simp
theorem T7(n s8:Int)(x:Int×Int)(hx : -1000000000000<=x.1/\x.1<=1000000000000):∀(rp mid:bT),Sm rp->rp.length+mid.length<=1000->
  As 0 n s8 (rp.length:Int) (rp.reverse++x::mid)=some (0,n,s8,(nk x rp).reverse++mid)
 |[],mid,_,_=>by
  rw[RW];simp only[j0E];rw[al (by simp),j6,aW];rfl
 |y::ys,mid,ia,hlen=>by
  have hy:=ia y (by simp);have hL:((y::ys).reverse++x::mid).length=ys.length+1+(mid.length+1):=by simp;omega
  simp only[jk]at hlen;rw[RW];simp only[j0E,jk];rw[aj (show ((ys.length+1:Nat):Int)>0 by omega),aX (by omega) (by rw[hL];omega),ai (x:=((ys.length+1:Nat):Int)-1) (by omega) (by omega),aX (by omega) (by rw[hL];omega)];simp only[j5,j7];have g1:((y::ys).reverse++x::mid).getD (ys.length+1) ((0:Int),(0:Int))=x:=jyR (y::ys) mid x;have g2:((y::ys).reverse++x::mid).getD ((((ys.length+1:Nat):Int)-1).toNat) ((0:Int),(0:Int))=y:=by rw[show (((ys.length+1:Nat):Int)-1).toNat=ys.length by omega];simp
  rw[g1,g2];simp only[j9D,j3];rw[ai (x:=x.1-y.1) (by omega) (by omega)];by_cases hc:x.1<y.1
  .rw[aj (show x.1-y.1<0 by omega)];have wH:List.set (List.set ((y::ys).reverse++x::mid) (ys.length+1) (y.1,y.2)) ((((ys.length+1:Nat):Int)-1).toNat) (x.1,x.2)=ys.reverse++x::(y::mid):=by rw[show (((ys.length+1:Nat):Int)-1).toNat=ys.length by omega];simp
   rw[aX (by omega) (by rw[List.length_set,hL];omega)];simp only[j5,aJ,wH];have he:=T7 n s8 x hx ys (y::mid) (λz hz=>ia z (by simp[hz])) (by simp;omega);rw[show ((ys.length+1:Nat):Int)-1=(ys.length:Int) by omega,he];simp[nk,hc]
  .rw[al (show¬x.1-y.1<0 by omega)];simp only[j6,aW];simp[nk,hc]
theorem T8:∀(xs rp:bT),Sm rp->Sm xs->rp.length+xs.length<=1000->
  Au 0 ((rp.length+xs.length:Nat):Int) (rp.length:Int) (rp.reverse++xs)=some (qQ xs rp).reverse
 |[],rp,_,_,_=>by
  rw[Km];simp only[j0c];rw[al (by simp),j6,aW];simp[qQ]
 |x::xs,rp,hr,hx,hlen=>by
  have GR:=hx x (by simp);simp only[jk]at hlen;have he:=T7 ((rp.length+(x::xs).length:Nat):Int) (rp.length:Int) x GR rp xs hr (by omega);have ih:=T8 xs (nk x rp) (T6 GR hr) (λz hz=>hx z (by simp[hz])) (by rw[GQ];omega);rw[GQ]at ih;rw[Km];simp only[j0c];rw[aj (by simp only[jk];omega),he];simp only[j5,j3,qQ];rw[show rp.length+1+xs.length=rp.length+(x::xs).length by simp;omega]at ih;rw[ai (by omega) (by omega),aJ];exact ih
theorem joY{l:bT}(hs:Sm l)(hl:l.length<20):j0h l=some (fL l):=by
 have MI:j0k l 0 (l.length:Int)=some (fL l):=by
  simp only[j0k];cases l with
  |nil=>rw[Km];rfl
  |cons x xs=>have:=T8 xs [x] (λz hz=>by simp at hz;subst hz;exact hs _ (by simp)) (λz hz=>hs z (by simp[hz])) (by simp at hl ⊢;omega);rw[show w64 (0+1)=(([x]:bT).length:Int) from rfl,show ((x::xs).length:Int)=(([x].length+xs.length:Nat):Int) by simp;omega];rw[show (x::xs)=[x].reverse++xs from rfl,this];rfl
 have e0:Av (l.length:Int) 20 0 20 l=some ((l.length:Int),20,0,l):=by rw[j7r];simp only[j0s];rw[al (by omega),j6,aW]
 have e2:Aw (l.length:Int) 20 (fL l)=some (fL l):=by rw[j7s];simp only[j0t];rw[al (by omega),j6,aW]
 simp only[j0h,j1j,show Int.ofNat (List.length l)=(l.length:Int) from rfl,e0,j3,MI,e2]
def yD(y:Int):Bool:=decide (y%4=0)&&(!decide (y%100=0)||decide (y%400=0))
def iv(y:Int):Int:=if y%4=0/\(y%100≠0\/y%400=0) then 1 else 0
theorem MJ(y:Int):yD y=true↔y%4=0/\(y%100≠0\/y%400=0):=by simp[yD]
theorem jx8(y:Int):iv y=if yD y then 1 else 0:=by
 unfold iv;by_cases h:yD y=true
 .rw[if_pos ((MJ y).1 h),if_pos h]
 .rw[if_neg (λh'=>h ((MJ y).2 h')),if_neg h]
theorem GS(y:Int):0<=iv y/\iv y<=1:=by unfold iv;split<;>omega
def iw(y m:Int):Int:=
 if m<1\/12<m then 0 else if m=2 then 28+iv y else if m=4\/m=6\/m=9\/m=11 then 30 else 31
def mF(y:Int):Int:=365*(y-1970)+(y-1)/4-(y-1)/100+(y-1)/400-477
def ob(y m:Int):Int:=
 if m<=1 then 0 else if m=2 then 31 else if m=3 then 59+iv y else if m=4 then 90+iv y else if m=5 then 120+iv y else if m=6 then 151+iv y
 else if m=7 then 181+iv y else if m=8 then 212+iv y else if m=9 then 243+iv y else if m=10 then 273+iv y else if m=11 then 304+iv y else if m=12 then 334+iv y else 365+iv y
def num(y m d:Int):Int:=mF y+ob y m+d-1
theorem jx9(y:Int):mF (y+1)=mF y+365+iv y:=by
 unfold mF iv;split<;>omega
theorem MK{a b:Int}(h:a<=b):mF a+365*(b-a)<=mF b:=by unfold mF;omega
theorem T9(y m:Int)(h1:1<=m)(h2:m<=12):ob y (m+1)=ob y m+iw y m:=by
 obtain rfl|rfl|rfl|rfl|rfl|rfl|rfl|rfl|rfl|rfl|rfl|rfl:m=1\/m=2\/m=3\/m=4\/m=5\/m=6\/m=7\/m=8\/m=9\/m=10\/m=11\/m=12:=by omega
 all_goals (simp[ob,iw];try omega)
theorem DX(y m:Int):0<=iw y m/\iw y m<=31:=by
 have:=GS y;unfold iw;repeat' split;all_goals omega
theorem GU(y m:Int)(h1:1<=m)(h2:m<=12):28<=iw y m:=by
 have:=GS y;unfold iw;rw[if_neg (by omega)];repeat' split;all_goals omega
theorem jvl(y m:Int):0<=ob y m/\ob y m<=366:=by
 have:=GS y;unfold ob;omega
theorem jyS(y:Int):jjR y=some (yD y):=by
 have e:(cond (Int.tmod y 4==(0:Int)) (cond (Int.tmod y 100 != (0:Int)) true (Int.tmod y 400==(0:Int))) false)=yD y:=by unfold bne;rw[DU,DU,DU,Bool.eq_iff_iff,MJ];by_cases h1:y%4=0<;>by_cases h2:y%100=0<;>by_cases h3:y%400=0<;>simp[h1,h2,h3]
 exact ji some e
theorem ML(y m:Int):j8u y m=some (iw y m):=by
 by_cases h:m<1\/12<m
 .have hc:cond (decide (m<(1:Int))) true (decide (m>(12:Int)))=true:=by rcases h with h|h<;>by_cases h1:m<1<;>simp[h1]<;>omega
  have:iw y m=0:=if_pos h;rw[this];unfold j8u;rw[hc];rfl
 .obtain rfl|rfl|rfl|rfl|rfl|rfl|rfl|rfl|rfl|rfl|rfl|rfl:m=1\/m=2\/m=3\/m=4\/m=5\/m=6\/m=7\/m=8\/m=9\/m=10\/m=11\/m=12:=by omega
  case inr.inl=>simp only[j8u,jyS,iw,jx8,j3];cases yD y<;>rfl
  all_goals rfl
theorem jxa(y m d:Int):jcN (y,m,d)=some (decide (1970<=y/\y<=2240/\1<=d/\d<=iw y m)):=by
 simp only[jcN,ML,j3];by_cases h1:1970<=y<;>by_cases h2:y<=2240<;>by_cases h3:1<=d<;>simp[h1,h2,h3]
theorem MM(a b:Int)(hb:0<b)(h1 : -1000000000000<=a)(h2:a<=1000000000000):j9C a b=some (a/b):=by
 have ew:(b==0)=false:=by simp;omega
 obtain⟨e,p1,p2,p3,p4⟩:=DT a b hb
 have hq : -1000000000000<=Int.tdiv a b/\Int.tdiv a b<=1000000000000:=by
  rcases Int.le_total 0 a with h|h
  .have h0:0<=a/b:=Int.ediv_nonneg h (by omega);have h3:a/b<=a:=Int.ediv_le_self b h;rw[GN h];omega
  .have h0:0<=(-a)/b:=Int.ediv_nonneg (by omega) (by omega);have h3:(-a)/b <= -a:=Int.ediv_le_self b (by omega);have h4:Int.tdiv (-a) b=(-a)/b:=GN (by omega);rw[Int.neg_tdiv]at h4;omega
 simp only[j9C,ew,k7,j5];rw[ai (x:=Int.tdiv a b) (by omega) (by omega)];by_cases hm:Int.tmod a b<0
 .rw[aj hm,j5,ai (by omega) (by omega)];congr 1
  have:a/b=Int.tdiv a b-1:=by
   have h3:a=(a.tmod b+b)+b*(Int.tdiv a b-1):=by rw[Int.mul_sub];omega
   rw[h3,Int.add_mul_ediv_left _ _ (by omega),Int.ediv_eq_zero_of_lt (by omega) (by omega)];rw[<-h3];omega
  omega
 .rw[al hm,j6];congr 1;have h3:a=a.tmod b+b*Int.tdiv a b:=by omega
  have:a/b=Int.tdiv a b:=by
   conv=>lhs;rw[h3]
   rw[Int.add_mul_ediv_left _ _ (by omega),Int.ediv_eq_zero_of_lt (by omega) (by omega)];omega
  omega
theorem jxb(y:Int)(h1 : -1000000000<=y)(h2:y<=1000000000):j6t y=some (mF y):=by
 simp only[j6t];rw[ai (x:=y-1) (by omega) (by omega),ai (x:=y-1970) (by omega) (by omega),MM _ 4 (by omega) (by omega) (by omega),MM _ 100 (by omega) (by omega) (by omega),MM _ 400 (by omega) (by omega) (by omega)];simp only[j3];simp (disch:=omega) only[ai];rfl
theorem Ua(y m d:Int)(hm:m<=13):∀(n:Nat)(s k:Int),1<=k->k+n=m -> -1000000000000<=s->s+31*n<=1000000000000->Ar s k y m d=some (s+ob y m-ob y k)
 |0,s,k,hk,hn,_,_=>by
  rw[RU];have:k=m:=by omega
  subst this;simp only[j58,al (show¬k<k by omega),j6,aW];congr 1;omega
 |n+1,s,k,hk,hn,h1,h2=>by
  rw[RU];have hd:=DX y k;have hc:=T9 y k hk (by omega);simp only[j58,ML,j3,aj (show k<m by omega),j5,aJ];rw[ai (x:=s+iw y k) (by omega) (by omega),ai (x:=k+1) (by omega) (by omega)];have ih:=Ua y m d hm n (s+iw y k) (k+1) (by omega) (by omega) (by omega) (by omega);rw[ih];congr 1;omega
theorem jvm(y m d:Int)(h1 : -1000000<=y)(h2:y<=1000000)(gj:1<=m)(jX:m<=12)(rC : -1000000<=d)(rD:d<=1000000):j84 (y,m,d)=some (num y m d):=by
 have hb : -1000000000<=mF y/\mF y<=1000000000:=by unfold mF;omega
 simp only[j84,jxb y (by omega) (by omega),j3];rw[ai (x:=mF y+d) (by omega) (by omega),ai (by omega) (by omega),Ua y m d (by omega) (m-1).toNat _ 1 (by omega) (by omega) (by omega) (by omega)];have:ob y 1=0:=rfl;simp only[j3,num];congr 1;omega
theorem Ub(day:Int):j8v day=some ((Int.tmod day 7+10)%7):=by
 obtain⟨e,p1,p2,p3,p4⟩:=DT day 7 (by omega);simp only[j8v];rw[ai (by omega) (by omega),GO (by omega)]
theorem Uc(day:Int)(_h : -3<=day):j8v day=some ((day+3)%7):=by
 rw[Ub];congr 1;obtain⟨e,p1,p2,p3,p4⟩:=DT day 7 (by omega);omega
def Bd(y m d:Int):Prop:=1970<=y/\y<=2240/\1<=d/\d<=iw y m
instance(y m d:Int):Decidable (Bd y m d):=by unfold Bd;infer_instance
theorem jrJ{y m d:Int}(h:Bd y m d):1<=m/\m<=12:=by
 obtain⟨_,_,h3,h4⟩:=h;by_cases hm:m<1\/12<m
 .have:iw y m=0:=if_pos hm;omega
 .omega
theorem jvn{y m d:Int}:decide (1970<=y/\y<=2240/\1<=d/\d<=iw y m)=decide (Bd y m d):=rfl
theorem jmp{y m d:Int}(h:Bd y m d):0<=num y m d/\num y m d<98981:=by
 have hm:=jrJ h;obtain⟨h1,h2,h3,h4⟩:=h;have hc:=jvl y m;have c1:=MK (a:=1970) (b:=y) (by omega);have c2:=MK (a:=y) (b:=2240) (by omega);have e1:mF 1970=0:=by decide
 have hd:=DX y m;have e2:mF 2240=98615:=by decide
 have dG:ob y m+iw y m<=365+iv y:=by
  have:=T9 y m hm.1 hm.2;have:ob y (m+1)<=365+iv y:=by have:=GS y;unfold ob;omega
  omega
 have c3:=jx9 y;have c4:=MK (a:=y+1) (b:=2241) (by omega);have e3:mF 2241=98981:=by decide
 unfold num;omega
def nth(y m k w:Int):Int:=
 let d:=num y m 1+(w-(num y m 1+3)%7+7)%7+7*(k-1)
 if d>=num y m 1+iw y m then d-7 else d
theorem MN(y m:Int)(h1:1970<=y)(h2:y<=2240)(gj:1<=m)(jX:m<=12):Bd y m 1:=⟨h1,h2,by omega,by have:=GU y m gj jX;omega⟩
theorem jAe(y m k w:Int)(h1:1970<=y)(h2:y<=2240)(gj:1<=m)(jX:m<=12)(dE:1<=k)(gq:k<=5)(PU:0<=w)(RH:w<=6):jcO y m k w=some (nth y m k w,0):=by
 have hv:=MN y m h1 h2 gj jX;have hr:=jmp hv;have hd:=DX y m;have MO:jcN (y,m,1)=some true:=by rw[jxa,jvn,v7 hv]
 simp only[jcO,MO,j3,jq,j6];rw[al (show¬k<1 by omega),al (show¬k>5 by omega),al (show¬w<0 by omega),al (show¬w>6 by omega)];simp only[j6,jvm y m 1 (by omega) (by omega) gj jX (by omega) (by omega),j3,Uc _ (show -3<=num y m 1 by omega),ML];generalize hn:num y m 1=n at *;have hm7:0<=(n+3)%7/\(n+3)%7<=6:=by omega
 rw[ai (x:=w-(n+3)%7) (by omega) (by omega),ai (x:=w-(n+3)%7+7) (by omega) (by omega),GO (show 0<=w-(n+3)%7+7 by omega)];rw[ai (x:=k-1) (by omega) (by omega),ai (x:=7*(k-1)) (by omega) (by omega)];rw[ai (x:=n+(w-(n+3)%7+7)%7) (by omega) (by omega),ai (x:=n+(w-(n+3)%7+7)%7+7*(k-1)) (by omega) (by omega),ai (x:=n+iw y m) (by omega) (by omega)];unfold nth;simp only[hn];by_cases hc:n+(w-(n+3)%7+7)%7+7*(k-1)>=n+iw y m
 .rw[aj hc,j5,if_pos hc,ai (by omega) (by omega)]
 .rw[al hc,j6,if_neg hc]
def dp(l:List Int)(a:Int):Prop:=0<=a/\a<=(l.length:Int)/\l.length<=1000000
theorem cK{l:List Int}{a n:Int}(h:dp l a)(hn:1<=n)(MP:n<=1000000000000):∃x a',j07 l a n=some (x,l,a')/\0<=x/\x<n/\dp l a':=by
 obtain⟨h1,h2,h3⟩:=h;simp only[j07,show Int.ofNat (List.length l)=(l.length:Int) from rfl];by_cases ha:a>=(l.length:Int)
 .rw[aj ha,j5];exact⟨0,a,rfl,by omega,by omega,h1,h2,h3⟩
 .rw[al ha,j6,al (show¬n<1 by omega),j6,aX h1 (by omega),j5,cP (show n≠0 by omega)];obtain⟨e,p1,p2,p3,p4⟩:=DT (l.getD a.toNat 0) n (by omega);rw[ai (x:=a+1) (by omega) (by omega)];simp only[k7,j5];by_cases ht:Int.tmod (l.getD a.toNat 0) n<0
  .rw[aj ht,j5,ai (by omega) (by omega)];exact⟨_,_,rfl,by omega,by omega,by omega,by omega,h3⟩
  .rw[al ht,j6];exact⟨_,_,rfl,by omega,by omega,by omega,by omega,h3⟩
theorem mG{l:List Int}{a:Int}(h:dp l a){xs:List Int}(rE:0<xs.length)(nP:xs.length<=1000000):∃x a',j2b l a xs=some (x,l,a')/\x∈xs/\dp l a':=by
 obtain⟨x,a',e,h1,h2,h3⟩:=cK (n:=(xs.length:Int)) h (by omega) (by omega);simp only[j2b,show Int.ofNat (List.length xs)=(xs.length:Int) from rfl,e,j3];rw[aX h1 (by omega),j5];have aq:x.toNat<xs.length:=by omega
 refine⟨_,_,rfl,?_,h3⟩;rw[List.getD_eq_getElem?_getD,jj aq];exact jh aq
end Go.Proofs.Pw
