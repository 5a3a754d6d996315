/- Small facts on Go's DF. -/
import Derived.Test.YtaieocafhcjelaaGreatDLD
import Derived.Test.YtaieocafhcjelaaGreatDFns
open Go Go.Lft
namespace Go.Proofs.Pw
theorem AV(a b:Int)(hb:0<b):b*Int.tdiv a b+Int.tmod a b=a/\(0<=a->0<=Int.tmod a b)/\(a<=0->Int.tmod a b<=0)/\Int.tmod a b<b /\ -b<Int.tmod a b:=by
 have h1:=Int.mul_tdiv_add_tmod a b;have h2:0<=a->0<=Int.tmod a b:=λh=>Int.tmod_nonneg b h
 have h3:a<=0->Int.tmod a b<=0:=λh=>by
  have:=Int.tmod_nonneg (a:= -a) b (by omega);rw[Int.neg_tmod]at this;omega
 have h4:=Int.tmod_lt_of_pos a hb;have h5 : -b<Int.tmod a b:=by have:=Int.tmod_lt_of_pos (-a) hb;rw[Int.neg_tmod]at this;omega
 exact⟨h1,h2,h3,h4,h5⟩
theorem GG{a b:Int}(ha:0<=a):Int.tdiv a b=a/b:=zr ha
theorem DG{a b:Int}(ha:0<=a):Int.tmod a b=a%b:=Int.tmod_eq_emod_of_nonneg ha
theorem DH(a b:Int):(Int.tmod a b==0)=(a%b==0):=by
 rw[Bool.eq_iff_iff];simp only[qy];rw[<-Int.dvd_iff_tmod_eq_zero,<-Int.dvd_iff_emod_eq_zero]
theorem aj{p:Prop}[Decidable p](h:p):decide p=true:=v6 h
theorem ak{p:Prop}[Decidable p](h:¬p):decide p=false:=decide_eq_false h
theorem dT{a b:Int}(h:a=b):(a==b)=true:=by simp[h]
theorem cJ{a b:Int}(h:a≠b):(a==b)=false:=by simp[h]
theorem aU{i:Int}{n:Nat}(h1:0<=i)(h2:i<n):inR i n=true:=by simp[inR,h1,h2]
def nU(ks:List ByteArray):List (ByteArray×Bool):=ks.map λk=>(k,true)
def fN(ks:List ByteArray):Prop:=ks.Nodup/\∀k∈ks,j9L k=some true
theorem TN{s:ByteArray}:∀{l:List ByteArray},s∉l->gq false (nU l) s=false/\gU (nU l) s true=nU (l++[s])
 |[],_=>⟨rfl,rfl⟩
 |k::l,h=>by
  simp only[je,not_or]at h;obtain⟨h1,h2⟩:=TN (l:=l) h.2;have hb:(s==k)=false:=zb.2 λhh=>h.1 ((MapKept.bytes_beq s k).1 hh);refine⟨?_,?_⟩
  .show cond (s==k) true (gq false (nU l) s)=false;rw[hb];exact h1
  .show cond (s==k) ((s,true)::nU l) ((k,true)::gU (nU l) s true)=_;rw[hb,j6,h2];rfl
theorem DI{α:Type}(f:α->ByteArray){xs:List α}(h:fN (xs.map f)){i:Nat}(hi:i<xs.length):j4F (f xs[i]) (nU ((xs.take i).map f))=some (0,nU ((xs.take (i+1)).map f)):=by
 have hm:f xs[i]∈xs.map f:=List.mem_map_of_mem (jg hi)
 have hn:f xs[i]∉(xs.take i).map f:=by
  intro hx;have hs:xs.map f=(xs.take i).map f++(f xs[i]::(xs.drop (i+1)).map f):=by rw[<-kr,<-zq,List.getElem_cons_drop hi,ki]
  have:=h.1;rw[hs,qn]at this;exact this.2.2 _ hx _ (by simp) rfl
 obtain⟨h1,h2⟩:=TN hn;simp only[j4F,h.2 _ hm,j3,jr,j6,h1,h2];rw[ko,ji hi,zq];rfl
abbrev bR:=List (Int×Int)
def gR(l:bR)(i:Nat):Int:=(l.getD i (0,0)).1
def cG(o:Int)(l:bR)(i:Nat):Int:=if i=0 then o else (l.getD (i-1) (0,0)).2
def bn(l:bR)(i:Nat):Int:=if i=0 then 0 else if i<=l.length then gR l (i-1) else 8589934593
structure iY(o:Int)(l:bR):Prop where
 len:l.length<=1000
 gap:∀i,i+1<l.length->gR l i+604800<=gR l (i+1)
 pos:∀i,i<l.length->1000000<gR l i
 max:∀i,i<l.length->gR l i<=8589000000
 of0:∀i,i<=l.length -> -64800<=cG o l i
 of1:∀i,i<=l.length->cG o l i<=64800
section
variable{o:Int}{l:bR}(h:iY o l)
include h
theorem iY.at_lt:∀(k i:Nat),i+k+1<l.length->gR l i+604800<=gR l (i+k+1)
 |0,i,hk=>h.gap i hk
 |k+1,i,hk=>by
  have h1:=iY.at_lt k i (by omega);have h2:=h.gap (i+k+1) (by omega);rw[show i+(k+1)+1=i+k+1+1 by omega];omega
theorem iY.at_le{i j:Nat}(dG:i<j)(hj:j<l.length):gR l i+604800<=gR l j:=by
 have:=h.at_lt (j-i-1) i (by omega);rwa[show i+(j-i-1)+1=j by omega]at this
omit h in
theorem tF:bn l 0=0:=rfl
omit h in
theorem yr{i:Nat}(hi:i<l.length):bn l (i+1)=gR l i:=by
 unfold bn;rw[if_neg (Nat.succ_ne_zero i),if_pos (show i+1<=l.length by omega)];rfl
omit h in
theorem tG:bn l (l.length+1)=8589934593:=by
 unfold bn;rw[if_neg (Nat.succ_ne_zero _),if_neg (show¬l.length+1<=l.length by omega)]
theorem iY.frm_lt{i:Nat}(hi:i<=l.length):bn l i<bn l (i+1):=by
 rcases qu i l.length with hl|hl
 .rw[yr hl];cases i with
  |zero=>rw[tF];exact(by have:=h.pos 0 hl;omega)
  |succ i=>rw[yr (by omega)];have:=h.gap i hl;omega
 .have:i=l.length:=by omega
  subst this;rw[tG];cases hq:l.length with
  |zero=>rw[tF];omega
  |succ n=>rw[yr (by omega)];have:=h.max n (by omega);omega
theorem iY.frm_le{i j:Nat}(dG:i<=j)(hj:j<=l.length+1):bn l i<=bn l j:=by
 induction j with
 |zero=>
  have:i=0:=by omega
  subst this;omega
 |succ j ih=>
  by_cases he:i=j+1
  .subst he;omega
  .have h1:=ih (by omega) (by omega);have h2:=h.frm_lt (i:=j) (by omega);omega
theorem Mp{t:Int}{k:Nat}(hk:k<=l.length)(jJ:∀i,i<k->gR l i<=t)(lu:∀i,k<=i->i<l.length->t<gR l i) :
  ∀(n:Nat)(a b:Nat),b-a<=n->a<=k->k<=b->b<=l.length->Ax o l t (a:Int) (b:Int)=some (k:Int)
 |0,a,b,hn,ha,hb,uD=>by
  rw[R2];simp only[j4l,ak (show¬(a:Int)<(b:Int) by omega),j6,aW];congr 1;omega
 |n+1,a,b,hn,ha,hb,uD=>by
  have hlen:=h.len;rw[R2];by_cases bz:a<b
  .have hm:IntKind.wrap .u64 ((a:Int)+(b:Int))=(a:Int)+(b:Int):=IntWalk.u64_in _ ⟨by omega,by omega⟩;have hd:Int.fdiv ((a:Int)+(b:Int)) 2=(((a+b)/2:Nat):Int):=by rw[Int.fdiv_eq_ediv_of_nonneg _ (by omega)];omega
   simp only[j4l,aj (show (a:Int)<(b:Int) by omega),j5];rw[ah (x:=(a:Int)+(b:Int)) (by omega) (by omega),hm,hd,ah (x:=(((a+b)/2:Nat):Int)) (by omega) (by omega)];simp only[j9z];rw[aU (by omega) (by omega)];simp only[j5,j3,j7];by_cases hc:gR l ((a+b)/2)>t
   .rw[aj (show (l.getD ((a+b)/2) ((0:Int),(0:Int))).1>t from hc)];simp only[jr,j6,aF]
    have nN:k<=(a+b)/2:=by
     rcases qu ((a+b)/2) k with h'|h'
     .have:=jJ _ h';omega
     .exact h'
    exact Mp hk jJ lu n a ((a+b)/2) (by omega) ha nN (by omega)
   .rw[ak (show¬(l.getD ((a+b)/2) ((0:Int),(0:Int))).1>t from hc)];simp only[jy,j5,aF];rw[ah (by omega) (by omega)]
    have nN:(a+b)/2<k:=by
     rcases qu ((a+b)/2) k with h'|h'
     .exact h'
     .have:=lu _ h' (by omega);omega
    exact Mp hk jJ lu n ((a+b)/2+1) b (by omega) (by omega) hb uD
  .simp only[j4l,ak (show¬(a:Int)<(b:Int) by omega),j6,aW];congr 1;omega
theorem Mq{t:Int}{k:Nat}(hk:k<=l.length)(h1:bn l k<=t)(h2:t<bn l (k+1)):j4e (o,l) t=some (k:Int):=by
 have jJ:∀i,i<k->gR l i<=t:=by
  intro i hi;have:bn l k=gR l (k-1):=by have:=yr (l:=l) (i:=k-1) (by omega);rwa[show k-1+1=k by omega]at this
  rw[this]at h1;by_cases he:i=k-1
  .subst he;exact h1
  .have:=h.at_le (i:=i) (j:=k-1) (by omega) (by omega);omega
 have lu:∀i,k<=i->i<l.length->t<gR l i:=by
  intro i hi hl;have:bn l (k+1)=gR l k:=yr (by omega);rw[this]at h2;by_cases he:i=k
  .subst he;exact h2
  .have:=h.at_le (i:=k) (j:=i) (by omega) hl;omega
 have:=Mp h hk jJ lu l.length 0 l.length (by omega) (by omega) hk (by omega);simp only[j4e,jb1,show Int.ofNat (List.length l)=(l.length:Int) from rfl];rw[show (0:Int)=((0:Nat):Int) from rfl,this];rfl
theorem Mr{k:Nat}(hk:k<=l.length):j5E (o,l) (k:Int)=some (cG o l k):=by
 have hlen:=h.len;unfold cG;by_cases h0:k=0
 .subst h0;rfl
 .simp only[j5E];rw[cJ (show (k:Int)≠0 by omega),j6,ah (by omega) (by omega),aU (by omega) (by omega),show ((k:Int)-1).toNat=k-1 by omega,if_neg h0];rfl
theorem jvb{t:Int}{k:Nat}(hk:k<=l.length)(h1:bn l k<=t)(h2:t<bn l (k+1)):j4p (o,l) t=some (cG o l k):=by
 simp only[j4p,Mq h hk h1 h2,j3,Mr h hk]
theorem DJ{t:Int}(h0:0<=t)(h1:t<=8589934592):∃k,k<=l.length/\bn l k<=t/\t<bn l (k+1):=by
 have _:=h
 have:∀n,n<=l.length+1->t<bn l n->∃k,k<n/\bn l k<=t/\t<bn l (k+1):=by
  intro n;induction n with
  |zero=>intro _ hn;have:bn l 0=0:=rfl;omega
  |succ n ih=>
   intro hn an;by_cases hc:bn l n<=t
   .exact⟨n,by omega,hc,an⟩
   .obtain⟨k,a1,a2,a3⟩:=ih (by omega) (by omega);exact⟨k,by omega,a2,a3⟩
 have cV:bn l (l.length+1)=8589934593:=tG;obtain⟨k,a1,a2,a3⟩:=this (l.length+1) (by omega) (by omega);exact⟨k,by omega,a2,a3⟩
def pc(o:Int)(l:bR)(i:Nat):Int×(Int×Int):=(bn l i,(bn l (i+1),cG o l i))
def oX(o:Int)(l:bR)(n:Nat):List (Int×(Int×Int)):=(List.range n).map (pc o l)
omit h in
theorem TO(n:Nat):oX o l (n+1)=oX o l n++[pc o l n]:=by simp[oX,List.range_succ]
omit h in
theorem yt(n:Nat):(oX o l n).length=n:=by simp[oX]
omit h in
theorem Ms{n i:Nat}(hi:i<n):(oX o l n).getD i ((0:Int),((0:Int),(0:Int)))=pc o l i:=by
 simp[oX,List.getD,hi]
theorem TP:∀(n k:Nat),k+n=l.length+1->vD (bn l k) 8589934593 o l (oX o l k)=some (oX o l (l.length+1))
 |0,k,hk=>by
  have cV:bn l k=8589934593:=by rw[show k=l.length+1 by omega];exact tG
  rw[Ay,cV];simp only[j0H];rw[ak (by omega),j6,aW,show k=l.length+1 by omega]
 |n+1,k,hk=>by
  have hlen:=h.len;have iW:k<=l.length:=by omega
  have an:=h.frm_lt iW;have hle:=h.frm_le (i:=k+1) (j:=l.length+1) (by omega) (by omega);have cV:bn l (l.length+1)=8589934593:=tG;have ih:=TP n (k+1) (by omega);rw[Ay];simp only[j0H];rw[aj (show bn l k<8589934593 by omega),Mq h iW (by omega) an];simp only[j5,j3,show Int.ofNat (List.length l)=(l.length:Int) from rfl,Mr h iW];by_cases qM:k<l.length
  .rw[aj (show (k:Int)<(l.length:Int) by omega),aU (by omega) (by omega)];simp only[j5,j7];have iB:(if (l.getD k ((0:Int),(0:Int))).1<8589934593 then (l.getD k ((0:Int),(0:Int))).1 else 8589934593)=bn l (k+1):=by have hf:bn l (k+1)=gR l k:=yr qM;have:=h.max k qM;rw[hf,if_pos (show (l.getD k ((0:Int),(0:Int))).1<8589934593 by show gR l k<_;omega)];rfl
   rw[iB,aj (by rw[yt];simp[aS];omega)];simp only[j5,aF];rw[TO]at ih;exact ih
  .rw[ak (show¬(k:Int)<(l.length:Int) by omega)];simp only[j6];rw[aj (by rw[yt];simp[aS];omega)];simp only[j5,aF];have bg:k=l.length:=by omega
   rw[TO]at ih;unfold pc at ih;rw[show k+1=l.length+1 by omega,cV]at ih;exact ih
theorem TQ:j1X (o,l) 0 8589934593=some (oX o l (l.length+1)):=by
 have:=TP h (l.length+1) 0 (by omega);simp only[j1X];rw[show vD 0 8589934593 o l []=_ from this];rfl
def TR(o:Int)(l:bR)(s:Int)(i:Nat):Prop:=bn l i<=s-cG o l i/\s-cG o l i<bn l (i+1)
instance(o:Int)(l:bR)(s:Int)(i:Nat):Decidable (TR o l s i):=by unfold TR;infer_instance
omit h in
theorem Mt{d c:Int}(hd : -1000000<=d)(rz:d<=1000000)(hc : -86400<=c)(lg:c<=172800):j5v (d,c)=some (d*86400+c):=by
 simp only[j5v];rw[if_neg (show¬(-1048576:Int)>d by omega),if_neg (show¬(1048576:Int)<d by omega),ah (x:=d*86400) (by omega) (by omega),ah (by omega) (by omega)]
theorem TS{d c:Int}(hd : -1000000<=d)(rz:d<=1000000)(hc : -86400<=c)(lg:c<=172800){k:Nat}(hk:k<=l.length)(hks:d*86400+c-cG o l k<bn l (k+1))(tH:∀j,j<k->bn l (j+1)<=d*86400+c-cG o l j) :
  ∀(n i:Nat),i+n=k->xP ((l.length+1:Nat):Int) (i:Int) d c (oX o l (l.length+1))=some (.inl (max (bn l k) (d*86400+c-cG o l k),true))
 |0,i,hi=>by
  have hlen:=h.len;have:i=k:=by omega
  subst this;have o1:=h.of0 i hk;have o2:=h.of1 i hk;have an:=h.frm_lt hk;rw[F3];simp only[j2k];rw[aj (show (i:Int)<((l.length+1:Nat):Int) by omega),aU (by omega) (by rw[yt];omega)];simp only[j5,j7,Ms (show i<l.length+1 by omega),Mt hd rz hc lg,j3,pc];rw[ah (x:=d*86400+c-cG o l i) (by omega) (by omega)];have hm:(if d*86400+c-cG o l i>bn l i then d*86400+c-cG o l i else bn l i)=max (bn l i) (d*86400+c-cG o l i):=by split<;>omega
  rw[hm,aj (by omega),j5,aW]
 |n+1,i,hi=>by
  have hlen:=h.len;have lj:i<=l.length:=by omega
  have o1:=h.of0 i lj;have o2:=h.of1 i lj;have hb:=tH i (by omega);rw[F3];simp only[j2k];rw[aj (show (i:Int)<((l.length+1:Nat):Int) by omega),aU (by omega) (by rw[yt];omega)];simp only[j5,j7,Ms (show i<l.length+1 by omega),Mt hd rz hc lg,j3,pc];rw[ah (x:=d*86400+c-cG o l i) (by omega) (by omega),ah (x:=(i:Int)+1) (by omega) (by omega)];have hm:(if d*86400+c-cG o l i>bn l i then d*86400+c-cG o l i else bn l i)=max (bn l i) (d*86400+c-cG o l i):=by split<;>omega
  rw[hm,ak (by omega),j6,aF];exact TS hd rz hc lg hk hks tH n (i+1) (by omega)
theorem jwV{d c:Int}(hd : -1000000<=d)(rz:d<=1000000)(hc : -86400<=c)(lg:c<=172800){k:Nat}(hk:k<=l.length)(hks:d*86400+c-cG o l k<bn l (k+1))(tH:∀j,j<k->bn l (j+1)<=d*86400+c-cG o l j) :
  j2F (o,l) (d,c)=some (max (bn l k) (d*86400+c-cG o l k),true):=by
 have:=TS h hd rz hc lg hk hks tH k 0 (by omega);simp only[j2F,TQ h,j3,yt,show Int.ofNat (List.length l+1)=((l.length+1:Nat):Int) from rfl];rw[show (0:Int)=((0:Nat):Int) from rfl,this];rfl
omit h in
theorem jwW{n:Int}(h1 : -1000000000000<=n)(h2:n<=1000000000000):jh1 n=some (n/86400,n%86400):=by
 obtain⟨e,p1,p2,p3,p4⟩:=AV n 86400 (by omega);simp only[jh1];rw[ah (x:=Int.tdiv n 86400) (by omega) (by omega)];by_cases hm:Int.tmod n 86400<0
 .rw[aj hm,j5,ah (x:=Int.tdiv n 86400-1) (by omega) (by omega),ah (x:=(Int.tdiv n 86400-1)*86400) (by omega) (by omega),ah (by omega) (by omega)];have:n/86400=Int.tdiv n 86400-1:=by omega
  congr 2
  .omega
  .omega
 .rw[ak hm,j6,ah (x:=Int.tdiv n 86400*86400) (by omega) (by omega),ah (by omega) (by omega)];congr 2
  .omega
  .omega
theorem GH{t:Int}{k:Nat}(hk:k<=l.length)(h1:bn l k<=t)(h2:t<bn l (k+1)):j1y (o,l) t=some ((t+cG o l k)/86400,(t+cG o l k)%86400):=by
 have o1:=h.of0 k hk;have o2:=h.of1 k hk;have g1:0<=bn l k:=by have:=h.frm_le (i:=0) (j:=k) (by omega) (by omega);have e:bn l 0=0:=rfl;omega
 have cV:bn l (l.length+1)=8589934593:=tG;have g2:=h.frm_le (i:=k+1) (j:=l.length+1) (by omega) (by omega);simp only[j1y,jvb h hk h1 h2,j3];rw[ah (x:=t+cG o l k) (by omega) (by omega),jwW (by omega) (by omega)];rfl
end
def ng(x:Int×Int):bR->bR
 |[]=>[x]
 |y::ys=>if x.1<y.1 then y::ng x ys else x::y::ys
def qN:bR->bR->bR
 |[],acc=>acc
 |x::xs,acc=>qN xs (ng x acc)
def fH(l:bR):bR:=(qN l []).reverse
theorem GI(x:Int×Int):∀l,(ng x l).length=l.length+1
 |[]=>rfl
 |y::ys=>by unfold ng;split<;>simp[GI x ys]
theorem Mu:∀(l acc:bR),(qN l acc).length=l.length+acc.length
 |[],acc=>by simp[qN]
 |x::xs,acc=>by simp only[qN,Mu xs,GI,jl];omega
def Sm(l:bR):Prop:=∀x∈l, -1000000000000<=x.1/\x.1<=1000000000000
theorem TT{x:Int×Int}(hx : -1000000000000<=x.1/\x.1<=1000000000000):∀{l:bR},Sm l->Sm (ng x l)
 |[],_=>λy hy=>by simp[ng]at hy;subst hy;exact hx
 |z::zs,h=>by
  unfold ng;split
  .intro y hy;rcases je.1 hy with rfl|hy
   .exact h _ (by simp)
   .exact TT hx (l:=zs) (λw hw=>h w (by simp[hw])) y hy
  .intro y hy;rcases je.1 hy with rfl|hy
   .exact hx
   .exact h y hy
theorem jyE(rp mid:bR)(x:Int×Int):(rp.reverse++x::mid).getD rp.length (0,0)=x:=by
 rw[List.getD_eq_getElem?_getD,k7 (by simp)];simp
theorem TU(n s8:Int)(x:Int×Int)(hx : -1000000000000<=x.1/\x.1<=1000000000000):∀(rp mid:bR),Sm rp->rp.length+mid.length<=1000->
  Ak 0 n s8 (rp.length:Int) (rp.reverse++x::mid)=some (0,n,s8,(ng x rp).reverse++mid)
 |[],mid,_,_=>by
  rw[RF];simp only[j0E];rw[ak (by simp),j6,aW];rfl
 |y::ys,mid,gY,hlen=>by
  have hy:=gY y (by simp);have hL:((y::ys).reverse++x::mid).length=ys.length+1+(mid.length+1):=by simp;omega
  simp only[jl]at hlen;rw[RF];simp only[j0E,jl];rw[aj (show ((ys.length+1:Nat):Int)>0 by omega),aU (by omega) (by rw[hL];omega),ah (x:=((ys.length+1:Nat):Int)-1) (by omega) (by omega),aU (by omega) (by rw[hL];omega)];simp only[j5,j7];have g1:((y::ys).reverse++x::mid).getD (ys.length+1) ((0:Int),(0:Int))=x:=jyE (y::ys) mid x;have g2:((y::ys).reverse++x::mid).getD ((((ys.length+1:Nat):Int)-1).toNat) ((0:Int),(0:Int))=y:=by rw[show (((ys.length+1:Nat):Int)-1).toNat=ys.length by omega];simp
  rw[g1,g2];simp only[j9y,j3];rw[ah (x:=x.1-y.1) (by omega) (by omega)];by_cases hc:x.1<y.1
  .rw[aj (show x.1-y.1<0 by omega)];have wz:List.set (List.set ((y::ys).reverse++x::mid) (ys.length+1) (y.1,y.2)) ((((ys.length+1:Nat):Int)-1).toNat) (x.1,x.2)=ys.reverse++x::(y::mid):=by rw[show (((ys.length+1:Nat):Int)-1).toNat=ys.length by omega];simp
   rw[aU (by omega) (by rw[List.length_set,hL];omega)];simp only[j5,aF,wz];have he:=TU n s8 x hx ys (y::mid) (λz hz=>gY z (by simp[hz])) (by simp;omega);rw[show ((ys.length+1:Nat):Int)-1=(ys.length:Int) by omega,he];simp[ng,hc]
  .rw[ak (show¬x.1-y.1<0 by omega)];simp only[j6,aW];simp[ng,hc]
theorem TW:∀(xs rp:bR),Sm rp->Sm xs->rp.length+xs.length<=1000->
  Al 0 ((rp.length+xs.length:Nat):Int) (rp.length:Int) (rp.reverse++xs)=some (qN xs rp).reverse
 |[],rp,_,_,_=>by
  rw[Kf];simp only[j0c];rw[ak (by simp),j6,aW];simp[qN]
 |x::xs,rp,hr,hx,hlen=>by
  have GJ:=hx x (by simp);simp only[jl]at hlen;have he:=TU ((rp.length+(x::xs).length:Nat):Int) (rp.length:Int) x GJ rp xs hr (by omega);have ih:=TW xs (ng x rp) (TT GJ hr) (λz hz=>hx z (by simp[hz])) (by rw[GI];omega);rw[GI]at ih;rw[Kf];simp only[j0c];rw[aj (by simp only[jl];omega),he];simp only[j5,j3,qN];rw[show rp.length+1+xs.length=rp.length+(x::xs).length by simp;omega]at ih;rw[ah (by omega) (by omega),aF];exact ih
theorem joQ{l:bR}(hs:Sm l)(hl:l.length<20):j0h l=some (fH l):=by
 have Mv:j0k l 0 (l.length:Int)=some (fH l):=by
  simp only[j0k];cases l with
  |nil=>rw[Kf];rfl
  |cons x xs=>have:=TW xs [x] (λz hz=>by simp at hz;subst hz;exact hs _ (by simp)) (λz hz=>hs z (by simp[hz])) (by simp at hl ⊢;omega);rw[show w64 (0+1)=(([x]:bR).length:Int) from rfl,show ((x::xs).length:Int)=(([x].length+xs.length:Nat):Int) by simp;omega];rw[show (x::xs)=[x].reverse++xs from rfl,this];rfl
 have e0:Am (l.length:Int) 20 0 20 l=some ((l.length:Int),20,0,l):=by rw[j7o];simp only[j0s];rw[ak (by omega),j6,aW]
 have e2:An (l.length:Int) 20 (fH l)=some (fH l):=by rw[j7p];simp only[j0t];rw[ak (by omega),j6,aW]
 simp only[j0h,j1g,show Int.ofNat (List.length l)=(l.length:Int) from rfl,e0,j3,Mv,e2]
def yu(y:Int):Bool:=decide (y%4=0)&&(!decide (y%100=0)||decide (y%400=0))
def il(y:Int):Int:=if y%4=0/\(y%100≠0\/y%400=0) then 1 else 0
theorem Mw(y:Int):yu y=true↔y%4=0/\(y%100≠0\/y%400=0):=by simp[yu]
theorem jwX(y:Int):il y=if yu y then 1 else 0:=by
 unfold il;by_cases h:yu y=true
 .rw[if_pos ((Mw y).1 h),if_pos h]
 .rw[if_neg (λh'=>h ((Mw y).2 h')),if_neg h]
theorem GK(y:Int):0<=il y/\il y<=1:=by unfold il;split<;>omega
def im(y m:Int):Int:=
 if m<1\/12<m then 0 else if m=2 then 28+il y else if m=4\/m=6\/m=9\/m=11 then 30 else 31
def mz(y:Int):Int:=365*(y-1970)+(y-1)/4-(y-1)/100+(y-1)/400-477
def nV(y m:Int):Int:=
 if m<=1 then 0 else if m=2 then 31 else if m=3 then 59+il y else if m=4 then 90+il y else if m=5 then 120+il y else if m=6 then 151+il y
 else if m=7 then 181+il y else if m=8 then 212+il y else if m=9 then 243+il y else if m=10 then 273+il y else if m=11 then 304+il y else if m=12 then 334+il y else 365+il y
def num(y m d:Int):Int:=mz y+nV y m+d-1
theorem jwY(y:Int):mz (y+1)=mz y+365+il y:=by
 unfold mz il;split<;>omega
theorem Mx{a b:Int}(h:a<=b):mz a+365*(b-a)<=mz b:=by unfold mz;omega
theorem TX(y m:Int)(h1:1<=m)(h2:m<=12):nV y (m+1)=nV y m+im y m:=by
 obtain rfl|rfl|rfl|rfl|rfl|rfl|rfl|rfl|rfl|rfl|rfl|rfl:m=1\/m=2\/m=3\/m=4\/m=5\/m=6\/m=7\/m=8\/m=9\/m=10\/m=11\/m=12:=by omega
 all_goals (simp[nV,im];try omega)
theorem DK(y m:Int):0<=im y m/\im y m<=31:=by
 have:=GK y;unfold im;repeat' split;all_goals omega
theorem GL(y m:Int)(h1:1<=m)(h2:m<=12):28<=im y m:=by
 have:=GK y;unfold im;rw[if_neg (by omega)];repeat' split;all_goals omega
theorem jvc(y m:Int):0<=nV y m/\nV y m<=366:=by
 have:=GK y;unfold nV;omega
theorem jyF(y:Int):jjL y=some (yu y):=by
 have e:(cond (Int.tmod y 4==(0:Int)) (cond (Int.tmod y 100 != (0:Int)) true (Int.tmod y 400==(0:Int))) false)=yu y:=by unfold bne;rw[DH,DH,DH,Bool.eq_iff_iff,Mw];by_cases h1:y%4=0<;>by_cases h2:y%100=0<;>by_cases h3:y%400=0<;>simp[h1,h2,h3]
 exact jh some e
theorem My(y m:Int):j8p y m=some (im y m):=by
 by_cases h:m<1\/12<m
 .have hc:cond (decide (m<(1:Int))) true (decide (m>(12:Int)))=true:=by rcases h with h|h<;>by_cases h1:m<1<;>simp[h1]<;>omega
  have:im y m=0:=if_pos h;rw[this];unfold j8p;rw[hc];rfl
 .obtain rfl|rfl|rfl|rfl|rfl|rfl|rfl|rfl|rfl|rfl|rfl|rfl:m=1\/m=2\/m=3\/m=4\/m=5\/m=6\/m=7\/m=8\/m=9\/m=10\/m=11\/m=12:=by omega
  case inr.inl=>simp only[j8p,jyF,im,jwX,j3];cases yu y<;>rfl
  all_goals rfl
theorem jwZ(y m d:Int):jcI (y,m,d)=some (decide (1970<=y/\y<=2240/\1<=d/\d<=im y m)):=by
 simp only[jcI,My,j3];by_cases h1:1970<=y<;>by_cases h2:y<=2240<;>by_cases h3:1<=d<;>simp[h1,h2,h3]
theorem Mz(a b:Int)(hb:0<b)(h1 : -1000000000000<=a)(h2:a<=1000000000000):j9x a b=some (a/b):=by
 have eh:(b==0)=false:=by simp;omega
 obtain⟨e,p1,p2,p3,p4⟩:=AV a b hb
 have hq : -1000000000000<=Int.tdiv a b/\Int.tdiv a b<=1000000000000:=by
  rcases Int.le_total 0 a with h|h
  .have h0:0<=a/b:=Int.ediv_nonneg h (by omega);have h3:a/b<=a:=Int.ediv_le_self b h;rw[GG h];omega
  .have h0:0<=(-a)/b:=Int.ediv_nonneg (by omega) (by omega);have h3:(-a)/b <= -a:=Int.ediv_le_self b (by omega);have h4:Int.tdiv (-a) b=(-a)/b:=GG (by omega);rw[Int.neg_tdiv]at h4;omega
 simp only[j9x,eh,jy,j5];rw[ah (x:=Int.tdiv a b) (by omega) (by omega)];by_cases hm:Int.tmod a b<0
 .rw[aj hm,j5,ah (by omega) (by omega)];congr 1
  have:a/b=Int.tdiv a b-1:=by
   have h3:a=(a.tmod b+b)+b*(Int.tdiv a b-1):=by rw[Int.mul_sub];omega
   rw[h3,Int.add_mul_ediv_left _ _ (by omega),Int.ediv_eq_zero_of_lt (by omega) (by omega)];rw[<-h3];omega
  omega
 .rw[ak hm,j6];congr 1;have h3:a=a.tmod b+b*Int.tdiv a b:=by omega
  have:a/b=Int.tdiv a b:=by
   conv=>lhs;rw[h3]
   rw[Int.add_mul_ediv_left _ _ (by omega),Int.ediv_eq_zero_of_lt (by omega) (by omega)];omega
  omega
theorem jx0(y:Int)(h1 : -1000000000<=y)(h2:y<=1000000000):j6r y=some (mz y):=by
 simp only[j6r];rw[ah (x:=y-1) (by omega) (by omega),ah (x:=y-1970) (by omega) (by omega),Mz _ 4 (by omega) (by omega) (by omega),Mz _ 100 (by omega) (by omega) (by omega),Mz _ 400 (by omega) (by omega) (by omega)];simp only[j3];simp (disch:=omega) only[ah];rfl
theorem TY(y m d:Int)(hm:m<=13):∀(n:Nat)(s k:Int),1<=k->k+n=m -> -1000000000000<=s->s+31*n<=1000000000000->Aj s k y m d=some (s+nV y m-nV y k)
 |0,s,k,hk,hn,_,_=>by
  rw[RE];have:k=m:=by omega
  subst this;simp only[j58,ak (show¬k<k by omega),j6,aW];congr 1;omega
 |n+1,s,k,hk,hn,h1,h2=>by
  rw[RE];have hd:=DK y k;have hc:=TX y k hk (by omega);simp only[j58,My,j3,aj (show k<m by omega),j5,aF];rw[ah (x:=s+im y k) (by omega) (by omega),ah (x:=k+1) (by omega) (by omega)];have ih:=TY y m d hm n (s+im y k) (k+1) (by omega) (by omega) (by omega) (by omega);rw[ih];congr 1;omega
theorem jvd(y m d:Int)(h1 : -1000000<=y)(h2:y<=1000000)(fF:1<=m)(jS:m<=12)(ry : -1000000<=d)(rz:d<=1000000):j81 (y,m,d)=some (num y m d):=by
 have hb : -1000000000<=mz y/\mz y<=1000000000:=by unfold mz;omega
 simp only[j81,jx0 y (by omega) (by omega),j3];rw[ah (x:=mz y+d) (by omega) (by omega),ah (by omega) (by omega),TY y m d (by omega) (m-1).toNat _ 1 (by omega) (by omega) (by omega) (by omega)];have:nV y 1=0:=rfl;simp only[j3,num];congr 1;omega
theorem TZ(day:Int):j8q day=some ((Int.tmod day 7+10)%7):=by
 obtain⟨e,p1,p2,p3,p4⟩:=AV day 7 (by omega);simp only[j8q];rw[ah (by omega) (by omega),DG (by omega)]
theorem T0(day:Int)(_h : -3<=day):j8q day=some ((day+3)%7):=by
 rw[TZ];congr 1;obtain⟨e,p1,p2,p3,p4⟩:=AV day 7 (by omega);omega
def AW(y m d:Int):Prop:=1970<=y/\y<=2240/\1<=d/\d<=im y m
instance(y m d:Int):Decidable (AW y m d):=by unfold AW;infer_instance
theorem jrA{y m d:Int}(h:AW y m d):1<=m/\m<=12:=by
 obtain⟨_,_,h3,h4⟩:=h;by_cases hm:m<1\/12<m
 .have:im y m=0:=if_pos hm;omega
 .omega
theorem jve{y m d:Int}:decide (1970<=y/\y<=2240/\1<=d/\d<=im y m)=decide (AW y m d):=rfl
theorem MA{y m d:Int}(h:AW y m d):0<=num y m d/\num y m d<98981:=by
 have hm:=jrA h;obtain⟨h1,h2,h3,h4⟩:=h;have hc:=jvc y m;have c1:=Mx (a:=1970) (b:=y) (by omega);have c2:=Mx (a:=y) (b:=2240) (by omega);have e1:mz 1970=0:=by decide
 have hd:=DK y m;have e2:mz 2240=98615:=by decide
 have dB:nV y m+im y m<=365+il y:=by
  have:=TX y m hm.1 hm.2;have:nV y (m+1)<=365+il y:=by have:=GK y;unfold nV;omega
  omega
 have c3:=jwY y;have c4:=Mx (a:=y+1) (b:=2241) (by omega);have e3:mz 2241=98981:=by decide
 unfold num;omega
def nth(y m k w:Int):Int:=
 let d:=num y m 1+(w-(num y m 1+3)%7+7)%7+7*(k-1)
 if d>=num y m 1+im y m then d-7 else d
theorem MB(y m:Int)(h1:1970<=y)(h2:y<=2240)(fF:1<=m)(jS:m<=12):AW y m 1:=⟨h1,h2,by omega,by have:=GL y m fF jS;omega⟩
theorem jzX(y m k w:Int)(h1:1970<=y)(h2:y<=2240)(fF:1<=m)(jS:m<=12)(dz:1<=k)(gl:k<=5)(Fa:0<=w)(Rq:w<=6):jcJ y m k w=some (nth y m k w,0):=by
 have hv:=MB y m h1 h2 fF jS;have hr:=MA hv;have hd:=DK y m;have MC:jcI (y,m,1)=some true:=by rw[jwZ,jve,v6 hv]
 simp only[jcJ,MC,j3,jr,j6];rw[ak (show¬k<1 by omega),ak (show¬k>5 by omega),ak (show¬w<0 by omega),ak (show¬w>6 by omega)];simp only[j6,jvd y m 1 (by omega) (by omega) fF jS (by omega) (by omega),j3,T0 _ (show -3<=num y m 1 by omega),My];generalize hn:num y m 1=n at *;have hm7:0<=(n+3)%7/\(n+3)%7<=6:=by omega
 rw[ah (x:=w-(n+3)%7) (by omega) (by omega),ah (x:=w-(n+3)%7+7) (by omega) (by omega),DG (show 0<=w-(n+3)%7+7 by omega)];rw[ah (x:=k-1) (by omega) (by omega),ah (x:=7*(k-1)) (by omega) (by omega)];rw[ah (x:=n+(w-(n+3)%7+7)%7) (by omega) (by omega),ah (x:=n+(w-(n+3)%7+7)%7+7*(k-1)) (by omega) (by omega),ah (x:=n+im y m) (by omega) (by omega)];unfold nth;simp only[hn];by_cases hc:n+(w-(n+3)%7+7)%7+7*(k-1)>=n+im y m
 .rw[aj hc,j5,if_pos hc,ah (by omega) (by omega)]
 .rw[ak hc,j6,if_neg hc]
theorem jzY(x n:Int)(hn:0<n)(GM:n<=1000000000000):jl1 x n=some (x%n):=by
 have h0:(n==0)=false:=by simp;omega
 obtain⟨e,p1,p2,p3,p4⟩:=AV x n hn;simp only[jl1,h0,jy,j5];rw[ah (by omega) (by omega),DG (by omega)];congr 1;have h3:x=x.tmod n+n*Int.tdiv x n:=by omega
 conv=>rhs;rw[h3]
 rw[Int.add_mul_emod_self_left,Int.add_emod_right]
def dm(l:List Int)(a:Int):Prop:=0<=a/\a<=(l.length:Int)/\l.length<=1000000
theorem cH{l:List Int}{a n:Int}(h:dm l a)(hn:1<=n)(GM:n<=1000000000000):∃x a',j07 l a n=some (x,l,a')/\0<=x/\x<n/\dm l a':=by
 obtain⟨h1,h2,h3⟩:=h;simp only[j07,show Int.ofNat (List.length l)=(l.length:Int) from rfl];by_cases ha:a>=(l.length:Int)
 .rw[aj ha,j5];exact⟨0,a,rfl,by omega,by omega,h1,h2,h3⟩
 .rw[ak ha,j6,ak (show¬n<1 by omega),j6,aU h1 (by omega),j5,cJ (show n≠0 by omega)];obtain⟨e,p1,p2,p3,p4⟩:=AV (l.getD a.toNat 0) n (by omega);rw[ah (x:=a+1) (by omega) (by omega)];simp only[jy,j5];by_cases ht:Int.tmod (l.getD a.toNat 0) n<0
  .rw[aj ht,j5,ah (by omega) (by omega)];exact⟨_,_,rfl,by omega,by omega,by omega,by omega,h3⟩
  .rw[ak ht,j6];exact⟨_,_,rfl,by omega,by omega,by omega,by omega,h3⟩
theorem mD{l:List Int}{a:Int}(h:dm l a){xs:List Int}(rA:0<xs.length)(nK:xs.length<=1000000):∃x a',j27 l a xs=some (x,l,a')/\x∈xs/\dm l a':=by
 obtain⟨x,a',e,h1,h2,h3⟩:=cH (n:=(xs.length:Int)) h (by omega) (by omega);simp only[j27,show Int.ofNat (List.length xs)=(xs.length:Int) from rfl,e,j3];rw[aU h1 (by omega),j5];have an:x.toNat<xs.length:=by omega
 refine⟨_,_,rfl,?_,h3⟩;rw[List.getD_eq_getElem?_getD,ji an];exact jg an
end Go.Proofs.Pw
