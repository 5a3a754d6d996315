/- Small facts on Go's FP. -/
import Derived.Test.YtjpgjpnfacnmaaaGreatLSLD
import Derived.Test.YtjpgjpnfacnmaaaGreatLSFns
import Derived.KernelRfl
open Go Go.Lft
namespace Go.Proofs.Pw
theorem FQ(a b:Int)(hb:0<b):b*Int.tdiv a b+Int.tmod a b=a/\(0<=a->0<=Int.tmod a b)/\(a<=0->Int.tmod a b<=0)/\Int.tmod a b<b /\ -b<Int.tmod a b:=by
 have h1:=Int.mul_tdiv_add_tmod a b;have h2:0<=a->0<=Int.tmod a b:=λh=>Int.tmod_nonneg b h
 have h3:a<=0->Int.tmod a b<=0:=λh=>by
  have:=Int.tmod_nonneg (a:= -a) b (by omega);rw[Int.neg_tmod]at this;omega
 have h4:=yn a hb;have h5 : -b<Int.tmod a b:=by have:=yn (-a) hb;rw[Int.neg_tmod]at this;omega
 exact⟨h1,h2,h3,h4,h5⟩
theorem sG{a b:Int}(ha:0<=a):Int.tdiv a b=a/b:=qy ha
theorem xg{a b:Int}(ha:0<=a):Int.tmod a b=a%b:=Int.tmod_eq_emod_of_nonneg ha
theorem FT(a b:Int):(Int.tmod a b==0)=(a%b==0):=by
 rw[zr];simp only[vj];rw[<-Int.dvd_iff_tmod_eq_zero,<-Int.dvd_iff_emod_eq_zero]
theorem ag{p:Prop}[Decidable p](h:p):decide p=true:=yq h
theorem ah{p:Prop}[Decidable p](h:¬p):decide p=false:=decide_eq_false h
theorem di{a b:Int}(h:a=b):(a==b)=true:=by simp[h]
theorem bW{a b:Int}(h:a≠b):(a==b)=false:=by simp[h]
theorem cw{i:Int}{n:Nat}(h1:0<=i)(h2:i<n):inR i n=true:=by simp[inR,h1,h2]
theorem ai{x:Int}(h1 : -9223372036854775808<=x:=by omega)(h2:x<=9223372036854775807:=by omega):w64 x=x:=im h1 h2
theorem bz{i:Int}{n:Nat}(h1:0<=i:=by omega)(h2:i<n:=by omega):inR i n=true:=cw h1 h2
def pP(ks:List ByteArray):List (ByteArray×Bool):=ks.map λk=>(k,true)
def fq(ks:List ByteArray):Prop:=ks.Nodup/\∀k∈ks,j5l k=some true
theorem YI{s:ByteArray}:∀{l:List ByteArray},s∉l->dx false (pP l) s=false/\ea (pP l) s true=pP (l++[s])
 |[],_=>⟨rfl,rfl⟩
 |k::l,h=>by
  simp only[je,not_or]at h;obtain⟨h1,h2⟩:=YI (l:=l) h.2;have hb:(s==k)=false:=z6.2 λhh=>h.1 ((MapKept.bytes_beq s k).1 hh);refine⟨?_,?_⟩
  .show cond (s==k) true (dx false (pP l) s)=false;rw[hb];exact h1
  .show cond (s==k) ((s,true)::pP l) ((k,true)::ea (pP l) s true)=_;rw[hb,j7,h2];rfl
theorem FU{α:Type}(f:α->ByteArray){xs:List α}(h:fq (xs.map f)){i:Nat}(hi:i<xs.length):j5N (f xs[i]) (pP ((xs.take i).map f))=some (0,pP ((xs.take (i+1)).map f)):=by
 have hm:f xs[i]∈xs.map f:=List.mem_map_of_mem (jf hi)
 have hn:f xs[i]∉(xs.take i).map f:=by
  intro hx;have hs:xs.map f=(xs.take i).map f++(f xs[i]::(xs.drop (i+1)).map f):=by rw[<-ke,<-za,List.getElem_cons_drop hi,zb]
  have:=h.1;rw[hs,List.nodup_append]at this;exact this.2.2 _ hx _ (by simp) rfl
 obtain⟨h1,h2⟩:=YI hn;simp only[j5N,h.2 _ hm,j4,jl,j7,h1,h2];rw[kq,jk hi,za];rfl
abbrev bn:=List (Int×Int)
def fR(l:bn)(i:Nat):Int:=(l.getD i (0,0)).1
def ba(o:Int)(l:bn)(i:Nat):Int:=if i=0 then o else (l.getD (i-1) (0,0)).2
def aO(l:bn)(i:Nat):Int:=if i=0 then 0 else if i<=l.length then fR l (i-1) else 8589934593
structure gW(o:Int)(l:bn):Prop where
 len:l.length<=1000
 gap:∀i,i+1<l.length->fR l i+604800<=fR l (i+1)
 pos:∀i,i<l.length->1000000<fR l i
 max:∀i,i<l.length->fR l i<=8589000000
 of0:∀i,i<=l.length -> -64800<=ba o l i
 of1:∀i,i<=l.length->ba o l i<=64800
section
variable{o:Int}{l:bn}(h:gW o l)
include h
theorem gW.at_lt:∀(k i:Nat),i+k+1<l.length->fR l i+604800<=fR l (i+k+1)
 |0,i,hk=>h.gap i hk
 |k+1,i,hk=>by
  have h1:=gW.at_lt k i (by omega);have h2:=h.gap (i+k+1) (by omega);rw[show i+(k+1)+1=i+k+1+1 by omega];omega
theorem gW.at_le{i j:Nat}(dF:i<j)(hj:j<l.length):fR l i+604800<=fR l j:=by
 have:=h.at_lt (j-i-1) i (by omega);rwa[show i+(j-i-1)+1=j by omega]at this
omit h in
theorem ov:aO l 0=0:=rfl
omit h in
theorem jM{i:Nat}(hi:i<l.length):aO l (i+1)=fR l i:=by
 unfold aO;rw[if_neg (Nat.succ_ne_zero i),if_pos (show i+1<=l.length by omega)];rfl
omit h in
theorem mQ:aO l (l.length+1)=8589934593:=by
 unfold aO;rw[if_neg (Nat.succ_ne_zero _),if_neg (show¬l.length+1<=l.length by omega)]
theorem gW.frm_lt{i:Nat}(hi:i<=l.length):aO l i<aO l (i+1):=by
 rcases qx i l.length with hl|hl
 .rw[jM hl];cases i with
  |zero=>rw[ov];exact(by have:=h.pos 0 hl;omega)
  |succ i=>rw[jM (by omega)];have:=h.gap i hl;omega
 .have:i=l.length:=by omega
  subst this;rw[mQ];cases hq:l.length with
  |zero=>rw[ov];omega
  |succ n=>rw[jM (by omega)];have:=h.max n (by omega);omega
theorem gW.frm_le{i j:Nat}(dF:i<=j)(hj:j<=l.length+1):aO l i<=aO l j:=by
 induction j with
 |zero=>
  have:i=0:=by omega
  subst this;omega
 |succ j ih=>
  by_cases he:i=j+1
  .subst he;omega
  .have h1:=ih (by omega) (by omega);have h2:=h.frm_lt (i:=j) (by omega);omega
theorem QA{t:Int}{k:Nat}(hk:k<=l.length)(iu:∀i,i<k->fR l i<=t)(ig:∀i,k<=i->i<l.length->t<fR l i) :
  ∀(n:Nat)(a b:Nat),b-a<=n->a<=k->k<=b->b<=l.length->Ix o l t (a:Int) (b:Int)=some (k:Int)
 |0,a,b,hn,ha,hb,uB=>by
  rw[WQ];simp only[j2L,ah (show¬(a:Int)<(b:Int) by omega),j7,aW];congr 1;omega
 |n+1,a,b,hn,ha,hb,uB=>by
  have hlen:=h.len;rw[WQ];by_cases bG:a<b
  .have hm:IntKind.wrap .u64 ((a:Int)+(b:Int))=(a:Int)+(b:Int):=IntWalk.u64_in _ ⟨by omega,by omega⟩;have hd:Int.fdiv ((a:Int)+(b:Int)) 2=(((a+b)/2:Nat):Int):=by rw[Int.fdiv_eq_ediv_of_nonneg _ (by omega)];omega
   simp only[j2L,ag (show (a:Int)<(b:Int) by omega),j6];rw[im (x:=(a:Int)+(b:Int)) (by omega) (by omega),hm,hd,im (x:=(((a+b)/2:Nat):Int)) (by omega) (by omega)];simp only[j8x];rw[cw (by omega) (by omega)];simp only[j6,j4,j8];by_cases hc:fR l ((a+b)/2)>t
   .rw[ag (show (l.getD ((a+b)/2) ((0:Int),(0:Int))).1>t from hc)];simp only[jl,j7,aK]
    have rY:k<=(a+b)/2:=by
     rcases qx ((a+b)/2) k with h'|h'
     .have:=iu _ h';omega
     .exact h'
    exact QA hk iu ig n a ((a+b)/2) (by omega) ha rY (by omega)
   .rw[ah (show¬(l.getD ((a+b)/2) ((0:Int),(0:Int))).1>t from hc)];simp only[ka,j6,aK];rw[im (by omega) (by omega)]
    have rY:(a+b)/2<k:=by
     rcases qx ((a+b)/2) k with h'|h'
     .exact h'
     .have:=ig _ h' (by omega);omega
    exact QA hk iu ig n ((a+b)/2+1) b (by omega) (by omega) hb uB
  .simp only[j2L,ah (show¬(a:Int)<(b:Int) by omega),j7,aW];congr 1;omega
theorem QB{t:Int}{k:Nat}(hk:k<=l.length)(h1:aO l k<=t)(h2:t<aO l (k+1)):j6c (o,l) t=some (k:Int):=by
 have iu:∀i,i<k->fR l i<=t:=by
  intro i hi;have:aO l k=fR l (k-1):=by have:=jM (l:=l) (i:=k-1) (by omega);rwa[show k-1+1=k by omega]at this
  rw[this]at h1;by_cases he:i=k-1
  .subst he;exact h1
  .have:=h.at_le (i:=i) (j:=k-1) (by omega) (by omega);omega
 have ig:∀i,k<=i->i<l.length->t<fR l i:=by
  intro i hi hl;have:aO l (k+1)=fR l k:=jM (by omega);rw[this]at h2;by_cases he:i=k
  .subst he;exact h2
  .have:=h.at_le (i:=k) (j:=i) (by omega) hl;omega
 have:=QA h hk iu ig l.length 0 l.length (by omega) (by omega) hk (by omega);simp only[j6c,jip,show Int.ofNat (List.length l)=(l.length:Int) from rfl];rw[show (0:Int)=((0:Nat):Int) from rfl,this];rfl
theorem QC{k:Nat}(hk:k<=l.length):j3X (o,l) (k:Int)=some (ba o l k):=by
 have hlen:=h.len;unfold ba;by_cases h0:k=0
 .subst h0;rfl
 .simp only[j3X];rw[bW (show (k:Int)≠0 by omega),j7,im (by omega) (by omega),cw (by omega) (by omega),show ((k:Int)-1).toNat=k-1 by omega,if_neg h0];rfl
theorem jyD{t:Int}{k:Nat}(hk:k<=l.length)(h1:aO l k<=t)(h2:t<aO l (k+1)):j7t (o,l) t=some (ba o l k):=by
 simp only[j7t,QB h hk h1 h2,j4,QC h hk]
theorem pQ{t:Int}(h0:0<=t)(h1:t<=8589934592):∃k,k<=l.length/\aO l k<=t/\t<aO l (k+1):=by
 have _:=h
 have:∀n,n<=l.length+1->t<aO l n->∃k,k<n/\aO l k<=t/\t<aO l (k+1):=by
  intro n;induction n with
  |zero=>intro _ hn;have:aO l 0=0:=rfl;omega
  |succ n ih=>
   intro hn ak;by_cases hc:aO l n<=t
   .exact⟨n,by omega,hc,ak⟩
   .obtain⟨k,a1,a2,a3⟩:=ih (by omega) (by omega);exact⟨k,by omega,a2,a3⟩
 have cU:aO l (l.length+1)=8589934593:=mQ;obtain⟨k,a1,a2,a3⟩:=this (l.length+1) (by omega) (by omega);exact⟨k,by omega,a2,a3⟩
def pc(o:Int)(l:bn)(i:Nat):Int×(Int×Int):=(aO l i,(aO l (i+1),ba o l i))
def rf(o:Int)(l:bn)(n:Nat):List (Int×(Int×Int)):=(List.range n).map (pc o l)
omit h in
theorem YJ(n:Nat):rf o l (n+1)=rf o l n++[pc o l n]:=by simp[rf,List.range_succ]
omit h in
theorem Aa(n:Nat):(rf o l n).length=n:=by simp[rf]
omit h in
theorem QD{n i:Nat}(hi:i<n):(rf o l n).getD i ((0:Int),((0:Int),(0:Int)))=pc o l i:=by
 simp[rf,List.getD,hi]
theorem YK:∀(n k:Nat),k+n=l.length+1->BT (aO l k) 8589934593 o l (rf o l k)=some (rf o l (l.length+1))
 |0,k,hk=>by
  have cU:aO l k=8589934593:=by rw[show k=l.length+1 by omega];exact mQ
  rw[BU,cU];simp only[j0s];rw[ah (by omega),j7,aW,show k=l.length+1 by omega]
 |n+1,k,hk=>by
  have hlen:=h.len;have ia:k<=l.length:=by omega
  have ak:=h.frm_lt ia;have hle:=h.frm_le (i:=k+1) (j:=l.length+1) (by omega) (by omega);have cU:aO l (l.length+1)=8589934593:=mQ;have ih:=YK n (k+1) (by omega);rw[BU];simp only[j0s];rw[ag (show aO l k<8589934593 by omega),QB h ia (by omega) ak];simp only[j6,j4,show Int.ofNat (List.length l)=(l.length:Int) from rfl,QC h ia];by_cases sH:k<l.length
  .rw[ag (show (k:Int)<(l.length:Int) by omega),cw (by omega) (by omega)];simp only[j6,j8];have iR:(if (l.getD k ((0:Int),(0:Int))).1<8589934593 then (l.getD k ((0:Int),(0:Int))).1 else 8589934593)=aO l (k+1):=by have hf:aO l (k+1)=fR l k:=jM sH;have:=h.max k sH;rw[hf,if_pos (show (l.getD k ((0:Int),(0:Int))).1<8589934593 by show fR l k<_;omega)];rfl
   rw[iR,ag (by rw[Aa];simp[aN];omega)];simp only[j6,aK];rw[YJ]at ih;exact ih
  .rw[ah (show¬(k:Int)<(l.length:Int) by omega)];simp only[j7];rw[ag (by rw[Aa];simp[aN];omega)];simp only[j6,aK];have bK:k=l.length:=by omega
   rw[YJ]at ih;unfold pc at ih;rw[show k+1=l.length+1 by omega,cU]at ih;exact ih
theorem YL:j1D (o,l) 0 8589934593=some (rf o l (l.length+1)):=by
 have:=YK h (l.length+1) 0 (by omega);simp only[j1D];rw[show BT 0 8589934593 o l []=_ from this];rfl
def sJ(o:Int)(l:bn)(s:Int)(i:Nat):Prop:=aO l i<=s-ba o l i/\s-ba o l i<aO l (i+1)
instance(o:Int)(l:bn)(s:Int)(i:Nat):Decidable (sJ o l s i):=by unfold sJ;infer_instance
omit h in
theorem QE{d c:Int}(hd : -1000000<=d)(gZ:d<=1000000)(hc : -86400<=c)(fg:c<=172800):j3V (d,c)=some (d*86400+c):=by
 simp only[j3V];rw[if_neg (show¬(-1048576:Int)>d by omega),if_neg (show¬(1048576:Int)<d by omega),im (x:=d*86400) (by omega) (by omega),im (by omega) (by omega)]
theorem YM{d c:Int}(hd : -1000000<=d)(gZ:d<=1000000)(hc : -86400<=c)(fg:c<=172800){k:Nat}(hk:k<=l.length)(hks:d*86400+c-ba o l k<aO l (k+1))(vB:∀j,j<k->aO l (j+1)<=d*86400+c-ba o l j) :
  ∀(n i:Nat),i+n=k->EF ((l.length+1:Nat):Int) (i:Int) d c (rf o l (l.length+1))=some (.inl (max (aO l k) (d*86400+c-ba o l k),true))
 |0,i,hi=>by
  have hlen:=h.len;have:i=k:=by omega
  subst this;have o1:=h.of0 i hk;have o2:=h.of1 i hk;have ak:=h.frm_lt hk;rw[Iy];simp only[j18];rw[ag (show (i:Int)<((l.length+1:Nat):Int) by omega),cw (by omega) (by rw[Aa];omega)];simp only[j6,j8,QD (show i<l.length+1 by omega),QE hd gZ hc fg,j4,pc];rw[im (x:=d*86400+c-ba o l i) (by omega) (by omega)];have hm:(if d*86400+c-ba o l i>aO l i then d*86400+c-ba o l i else aO l i)=max (aO l i) (d*86400+c-ba o l i):=by split<;>omega
  rw[hm,ag (by omega),j6,aW]
 |n+1,i,hi=>by
  have hlen:=h.len;have kZ:i<=l.length:=by omega
  have o1:=h.of0 i kZ;have o2:=h.of1 i kZ;have hb:=vB i (by omega);rw[Iy];simp only[j18];rw[ag (show (i:Int)<((l.length+1:Nat):Int) by omega),cw (by omega) (by rw[Aa];omega)];simp only[j6,j8,QD (show i<l.length+1 by omega),QE hd gZ hc fg,j4,pc];rw[im (x:=d*86400+c-ba o l i) (by omega) (by omega),im (x:=(i:Int)+1) (by omega) (by omega)];have hm:(if d*86400+c-ba o l i>aO l i then d*86400+c-ba o l i else aO l i)=max (aO l i) (d*86400+c-ba o l i):=by split<;>omega
  rw[hm,ah (by omega),j7,aK];exact YM hd gZ hc fg hk hks vB n (i+1) (by omega)
theorem jAP{d c:Int}(hd : -1000000<=d)(gZ:d<=1000000)(hc : -86400<=c)(fg:c<=172800){k:Nat}(hk:k<=l.length)(hks:d*86400+c-ba o l k<aO l (k+1))(vB:∀j,j<k->aO l (j+1)<=d*86400+c-ba o l j) :
  j2w (o,l) (d,c)=some (max (aO l k) (d*86400+c-ba o l k),true):=by
 have:=YM h hd gZ hc fg hk hks vB k 0 (by omega);simp only[j2w,YL h,j4,Aa,show Int.ofNat (List.length l+1)=((l.length+1:Nat):Int) from rfl];rw[show (0:Int)=((0:Nat):Int) from rfl,this];rfl
omit h in
theorem jAQ{n:Int}(h1 : -1000000000000<=n)(h2:n<=1000000000000):jhr n=some (n/86400,n%86400):=by
 obtain⟨e,p1,p2,p3,p4⟩:=FQ n 86400 (by omega);simp only[jhr];rw[im (x:=Int.tdiv n 86400) (by omega) (by omega)];by_cases hm:Int.tmod n 86400<0
 .rw[ag hm,j6,im (x:=Int.tdiv n 86400-1) (by omega) (by omega),im (x:=(Int.tdiv n 86400-1)*86400) (by omega) (by omega),im (by omega) (by omega)];have:n/86400=Int.tdiv n 86400-1:=by omega
  congr 2
  .omega
  .omega
 .rw[ah hm,j7,im (x:=Int.tdiv n 86400*86400) (by omega) (by omega),im (by omega) (by omega)];congr 2
  .omega
  .omega
theorem Cb{t:Int}{k:Nat}(hk:k<=l.length)(h1:aO l k<=t)(h2:t<aO l (k+1)):j1p (o,l) t=some ((t+ba o l k)/86400,(t+ba o l k)%86400):=by
 have o1:=h.of0 k hk;have o2:=h.of1 k hk;have g1:0<=aO l k:=by have:=h.frm_le (i:=0) (j:=k) (by omega) (by omega);have e:aO l 0=0:=rfl;omega
 have cU:aO l (l.length+1)=8589934593:=mQ;have g2:=h.frm_le (i:=k+1) (j:=l.length+1) (by omega) (by omega);simp only[j1p,jyD h hk h1 h2,j4];rw[im (x:=t+ba o l k) (by omega) (by omega),jAQ (by omega) (by omega)];rfl
end
def ml(x:Int×Int):bn->bn
 |[]=>[x]
 |y::ys=>if x.1<y.1 then y::ml x ys else x::y::ys
def lb:bn->bn->bn
 |[],acc=>acc
 |x::xs,acc=>lb xs (ml x acc)
def ff(l:bn):bn:=(lb l []).reverse
theorem FV(x:Int×Int):∀l,(ml x l).length=l.length+1
 |[]=>rfl
 |y::ys=>by unfold ml;split<;>simp[FV x ys]
theorem FW:∀(l acc:bn),(lb l acc).length=l.length+acc.length
 |[],acc=>by simp[lb]
 |x::xs,acc=>by simp only[lb,FW xs,FV,jm];omega
def Sm(l:bn):Prop:=∀x∈l, -1000000000000<=x.1/\x.1<=1000000000000
theorem YN{x:Int×Int}(hx : -1000000000000<=x.1/\x.1<=1000000000000):∀{l:bn},Sm l->Sm (ml x l)
 |[],_=>λy hy=>by simp[ml]at hy;subst hy;exact hx
 |z::zs,h=>by
  unfold ml;split
  .intro y hy;rcases je.1 hy with rfl|hy
   .exact h _ (by simp)
   .exact YN hx (l:=zs) (λw hw=>h w (by simp[hw])) y hy
  .intro y hy;rcases je.1 hy with rfl|hy
   .exact hx
   .exact h y hy
theorem jD5(rp mid:bn)(x:Int×Int):(rp.reverse++x::mid).getD rp.length (0,0)=x:=by
 rw[List.getD_eq_getElem?_getD,kj (by simp)];simp
theorem YO(n s8:Int)(x:Int×Int)(hx : -1000000000000<=x.1/\x.1<=1000000000000):∀(rp mid:bn),Sm rp->rp.length+mid.length<=1000->
  Ik 0 n s8 (rp.length:Int) (rp.reverse++x::mid)=some (0,n,s8,(ml x rp).reverse++mid)
 |[],mid,_,_=>by
  rw[Wr];simp only[j0e];rw[ah (by simp),j7,aW];rfl
 |y::ys,mid,re,hlen=>by
  have hy:=re y (by simp);have hL:((y::ys).reverse++x::mid).length=ys.length+1+(mid.length+1):=by simp;omega
  simp only[jm]at hlen;rw[Wr];simp only[j0e,jm];rw[ag (show ((ys.length+1:Nat):Int)>0 by omega),cw (by omega) (by rw[hL];omega),ai (x:=((ys.length+1:Nat):Int)-1),cw (by omega) (by rw[hL];omega)];simp only[j6,j8];have g1:((y::ys).reverse++x::mid).getD (ys.length+1) ((0:Int),(0:Int))=x:=jD5 (y::ys) mid x;have g2:((y::ys).reverse++x::mid).getD ((((ys.length+1:Nat):Int)-1).toNat) ((0:Int),(0:Int))=y:=by rw[show (((ys.length+1:Nat):Int)-1).toNat=ys.length by omega];simp
  rw[g1,g2];simp only[j8w,j4];rw[ai (x:=x.1-y.1)];by_cases hc:x.1<y.1
  .rw[ag (show x.1-y.1<0 by omega)];have jT:List.set (List.set ((y::ys).reverse++x::mid) (ys.length+1) (y.1,y.2)) ((((ys.length+1:Nat):Int)-1).toNat) (x.1,x.2)=ys.reverse++x::(y::mid):=by rw[show (((ys.length+1:Nat):Int)-1).toNat=ys.length by omega];simp
   rw[cw (by omega) (by rw[vq,hL];omega)];simp only[j6,aK,jT];have he:=YO n s8 x hx ys (y::mid) (λz hz=>re z (by simp[hz])) (by simp;omega);rw[show ((ys.length+1:Nat):Int)-1=(ys.length:Int) by omega,he];simp[ml,hc]
  .rw[ah (show¬x.1-y.1<0 by omega)];simp only[j7,aW];simp[ml,hc]
theorem YP:∀(xs rp:bn),Sm rp->Sm xs->rp.length+xs.length<=1000->
  Il 0 ((rp.length+xs.length:Nat):Int) (rp.length:Int) (rp.reverse++xs)=some (lb xs rp).reverse
 |[],rp,_,_,_=>by
  rw[Nx];simp only[j0f];rw[ah (by simp),j7,aW];simp[lb]
 |x::xs,rp,hr,hx,hlen=>by
  have YQ:=hx x (by simp);simp only[jm]at hlen;have he:=YO ((rp.length+(x::xs).length:Nat):Int) (rp.length:Int) x YQ rp xs hr (by omega);have ih:=YP xs (ml x rp) (YN YQ hr) (λz hz=>hx z (by simp[hz])) (by rw[FV];omega);rw[FV]at ih;rw[Nx];simp only[j0f];rw[ag (by simp only[jm];omega),he];simp only[j6,j4,lb];rw[show rp.length+1+xs.length=rp.length+(x::xs).length by simp;omega]at ih;rw[ai,aK];exact ih
theorem jqi{l:bn}(hs:Sm l)(hl:l.length<20):j0j l=some (ff l):=by
 have Ab:j0l l 0 (l.length:Int)=some (ff l):=by
  simp only[j0l];cases l with
  |nil=>rw[Nx];rfl
  |cons x xs=>have:=YP xs [x] (λz hz=>by simp at hz;subst hz;exact hs _ (by simp)) (λz hz=>hs z (by simp[hz])) (by simp at hl ⊢;omega);rw[show w64 (0+1)=(([x]:bn).length:Int) from rfl,show ((x::xs).length:Int)=(([x].length+xs.length:Nat):Int) by simp;omega];rw[show (x::xs)=[x].reverse++xs from rfl,this];rfl
 have e0:Im (l.length:Int) 20 0 20 l=some ((l.length:Int),20,0,l):=by rw[j68];simp only[j0D];rw[ah (by omega),j7,aW]
 have e2:Io (l.length:Int) 20 (ff l)=some (ff l):=by rw[j69];simp only[j0E];rw[ah (by omega),j7,aW]
 simp only[j0j,j1S,show Int.ofNat (List.length l)=(l.length:Int) from rfl,e0,j4,Ab,e2]
def vC(y:Int):Bool:=decide (y%4=0)&&(!decide (y%100=0)||decide (y%400=0))
def jZ(y:Int):Int:=if y%4=0/\(y%100≠0\/y%400=0) then 1 else 0
theorem QF(y:Int):vC y=true↔y%4=0/\(y%100≠0\/y%400=0):=by simp[vC]
theorem YR(y:Int):jZ y=if vC y then 1 else 0:=by
 unfold jZ;by_cases h:vC y=true
 .rw[if_pos ((QF y).1 h),if_pos h]
 .rw[if_neg (λh'=>h ((QF y).2 h')),if_neg h]
theorem JC(y:Int):0<=jZ y/\jZ y<=1:=by unfold jZ;split<;>omega
def fT(y m:Int):Int:=
 if m<1\/12<m then 0 else if m=2 then 28+jZ y else if m=4\/m=6\/m=9\/m=11 then 30 else 31
def jN(y:Int):Int:=365*(y-1970)+(y-1)/4-(y-1)/100+(y-1)/400-477
def mm(y m:Int):Int:=
 if m<=1 then 0 else if m=2 then 31 else if m=3 then 59+jZ y else if m=4 then 90+jZ y else if m=5 then 120+jZ y else if m=6 then 151+jZ y
 else if m=7 then 181+jZ y else if m=8 then 212+jZ y else if m=9 then 243+jZ y else if m=10 then 273+jZ y else if m=11 then 304+jZ y else if m=12 then 334+jZ y else 365+jZ y
def num(y m d:Int):Int:=jN y+mm y m+d-1
theorem jAR(y:Int):jN (y+1)=jN y+365+jZ y:=by
 unfold jN jZ;split<;>omega
theorem QG{a b:Int}(h:a<=b):jN a+365*(b-a)<=jN b:=by unfold jN;omega
theorem QH(y m:Int)(h1:1<=m)(h2:m<=12):mm y (m+1)=mm y m+fT y m:=by
 obtain rfl|rfl|rfl|rfl|rfl|rfl|rfl|rfl|rfl|rfl|rfl|rfl:m=1\/m=2\/m=3\/m=4\/m=5\/m=6\/m=7\/m=8\/m=9\/m=10\/m=11\/m=12:=by omega
 all_goals (simp[mm,fT];try omega)
theorem sK(y m:Int):0<=fT y m/\fT y m<=31:=by
 have:=JC y;unfold fT;repeat' split;all_goals omega
theorem FX(y m:Int)(h1:1<=m)(h2:m<=12):28<=fT y m:=by
 have:=JC y;unfold fT;rw[if_neg (by omega)];repeat' split;all_goals omega
theorem YS(y m:Int):0<=mm y m/\mm y m<=366:=by
 have:=JC y;unfold mm;omega
theorem YT(y:Int):jkp y=some (vC y):=by
 have e:(cond (Int.tmod y 4==(0:Int)) (cond (Int.tmod y 100 != (0:Int)) true (Int.tmod y 400==(0:Int))) false)=vC y:=by unfold bne;rw[FT,FT,FT,zr,QF];by_cases h1:y%4=0<;>by_cases h2:y%100=0<;>by_cases h3:y%400=0<;>simp[h1,h2,h3]
 exact jq some e
theorem QI(y m:Int):j7q y m=some (fT y m):=by
 by_cases h:m<1\/12<m
 .have hc:cond (decide (m<(1:Int))) true (decide (m>(12:Int)))=true:=by rcases h with h|h<;>by_cases h1:m<1<;>simp[h1]<;>omega
  have:fT y m=0:=if_pos h;rw[this];unfold j7q;rw[hc];rfl
 .obtain rfl|rfl|rfl|rfl|rfl|rfl|rfl|rfl|rfl|rfl|rfl|rfl:m=1\/m=2\/m=3\/m=4\/m=5\/m=6\/m=7\/m=8\/m=9\/m=10\/m=11\/m=12:=by omega
  case inr.inl=>simp only[j7q,YT,fT,YR,j4];cases vC y<;>rfl
  all_goals rfl
theorem jAS(y m d:Int):jc3 (y,m,d)=some (decide (1970<=y/\y<=2240/\1<=d/\d<=fT y m)):=by
 simp only[jc3,QI,j4];by_cases h1:1970<=y<;>by_cases h2:y<=2240<;>by_cases h3:1<=d<;>simp[h1,h2,h3]
theorem QJ(a b:Int)(hb:0<b)(h1 : -1000000000000<=a)(h2:a<=1000000000000):j8v a b=some (a/b):=by
 have fW:(b==0)=false:=by simp;omega
 obtain⟨e,p1,p2,p3,p4⟩:=FQ a b hb
 have hq : -1000000000000<=Int.tdiv a b/\Int.tdiv a b<=1000000000000:=by
  rcases Int.le_total 0 a with h|h
  .have h0:0<=a/b:=yo h (by omega);have h3:a/b<=a:=ye b h;rw[sG h];omega
  .have h0:0<=(-a)/b:=yo (by omega) (by omega);have h3:(-a)/b <= -a:=ye b (by omega);have h4:Int.tdiv (-a) b=(-a)/b:=sG (by omega);rw[Int.neg_tdiv]at h4;omega
 simp only[j8v,fW,ka,j6];rw[ai (x:=Int.tdiv a b)];by_cases hm:Int.tmod a b<0
 .rw[ag hm,j6,ai];congr 1
  have:a/b=Int.tdiv a b-1:=by
   have h3:a=(a.tmod b+b)+b*(Int.tdiv a b-1):=by rw[Int.mul_sub];omega
   rw[h3,Int.add_mul_ediv_left _ _ (by omega),Int.ediv_eq_zero_of_lt (by omega) (by omega)];rw[<-h3];omega
  omega
 .rw[ah hm,j7];congr 1;have h3:a=a.tmod b+b*Int.tdiv a b:=by omega
  have:a/b=Int.tdiv a b:=by
   conv=>lhs;rw[h3]
   rw[Int.add_mul_ediv_left _ _ (by omega),Int.ediv_eq_zero_of_lt (by omega) (by omega)];omega
  omega
theorem jAT(y:Int)(h1 : -1000000000<=y)(h2:y<=1000000000):j50 y=some (jN y):=by
 simp only[j50];rw[ai (x:=y-1),ai (x:=y-1970),QJ _ 4 (by omega) (by omega) (by omega),QJ _ 100 (by omega) (by omega) (by omega),QJ _ 400 (by omega) (by omega) (by omega)];simp only[j4];simp (disch:=omega) only[im];rfl
theorem YU(y m d:Int)(hm:m<=13):∀(n:Nat)(s k:Int),1<=k->k+n=m -> -1000000000000<=s->s+31*n<=1000000000000->Ij s k y m d=some (s+mm y m-mm y k)
 |0,s,k,hk,hn,_,_=>by
  rw[Wq];have:k=m:=by omega
  subst this;simp only[j3B,ah (show¬k<k by omega),j7,aW];congr 1;omega
 |n+1,s,k,hk,hn,h1,h2=>by
  rw[Wq];have hd:=sK y k;have hc:=QH y k hk (by omega);simp only[j3B,QI,j4,ag (show k<m by omega),j6,aK];rw[ai (x:=s+fT y k),ai (x:=k+1)];have ih:=YU y m d hm n (s+fT y k) (k+1) (by omega) (by omega) (by omega) (by omega);rw[ih];congr 1;omega
theorem jyF(y m d:Int)(h1 : -1000000<=y)(h2:y<=1000000)(fD:1<=m)(gL:m<=12)(oK : -1000000<=d)(gZ:d<=1000000):jd1 (y,m,d)=some (num y m d):=by
 have hb : -1000000000<=jN y/\jN y<=1000000000:=by unfold jN;omega
 simp only[jd1,jAT y (by omega) (by omega),j4];rw[ai (x:=jN y+d),ai,YU y m d (by omega) (m-1).toNat _ 1 (by omega) (by omega) (by omega) (by omega)];have:mm y 1=0:=rfl;simp only[j4,num];congr 1;omega
theorem YV(day:Int):j5U day=some ((Int.tmod day 7+10)%7):=by
 obtain⟨e,p1,p2,p3,p4⟩:=FQ day 7 (by omega);simp only[j5U];rw[ai,xg (by omega)]
theorem JD(day:Int)(_h : -3<=day):j5U day=some ((day+3)%7):=by
 rw[YV];congr 1;obtain⟨e,p1,p2,p3,p4⟩:=FQ day 7 (by omega);omega
def vD(y m d:Int):Prop:=1970<=y/\y<=2240/\1<=d/\d<=fT y m
instance(y m d:Int):Decidable (vD y m d):=by unfold vD;infer_instance
theorem QK{y m d:Int}(h:vD y m d):1<=m/\m<=12:=by
 obtain⟨_,_,h3,h4⟩:=h;by_cases hm:m<1\/12<m
 .have:fT y m=0:=if_pos hm;omega
 .omega
theorem jyG{y m d:Int}:decide (1970<=y/\y<=2240/\1<=d/\d<=fT y m)=decide (vD y m d):=rfl
theorem FY{y m d:Int}(h:vD y m d):0<=num y m d/\num y m d<98981:=by
 have hm:=QK h;obtain⟨h1,h2,h3,h4⟩:=h;have hc:=YS y m;have c1:=QG (a:=1970) (b:=y) (by omega);have c2:=QG (a:=y) (b:=2240) (by omega);have e1:jN 1970=0:=by decide
 have hd:=sK y m;have e2:jN 2240=98615:=by decide
 have dE:mm y m+fT y m<=365+jZ y:=by
  have:=QH y m hm.1 hm.2;have:mm y (m+1)<=365+jZ y:=by have:=JC y;unfold mm;omega
  omega
 have c3:=jAR y;have c4:=QG (a:=y+1) (b:=2241) (by omega);have e3:jN 2241=98981:=by decide
 unfold num;omega
def nth(y m k w:Int):Int:=
 let d:=num y m 1+(w-(num y m 1+3)%7+7)%7+7*(k-1)
 if d>=num y m 1+fT y m then d-7 else d
theorem FZ(y m:Int)(h1:1970<=y)(h2:y<=2240)(fD:1<=m)(gL:m<=12):vD y m 1:=⟨h1,h2,by omega,by have:=FX y m fD gL;omega⟩
theorem jEn(y m k w:Int)(h1:1970<=y)(h2:y<=2240)(fD:1<=m)(gL:m<=12)(dJ:1<=k)(ga:k<=5)(hw1:0<=w)(BG:w<=6):jjm y m k w=some (nth y m k w,0):=by
 have hv:=FZ y m h1 h2 fD gL;have hr:=FY hv;have hd:=sK y m;have QL:jc3 (y,m,1)=some true:=by rw[jAS,jyG,yq hv]
 simp only[jjm,QL,j4,jl,j7];rw[ah (show¬k<1 by omega),ah (show¬k>5 by omega),ah (show¬w<0 by omega),ah (show¬w>6 by omega)];simp only[j7,jyF y m 1 (by omega) (by omega) fD gL (by omega) (by omega),j4,JD _ (show -3<=num y m 1 by omega),QI];generalize hn:num y m 1=n at *;have hm7:0<=(n+3)%7/\(n+3)%7<=6:=by omega
 rw[ai (x:=w-(n+3)%7),ai (x:=w-(n+3)%7+7),xg (show 0<=w-(n+3)%7+7 by omega)];rw[ai (x:=k-1),ai (x:=7*(k-1))];rw[ai (x:=n+(w-(n+3)%7+7)%7),ai (x:=n+(w-(n+3)%7+7)%7+7*(k-1)),ai (x:=n+fT y m)];unfold nth;simp only[hn];by_cases hc:n+(w-(n+3)%7+7)%7+7*(k-1)>=n+fT y m
 .rw[ag hc,j6,if_pos hc,ai]
 .rw[ah hc,j7,if_neg hc]
def dD(l:List Int)(a:Int):Prop:=0<=a/\a<=(l.length:Int)/\l.length<=1000000
theorem dj{l:List Int}{a n:Int}(h:dD l a)(hn:1<=n)(DS:n<=1000000000000):∃x a',j07 l a n=some (x,l,a')/\0<=x/\x<n/\dD l a':=by
 obtain⟨h1,h2,h3⟩:=h;simp only[j07,show Int.ofNat (List.length l)=(l.length:Int) from rfl];by_cases ha:a>=(l.length:Int)
 .rw[ag ha,j6];exact⟨0,a,rfl,by omega,by omega,h1,h2,h3⟩
 .rw[ah ha,j7,ah (show¬n<1 by omega),j7,cw h1 (by omega),j6,bW (show n≠0 by omega)];obtain⟨e,p1,p2,p3,p4⟩:=FQ (l.getD a.toNat 0) n (by omega);rw[ai (x:=a+1)];simp only[ka,j6];by_cases ht:Int.tmod (l.getD a.toNat 0) n<0
  .rw[ag ht,j6,ai];exact⟨_,_,rfl,by omega,by omega,by omega,by omega,h3⟩
  .rw[ah ht,j7];exact⟨_,_,rfl,by omega,by omega,by omega,by omega,h3⟩
theorem ow{l:List Int}{a:Int}(h:dD l a){xs:List Int}(uj:0<xs.length)(pF:xs.length<=1000000):∃x a',j0W l a xs=some (x,l,a')/\x∈xs/\dD l a':=by
 obtain⟨x,a',e,h1,h2,h3⟩:=dj (n:=(xs.length:Int)) h (by omega) (by omega);simp only[j0W,show Int.ofNat (List.length xs)=(xs.length:Int) from rfl,e,j4];rw[cw h1 (by omega),j6];have ak:x.toNat<xs.length:=by omega
 refine⟨_,_,rfl,?_,h3⟩;rw[List.getD_eq_getElem?_getD,jk ak];exact jf ak
end Go.Proofs.Pw
open Go Go.Lft
set_option linter.unusedVariables false
set_option maxRecDepth 100000
namespace Go.Proofs.Pw
noncomputable section
theorem jlx(N a b c d):OLe (@zL (il N) a b c d) (zL a b c d):=OLe.loop N _ λ_=>oR _
theorem JE(N a):OLe (@j6z (il N) a) (j6z a):=by
 unfold j6z;with_reducible repeat' (first|exact oR _|exact oN _|exact jlx N _ _ _ _|apply oC|apply oS|refine oB ?_ ?_|intro _)
theorem jiX(N a b c d):OLe (@Nr (il N) a b c d) (Nr a b c d):=OLe.loop N _ λ_=>oR _
theorem F0(N a b):OLe (@j1Y (il N) a b) (j1Y a b):=by
 unfold j1Y;with_reducible repeat' (first|exact oR _|exact oN _|exact jiX N _ _ _ _|apply oC|apply oS|refine oB ?_ ?_|intro _)
theorem jnX(N a b c d e f g h i):OLe (@BR (il N) a b c d e f g h i) (BR a b c d e f g h i):=OLe.loop N _ λ_=>oR _
theorem YW(N a):OLe (@jbt (il N) a) (jbt a):=by
 unfold jbt;with_reducible repeat' (first|exact oR _|exact oN _|exact JE N _|exact jnX N _ _ _ _ _ _ _ _ _|apply oC|apply oS|refine oB ?_ ?_|intro _)
theorem jn9(N a b):OLe (@Ns (il N) a b) (Ns a b):=OLe.loop N _ λ_=>oR _
theorem jsz(N a b):OLe (@jgw (il N) a b) (jgw a b):=by
 unfold jgw;with_reducible repeat' (first|exact oR _|exact oN _|exact jn9 N _ _|apply oC|apply oS|refine oB ?_ ?_|intro _)
theorem YX(N a b):OLe (@jef (il N) a b) (jef a b):=by
 unfold jef;with_reducible repeat' (first|exact oR _|exact oN _|exact jsz N _ _|apply oC|apply oS|refine oB ?_ ?_|intro _)
theorem jqo(N a b):OLe (@jeg (il N) a b) (jeg a b):=by
 unfold jeg;with_reducible repeat' (first|exact oR _|exact oN _|exact JE N _|exact F0 N _ _|exact YW N _|exact YX N _ _|apply oC|apply oS|refine oB ?_ ?_|intro _)
theorem jhM(N a b c d e f g h):OLe (@j5i (il N) a b c d e f g h) (j5i a b c d e f g h):=by
 unfold j5i;with_reducible repeat' (first|exact oR _|exact oN _|exact F0 N _ _|apply oC|apply oS|refine oB ?_ ?_|intro _)
theorem jna(N a b c d e f g h):OLe (@Nt (il N) a b c d e f g h) (Nt a b c d e f g h):=OLe.loop N _ λ_=>jhM N _ _ _ _ _ _ _ _
theorem jhN(N a b c d e f g h i):OLe (@j5j (il N) a b c d e f g h i) (j5j a b c d e f g h i):=by
 unfold j5j;with_reducible repeat' (first|exact oR _|exact oN _|exact F0 N _ _|apply oC|apply oS|refine oB ?_ ?_|intro _)
theorem jnb(N a b c d e f g h i):OLe (@Nu (il N) a b c d e f g h i) (Nu a b c d e f g h i):=OLe.loop N _ λ_=>jhN N _ _ _ _ _ _ _ _ _
theorem jsA(N a b):OLe (@jgz (il N) a b) (jgz a b):=by
 unfold jgz;with_reducible repeat' (first|exact oR _|exact oN _|exact JE N _|exact jna N _ _ _ _ _ _ _ _|exact jnb N _ _ _ _ _ _ _ _ _|exact YX N _ _|apply oC|apply oS|refine oB ?_ ?_|intro _)
theorem jgd(N a b c d e f):OLe (@j40 (il N) a b c d e f) (j40 a b c d e f):=by
 unfold j40;with_reducible repeat' (first|exact oR _|exact oN _|exact F0 N _ _|apply oC|apply oS|refine oB ?_ ?_|intro _)
theorem jkH(N a b c d e f):OLe (@Nv (il N) a b c d e f) (Nv a b c d e f):=OLe.loop N _ λ_=>jgd N _ _ _ _ _ _
theorem jnY(N a b):OLe (@jc1 (il N) a b) (jc1 a b):=by
 unfold jc1;with_reducible repeat' (first|exact oR _|exact oN _|exact JE N _|exact F0 N _ _|exact jkH N _ _ _ _ _ _|apply oC|apply oS|refine oB ?_ ?_|intro _)
theorem jqp(N):OLe (@j9O (il N) ) (j9O ):=by
 unfold j9O;with_reducible repeat' (first|exact oR _|exact oN _|exact jqo N _ _|exact jsA N _ _|exact jnY N _ _|exact YW N _|apply oC|apply oS|refine oB ?_ ?_|intro _)
theorem jly(N a b c):OLe (@zM (il N) a b c) (zM a b c):=OLe.loop N _ λ_=>oR _
theorem JF(N a):OLe (@j5l (il N) a) (j5l a):=by
 unfold j5l;with_reducible repeat' (first|exact oR _|exact oN _|exact jly N _ _ _|apply oC|apply oS|refine oB ?_ ?_|intro _)
theorem jlz(N a b):OLe (@Ny (il N) a b) (Ny a b):=OLe.loop N _ λ_=>oR _
theorem jqq(N a):OLe (@jei (il N) a) (jei a):=by
 unfold jei;with_reducible repeat' (first|exact oR _|exact oN _|exact jlz N _ _|apply oC|apply oS|refine oB ?_ ?_|intro _)
theorem jk1(N a b c d e f g):OLe (@Nz (il N) a b c d e f g) (Nz a b c d e f g):=OLe.loop N _ λ_=>oR _
theorem jnc(N a):OLe (@j4B (il N) a) (j4B a):=by
 unfold j4B;with_reducible repeat' (first|exact oR _|exact oN _|exact jqq N _|exact jk1 N _ _ _ _ _ _ _|apply oC|apply oS|refine oB ?_ ?_|intro _)
theorem jnZ(N a):OLe (@j0A (il N) a) (j0A a):=by
 unfold j0A;with_reducible repeat' (first|exact oR _|exact oN _|exact jnc N _|apply oC|apply oS|refine oB ?_ ?_|intro _)
abbrev jqr(N:Nat):=@j0A (il N)
end
theorem YY:j9O=some true:=jqp 60 true (by kernel_rfl)
end Go.Proofs.Pw
