/- Small facts on Go's Ff. -/
import Derived.Test.YtllkgjaoejhneaaGreatSELD
import Derived.Test.YtllkgjaoejhneaaGreatSEFns
import Derived.KernelRfl
open _root_ renaming Int->q,Nat->B,ByteArray->H,Decidable->L,List->M
open Int renaming tmod->r,tdiv->u,ofNat->F,ediv_eq_zero_of_lt->G,add_mul_ediv_left->I,neg_tmod->R
open Option renaming some->A
open List renaming length->D,getD_eq_getElem?_getD->E,set->W
open Bool renaming true->J,eq_iff_iff->O,false->S
open Go Go.Lft
namespace Go.Proofs.Pw
theorem Fg(a b:q)(hb:0<b):b*u a b+r a b=a/\(0<=a->0<=r a b)/\(a<=0->r a b<=0)/\r a b<b /\ -b<r a b:=by
 have h1:=Int.mul_tdiv_add_tmod a b;have h2:0<=a->0<=r a b:=λh=>ya b h
 have h3:a<=0->r a b<=0:=λh=>by
  have:=ya (a:= -a) b aa;rw[R]at this;omega
 have h4:=vd a hb;have h5 : -b<r a b:=by have:=vd (-a) hb;rw[R]at this;omega
 exact⟨h1,h2,h3,h4,h5⟩
theorem uz{a b:q}(ha:0<=a):u a b=a/b:=ze ha
theorem zL{a b:q}(ha:0<=a):r a b=a%b:=Int.tmod_eq_emod_of_nonneg ha
theorem PW(a b:q):(r a b==0)=(a%b==0):=by
 rw[O];simp only[va];rw[<-Int.dvd_iff_tmod_eq_zero,<-Int.dvd_iff_emod_eq_zero]
theorem ah{p:Prop}[L p](h:p):decide p=true:=decide_eq_true h
theorem ak{p:Prop}[L p](h:¬p):decide p=false:=decide_eq_false h
theorem fh{a b:q}(h:a=b):(a==b)=true:=by simp[h]
theorem cU{a b:q}(h:a≠b):(a==b)=false:=by simp[h]
theorem cb{i:q}{n:B}(h1:0<=i)(h2:i<n):inR i n=true:=by simp[inR,h1,h2]
theorem ar{x:q}(h1 : -9223372036854775808<=x:=by omega)(h2:x<=9223372036854775807:=by omega):w64 x=x:=ik h1 h2
theorem bP{i:q}{n:B}(h1:0<=i:=by omega)(h2:i<n:=by omega):inR i n=true:=cb h1 h2
def nH(ks:M H):M (H×Bool):=ks.map λk=>(k,J)
def Fh(ks:M H):Prop:=ks.Nodup/\∀k∈ks,jdx k=A J
theorem Xz{s:H}:∀{l:M H},s∉l->gS S (nH l) s=S/\iq (nH l) s J=nH (l++[s])
 |[],_=>⟨rfl,rfl⟩
 |k::l,h=>by
  simp only[jl,not_or]at h;obtain⟨h1,h2⟩:=Xz (l:=l) h.2;have hb:(s==k)=false:=qj.2 λhh=>h.1 ((MapKept.bytes_beq s k).1 hh);refine⟨?_,?_⟩
  .show cond (s==k) J (gS S (nH l) s)=S;rw[hb];exact h1
  .show cond (s==k) ((s,J)::nH l) ((k,J)::iq (nH l) s J)=_;rw[hb,jd,h2];rfl
abbrev bg:=M (q×q)
def dW(l:bg)(i:B):Int:=(l.getD i (0,0)).1
def bj(o:q)(l:bg)(i:B):Int:=if i=0 then o else (l.getD (i-1) (0,0)).2
def aS(l:bg)(i:B):Int:=if i=0 then 0 else if i<=l.length then dW l (i-1) else 8589934593
structure iD(o:q)(l:bg):Prop where
 len:l.length<=1000
 gap:∀i,i+1<l.length->dW l i+604800<=dW l (i+1)
 pos:∀i,i<l.length->1000000<dW l i
 max:∀i,i<l.length->dW l i<=8589000000
 of0:∀i,i<=l.length -> -64800<=bj o l i
 of1:∀i,i<=l.length->bj o l i<=64800
section
variable{o:q}{l:bg}(h:iD o l)
include h
theorem iD.at_lt:∀(k i:B),i+k+1<l.length->dW l i+604800<=dW l (i+k+1)
 |0,i,hk=>h.gap i hk
 |k+1,i,hk=>by
  have h1:=iD.at_lt k i aa;have h2:=h.gap (i+k+1) aa;rw[show i+(k+1)+1=i+k+1+1 by omega];omega
theorem iD.at_le{i j:B}(ee:i<j)(hj:j<l.length):dW l i+604800<=dW l j:=by
 have:=h.at_lt (j-i-1) i aa;rwa[show i+(j-i-1)+1=j by omega]at this
omit h in
theorem lD:aS l 0=0:=rfl
omit h in
theorem gE{i:B}(hi:i<l.length):aS l (i+1)=dW l i:=by
 unfold aS;rw[if_neg (Nat.succ_ne_zero i),if_pos (show i+1<=l.length by omega)];rfl
omit h in
theorem lE:aS l (l.length+1)=8589934593:=by
 unfold aS;rw[if_neg (Nat.succ_ne_zero _),if_neg (show¬l.length+1<=l.length by omega)]
theorem iD.frm_lt{i:B}(hi:i<=l.length):aS l i<aS l (i+1):=by
 rcases qx i l.length with hl|hl
 .rw[gE hl];cases i with
  |zero=>rw[lD];exact(by have:=h.pos 0 hl;omega)
  |succ i=>rw[gE aa];have:=h.gap i hl;omega
 .have:i=l.length:=aa;subst this;rw[lE];cases hq:l.length with
  |zero=>rw[lD];omega
  |succ n=>rw[gE aa];have:=h.max n aa;omega
theorem iD.frm_gap{i j:B}(hi:1<=i)(ee:i<j)(hj:j<=l.length):aS l i+604800<=aS l j:=by
 obtain⟨i,rfl⟩:∃i',i=i'+1:=⟨i-1,aa⟩;obtain⟨j,rfl⟩:∃j',j=j'+1:=⟨j-1,aa⟩;rw[gE aa,gE aa];exact h.at_le aa aa
theorem iD.frm_le{i j:B}(ee:i<=j)(hj:j<=l.length+1):aS l i<=aS l j:=by
 induction j with
 |zero=>have:i=0:=aa;subst this;omega
 |succ j ih=>
  by_cases he:i=j+1
  .subst he;omega
  .have h1:=ih aa aa;have h2:=h.frm_lt (i:=j) aa;omega
theorem PX{t:q}{k:B}(hk:k<=l.length)(iL:∀i,i<k->dW l i<=t)(iM:∀i,k<=i->i<l.length->t<dW l i) :
  ∀(n:B)(a b:B),b-a<=n->a<=k->k<=b->b<=l.length->Hw o l t (a:q) (b:q)=A (k:q)
 |0,a,b,hn,ha,hb,xI=>by
  rw[Vr];simp only[j2W,ak (show¬(a:q)<(b:q) by omega),jd,ba];congr 1;omega
 |n+1,a,b,hn,ha,hb,xI=>by
  have hlen:=h.len;rw[Vr];by_cases cX:a<b
  .have hm:IntKind.wrap .u64 ((a:q)+(b:q))=(a:q)+(b:q):=IntWalk.u64_in _ ⟨aa,aa⟩;have hd:Int.fdiv ((a:q)+(b:q)) 2=(((a+b)/2:B):q):=by rw[Int.fdiv_eq_ediv_of_nonneg _ aa];omega
   simp only[j2W,ah (show (a:q)<(b:q) by omega),jc];rw[ik (x:=(a:q)+(b:q)) aa aa,hm,hd,ik (x:=(((a+b)/2:B):q)) aa aa];simp only[j84];rw[cb aa aa];simp only[jc,ja,je];by_cases hc:dW l ((a+b)/2)>t
   .rw[ah (show (l.getD ((a+b)/2) ((0:q),(0:q))).1>t from hc)];simp only[jk,jd,aV]
    have rr:k<=(a+b)/2:=by
     rcases qx ((a+b)/2) k with h'|h'
     .have:=iL _ h';omega
     .exact h'
    exact PX hk iL iM n a ((a+b)/2) aa ha rr aa
   .rw[ak (show¬(l.getD ((a+b)/2) ((0:q),(0:q))).1>t from hc)];simp only[jv,jc,aV];rw[ik aa aa]
    have rr:(a+b)/2<k:=by
     rcases qx ((a+b)/2) k with h'|h'
     .exact h'
     .have:=iM _ h' aa;omega
    exact PX hk iL iM n ((a+b)/2+1) b aa aa hb xI
  .simp only[j2W,ak (show¬(a:q)<(b:q) by omega),jd,ba];congr 1;omega
theorem PY{t:q}{k:B}(hk:k<=l.length)(h1:aS l k<=t)(h2:t<aS l (k+1)):j5V (o,l) t=A (k:q):=by
 have iL:∀i,i<k->dW l i<=t:=by
  intro i hi;have:aS l k=dW l (k-1):=by have:=gE (l:=l) (i:=k-1) aa;rwa[show k-1+1=k by omega]at this
  rw[this]at h1;by_cases he:i=k-1
  .subst he;exact h1
  .have:=h.at_le (i:=i) (j:=k-1) aa aa;omega
 have iM:∀i,k<=i->i<l.length->t<dW l i:=by
  intro i hi hl;have:aS l (k+1)=dW l k:=gE aa;rw[this]at h2;by_cases he:i=k
  .subst he;exact h2
  .have:=h.at_le (i:=k) (j:=i) aa hl;omega
 have:=PX h hk iL iM l.length 0 l.length aa aa hk aa;simp only[j5V,jh3,show F (D l)=(l.length:q) from rfl];rw[show (0:q)=((0:B):q) from rfl,this];rfl
theorem PZ{k:B}(hk:k<=l.length):j4b (o,l) (k:q)=A (bj o l k):=by
 have hlen:=h.len;unfold bj;by_cases h0:k=0
 .subst h0;rfl
 .simp only[j4b];rw[cU (show (k:q)≠0 by omega),jd,ik aa aa,cb aa aa,show ((k:q)-1).toNat=k-1 by omega,if_neg h0];rfl
theorem jws{t:q}{k:B}(hk:k<=l.length)(h1:aS l k<=t)(h2:t<aS l (k+1)):j6X (o,l) t=A (bj o l k):=by
 simp only[j6X,PY h hk h1 h2,ja,PZ h hk]
theorem sT{t:q}(h0:0<=t)(h1:t<=8589934592):∃k,k<=l.length/\aS l k<=t/\t<aS l (k+1):=by
 have _:=h
 have:∀n,n<=l.length+1->t<aS l n->∃k,k<n/\aS l k<=t/\t<aS l (k+1):=by
  intro n;induction n with
  |zero=>intro _ hn;have:aS l 0=0:=rfl;omega
  |succ n ih=>
   intro hn au;by_cases hc:aS l n<=t
   .exact⟨n,aa,hc,au⟩
   .obtain⟨k,a1,a2,a3⟩:=ih aa aa;exact⟨k,aa,a2,a3⟩
 have cG:aS l (l.length+1)=8589934593:=lE;obtain⟨k,a1,a2,a3⟩:=this (l.length+1) aa aa;exact⟨k,aa,a2,a3⟩
def pc(o:q)(l:bg)(i:B):q×(q×q):=(aS l i,(aS l (i+1),bj o l i))
def pT(o:q)(l:bg)(n:B):M (q×(q×q)):=(List.range n).map (pc o l)
omit h in
theorem XA(n:B):pT o l (n+1)=pT o l n++[pc o l n]:=by simp[pT,List.range_succ]
omit h in
theorem zM(n:B):(pT o l n).length=n:=by simp[pT]
omit h in
theorem P0{n i:B}(hi:i<n):(pT o l n).getD i ((0:q),((0:q),(0:q)))=pc o l i:=by
 simp[pT,List.getD,hi]
theorem XB:∀(n k:B),k+n=l.length+1->BN (aS l k) 8589934593 o l (pT o l k)=A (pT o l (l.length+1))
 |0,k,hk=>by
  have cG:aS l k=8589934593:=by rw[show k=l.length+1 by omega];exact lE
  rw[BO,cG];simp only[j0y];rw[ak aa,jd,ba,show k=l.length+1 by omega]
 |n+1,k,hk=>by
  have hlen:=h.len;have iz:k<=l.length:=aa;have au:=h.frm_lt iz;have hle:=h.frm_le (i:=k+1) (j:=l.length+1) aa aa;have cG:aS l (l.length+1)=8589934593:=lE;have ih:=XB n (k+1) aa;rw[BO];simp only[j0y];rw[ah (show aS l k<8589934593 by omega),PY h iz aa au];simp only[jc,ja,show F (D l)=(l.length:q) from rfl,PZ h iz];by_cases rS:k<l.length
  .rw[ah (show (k:q)<(l.length:q) by omega),cb aa aa];simp only[jc,je];have iX:(if (l.getD k ((0:q),(0:q))).1<8589934593 then (l.getD k ((0:q),(0:q))).1 else 8589934593)=aS l (k+1):=by have hf:aS l (k+1)=dW l k:=gE rS;have:=h.max k rS;rw[hf,if_pos (show (l.getD k ((0:q),(0:q))).1<8589934593 by show dW l k<_;omega)];rfl
   rw[iX,ah (by rw[zM];simp[aF];omega)];simp only[jc,aV];rw[XA]at ih;exact ih
  .rw[ak (show¬(k:q)<(l.length:q) by omega)];simp only[jd];rw[ah (by rw[zM];simp[aF];omega)];simp only[jc,aV];have bk:k=l.length:=aa;rw[XA]at ih;unfold pc at ih;rw[show k+1=l.length+1 by omega,cG]at ih;exact ih
theorem XC:j1O (o,l) 0 8589934593=A (pT o l (l.length+1)):=by
 have:=XB h (l.length+1) 0 aa;simp only[j1O];rw[show BN 0 8589934593 o l []=_ from this];rfl
def rT(o:q)(l:bg)(s:q)(i:B):Prop:=aS l i<=s-bj o l i/\s-bj o l i<aS l (i+1)
instance(o:q)(l:bg)(s:q)(i:B):L (rT o l s i):=by unfold rT;infer_instance
omit h in
theorem P1{d c:q}(hd : -1000000<=d)(ig:d<=1000000)(hc : -86400<=c)(fy:c<=172800):j46 (d,c)=A (d*86400+c):=by
 simp only[j46];rw[if_neg (show¬(-1048576:q)>d by omega),if_neg (show¬(1048576:q)<d by omega),ik (x:=d*86400) aa aa,ik aa aa]
theorem XE{d c:q}(hd : -1000000<=d)(ig:d<=1000000)(hc : -86400<=c)(fy:c<=172800){k:B}(hk:k<=l.length)(hks:d*86400+c-bj o l k<aS l (k+1))(uA:∀j,j<k->aS l (j+1)<=d*86400+c-bj o l j) :
  ∀(n i:B),i+n=k->Ew ((l.length+1:B):q) (i:q) d c (pT o l (l.length+1))=A (.inl (max (aS l k) (d*86400+c-bj o l k),J))
 |0,i,hi=>by
  have hlen:=h.len;have:i=k:=aa;subst this;have o1:=h.of0 i hk;have o2:=h.of1 i hk;have au:=h.frm_lt hk;rw[Hx];simp only[j1m];rw[ah (show (i:q)<((l.length+1:B):q) by omega),cb aa (by rw[zM];omega)];simp only[jc,je,P0 (show i<l.length+1 by omega),P1 hd ig hc fy,ja,pc];rw[ik (x:=d*86400+c-bj o l i) aa aa];have hm:(if d*86400+c-bj o l i>aS l i then d*86400+c-bj o l i else aS l i)=max (aS l i) (d*86400+c-bj o l i):=by split<;>omega
  rw[hm,ah aa,jc,ba]
 |n+1,i,hi=>by
  have hlen:=h.len;have mK:i<=l.length:=aa;have o1:=h.of0 i mK;have o2:=h.of1 i mK;have hb:=uA i aa;rw[Hx];simp only[j1m];rw[ah (show (i:q)<((l.length+1:B):q) by omega),cb aa (by rw[zM];omega)];simp only[jc,je,P0 (show i<l.length+1 by omega),P1 hd ig hc fy,ja,pc];rw[ik (x:=d*86400+c-bj o l i) aa aa,ik (x:=(i:q)+1) aa aa];have hm:(if d*86400+c-bj o l i>aS l i then d*86400+c-bj o l i else aS l i)=max (aS l i) (d*86400+c-bj o l i):=by split<;>omega
  rw[hm,ak aa,jd,aV];exact XE hd ig hc fy hk hks uA n (i+1) aa
theorem jyi{d c:q}(hd : -1000000<=d)(ig:d<=1000000)(hc : -86400<=c)(fy:c<=172800){k:B}(hk:k<=l.length)(hks:d*86400+c-bj o l k<aS l (k+1))(uA:∀j,j<k->aS l (j+1)<=d*86400+c-bj o l j) :
  j2H (o,l) (d,c)=A (max (aS l k) (d*86400+c-bj o l k),J):=by
 have:=XE h hd ig hc fy hk hks uA k 0 aa;simp only[j2H,XC h,ja,zM,show F (D l+1)=((l.length+1:B):q) from rfl];rw[show (0:q)=((0:B):q) from rfl,this];rfl
omit h in
theorem jyj{n:q}(h1 : -1000000000000<=n)(h2:n<=1000000000000):jg2 n=A (n/86400,n%86400):=by
 obtain⟨e,p1,p2,p3,p4⟩:=Fg n 86400 aa;simp only[jg2];rw[ik (x:=u n 86400) aa aa];by_cases hm:r n 86400<0
 .rw[ah hm,jc,ik (x:=u n 86400-1) aa aa,ik (x:=(u n 86400-1)*86400) aa aa,ik aa aa];have:n/86400=u n 86400-1:=aa;congr 2
  .omega
  .omega
 .rw[ak hm,jd,ik (x:=u n 86400*86400) aa aa,ik aa aa];congr 2
  .omega
  .omega
theorem B6{t:q}{k:B}(hk:k<=l.length)(h1:aS l k<=t)(h2:t<aS l (k+1)):j0o (o,l) t=A ((t+bj o l k)/86400,(t+bj o l k)%86400):=by
 have o1:=h.of0 k hk;have o2:=h.of1 k hk;have g1:0<=aS l k:=by have:=h.frm_le (i:=0) (j:=k) aa aa;have e:aS l 0=0:=rfl;omega
 have cG:aS l (l.length+1)=8589934593:=lE;have g2:=h.frm_le (i:=k+1) (j:=l.length+1) aa aa;simp only[j0o,jws h hk h1 h2,ja];rw[ik (x:=t+bj o l k) aa aa,jyj aa aa];rfl
end
def jY(x:q×q):bg->bg
 |[]=>[x]
 |y::ys=>if x.1<y.1 then y::jY x ys else x::y::ys
def jZ:bg->bg->bg
 |[],acc=>acc
 |x::xs,acc=>jZ xs (jY x acc)
def dE(l:bg):bg:=(jZ l []).reverse
theorem Fi(x:q×q):∀l,(jY x l).length=l.length+1
 |[]=>rfl
 |y::ys=>by unfold jY;split<;>simp[Fi x ys]
theorem B7:∀(l acc:bg),(jZ l acc).length=l.length+acc.length
 |[],acc=>by simp[jZ]
 |x::xs,acc=>by simp only[jZ,B7 xs,Fi,jq];omega
def Sm(l:bg):Prop:=∀x∈l, -1000000000000<=x.1/\x.1<=1000000000000
theorem XF{x:q×q}(hx : -1000000000000<=x.1/\x.1<=1000000000000):∀{l:bg},Sm l->Sm (jY x l)
 |[],_=>λy hy=>by simp[jY]at hy;subst hy;exact hx
 |z::zs,h=>by
  unfold jY;split
  .intro y hy;rcases jl.1 hy with rfl|hy
   .exact h _ af
   .exact XF hx (l:=zs) (λw hw=>h w (by simp[hw])) y hy
  .intro y hy;rcases jl.1 hy with rfl|hy
   .exact hx
   .exact h y hy
theorem jAt(rp mid:bg)(x:q×q):(rp.reverse++x::mid).getD rp.length (0,0)=x:=by
 rw[E,kv af];simp
theorem XG(n s8:q)(x:q×q)(hx : -1000000000000<=x.1/\x.1<=1000000000000):∀(rp mid:bg),Sm rp->rp.length+mid.length<=1000->
  Hk 0 n s8 (rp.length:q) (rp.reverse++x::mid)=A (0,n,s8,(jY x rp).reverse++mid)
 |[],mid,_,_=>by
  rw[Vi];simp only[j0h];rw[ak af,jd,ba];rfl
 |y::ys,mid,BH,hlen=>by
  have hy:=BH y af;have hL:((y::ys).reverse++x::mid).length=ys.length+1+(mid.length+1):=ay;simp only[jq]at hlen;rw[Vi];simp only[j0h,jq];rw[ah (show ((ys.length+1:B):q)>0 by omega),cb aa (by rw[hL];omega),ar (x:=((ys.length+1:B):q)-1),cb aa (by rw[hL];omega)];simp only[jc,je];have g1:((y::ys).reverse++x::mid).getD (ys.length+1) ((0:q),(0:q))=x:=jAt (y::ys) mid x;have g2:((y::ys).reverse++x::mid).getD ((((ys.length+1:B):q)-1).toNat) ((0:q),(0:q))=y:=by rw[show (((ys.length+1:B):q)-1).toNat=ys.length by omega];simp
  rw[g1,g2];simp only[j82,ja];rw[ar (x:=x.1-y.1)];by_cases hc:x.1<y.1
  .rw[ah (show x.1-y.1<0 by omega)];have qM:W (W ((y::ys).reverse++x::mid) (ys.length+1) (y.1,y.2)) ((((ys.length+1:B):q)-1).toNat) (x.1,x.2)=ys.reverse++x::(y::mid):=by rw[show (((ys.length+1:B):q)-1).toNat=ys.length by omega];simp
   rw[cb aa (by rw[vk,hL];omega)];simp only[jc,aV,qM];have he:=XG n s8 x hx ys (y::mid) (λz hz=>BH z (by simp[hz])) ay;rw[show ((ys.length+1:B):q)-1=(ys.length:q) by omega,he];simp[jY,hc]
  .rw[ak (show¬x.1-y.1<0 by omega)];simp only[jd,ba];simp[jY,hc]
theorem XH:∀(xs rp:bg),Sm rp->Sm xs->rp.length+xs.length<=1000->
  Hl 0 ((rp.length+xs.length:B):q) (rp.length:q) (rp.reverse++xs)=A (jZ xs rp).reverse
 |[],rp,_,_,_=>by
  rw[Na];simp only[j0i];rw[ak af,jd,ba];simp[jZ]
 |x::xs,rp,hr,hx,hlen=>by
  have XI:=hx x af;simp only[jq]at hlen;have he:=XG ((rp.length+(x::xs).length:B):q) (rp.length:q) x XI rp xs hr aa;have ih:=XH xs (jY x rp) (XF XI hr) (λz hz=>hx z (by simp[hz])) (by rw[Fi];omega);rw[Fi]at ih;rw[Na];simp only[j0i];rw[ah (by simp only[jq];omega),he];simp only[jc,ja,jZ];rw[show rp.length+1+xs.length=rp.length+(x::xs).length by simp;omega]at ih;rw[ar,aV];exact ih
theorem XJ{l:bg}(hs:Sm l)(hl:l.length<20):j0g l=A (dE l):=by
 have zN:j0r l 0 (l.length:q)=A (dE l):=by
  simp only[j0r];cases l with
  |nil=>rw[Na];rfl
  |cons x xs=>have:=XH xs [x] (λz hz=>by simp at hz;subst hz;exact hs _ af) (λz hz=>hs z (by simp[hz])) (by simp at hl ⊢;omega);rw[show w64 (0+1)=(([x]:bg).length:q) from rfl,show ((x::xs).length:q)=(([x].length+xs.length:B):q) by simp;omega];rw[show (x::xs)=[x].reverse++xs from rfl,this];rfl
 have e0:Hm (l.length:q) 20 0 20 l=A ((l.length:q),20,0,l):=by rw[j5S];simp only[j0K];rw[ak aa,jd,ba]
 have e2:Hn (l.length:q) 20 (dE l)=A (dE l):=by rw[j5T];simp only[j0L];rw[ak aa,jd,ba]
 simp only[j0g,j22,show F (D l)=(l.length:q) from rfl,e0,ja,zN,e2]
def uB(y:q):Bool:=decide (y%4=0)&&(!decide (y%100=0)||decide (y%400=0))
def iQ(y:q):Int:=if y%4=0/\(y%100≠0\/y%400=0) then 1 else 0
theorem P2(y:q):uB y=J↔y%4=0/\(y%100≠0\/y%400=0):=by simp[uB]
theorem XK(y:q):iQ y=if uB y then 1 else 0:=by
 unfold iQ;by_cases h:uB y=J
 .rw[if_pos ((P2 y).1 h),if_pos h]
 .rw[if_neg (λh'=>h ((P2 y).2 h')),if_neg h]
theorem Fj(y:q):0<=iQ y/\iQ y<=1:=by unfold iQ;split<;>omega
def eQ(y m:q):Int:=
 if m<1\/12<m then 0 else if m=2 then 28+iQ y else if m=4\/m=6\/m=9\/m=11 then 30 else 31
def dF(y:q):Int:=365*(y-1970)+(y-1)/4-(y-1)/100+(y-1)/400-477
def du(y m:q):Int:=
 if m<=1 then 0 else if m=2 then 31 else if m=3 then 59+iQ y else if m=4 then 90+iQ y else if m=5 then 120+iQ y else if m=6 then 151+iQ y
 else if m=7 then 181+iQ y else if m=8 then 212+iQ y else if m=9 then 243+iQ y else if m=10 then 273+iQ y else if m=11 then 304+iQ y else if m=12 then 334+iQ y else 365+iQ y
def num(y m d:q):Int:=dF y+du y m+d-1
theorem P3(y:q):dF (y+1)=dF y+365+iQ y:=by
 unfold dF iQ;split<;>omega
theorem uC{a b:q}(h:a<=b):dF a+365*(b-a)<=dF b:=by unfold dF;omega
theorem jBJ{a b:q}(h:a<b):dF a<dF b:=by have:=uC (a:=a) (b:=b) aa;omega
theorem zO(y m:q)(h1:1<=m)(h2:m<=12):du y (m+1)=du y m+eQ y m:=by
 obtain rfl|rfl|rfl|rfl|rfl|rfl|rfl|rfl|rfl|rfl|rfl|rfl:m=1\/m=2\/m=3\/m=4\/m=5\/m=6\/m=7\/m=8\/m=9\/m=10\/m=11\/m=12:=aa;all_goals (simp[du,eQ];try omega)
theorem mP(y m:q):0<=eQ y m/\eQ y m<=31:=by
 have:=Fj y;unfold eQ;repeat' split;all_goals omega
theorem Fk(y m:q)(h1:1<=m)(h2:m<=12):28<=eQ y m:=by
 have:=Fj y;unfold eQ;rw[if_neg aa];repeat' split;all_goals omega
theorem zP(y m:q):0<=du y m/\du y m<=366:=by
 have:=Fj y;unfold du;omega
theorem XL(y:q):jj8 y=A (uB y):=by
 have e:(cond (r y 4==(0:q)) (cond (r y 100 != (0:q)) J (r y 400==(0:q))) S)=uB y:=by unfold bne;rw[PW,PW,PW,O,P2];by_cases h1:y%4=0<;>by_cases h2:y%100=0<;>by_cases h3:y%400=0<;>simp[h1,h2,h3]
 exact kj A e
theorem Fl(y m:q):j6V y m=A (eQ y m):=by
 by_cases h:m<1\/12<m
 .have hc:cond (decide (m<(1:q))) J (decide (m>(12:q)))=true:=by rcases h with h|h<;>by_cases h1:m<1<;>simp[h1]<;>omega
  have:eQ y m=0:=if_pos h;rw[this];unfold j6V;rw[hc];rfl
 .obtain rfl|rfl|rfl|rfl|rfl|rfl|rfl|rfl|rfl|rfl|rfl|rfl:m=1\/m=2\/m=3\/m=4\/m=5\/m=6\/m=7\/m=8\/m=9\/m=10\/m=11\/m=12:=aa
  case inr.inl=>simp only[j6V,XL,eQ,XK,ja];cases uB y<;>rfl
  all_goals rfl
theorem jyk(y m d:q):jbn (y,m,d)=A (decide (1970<=y/\y<=2240/\1<=d/\d<=eQ y m)):=by
 simp only[jbn,Fl,ja];by_cases h1:1970<=y<;>by_cases h2:y<=2240<;>by_cases h3:1<=d<;>simp[h1,h2,h3]
theorem Jd(a b:q)(hb:0<b)(h1 : -1000000000000<=a)(h2:a<=1000000000000):j81 a b=A (a/b):=by
 have fk:(b==0)=false:=ay;obtain⟨e,p1,p2,p3,p4⟩:=Fg a b hb
 have hq : -1000000000000<=u a b/\u a b<=1000000000000:=by
  rcases Int.le_total 0 a with h|h
  .have h0:0<=a/b:=yx h aa;have h3:a/b<=a:=yl b h;rw[uz h];omega
  .have h0:0<=(-a)/b:=yx aa aa;have h3:(-a)/b <= -a:=yl b aa;have h4:u (-a) b=(-a)/b:=uz aa;rw[Int.neg_tdiv]at h4;omega
 simp only[j81,fk,jv,jc];rw[ar (x:=u a b)];by_cases hm:r a b<0
 .rw[ah hm,jc,ar];congr 1
  have:a/b=u a b-1:=by
   have h3:a=(a.tmod b+b)+b*(u a b-1):=by rw[Int.mul_sub];omega
   rw[h3,I _ _ aa,G aa aa];rw[<-h3];omega
  omega
 .rw[ak hm,jd];congr 1;have h3:a=a.tmod b+b*u a b:=aa
  have:a/b=u a b:=by
   conv=>lhs;rw[h3]
   rw[I _ _ aa,G aa aa];omega
  omega
theorem wL(y:q)(h1 : -1000000000<=y)(h2:y<=1000000000):j4X y=A (dF y):=by
 simp only[j4X];rw[ar (x:=y-1),ar (x:=y-1970),Jd _ 4 aa aa aa,Jd _ 100 aa aa aa,Jd _ 400 aa aa aa];simp only[ja];simp (disch:=omega) only[ik];rfl
theorem XM(y m d:q)(hm:m<=13):∀(n:B)(s k:q),1<=k->k+n=m -> -1000000000000<=s->s+31*n<=1000000000000->Hj s k y m d=A (s+du y m-du y k)
 |0,s,k,hk,hn,_,_=>by
  rw[Vh];have:k=m:=aa;subst this;simp only[j3M,ak (show¬k<k by omega),jd,ba];congr 1;omega
 |n+1,s,k,hk,hn,h1,h2=>by
  rw[Vh];have hd:=mP y k;have hc:=zO y k hk aa;simp only[j3M,Fl,ja,ah (show k<m by omega),jc,aV];rw[ar (x:=s+eQ y k),ar (x:=k+1)];have ih:=XM y m d hm n (s+eQ y k) (k+1) aa aa aa aa;rw[ih];congr 1;omega
theorem jwu(y m d:q)(h1 : -1000000<=y)(h2:y<=1000000)(gZ:1<=m)(gV:m<=12)(pG : -1000000<=d)(ig:d<=1000000):jco (y,m,d)=A (num y m d):=by
 have hb : -1000000000<=dF y/\dF y<=1000000000:=by unfold dF;omega
 simp only[jco,wL y aa aa,ja];rw[ar (x:=dF y+d),ar,XM y m d aa (m-1).toNat _ 1 aa aa aa aa];have:du y 1=0:=rfl;simp only[ja,num];congr 1;omega
theorem XN(day:q):j5x day=A ((r day 7+10)%7):=by
 obtain⟨e,p1,p2,p3,p4⟩:=Fg day 7 aa;simp only[j5x];rw[ar,zL aa]
theorem Jf(day:q)(_h : -3<=day):j5x day=A ((day+3)%7):=by
 rw[XN];congr 1;obtain⟨e,p1,p2,p3,p4⟩:=Fg day 7 aa;omega
def pU(y m d:q):Prop:=1970<=y/\y<=2240/\1<=d/\d<=eQ y m
instance(y m d:q):L (pU y m d):=by unfold pU;infer_instance
theorem Fm{y m d:q}(h:pU y m d):1<=m/\m<=12:=by
 obtain⟨_,_,h3,h4⟩:=h;by_cases hm:m<1\/12<m
 .have:eQ y m=0:=if_pos hm;omega
 .omega
theorem jwv{y m d:q}:decide (1970<=y/\y<=2240/\1<=d/\d<=eQ y m)=decide (pU y m d):=rfl
theorem zQ{y m d:q}(h:pU y m d):0<=num y m d/\num y m d<98981:=by
 have hm:=Fm h;obtain⟨h1,h2,h3,h4⟩:=h;have hc:=zP y m;have c1:=uC (a:=1970) (b:=y) aa;have c2:=uC (a:=y) (b:=2240) aa;have e1:dF 1970=0:=by decide
 have hd:=mP y m;have e2:dF 2240=98615:=by decide
 have dj:du y m+eQ y m<=365+iQ y:=by
  have:=zO y m hm.1 hm.2;have:du y (m+1)<=365+iQ y:=by have:=Fj y;unfold du;omega
  omega
 have c3:=P3 y;have c4:=uC (a:=y+1) (b:=2241) aa;have e3:dF 2241=98981:=by decide
 unfold num;omega
theorem XO:dF 1970=0:=by decide
theorem P4:dF 2241=98981:=by decide
def nth(y m k w:q):Int:=
 let d:=num y m 1+(w-(num y m 1+3)%7+7)%7+7*(k-1)
 if d>=num y m 1+eQ y m then d-7 else d
theorem B8(y m:q)(h1:1970<=y)(h2:y<=2240)(gZ:1<=m)(gV:m<=12):pU y m 1:=⟨h1,h2,aa,by have:=Fk y m gZ gV;omega⟩
theorem jBK(y m k w:q)(h1:1970<=y)(h2:y<=2240)(gZ:1<=m)(gV:m<=12)(dm:1<=k)(eR:k<=5)(KV:0<=w)(hw2:w<=6):jhZ y m k w=A (nth y m k w,0):=by
 have hv:=B8 y m h1 h2 gZ gV;have hr:=zQ hv;have hd:=mP y m;have P5:jbn (y,m,1)=A true:=by rw[jyk,jwv,decide_eq_true hv]
 simp only[jhZ,P5,ja,jk,jd];rw[ak (show¬k<1 by omega),ak (show¬k>5 by omega),ak (show¬w<0 by omega),ak (show¬w>6 by omega)];simp only[jd,jwu y m 1 aa aa gZ gV aa aa,ja,Jf _ (show -3<=num y m 1 by omega),Fl];generalize hn:num y m 1=n at *;have hm7:0<=(n+3)%7/\(n+3)%7<=6:=aa;rw[ar (x:=w-(n+3)%7),ar (x:=w-(n+3)%7+7),zL (show 0<=w-(n+3)%7+7 by omega)];rw[ar (x:=k-1),ar (x:=7*(k-1))];rw[ar (x:=n+(w-(n+3)%7+7)%7),ar (x:=n+(w-(n+3)%7+7)%7+7*(k-1)),ar (x:=n+eQ y m)];unfold nth;simp only[hn];by_cases hc:n+(w-(n+3)%7+7)%7+7*(k-1)>=n+eQ y m
 .rw[ah hc,jc,if_pos hc,ar]
 .rw[ak hc,jd,if_neg hc]
def di(l:M q)(a:q):Prop:=0<=a/\a<=(l.length:q)/\l.length<=1000000
theorem dH{l:M q}{a n:q}(h:di l a)(hn:1<=n)(xD:n<=1000000000000):∃x a',j02 l a n=A (x,l,a')/\0<=x/\x<n/\di l a':=by
 obtain⟨h1,h2,h3⟩:=h;simp only[j02,show F (D l)=(l.length:q) from rfl];by_cases ha:a>=(l.length:q)
 .rw[ah ha,jc];exact⟨0,a,rfl,aa,aa,h1,h2,h3⟩
 .rw[ak ha,jd,ak (show¬n<1 by omega),jd,cb h1 aa,jc,cU (show n≠0 by omega)];obtain⟨e,p1,p2,p3,p4⟩:=Fg (l.getD a.toNat 0) n aa;rw[ar (x:=a+1)];simp only[jv,jc];by_cases ht:r (l.getD a.toNat 0) n<0
  .rw[ah ht,jc,ar];exact⟨_,_,rfl,aa,aa,aa,aa,h3⟩
  .rw[ak ht,jd];exact⟨_,_,rfl,aa,aa,aa,aa,h3⟩
theorem oY{l:M q}{a:q}(h:di l a){xs:M q}(xw:0<xs.length)(oM:xs.length<=1000000):∃x a',j03 l a xs=A (x,l,a')/\x∈xs/\di l a':=by
 obtain⟨x,a',e,h1,h2,h3⟩:=dH (n:=(xs.length:q)) h aa aa;simp only[j03,show F (D xs)=(xs.length:q) from rfl,e,ja];rw[cb h1 aa,jc];have au:x.toNat<xs.length:=aa;refine⟨_,_,rfl,?_,h3⟩;rw[E,kb au];exact ju au
theorem XP:jg3=A true:=by kernel_rfl
end Go.Proofs.Pw
