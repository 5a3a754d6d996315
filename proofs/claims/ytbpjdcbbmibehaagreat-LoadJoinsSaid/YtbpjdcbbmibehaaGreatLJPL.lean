/- px.Cuts: the IG inside a range, ascending, and the end of the range. -/
import Derived.Test.YtbpjdcbbmibehaaGreatLJPF
import Derived.Test.YtbpjdcbbmibehaaGreatLJLS
import Derived.Test.YtbpjdcbbmibehaaGreatLJPK
import Derived.Test.YtbpjdcbbmibehaaGreatLJPG
import Derived.Test.YtbpjdcbbmibehaaGreatLJPA
import Derived.KernelRfl
open Go Go.Lft
namespace Go.Proofs.Pw
theorem jvT{l:List Int}(hl:l.length<=1000000):∃s,j5v l=some s/\s.Perm l/\s.Pairwise (· <= ·):=by
 obtain⟨s,e,h1,h2⟩:=jvp (xs:=l) (by omega);exact⟨s,by simp only[j5v,e],h1,h2⟩
def nW(f t x:Int):Bool:= !(cond (decide (x<=f)) true (decide (x>=t)))
theorem Yq{l:List Int}(hl:l.length<=1000000){f t:Int}:∀(n i:Nat),i+n=l.length->(∀s∈l.take i,nW f t s=true)->
  (∃j:Nat,D2 f t (l.length:Int) (i:Int) l=some (.inl ((j:Int),l))/\j<l.length/\(∀s∈l.take j,nW f t s=true)/\nW f t (l.getD j 0)=false)\/
  (D2 f t (l.length:Int) (i:Int) l=some (.inr l)/\∀s∈l,nW f t s=true)
 |0,i,hi,h=>by
  rw[UM];simp only[j0J];rw[ao (by omega),j6,aY];rw[List.take_of_length_le (by omega)]at h;exact Or.inr ⟨rfl,h⟩
 |n+1,i,hi,h=>by
  rw[UM];simp only[j0J,j9g];rw[ag (show (i:Int)<(l.length:Int) by omega),ba (by omega) (by omega),aj (x:=(i:Int)+1) (by omega) (by omega)];simp only[j5,j7,j3];have ak:i<l.length:=by omega
  cases hc:(cond (decide (l.getD i (0:Int)<=f)) true (decide (l.getD i (0:Int)>=t))) with
  |true=>simp only[j5,aY];exact Or.inl ⟨i,rfl,ak,h,by simp only[nW];rw[hc];rfl⟩
  |false=>
   simp only[j6,aP];refine Yq hl n (i+1) (by omega) λs hs=>?_;rw[qa]at hs;rcases jm.1 hs with hs|hs
   .exact h s hs
   .have bk:l.getD i (0:Int)=l[i]:=by simp[ak]
    rw[bk]at hc;rw[jk ak]at hs;simp at hs;subst hs;simp only[nW];rw[hc];rfl
theorem P9{l:List Int}(hl:l.length<=1000000){f t:Int}:∀(n i j:Nat)(b:List Int),j+n=l.length->i<=j->b.length=l.length->b.drop j=l.drop j->b.take i=(l.take j).filter (nW f t)->
  ∃(k:Nat)(b':List Int),HC f t (i:Int) (j:Int) b=some ((k:Int),b')/\b'.length=l.length/\k<=l.length/\b'.take k=l.filter (nW f t)
 |0,i,j,b,hj,dG,hb,hd,ht=>by
  rw[UN];simp only[j0Y,show Int.ofNat (List.length b)=(b.length:Int) from rfl];rw[ao (by omega),j6,aY];rw[List.take_of_length_le (l:=l) (by omega)]at ht;exact⟨i,b,rfl,hb,by omega,ht⟩
 |n+1,i,j,b,hj,dG,hb,hd,ht=>by
  have ak:j<l.length:=by omega
  have yo:b.getD j (0:Int)=l[j]:=by
   have:b[j]? = l[j]? := by
    have h:=jj (λx=>x[0]?) hd;simpa[List.getElem?_drop]using h
   rw[List.getD_eq_getElem?_getD,this,jk ak];rfl
  have gm:b.drop (j+1)=l.drop (j+1):=by have:=jj (List.drop 1) hd;simpa[List.drop_drop]using this
  have jZ:l.take (j+1)=l.take j++[l[j]]:=by rw[qa,jk ak];rfl
  rw[UN];simp only[j0Y,j9g,show Int.ofNat (List.length b)=(b.length:Int) from rfl];rw[ag (show (j:Int)<(b.length:Int) by omega),ba (by omega) (by omega),ba (by omega) (by omega),aj (x:=(j:Int)+1) (by omega) (by omega),aj (x:=(i:Int)+1) (by omega) (by omega)];simp only[j5,j7,j3,yo];cases hc:(cond (decide (l[j]<=f)) true (decide (l[j]>=t))) with
  |true=>simp only[jw,j6,aP];refine P9 hl n i (j+1) b (by omega) (by omega) hb gm ?_;rw[jZ,vf,ht];simp[nW,hc]
  |false=>
   simp only[kf,j5,aP];refine P9 hl n (i+1) (j+1) _ (by omega) (by omega) (by simpa using hb) ?_ ?_
   .rw[List.drop_set_of_lt (by omega)];exact gm
   .have tw:i<b.length:=by omega
    rw[qa,List.take_set_of_le (jo _),List.getElem?_set_self tw,ht,jZ,vf];simp[nW,hc]
theorem jrV{l:List Int}(hl:l.length<=1000000){f t:Int}:∃n m,j2X l f t=some (n,m)/\m.take n.toNat=l.filter (nW f t):=by
 simp only[j2X,j40,show Int.ofNat (List.length l)=(l.length:Int) from rfl];rcases Yq (f:=f) (t:=t) hl l.length 0 (by omega) (by simp) with⟨j,e,hj,h1,h2⟩|⟨e,h⟩
 .rw[show ((0:Nat):Int)=0 from rfl]at e;rw[e];simp only[j3,TS];rw[cP (by omega),aj (x:=(j:Int)+1) (by omega) (by omega)];have bk:l.getD j (0:Int)=l[j]:=by simp[hj]
  rw[bk]at h2
  obtain⟨k,b,e2,hb,hk,ht⟩:=P9 (f:=f) (t:=t) hl (l.length-(j+1)) j (j+1) l (by omega) (by omega) rfl rfl (by
   rw[qa,jk hj,vf,List.filter_eq_self.2 h1];simp[h2])
  rw[show ((j:Int)+1)=((j+1:Nat):Int) from rfl,e2];simp only[j6,j3,show Int.ofNat (List.length b)=(b.length:Int) from rfl,j7];rw[ag (show (0:Int)<=(k:Int) by omega),ag (show (k:Int)<=(b.length:Int) by omega)];simp only[vp,j5,Bool.true_and];rw[ag (by simp;omega),j5];refine⟨_,_,rfl,?_⟩;simp only[show (Int.ofNat k).toNat=k from rfl];rw[qz (by simp;omega),va,Nat.min_self,ht]
 .rw[show ((0:Nat):Int)=0 from rfl]at e;rw[e];simp only[j3,rN,qe,j5];refine⟨_,_,rfl,?_⟩;simp only[show (Int.ofNat l.length).toNat=l.length from rfl];rw[List.take_of_length_le (jo _),List.filter_eq_self.2 h]
def mw:Int->List Int->List Int
 |_,[]=>[]
 |p,x::r=>if x=p then mw p r else x::mw x r
theorem Qa:∀(l:List Int)(p:Int),∀x,x∈p::mw p l↔x∈p::l
 |[],_,_=>Iff.rfl
 |y::r,p,x=>by
  unfold mw;split
  .rename_i h;subst h;rw[Qa r y x];simp
  .have:=Qa r y x;rw[jc,this,jc,jc,jc]
theorem Qb:∀(l:List Int)(p:Int),(p::l).Pairwise (· <= ·)->(p::mw p l).Pairwise (· < ·)
 |[],_,_=>by simp[mw]
 |y::r,p,h=>by
  have h1:=kx.1 h;unfold mw;split
  .rename_i h;subst h;exact Qb r y h1.2
  .have ih:=Qb r y h1.2;refine kx.2 ⟨λz hz=>?_,ih⟩;have hy:=h1.1 y (by simp);rcases jc.1 hz with rfl|hz
   .omega
   .have:=(kx.1 ih).1 z hz;omega
theorem Qc{l:List Int}(hl:l.length<=1000000){k0:Nat}:∀(n s k:Nat)(b:List Int),k0+s+n=l.length->1<=s->k<=k0+s-1->b.length=l.length->b.drop k=l.drop k->
  ∃(m:Nat)(b':List Int),D3 (k:Int) (k0:Int) (s:Int) b=some ((m:Int),b')/\b'.length=l.length/\m<=l.length/\b'.take m=b.take k++mw (l.getD (k0+s-1) 0) (l.drop (k0+s))
 |0,s,k,b,hn,hs,hk,hb,hd=>by
  rw[UO];simp only[j1g,j7,show Int.ofNat (b.length-k0)=((b.length-k0:Nat):Int) from rfl];rw[ao (by omega),j6,aY,jd (by omega)];exact⟨k,b,rfl,hb,by omega,by simp[mw]⟩
 |n+1,s,k,b,hn,hs,hk,hb,hd=>by
  have ak:k0+s<l.length:=by omega
  have FA:∀j,k<=j->b[j]? = l[j]? := λj hj=>by
   have h:=jj (λx=>x[j-k]?) hd;simpa[List.getElem?_drop,show k+(j-k)=j by omega]using h
  have g1:b.getD (k0+s) (0:Int)=l[k0+s]:=by rw[List.getD_eq_getElem?_getD,FA _ (by omega),jk ak];rfl
  have g2:b.getD (k0+(s-1)) (0:Int)=l.getD (k0+s-1) 0:=by rw[List.getD_eq_getElem?_getD,FA _ (by omega),show k0+(s-1)=k0+s-1 by omega,List.getD_eq_getElem?_getD]
  have e1:l.getD (k0+(s+1)-1) 0=l[k0+s]:=by rw[show k0+(s+1)-1=k0+s by omega];simp[ak]
  rw[UO];simp only[j1g,j7,show Int.ofNat (b.length-k0)=((b.length-k0:Nat):Int) from rfl,show Int.ofNat k0=(k0:Int) from rfl];rw[ag (show (s:Int)<((b.length-k0:Nat):Int) by omega),ba (show (0:Int)<=(s:Int) by omega) (by omega),aj (x:=(s:Int)-1) (by omega) (by omega),ba (show (0:Int)<=(s:Int)-1 by omega) (by omega),ba (show (0:Int)<=(k:Int) by omega) (by omega),aj (x:=(k:Int)+1) (by omega) (by omega),aj (x:=(s:Int)+1) (by omega) (by omega),show ((s:Int)-1).toNat=s-1 by omega,jb ak];simp only[j5,g1,g2,mw];by_cases hc:l[k0+s]=l.getD (k0+s-1) 0
  .rw[show (l[k0+s] != l.getD (k0+s-1) 0)=false by rw[bne_eq_false_iff_eq];exact hc,if_pos hc,j6,aP];have ih:=Qc hl (k0:=k0) n (s+1) k b (by omega) (by omega) (by omega) hb hd;rw[e1,hc,show k0+(s+1)=k0+s+1 by omega]at ih;exact ih
  .rw[show (l[k0+s] != l.getD (k0+s-1) 0)=true by rw[bne_iff_ne];exact hc,if_neg hc,j5,aP]
   have ih:=Qc hl (k0:=k0) n (s+1) (k+1) (b.set k l[k0+s]) (by omega) (by omega) (by omega) (by simpa using hb) (by
    rw[List.drop_set_of_lt (by omega)];have:=jj (List.drop 1) hd;simpa[List.drop_drop]using this)
   rw[e1,show k0+(s+1)=k0+s+1 by omega]at ih;obtain⟨m,b',r1,r2,r3,r4⟩:=ih;refine⟨m,b',r1,r2,r3,?_⟩;have sK:k<b.length:=by omega
   rw[r4,qa,List.take_set_of_le (jo _),List.getElem?_set_self sK];simp
def sf:List Int->List Int
 |[]=>[]
 |a::r=>a::mw a r
theorem Yr{l:List Int}(hl:l.length<=1000000):∀(n k:Nat),k+n=l.length->1<=k->sf l=l.take k++mw (l.getD (k-1) 0) (l.drop k)->
  (∃(m:Nat)(b:List Int),yF (k:Int) l=some (.inl ((m:Int),b))/\b.take m=sf l)\/(yF (k:Int) l=some (.inr l)/\sf l=l)
 |0,k,hn,hk,hT=>by
  rw[UP];simp only[j1h,show Int.ofNat l.length=(l.length:Int) from rfl];rw[ao (by omega),j6,aY];rw[List.take_of_length_le (by omega),jd (by omega)]at hT;exact .inr ⟨rfl,by simpa[mw]using hT⟩
 |n+1,k,hn,hk,hT=>by
  have ak:k<l.length:=by omega
  have g1:l.getD k (0:Int)=l[k]:=by simp[ak]
  rw[jb ak]at hT;simp only[mw]at hT;rw[UP];simp only[j1h,show Int.ofNat l.length=(l.length:Int) from rfl];rw[ag (show (k:Int)<(l.length:Int) by omega),ba (show (0:Int)<=(k:Int) by omega) (by omega),aj (x:=(k:Int)-1) (by omega) (by omega),ba (show (0:Int)<=(k:Int)-1 by omega) (by omega),aj (x:=(k:Int)+1) (by omega) (by omega),show ((k:Int)-1).toNat=k-1 by omega,ag (show (0:Int)<=(k:Int) by omega),ag (show (k:Int)<=(l.length:Int) by omega)];simp only[j5,j7,g1,vp,show Int.ofNat k=(k:Int) from rfl];by_cases hc:l[k]=l.getD (k-1) 0
  .rw[if_pos hc]at hT;obtain⟨m,b,r1,r2,r3,r4⟩:=Qc hl (k0:=k) n 1 k l (by omega) (by omega) (by omega) rfl rfl;rw[show k+1-1=k by omega,g1,hc,<-hT]at r4;rw[ff hc,j5,show D3 (k:Int) (k:Int) 1 l=_ from r1];simp only[j3,j7,show Int.ofNat b.length=(b.length:Int) from rfl];rw[ag (show (0:Int)<=(m:Int) by omega),ag (show (m:Int)<=(b.length:Int) by omega)];simp only[vp,j5,Bool.true_and];rw[ag (by simp;omega),j5,aY];refine .inl ⟨m,_,rfl,?_⟩;rw[qz (by simp;omega),va,Nat.min_self,r4]
  .rw[if_neg hc]at hT;rw[cP hc,j6,aP];refine Yr hl n (k+1) (by omega) (by omega) ?_;have jZ:l.take (k+1)=l.take k++[l[k]]:=by rw[qa,jk ak];rfl
   rw[hT,jZ,show k+1-1=k by omega,g1,jg];rfl
theorem jq3{l:List Int}(hl:l.length<=1000000):∃n m,j4b l=some (n,m)/\m.take n.toNat=sf l:=by
 simp only[j4b,show Int.ofNat l.length=(l.length:Int) from rfl];by_cases h2:l.length<2
 .rw[ag (by omega),j5];refine⟨_,_,rfl,?_⟩;rw[j7,List.take_of_length_le (jo _)];match l,h2 with
  |[],_=>rfl
  |[a],_=>rfl
  |_::_::_,h2=>simp at h2;omega
 .rw[ao (by omega),j6]
  have hT:sf l=l.take 1++mw (l.getD (1-1) 0) (l.drop 1):=by
   match l,h2 with
   |[],h2=>simp at h2
   |a::r,_=>rfl
  rcases Yr hl (l.length-1) 1 (by omega) (by omega) hT with⟨m,b,e,h⟩|⟨e,h⟩
  .rw[show yF 1 l=_ from e];refine⟨_,_,rfl,?_⟩;simpa using h
  .rw[show yF 1 l=_ from e];refine⟨_,_,rfl,?_⟩;rw[h];simp
theorem jxS{l:List Int}(x:Int):x∈sf l↔x∈l:=by
 cases l with
 |nil=>exact Iff.rfl
 |cons a r=>exact Qa r a x
theorem jxT{l:List Int}(h:l.Pairwise (· <= ·)):(sf l).Pairwise (· < ·):=by
 cases l with
 |nil=>exact .nil
 |cons a r=>exact Qb r a h
theorem Qd:∀(l:List Int)(p:Int),(mw p l).length<=l.length
 |[],_=>jo _
 |y::r,p=>by
  unfold mw;split
  .have:=Qd r p;simp;omega
  .have:=Qd r y;simp;omega
theorem jxU(l:List Int):(sf l).length<=l.length:=by
 cases l with
 |nil=>exact jo _
 |cons a r=>have:=Qd r a;simp[sf];omega
theorem Ys{l:List Int}(hl:l.length<=1000000){f t:Int}:∃C,jge l f t=some (C++[t])/\C.Pairwise (· < ·)/\C.length<=l.length/\(∀x,x∈C↔x∈l/\f<x/\x<t):=by
 obtain⟨n1,m1,e1,h1⟩:=jrV (l:=l) (by omega) (f:=f) (t:=t);have fC:(l.filter (nW f t)).length<=l.length:=List.length_filter_le _ _;obtain⟨s,e2,p2,a2⟩:=jvT (l:=l.filter (nW f t)) (by omega);have eE:=p2.length_eq;obtain⟨n3,m3,e3,h3⟩:=jq3 (l:=s) (by omega);have eN:=jxU s;refine⟨sf s,?_,jxT a2,by omega,λx=>?_⟩
 .simp only[jge,j6T,js,qq];rw[ag (show 0+l.length<=aQ by simp[aQ];omega),j5];simp only[j3,e1,h1,e2,e3,h3];rw[ag (show (sf s).length+[t].length<=aQ by simp[aQ];omega),j5]
 .rw[jxS,p2.mem_iff,qx]
  have:nW f t x=true↔f<x/\x<t:=by
   unfold nW;by_cases h1:x<=f
   .rw[ag h1];simp;omega
   .rw[ao h1];by_cases h2:x>=t
    .rw[ag h2];simp;omega
    .rw[ao h2];simp;omega
  rw[this]
theorem jze{ds:List Int}(hs:ds.Pairwise (· < ·))(hl:ds.length<=64)(x:Int):∃(k:Nat)(b:Bool),j2v ds x=some ((k:Int),b)/\k<=ds.length/\(∀i,(hi:i<ds.length)->i<k->ds[i]<x)/\∀i,(hi:i<ds.length)->k<=i->x<=ds[i]:=by
 obtain⟨k,e,hk,h1,h2⟩:=Py hs hl (x:=x) ds.length 0 ds.length (by omega) (by omega) (jo _) (λi _ h=>by omega) (λi hi h=>by omega);rw[show ((0:Nat):Int)=0 from rfl]at e;simp only[j2v,show Int.ofNat ds.length=(ds.length:Int) from rfl,e,j3,j7];by_cases jH:k<ds.length
 .have bk:ds.getD k (0:Int)=ds[k]:=by simp[jH]
  rw[ba (by omega) (by omega),ag (show (k:Int)<(ds.length:Int) by omega),bk];simp only[Bool.true_or,j5];by_cases hx:ds[k]=x
  .rw[ff hx];exact⟨k,_,rfl,hk,h1,h2⟩
  .rw[cP hx];simp only[j6,j7q,j3,ju];exact⟨k,_,rfl,hk,h1,h2⟩
 .rw[ao (show¬(k:Int)<(ds.length:Int) by omega)];simp only[kf,Bool.or_true,j5,j6,Bool.false_and];exact⟨k,_,rfl,hk,h1,h2⟩
theorem Qe{a t:Int}:∀(es:List eU)(p:Int),(∀x∈es,(x.2.2.2.1<=a↔x.2.2.2.1<=t)/\(x.2.2.2.2<=a↔x.2.2.2.2<=t))->lG t p es=lG a p es
 |[],_,_=>rfl
 |x::r,p,h=>by
  have hx:=h x (by simp);simp only[lG]
  have e:zJ t p x=zJ a p x:=by
   unfold zJ;have:(t<x.2.2.2.1\/x.2.2.2.2<=t)↔(a<x.2.2.2.1\/x.2.2.2.2<=a):=by omega
   by_cases hc:a<x.2.2.2.1\/x.2.2.2.2<=a
   .rw[if_pos hc,if_pos (this.2 hc)]
   .rw[if_neg hc,if_neg (λh=>hc (this.1 h))]
  rw[e];exact Qe r _ (λy hy=>h y (by simp[hy]))
theorem Qf{es:List eU}(hl:es.length<=1000){f t:Int}{zs:List bP}{ps:List dm}{cs:List aO}{ss:List dD}{tbs:List (Int×bA)}{nm:ByteArray}{ls:List cb}:∀(n i:Nat)(acc:List Int),i+n=es.length->acc.length<=2*i->
  Bh f t es (es.length:Int) (i:Int) zs ps cs ss tbs nm ls es acc=some (f,t,zs,ps,cs,ss,tbs,nm,ls,es,acc++nV (es.drop i))
 |0,i,acc,hi,_=>by
  rw[Vc];simp only[j2w];rw[ao (by omega),j6,aY,jd (by omega)];simp[nV]
 |n+1,i,acc,hi,eI=>by
  have bQ:i<es.length:=by omega
  have bk:es.getD i ((0:Int),((0:Int),((0:Int),((0:Int),(0:Int)))))=es[i]:=by simp[List.getD,bQ]
  have ih:=Qf hl (f:=f) (t:=t) (zs:=zs) (ps:=ps) (cs:=cs) (ss:=ss) (tbs:=tbs) (nm:=nm) (ls:=ls) n (i+1) (acc++[es[i].2.2.2.1,es[i].2.2.2.2]) (by omega) (by simp;omega);rw[Vc];simp only[j2w];rw[ag (by omega),ba (by omega) (by omega),aj (x:=(i:Int)+1) (by omega) (by omega)];simp only[j5,j7,bk];rw[ag (by simp[aQ];omega),j5,aP,jb bQ];rw[jg]at ih;exact ih
theorem jvU{es:List eU}(hl:es.length<=100){p t:Int}:jgg es p t=some (lG t p es):=by
 have ef:=Yp hl (t:=t) es.length 0 p (by omega);rw[k5]at ef;simp only[jgg,show Int.ofNat es.length=(es.length:Int) from rfl,show Eg p t es (es.length:Int) 0=_ from ef];rfl
section
variable{es:List eU}(fg:es.length<=100){K:List Int}(hK:K.Pairwise (· < ·))(Qg:K.length<=64){a0 b:Int}(hb:b∈K)(gO:∀x∈nV es,a0<x->x<b->x∈K)
include fg hK Qg hb gO
theorem jzM{g:Int->Int}{p u:Int}(hu:u<=b){m q w:Int}{nm:ByteArray}{ls:List cb}{R:bF}{x:Int}:∀(n i:Nat)(a:Int)(acc:bF),K.length-i<=n->a0<=a->a<=u->(a<u->i<K.length)->(∀k,(hk:k<K.length)->(a<u->(k<i->K[k]<=a)/\(i<=k->a<K[k])))->(∀t,a<=t->t<u->g t=p)->
  acc.length+(K.length-i)<=1000000000->Ch (λt=>lG t (g t) es) a x acc->
  ∃out,HO (i:Int) a m q nm ls es w u p K acc R=some (m,q,nm,ls,es,K,out,R)/\Ch (λt=>lG t (g t) es) u x out/\out.length<=acc.length+(K.length-i):=by
 intro n;induction n with
 |zero=>
  intro i a acc hn ha hau hi _ _ _ mq;rw[Vd];simp only[j2x];have lQ:¬a<u:=λh=>by have:=hi h;omega
  rw[ao lQ,j6,aY];have:a=u:=by omega
  subst this;exact⟨acc,rfl,mq,by omega⟩
 |succ n ih=>
  intro i a acc hn ha hau hi cY hg mH mq;rw[Vd];simp only[j2x];by_cases ak:a<u
  .have lv:=hi ak;have bk:K.getD i (0:Int)=K[i]:=by simp[lv]
   have h1:=((cY i lv) ak).2 (jo _);rw[ag ak,ba (by omega) (by omega),aj (x:=(i:Int)+1) (by omega) (by omega)];simp only[j5,j7,bk,jvU fg,j3];rw[ag (by simp[aQ];omega),j5,aP];have gf:(if K[i]<u then K[i] else u)=min K[i] u:=by split<;>omega
   rw[gf];have gp:a<min K[i] u:=by omega
   have Qh:∀t,a<=t->t<min K[i] u->lG t (g t) es=lG a p es:=λt t1 t2=>by
    rw[hg t t1 (by omega)];refine Qe es p (λy hy=>?_);obtain⟨y1,y2⟩:=P8 hy
    have key:∀c,c∈nV es->(c<=a↔c<=t):=λc hc=>by
     refine⟨λh=>by omega,λh=>?_⟩;apply jp;intro hca;have hcK:=gO c hc (by omega) (by omega);obtain⟨k,hk,rfl⟩:=ya hcK;by_cases mI:k<i
     .have:=((cY k hk) ak).1 mI;omega
     .by_cases Qi:k=i
      .subst Qi;omega
      .have:=qh.1 hK i k lv hk (by omega);omega
    exact⟨key _ y1,key _ y2⟩
   have Qj:=mq.snoc (b:=a) (c:=min K[i] u) (p:=lG a p es) (by omega) Qh
   obtain⟨out,e,hc,hl⟩:=ih (i+1) (min K[i] u) (acc++[(a,(min K[i] u,lG a p es))]) (by omega) (by omega) (by omega) (λh=>by
    apply jp;intro Qk;obtain⟨k,hk,sK⟩:=ya hb;by_cases mI:k=i
    .subst mI;omega
    .have:=qh.1 hK k i hk lv (by omega);omega) (λk hk h=>⟨λmI=>by
    by_cases Qi:k=i
    .subst Qi;omega
    .have:=((cY k hk) ak).1 (by omega);omega,λmI=>by
    have:=qh.1 hK i k lv hk (by omega);omega⟩) (λt t1 t2=>hg t (by omega) t2) (by simp;omega) Qj
   exact⟨out,e,hc,by simp at hl;omega⟩
  .rw[ao ak,j6,aY];have:a=u:=by omega
   subst this;exact⟨acc,rfl,mq,by omega⟩
theorem Yt{g:Int->Int}{S:bF}(BA:S.length<=10000000){nm:ByteArray}{ls:List cb}(AU : -1000000000000<=a0)(di:b<=1000000000000){x:Int}:∀(n i:Nat)(a:Int)(acc:bF),i+n=S.length->a0<=a->Ch g b a (S.drop i)->Ch (λt=>lG t (g t) es) a x acc->acc.length<=64*i->
  ∃out,yJ (S.length:Int) (i:Int) nm ls es K acc S=some out/\Ch (λt=>lG t (g t) es) b x out/\out.length<=64*S.length
 |0,i,a,acc,hi,_,hc,mq,mH=>by
  rw[jd (by omega)]at hc;have hc:a=b:=hc;subst hc;rw[Mx];simp only[j1G];rw[ao (by omega),j6,aY];exact⟨acc,rfl,mq,by omega⟩
 |n+1,i,a,acc,hi,ha,hc,mq,mH=>by
  have bQ:i<S.length:=by omega
  rw[jb bQ]at hc;obtain⟨c1,c2,c3,c4⟩:=hc;have hle:=c4.le;have bk:S.getD i ((0:Int),((0:Int),(0:Int)))=S[i]:=by simp[List.getD,bQ]
  obtain⟨k,bb,ek,hk,k1,k2⟩:=jze hK Qg (a+1)
  obtain⟨out,e4,mK,Bo⟩:=jzM fg hK Qg hb gO (g:=g) (p:=S[i].2.2) (u:=S[i].2.1) hle (m:=(S.length:Int)) (q:=(i:Int)) (w:=S[i].1) (nm:=nm) (ls:=ls) (R:=S) (x:=x) K.length k a acc (by omega) ha c2 (λh=>by
   apply jp;intro Qk;obtain⟨j,hj,hjb⟩:=ya hb;have:=k1 j hj (by omega);omega) (λj hj _=>⟨λh=>by have:=k1 j hj h;omega,λh=>by have:=k2 j hj h;omega⟩) c3 (by omega) mq
  have ih:=Yt BA (nm:=nm) (ls:=ls) AU di (g:=g) (x:=x) n (i+1) S[i].2.1 out (by omega) (by omega) c4 mK (by omega);rw[Mx];simp only[j1G];rw[ag (by omega),ba (by omega) (by omega)];simp only[j5,j7,bk,c1];rw[aj (x:=a+1) (by omega) (by omega),ek];simp only[j3];rw[c1]at e4;rw[e4];simp only[j3];rw[aj (x:=(i:Int)+1) (by omega) (by omega),aP];exact ih
end
section
variable{zs:List bP}{ps:List dm}{cs:List aO}(hs:cQ zs ps cs)
include hs
theorem Yu{a b:Int}(ha:0<=a)(dj:a<=b)(hb:b<=8589934592)(hlen:b-a<=35078400):∀ls:List cb,(∀L∈ls,fR zs.length ps.length cs.length L)->
  ∃E:List Int,E.length<=30000*ls.length/\∀L∈ls,∀x,a<x->x<b->du zs cs L (x-1)≠du zs cs L x->x∈E
 |[],_=>⟨[],by simp,by simp⟩
 |L::ls,hL=>by
  obtain⟨E,e1,e2⟩:=Yu ha dj hb hlen ls (λM hM=>hL M (by simp[hM]));obtain⟨S,_,c1,l1⟩:=X5 hs (hL L (by simp)) (ss:=[]) ha dj hb hlen;refine⟨oF S++E,?_,λM hM x x1 x2 x3=>?_⟩
  .have:(oF S).length<=S.length:=by simp[oF]
   rw[jf,jl];omega
  .rcases jc.1 hM with rfl|hM
   .exact kb _ (((IF c1).1 x).2 ⟨x1,x2,x3⟩)
   .exact kg _ (e2 M hM x x1 x2 x3)
theorem jvV{ls:List cb}{es:List eU}(hL:∀L∈ls,fR zs.length ps.length cs.length L){a b:Int}(ha:0<=a)(dj:a<=b)(hb:b<=8589934592)(hlen:b-a<=35078400) :
  ∃E:List Int,E.length<=30000*ls.length+2*es.length/\(∀x,a<x->x<b->eM es (x-1) (dE zs cs ls (x-1)) ls.length≠eM es x (dE zs cs ls x) ls.length->x∈E)/\∀x∈nV es,x∈E:=by
 obtain⟨E,e1,e2⟩:=Yu hs ha dj hb hlen ls hL;refine⟨E++nV es,by rw[jf,Fz];omega,λx x1 x2 x3=>?_,λx hx=>kg _ hx⟩;apply jp;intro hn;simp only[jm,not_or]at hn;refine x3 (Yl (λi hi=>?_) (λp=>Yk hn.2 p));apply jp;intro aN;have e:∀t,dE zs cs ls t i=du zs cs ls[i] t:=λt=>by simp[dE,List.getD,hi]
 rw[e,e]at aN;exact hn.1 (e2 _ (ji hi) x x1 x2 aN)
theorem Yv{nm:ByteArray}{ls:List cb}{es:List eU}(hL:∀L∈ls,fR zs.length ps.length cs.length L)(fM:ls.length<=4)(hE:∀x∈es,pt ps.length x)(fg:es.length<=9)
  {ss:List dD}{a b:Int}(ha:0<=a)(dj:a<=b)(hb:b<=8589934592)(hlen:b-a<=35078400) :
  ∃out,j3q ((zs,(ps,(cs,ss))),zs.map tb) (nm,(ls,es)) a b=some out/\eV (λt=>eM es t (dE zs cs ls t) ls.length) b none a out/\out.length<=30000*ls.length+2*es.length+1:=by
 obtain⟨out,e,h,_⟩:=jvS hs hL fM hE fg ha dj hb (by omega) (nm:=nm) (ss:=ss);obtain⟨E,e1,e2,_⟩:=jvV hs (es:=es) hL ha dj hb hlen;have:=Yj h e2;exact⟨out,e,h,by omega⟩
theorem jxW{s:dD}(hk:sO zs.length ps.length cs.length s)(fM:s.2.1.length<=3)(fg:s.2.2.length<=6){ss:List dD}{a b:Int}(ha:0<=a)(dj:a<b)(hb:b<=8589934592)(hlen:b-a<=34560000) :
  ∃out,j39 ((zs,(ps,(cs,ss))),zs.map tb) s a b=some out/\eV (fT zs cs s) b none a out/\out.length<=10000000:=by
 obtain⟨S,eS,hS,lS⟩:=Yv hs (nm:=s.1) hk.ly (by omega) hk.ed (by omega) (ss:=ss) ha (by omega) hb (by omega);have l0:=Qf (es:=s.2.2) (by omega) (f:=a) (t:=b) (zs:=zs) (ps:=ps) (cs:=cs) (ss:=ss) (tbs:=zs.map tb) (nm:=s.1) (ls:=s.2.1) s.2.2.length 0 [] (by omega) (by simp);rw[js,k5]at l0;have sC:=Fz s.2.2;obtain⟨C,eC,c1,c2,c3⟩:=Ys (l:=nV s.2.2) (by omega) (f:=a) (t:=b)
 have hKp:(C++[b]).Pairwise (· < ·):=vu.2 ⟨c1,yd _ _,λx hx y hy=>by
  simp at hy;subst hy;exact((c3 x).1 hx).2.2⟩
 obtain⟨M,e2,hM,lM⟩:=Yt (es:=s.2.2) (by omega) hKp (by simp;omega) (a0:=a) (b:=b) (by simp) (λx hx x1 x2=>kb _ ((c3 x).2 ⟨hx,x1,x2⟩)) (g:=λt=>eM s.2.2 t (dE zs cs s.2.1 t) s.2.1.length) (S:=S) (by omega) (nm:=s.1) (ls:=s.2.1) (by omega) (by omega) (x:=a) S.length 0 a [] (by omega) (by omega) (by rw[k5];exact hS.ch) rfl (by simp);obtain⟨out,e3,h3,l3⟩:=IB (l:=M) (by omega) hM;refine⟨out,?_,h3,by omega⟩;simp only[j39,show Int.ofNat s.2.2.length=(s.2.2.length:Int) from rfl];rw[show Bh a b s.2.2 (s.2.2.length:Int) 0 zs ps cs ss (zs.map tb) s.1 s.2.1 s.2.2 []=_ from l0];simp only[j3,eC];rw[show j3q ((zs,(ps,(cs,ss))),zs.map tb) (s.1,(s.2.1,s.2.2)) a b=_ from eS];simp only[j3,show Int.ofNat S.length=(S.length:Int) from rfl];rw[show yJ (S.length:Int) 0 s.1 s.2.1 s.2.2 (C++[b]) [] S=_ from e2];simp only[j3,e3]
end
set_option linter.unusedSectionVars false
def bq(f:Int->Bool)(a:Int):Nat->Int
 |0=>0
 |n+1=>bq f a n+(cond (f (a+n)) 1 0)
theorem IH(f:Int->Bool)(a:Int):∀n:Nat,0<=bq f a n/\bq f a n<=n
 |0=>by simp[bq]
 |n+1=>by
  have:=IH f a n;simp only[bq];cases f (a+n)<;>simp only[j5,j6]<;>omega
theorem BB(f:Int->Bool)(a:Int)(n:Nat):∀m:Nat,bq f a (n+m)=bq f a n+bq f (a+n) m
 |0=>by simp[bq]
 |m+1=>by
  have:=BB f a n m;rw[show n+(m+1)=(n+m)+1 by omega];simp only[bq];rw[this,show a+((n+m:Nat):Int)=a+(n:Int)+(m:Int) by omega];omega
theorem Ql{f g:Int->Bool}{a:Int}:∀{n:Nat},(∀x,a<=x->x<a+n->f x=g x)->bq f a n=bq g a n
 |0,_=>rfl
 |n+1,h=>by
  simp only[bq];rw[Ql (n:=n) (λx h1 h2=>h x h1 (by omega)),h (a+n) (by omega) (by omega)]
theorem II{f:Int->Bool}{a:Int}:∀{n:Nat},(∀x,a<=x->x<a+n->f x=false)->bq f a n=0
 |0,_=>rfl
 |n+1,h=>by
  simp only[bq];rw[II (n:=n) (λx h1 h2=>h x h1 (by omega)),h (a+n) (by omega) (by omega)];rfl
theorem Qm{f:Int->Bool}{a:Int}:∀{n:Nat},(∀x,a<=x->x<a+n->f x=true)->bq f a n=n
 |0,_=>rfl
 |n+1,h=>by
  simp only[bq];rw[Qm (n:=n) (λx h1 h2=>h x h1 (by omega)),h (a+n) (by omega) (by omega)];simp only[j5];omega
def pC(p:Int):SL->Prop
 |[]=>True
 |x::r=>p<=x.1/\x.1<x.2/\pC x.2 r
theorem pC.weak{p q:Int}(hq:q<=p):∀{l:SL},pC p l->pC q l
 |[],_=>trivial
 |_::_,h=>⟨by have:=h.1;omega,h.2⟩
theorem bX.ino:∀{l:SL}{p:Int},bX p l->pC (p+1) l
 |[],_,_=>trivial
 |x::r,p,h=>⟨by have:=h.1;omega,h.2.1,(bX.ino h.2.2).weak (by omega)⟩
theorem gu.ino:∀{l:WL}{p:Int},gu p l->pC p l
 |[],_,_=>trivial
 |_::_,_,h=>⟨h.1,h.2.1,gu.ino h.2.2.2⟩
theorem Yw:∀{l:SL}{p s:Int},pC p l->s<p->hasB s l=false
 |[],_,_,_,_=>rfl
 |x::r,p,s,h,hs=>by
  obtain⟨h1,h2,h3⟩:=h;simp only[hasB];rw[ao (show¬x.1<=s by omega),Yw h3 (by omega)];rfl
theorem Yx:∀{l:SL}{p:Int}{N:Nat},pC p l->(∀u∈l,u.2<=p+N)->ig l=bq (λs=>hasB s l) p N
 |[],p,N,_,_=>(II (f:=λs=>hasB s []) (λ_ _ _=>rfl)).symm
 |x::r,p,N,h,hb=>by
  obtain⟨h1,h2,h3⟩:=h;have hx:=hb x (by simp);obtain⟨n1,e1⟩:∃n1:Nat,x.1=p+n1:=⟨(x.1-p).toNat,by omega⟩;obtain⟨n2,e2⟩:∃n2:Nat,x.2=x.1+n2:=⟨(x.2-x.1).toNat,by omega⟩;obtain⟨n3,e3⟩:∃n3:Nat,N=n1+n2+n3:=⟨N-n1-n2,by omega⟩;have ih:=Yx (l:=r) (p:=x.2) (N:=n3) h3 (λu hu=>by have:=hb u (by simp[hu]);omega);subst e3;rw[BB,BB]
  rw[II (a:=p) (n:=n1) (λs s1 s2=>by
   simp only[hasB];rw[ao (show¬x.1<=s by omega),Yw h3 (by omega)];rfl)]
  rw[Qm (a:=p+(n1:Int)) (n:=n2) (λs s1 s2=>by
   simp only[hasB];rw[ag (show x.1<=s by omega),ag (show s<x.2 by omega)];rfl)]
  rw[Ql (a:=p+((n1+n2:Nat):Int)) (g:=λs=>hasB s r) (λs s1 s2=>by
   simp only[hasB];rw[ao (show¬s<x.2 by omega)];cases decide (x.1<=s)<;>rfl)]
  rw[show p+((n1+n2:Nat):Int)=x.2 by omega,<-ih];simp only[ig];omega
theorem Yy:∀{l:SL}{p:Int},pC p l->0<=ig l
 |[],_,_=>ke _
 |x::r,p,h=>by
  have:=Yy h.2.2;have:=h.2.1;simp only[ig];omega
theorem Yz:∀{l:SL}{p:Int},pC p l->∀i,∃q,pC q (l.drop i)
 |[],p,_,i=>⟨p,by simp[pC]⟩
 |x::r,p,h,0=>⟨p,h⟩
 |x::r,p,h,i+1=>Yz h.2.2 i
section
variable{zs:List bP}{ps:List dm}{cs:List aO}(hs:cQ zs ps cs)
include hs
end
section
variable{zs:List bP}{ps:List dm}{cs:List aO}(hs:cQ zs ps cs)
include hs
end
def pD(v:Int)(S:bF):SL:=(S.filter λs=>s.2.2==v).map λs=>(s.1,s.2.1)
theorem jvW(v:Int)(s:jP)(r:bF):pD v (s::r)=(if s.2.2=v then [(s.1,s.2.1)] else [])++pD v r:=by
 unfold pD;by_cases hv:s.2.2=v
 .simp[hv]
 .simp[hv]
theorem jzg{f:Int->Int}{a b v:Int}{S:bF}(h:eV f b none a S){x:Int}:bI x (pD v S)↔a<=x/\x<b/\f x=v:=by
 unfold bI pD;constructor
 .rintro⟨u,hu,h1,h2⟩
  obtain⟨s,hs,rfl⟩:=jn.1 hu;have hm:=qx.1 hs;have hc:=h.ch.mem _ hm.1;have hv:s.2.2=v:=by simpa using hm.2
  exact⟨by dsimp only at h1;omega,by dsimp only at h2;omega,by rw[<-hv];exact hc.2.2.2 x h1 h2⟩
 .rintro⟨h0,h1,h2⟩
  obtain⟨s,hs,c1,c2⟩:=h.ch.has x h0 h1;have hc:=h.ch.mem _ hs;exact⟨_,jn.2 ⟨s,qx.2 ⟨hs,by rw[<-hc.2.2.2 x c1 c2,h2];exact qe _⟩,rfl⟩,c1,c2⟩
theorem Qn{v:Int}{S:bF}(hS:S.length<=1000000):∀(n i:Nat)(acc:SL),i+n=S.length->acc.length<=i->
  Ej v S (S.length:Int) (i:Int) acc=some (acc++pD v (S.drop i))
 |0,i,acc,hi,_=>by
  rw[Vg];simp only[j2M];rw[ao (by omega),j6,aY,jd (by omega)];simp[pD]
 |n+1,i,acc,hi,ha=>by
  have bQ:i<S.length:=by omega
  have bk:S.getD i ((0:Int),((0:Int),(0:Int)))=S[i]:=by simp[List.getD,bQ]
  rw[Vg];simp only[j2M];rw[ag (show (i:Int)<(S.length:Int) by omega),ba (by omega) (by omega),aj (x:=(i:Int)+1) (by omega) (by omega)];simp only[j5,j7,bk];have hd:pD v (S.drop i)=(if S[i].2.2=v then [(S[i].1,S[i].2.1)] else [])++pD v (S.drop (i+1)):=by rw[jb bQ,jvW]
  rw[hd];by_cases hv:S[i].2.2=v
  .rw[if_pos hv];rw[ff hv,j5,ag (by simp[aQ];omega),j5,aP];have ih:=Qn (v:=v) hS n (i+1) (acc++[(S[i].1,S[i].2.1)]) (by omega) (by simp;omega);rw[show ((i+1:Nat):Int)=(i:Int)+1 by omega]at ih;rw[jg]at ih;exact ih
  .rw[if_neg hv,js];rw[cP hv,j6,aP];have ih:=Qn (v:=v) hS n (i+1) acc (by omega) (by omega);rw[show ((i+1:Nat):Int)=(i:Int)+1 by omega]at ih;exact ih
section
variable{zs:List bP}{ps:List dm}{cs:List aO}(hs:cQ zs ps cs)
include hs
end
theorem jvX{np:Nat}{t p:Int}{x:eU}(h:pt np x)(hp:p<np):zJ t p x<np:=by
 have ha:=h.a;have hb:=h.b;unfold zJ;split
 .exact hp
 .split
  .omega
  .split
   .rename_i h1;have:=hb h1.1;omega
   .split
    .rename_i h1;have:=hb h1.1;omega
    .exact hp
theorem YA{np:Nat}{t:Int}:∀(es:List eU)(p:Int),(∀x∈es,pt np x)->p<np->lG t p es<np
 |[],_,_,hp=>hp
 |x::r,p,h,hp=>by
  simp only[lG];exact YA r _ (λy hy=>h y (by simp[hy])) (jvX (h x (by simp)) hp)
section
variable{zs:List bP}{ps:List dm}{cs:List aO}(hs:cQ zs ps cs)
include hs
theorem jxY{s:dD}(hk:sO zs.length ps.length cs.length s){t:Int}(h0:0<=t)(h1:t<=8589934592):fT zs cs s t<ps.length:=by
 unfold fT;refine YA _ _ hk.ed ?_;unfold eM;cases hT:eh (gF s.2.2 t (dE zs cs s.2.1 t)) s.2.1.length with
 |none=>dsimp only;omega
 |some k=>
  have jH:=Yo hT;have e:dE zs cs s.2.1 t k=du zs cs s.2.1[k] t:=by simp[dE,List.getD,jH]
  dsimp only
  rw[e];exact(XO hs (hk.ly _ (ji jH)) h0 h1).2.2
theorem jvY{ss:List dD}(hc:uE (zs,(ps,(cs,ss)))){i:Nat}(hi:i<ss.length)(fM:ss[i].2.1.length<=3)(fg:ss[i].2.2.length<=6){a b:Int}(ha:0<=a)(dj:a<b)(hb:b<=8589934592)(hlen:b-a<=1209600) :
  ∃S,j46 (zs,(ps,(cs,ss))) (i:Int) a b=some (S,0)/\eV (fT zs cs ss[i]) b none a S/\S.length<=16384:=by
 have AO:=hc.sc _ (ji hi);have KG:ss.getD i (ByteArray.empty,(([]:List cb),([]:List eU)))=ss[i]:=by simp[List.getD,hi]
 obtain⟨S,eS,hS,lS⟩:=jxW hs AO fM fg (ss:=ss) (a:=a) (b:=b) ha dj hb (by omega);obtain⟨E,e1,e2,e3⟩:=jxQ hs (es:=ss[i].2.2) AO.ly ha (Int.le_of_lt dj) hb hlen
 have BA:S.length<=E.length+1:=Yj hS (λx x1 x2 x3=>by
  apply jp;intro hn;refine x3 ?_;have hT:eM ss[i].2.2 (x-1) (dE zs cs ss[i].2.1 (x-1)) ss[i].2.1.length=eM ss[i].2.2 x (dE zs cs ss[i].2.1 x) ss[i].2.1.length:=by apply jp;intro aN;exact hn (e2 x x1 x2 aN)
  unfold fT;rw[hT];refine(Qe _ _ λy hy=>?_).symm;obtain⟨m1,m2⟩:=P8 hy;have n1:x≠y.2.2.2.1:=λe=>hn (e▸e3 _ m1);have n2:x≠y.2.2.2.2:=λe=>hn (e▸e3 _ m2);omega)
 refine⟨S,?_,hS,by omega⟩;simp only[j46];rw[show j8N (zs,(ps,(cs,ss))) (i:Int) a b=_ from Yn hs hc hi ha (Int.le_of_lt dj) hb (by omega)];simp only[j3,ju,j6];rw[ba (by omega) (by omega)];simp only[j5,j7,KG];rw[show j39 ((zs,(ps,(cs,ss))),zs.map tb) (ss[i].1,(ss[i].2.1,ss[i].2.2)) a b=_ from eS];simp only[j3,show Int.ofNat S.length=(S.length:Int) from rfl];rw[ao (show¬(S.length:Int)>16384 by omega)];rfl
end
end Go.Proofs.Pw
