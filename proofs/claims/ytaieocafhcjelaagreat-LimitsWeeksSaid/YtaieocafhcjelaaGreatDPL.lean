/- oa.Cuts: the G8 inside a range, ascending, and the end of the range. -/
import Derived.Test.YtaieocafhcjelaaGreatDPF
import Derived.Test.YtaieocafhcjelaaGreatDLS
import Derived.Test.YtaieocafhcjelaaGreatDPK
import Derived.Test.YtaieocafhcjelaaGreatDPG
import Derived.Test.YtaieocafhcjelaaGreatDPB
import Derived.KernelRfl
open Go Go.Lft
namespace Go.Proofs.Pw
theorem jxb{l:List Int}(hl:l.length<=1000000):∃s,j78 l=some s/\s.Perm l/\s.Pairwise (· <= ·):=by
 obtain⟨s,e,h1,h2⟩:=jwR (xs:=l) (by omega);exact⟨s,by simp only[j78,e],h1,h2⟩
def mH(f t x:Int):Bool:= !(cond (decide (x<=f)) true (decide (x>=t)))
theorem V9{l:List Int}(hl:l.length<=1000000){f t:Int}:∀(n i:Nat),i+n=l.length->(∀s∈l.take i,mH f t s=true)->
  (∃j:Nat,xN f t (l.length:Int) (i:Int) l=some (.inl ((j:Int),l))/\j<l.length/\(∀s∈l.take j,mH f t s=true)/\mH f t (l.getD j 0)=false)\/
  (xN f t (l.length:Int) (i:Int) l=some (.inr l)/\∀s∈l,mH f t s=true)
 |0,i,hi,h=>by
  rw[RY];simp only[j1C];rw[ak (by omega),j6,aW];rw[List.take_of_length_le (by omega)]at h;exact Or.inr ⟨rfl,h⟩
 |n+1,i,hi,h=>by
  rw[RY];simp only[j1C,jbs];rw[aj (show (i:Int)<(l.length:Int) by omega),aU (by omega) (by omega),ah (x:=(i:Int)+1) (by omega) (by omega)];simp only[j5,j7,j3];have an:i<l.length:=by omega
  cases hc:(cond (decide (l.getD i (0:Int)<=f)) true (decide (l.getD i (0:Int)>=t))) with
  |true=>simp only[j5,aW];exact Or.inl ⟨i,rfl,an,h,by simp only[mH];rw[hc];rfl⟩
  |false=>
   simp only[j6,aF];refine V9 hl n (i+1) (by omega) λs hs=>?_;rw[ko]at hs;rcases jn.1 hs with hs|hs
   .exact h s hs
   .have bf:l.getD i (0:Int)=l[i]:=by simp[an]
    rw[bf]at hc;rw[ji an]at hs;simp at hs;subst hs;simp only[mH];rw[hc];rfl
theorem NN{l:List Int}(hl:l.length<=1000000){f t:Int}:∀(n i j:Nat)(b:List Int),j+n=l.length->i<=j->b.length=l.length->b.drop j=l.drop j->b.take i=(l.take j).filter (mH f t)->
  ∃(k:Nat)(b':List Int),Aw f t (i:Int) (j:Int) b=some ((k:Int),b')/\b'.length=l.length/\k<=l.length/\b'.take k=l.filter (mH f t)
 |0,i,j,b,hj,dG,hb,hd,ht=>by
  rw[RZ];simp only[j1Y,show Int.ofNat (List.length b)=(b.length:Int) from rfl];rw[ak (by omega),j6,aW];rw[List.take_of_length_le (l:=l) (by omega)]at ht;exact⟨i,b,rfl,hb,by omega,ht⟩
 |n+1,i,j,b,hj,dG,hb,hd,ht=>by
  have an:j<l.length:=by omega
  have M7:b.getD j (0:Int)=l[j]:=by
   have:b[j]? = l[j]? := by
    have h:=jh (λx=>x[0]?) hd;simpa[List.getElem?_drop]using h
   rw[List.getD_eq_getElem?_getD,this,ji an];rfl
  have fW:b.drop (j+1)=l.drop (j+1):=by have:=jh (List.drop 1) hd;simpa[List.drop_drop]using this
  have mj:l.take (j+1)=l.take j++[l[j]]:=by rw[ko,ji an];rfl
  rw[RZ];simp only[j1Y,jbs,show Int.ofNat (List.length b)=(b.length:Int) from rfl];rw[aj (show (j:Int)<(b.length:Int) by omega),aU (by omega) (by omega),aU (by omega) (by omega),ah (x:=(j:Int)+1) (by omega) (by omega),ah (x:=(i:Int)+1) (by omega) (by omega)];simp only[j5,j7,j3,M7];cases hc:(cond (decide (l[j]<=f)) true (decide (l[j]>=t))) with
  |true=>simp only[jr,j6,aF];refine NN hl n i (j+1) b (by omega) (by omega) hb fW ?_;rw[mj,zm,ht];simp[mH,hc]
  |false=>
   simp only[jy,j5,aF];refine NN hl n (i+1) (j+1) _ (by omega) (by omega) (by simpa using hb) ?_ ?_
   .rw[List.drop_set_of_lt (by omega)];exact fW
   .have BZ:i<b.length:=by omega
    rw[ko,List.take_set_of_le (jj _),vj BZ,ht,mj,zm];simp[mH,hc]
theorem jtH{l:List Int}(hl:l.length<=1000000){f t:Int}:∃n m,j25 l f t=some (n,m)/\m.take n.toNat=l.filter (mH f t):=by
 simp only[j25,j2j,show Int.ofNat (List.length l)=(l.length:Int) from rfl];rcases V9 (f:=f) (t:=t) hl l.length 0 (by omega) (by simp) with⟨j,e,hj,h1,h2⟩|⟨e,h⟩
 .rw[show ((0:Nat):Int)=0 from rfl]at e;rw[e];simp only[j3,Re];rw[cJ (by omega),ah (x:=(j:Int)+1) (by omega) (by omega)];have bf:l.getD j (0:Int)=l[j]:=by simp[hj]
  rw[bf]at h2
  obtain⟨k,b,e2,hb,hk,ht⟩:=NN (f:=f) (t:=t) hl (l.length-(j+1)) j (j+1) l (by omega) (by omega) rfl rfl (by
   rw[ko,ji hj,zm,List.filter_eq_self.2 h1];simp[h2])
  rw[show ((j:Int)+1)=((j+1:Nat):Int) from rfl,e2];simp only[j6,j3,show Int.ofNat (List.length b)=(b.length:Int) from rfl,j7];rw[aj (show (0:Int)<=(k:Int) by omega),aj (show (k:Int)<=(b.length:Int) by omega)];simp only[Bool.and_self,j5,Bool.true_and];rw[aj (by simp;omega),j5];refine⟨_,_,rfl,?_⟩;simp only[show (Int.ofNat k).toNat=k from rfl];rw[zd (by simp;omega),zw,Nat.min_self,ht]
 .rw[show ((0:Nat):Int)=0 from rfl]at e;rw[e];simp only[j3,qA,beq_self_eq_true,j5];refine⟨_,_,rfl,?_⟩;simp only[show (Int.ofNat l.length).toNat=l.length from rfl];rw[List.take_of_length_le (jj _),List.filter_eq_self.2 h]
def kV:Int->List Int->List Int
 |_,[]=>[]
 |p,x::r=>if x=p then kV p r else x::kV x r
theorem NO:∀(l:List Int)(p:Int),∀x,x∈p::kV p l↔x∈p::l
 |[],_,_=>Iff.rfl
 |y::r,p,x=>by
  unfold kV;split
  .rename_i h;subst h;rw[NO r y x];simp
  .have:=NO r y x;rw[je,this,je,je,je]
theorem NP:∀(l:List Int)(p:Int),(p::l).Pairwise (· <= ·)->(p::kV p l).Pairwise (· < ·)
 |[],_,_=>by simp[kV]
 |y::r,p,h=>by
  have h1:=jx.1 h;unfold kV;split
  .rename_i h;subst h;exact NP r y h1.2
  .have ih:=NP r y h1.2;refine jx.2 ⟨λz hz=>?_,ih⟩;have hy:=h1.1 y (by simp);rcases je.1 hz with rfl|hz
   .omega
   .have:=(jx.1 ih).1 z hz;omega
theorem NQ{l:List Int}(hl:l.length<=1000000){k0:Nat}:∀(n s k:Nat)(b:List Int),k0+s+n=l.length->1<=s->k<=k0+s-1->b.length=l.length->b.drop k=l.drop k->
  ∃(m:Nat)(b':List Int),xO (k:Int) (k0:Int) (s:Int) b=some ((m:Int),b')/\b'.length=l.length/\m<=l.length/\b'.take m=b.take k++kV (l.getD (k0+s-1) 0) (l.drop (k0+s))
 |0,s,k,b,hn,hs,hk,hb,hd=>by
  rw[R0];simp only[j2t,j7,show Int.ofNat (b.length-k0)=((b.length-k0:Nat):Int) from rfl];rw[ak (by omega),j6,aW,jf (by omega)];exact⟨k,b,rfl,hb,by omega,by simp[kV]⟩
 |n+1,s,k,b,hn,hs,hk,hb,hd=>by
  have an:k0+s<l.length:=by omega
  have qZ:∀j,k<=j->b[j]? = l[j]? := λj hj=>by
   have h:=jh (λx=>x[j-k]?) hd;simpa[List.getElem?_drop,show k+(j-k)=j by omega]using h
  have g1:b.getD (k0+s) (0:Int)=l[k0+s]:=by rw[List.getD_eq_getElem?_getD,qZ _ (by omega),ji an];rfl
  have g2:b.getD (k0+(s-1)) (0:Int)=l.getD (k0+s-1) 0:=by rw[List.getD_eq_getElem?_getD,qZ _ (by omega),show k0+(s-1)=k0+s-1 by omega,List.getD_eq_getElem?_getD]
  have e1:l.getD (k0+(s+1)-1) 0=l[k0+s]:=by rw[show k0+(s+1)-1=k0+s by omega];simp[an]
  rw[R0];simp only[j2t,j7,show Int.ofNat (b.length-k0)=((b.length-k0:Nat):Int) from rfl,show Int.ofNat k0=(k0:Int) from rfl];rw[aj (show (s:Int)<((b.length-k0:Nat):Int) by omega),aU (show (0:Int)<=(s:Int) by omega) (by omega),ah (x:=(s:Int)-1) (by omega) (by omega),aU (show (0:Int)<=(s:Int)-1 by omega) (by omega),aU (show (0:Int)<=(k:Int) by omega) (by omega),ah (x:=(k:Int)+1) (by omega) (by omega),ah (x:=(s:Int)+1) (by omega) (by omega),show ((s:Int)-1).toNat=s-1 by omega,jc an];simp only[j5,g1,g2,kV];by_cases hc:l[k0+s]=l.getD (k0+s-1) 0
  .rw[show (l[k0+s] != l.getD (k0+s-1) 0)=false by rw[bne_eq_false_iff_eq];exact hc,if_pos hc,j6,aF];have ih:=NQ hl (k0:=k0) n (s+1) k b (by omega) (by omega) (by omega) hb hd;rw[e1,hc,show k0+(s+1)=k0+s+1 by omega]at ih;exact ih
  .rw[show (l[k0+s] != l.getD (k0+s-1) 0)=true by rw[bne_iff_ne];exact hc,if_neg hc,j5,aF]
   have ih:=NQ hl (k0:=k0) n (s+1) (k+1) (b.set k l[k0+s]) (by omega) (by omega) (by omega) (by simpa using hb) (by
    rw[List.drop_set_of_lt (by omega)];have:=jh (List.drop 1) hd;simpa[List.drop_drop]using this)
   rw[e1,show k0+(s+1)=k0+s+1 by omega]at ih;obtain⟨m,b',r1,r2,r3,r4⟩:=ih;refine⟨m,b',r1,r2,r3,?_⟩;have Bc:k<b.length:=by omega
   rw[r4,ko,List.take_set_of_le (jj _),vj Bc];simp
def rb:List Int->List Int
 |[]=>[]
 |a::r=>a::kV a r
theorem Wa{l:List Int}(hl:l.length<=1000000):∀(n k:Nat),k+n=l.length->1<=k->rb l=l.take k++kV (l.getD (k-1) 0) (l.drop k)->
  (∃(m:Nat)(b:List Int),tw (k:Int) l=some (.inl ((m:Int),b))/\b.take m=rb l)\/(tw (k:Int) l=some (.inr l)/\rb l=l)
 |0,k,hn,hk,hT=>by
  rw[R1];simp only[j16,show Int.ofNat l.length=(l.length:Int) from rfl];rw[ak (by omega),j6,aW];rw[List.take_of_length_le (by omega),jf (by omega)]at hT;exact .inr ⟨rfl,by simpa[kV]using hT⟩
 |n+1,k,hn,hk,hT=>by
  have an:k<l.length:=by omega
  have g1:l.getD k (0:Int)=l[k]:=by simp[an]
  rw[jc an]at hT;simp only[kV]at hT;rw[R1];simp only[j16,show Int.ofNat l.length=(l.length:Int) from rfl];rw[aj (show (k:Int)<(l.length:Int) by omega),aU (show (0:Int)<=(k:Int) by omega) (by omega),ah (x:=(k:Int)-1) (by omega) (by omega),aU (show (0:Int)<=(k:Int)-1 by omega) (by omega),ah (x:=(k:Int)+1) (by omega) (by omega),show ((k:Int)-1).toNat=k-1 by omega,aj (show (0:Int)<=(k:Int) by omega),aj (show (k:Int)<=(l.length:Int) by omega)];simp only[j5,j7,g1,Bool.and_self,show Int.ofNat k=(k:Int) from rfl];by_cases hc:l[k]=l.getD (k-1) 0
  .rw[if_pos hc]at hT;obtain⟨m,b,r1,r2,r3,r4⟩:=NQ hl (k0:=k) n 1 k l (by omega) (by omega) (by omega) rfl rfl;rw[show k+1-1=k by omega,g1,hc,<-hT]at r4;rw[dT hc,j5,show xO (k:Int) (k:Int) 1 l=_ from r1];simp only[j3,j7,show Int.ofNat b.length=(b.length:Int) from rfl];rw[aj (show (0:Int)<=(m:Int) by omega),aj (show (m:Int)<=(b.length:Int) by omega)];simp only[Bool.and_self,j5,Bool.true_and];rw[aj (by simp;omega),j5,aW];refine .inl ⟨m,_,rfl,?_⟩;rw[zd (by simp;omega),zw,Nat.min_self,r4]
  .rw[if_neg hc]at hT;rw[cJ hc,j6,aF];refine Wa hl n (k+1) (by omega) (by omega) ?_;have mj:l.take (k+1)=l.take k++[l[k]]:=by rw[ko,ji an];rfl
   rw[hT,mj,show k+1-1=k by omega,g1,jd];rfl
theorem jrN{l:List Int}(hl:l.length<=1000000):∃n m,j2P l=some (n,m)/\m.take n.toNat=rb l:=by
 simp only[j2P,show Int.ofNat l.length=(l.length:Int) from rfl];by_cases h2:l.length<2
 .rw[aj (by omega),j5];refine⟨_,_,rfl,?_⟩;rw[j7,List.take_of_length_le (jj _)];match l,h2 with
  |[],_=>rfl
  |[a],_=>rfl
  |_::_::_,h2=>simp at h2;omega
 .rw[ak (by omega),j6]
  have hT:rb l=l.take 1++kV (l.getD (1-1) 0) (l.drop 1):=by
   match l,h2 with
   |[],h2=>simp at h2
   |a::r,_=>rfl
  rcases Wa hl (l.length-1) 1 (by omega) (by omega) hT with⟨m,b,e,h⟩|⟨e,h⟩
  .rw[show tw 1 l=_ from e];refine⟨_,_,rfl,?_⟩;simpa using h
  .rw[show tw 1 l=_ from e];refine⟨_,_,rfl,?_⟩;rw[h];simp
theorem jze{l:List Int}(x:Int):x∈rb l↔x∈l:=by
 cases l with
 |nil=>exact Iff.rfl
 |cons a r=>exact NO r a x
theorem jzf{l:List Int}(h:l.Pairwise (· <= ·)):(rb l).Pairwise (· < ·):=by
 cases l with
 |nil=>exact .nil
 |cons a r=>exact NP r a h
theorem NR:∀(l:List Int)(p:Int),(kV p l).length<=l.length
 |[],_=>jj _
 |y::r,p=>by
  unfold kV;split
  .have:=NR r p;simp;omega
  .have:=NR r y;simp;omega
theorem jzg(l:List Int):(rb l).length<=l.length:=by
 cases l with
 |nil=>exact jj _
 |cons a r=>have:=NR r a;simp[rb];omega
theorem Wb{l:List Int}(hl:l.length<=1000000){f t:Int}:∃C,jbt l f t=some (C++[t])/\C.Pairwise (· < ·)/\C.length<=l.length/\(∀x,x∈C↔x∈l/\f<x/\x<t):=by
 obtain⟨n1,m1,e1,h1⟩:=jtH (l:=l) (by omega) (f:=f) (t:=t);have eO:(l.filter (mH f t)).length<=l.length:=List.length_filter_le _ _;obtain⟨s,e2,p2,a2⟩:=jxb (l:=l.filter (mH f t)) (by omega);have eU:=p2.length_eq;obtain⟨n3,m3,e3,h3⟩:=jrN (l:=s) (by omega);have fj:=jzg s;refine⟨rb s,?_,jzf a2,by omega,λx=>?_⟩
 .simp only[jbt,j8P,jm,qc];rw[aj (show 0+l.length<=aS by simp[aS];omega),j5];simp only[j3,e1,h1,e2,e3,h3];rw[aj (show (rb s).length+[t].length<=aS by simp[aS];omega),j5]
 .rw[jze,p2.mem_iff,qq]
  have:mH f t x=true↔f<x/\x<t:=by
   unfold mH;by_cases h1:x<=f
   .rw[aj h1];simp;omega
   .rw[ak h1];by_cases h2:x>=t
    .rw[aj h2];simp;omega
    .rw[ak h2];simp;omega
  rw[this]
theorem jAA{ds:List Int}(hs:ds.Pairwise (· < ·))(hl:ds.length<=64)(x:Int):∃(k:Nat)(b:Bool),j1D ds x=some ((k:Int),b)/\k<=ds.length/\(∀i,(hi:i<ds.length)->i<k->ds[i]<x)/\∀i,(hi:i<ds.length)->k<=i->x<=ds[i]:=by
 obtain⟨k,e,hk,h1,h2⟩:=M5 hs hl (x:=x) ds.length 0 ds.length (by omega) (by omega) (jj _) (λi _ h=>by omega) (λi hi h=>by omega);rw[show ((0:Nat):Int)=0 from rfl]at e;simp only[j1D,show Int.ofNat ds.length=(ds.length:Int) from rfl,e,j3,j7];by_cases iW:k<ds.length
 .have bf:ds.getD k (0:Int)=ds[k]:=by simp[iW]
  rw[aU (by omega) (by omega),aj (show (k:Int)<(ds.length:Int) by omega),bf];simp only[Bool.true_or,j5];by_cases hx:ds[k]=x
  .rw[dT hx];exact⟨k,_,rfl,hk,h1,h2⟩
  .rw[cJ hx];simp only[j6,j9r,j3,jp];exact⟨k,_,rfl,hk,h1,h2⟩
 .rw[ak (show¬(k:Int)<(ds.length:Int) by omega)];simp only[jy,Bool.or_true,j5,j6,Bool.false_and];exact⟨k,_,rfl,hk,h1,h2⟩
theorem NS{a t:Int}:∀(es:List eJ)(p:Int),(∀x∈es,(x.2.2.2.1<=a↔x.2.2.2.1<=t)/\(x.2.2.2.2<=a↔x.2.2.2.2<=t))->lR t p es=lR a p es
 |[],_,_=>rfl
 |x::r,p,h=>by
  have hx:=h x (by simp);simp only[lR]
  have e:Eo t p x=Eo a p x:=by
   unfold Eo;have:(t<x.2.2.2.1\/x.2.2.2.2<=t)↔(a<x.2.2.2.1\/x.2.2.2.2<=a):=by omega
   by_cases hc:a<x.2.2.2.1\/x.2.2.2.2<=a
   .rw[if_pos hc,if_pos (this.2 hc)]
   .rw[if_neg hc,if_neg (λh=>hc (this.1 h))]
  rw[e];exact NS r _ (λy hy=>h y (by simp[hy]))
theorem Wc{es:List eJ}(hl:es.length<=1000){f t:Int}{zs:List cg}{ps:List dP}{cs:List bk}{ss:List cM}{tbs:List (Int×bR)}{nm:ByteArray}{ls:List cb}:∀(n i:Nat)(acc:List Int),i+n=es.length->acc.length<=2*i->
  ya f t es (es.length:Int) (i:Int) zs ps cs ss tbs nm ls es acc=some (f,t,zs,ps,cs,ss,tbs,nm,ls,es,acc++og (es.drop i))
 |0,i,acc,hi,_=>by
  rw[Sq];simp only[j41];rw[ak (by omega),j6,aW,jf (by omega)];simp[og]
 |n+1,i,acc,hi,fc=>by
  have bF:i<es.length:=by omega
  have bf:es.getD i ((0:Int),((0:Int),((0:Int),((0:Int),(0:Int)))))=es[i]:=by simp[List.getD,bF]
  have ih:=Wc hl (f:=f) (t:=t) (zs:=zs) (ps:=ps) (cs:=cs) (ss:=ss) (tbs:=tbs) (nm:=nm) (ls:=ls) n (i+1) (acc++[es[i].2.2.2.1,es[i].2.2.2.2]) (by omega) (by simp;omega);rw[Sq];simp only[j41];rw[aj (by omega),aU (by omega) (by omega),ah (x:=(i:Int)+1) (by omega) (by omega)];simp only[j5,j7,bf];rw[aj (by simp[aS];omega),j5,aF,jc bF];rw[jd]at ih;exact ih
theorem jxc{es:List eJ}(hl:es.length<=100){p t:Int}:jcQ es p t=some (lR t p es):=by
 have ef:=V8 hl (t:=t) es.length 0 p (by omega);rw[jw]at ef;simp only[jcQ,show Int.ofNat es.length=(es.length:Int) from rfl,show x9 p t es (es.length:Int) 0=_ from ef];rfl
section
variable{es:List eJ}(gI:es.length<=100){K:List Int}(hK:K.Pairwise (· < ·))(NU:K.length<=64){a0 b:Int}(hb:b∈K)(mw:∀x∈og es,a0<x->x<b->x∈K)
include gI hK NU hb mw
theorem jBj{g:Int->Int}{p u:Int}(hu:u<=b){m q w:Int}{nm:ByteArray}{ls:List cb}{R:aX}{x:Int}:∀(n i:Nat)(a:Int)(acc:aX),K.length-i<=n->a0<=a->a<=u->(a<u->i<K.length)->(∀k,(hk:k<K.length)->(a<u->(k<i->K[k]<=a)/\(i<=k->a<K[k])))->(∀t,a<=t->t<u->g t=p)->
  acc.length+(K.length-i)<=1000000000->Ch (λt=>lR t (g t) es) a x acc->
  ∃out,AJ (i:Int) a m q nm ls es w u p K acc R=some (m,q,nm,ls,es,K,out,R)/\Ch (λt=>lR t (g t) es) u x out/\out.length<=acc.length+(K.length-i):=by
 intro n;induction n with
 |zero=>
  intro i a acc hn ha hau hi _ _ _ kT;rw[Sr];simp only[j20];have nG:¬a<u:=λh=>by have:=hi h;omega
  rw[ak nG,j6,aW];have:a=u:=by omega
  subst this;exact⟨acc,rfl,kT,by omega⟩
 |succ n ih=>
  intro i a acc hn ha hau hi cC hg xa kT;rw[Sr];simp only[j20];by_cases an:a<u
  .have lj:=hi an;have bf:K.getD i (0:Int)=K[i]:=by simp[lj]
   have h1:=((cC i lj) an).2 (jj _);rw[aj an,aU (by omega) (by omega),ah (x:=(i:Int)+1) (by omega) (by omega)];simp only[j5,j7,bf,jxc gI,j3];rw[aj (by simp[aS];omega),j5,aF];have dW:(if K[i]<u then K[i] else u)=min K[i] u:=by split<;>omega
   rw[dW];have fF:a<min K[i] u:=by omega
   have tQ:∀t,a<=t->t<min K[i] u->lR t (g t) es=lR a p es:=λt t1 t2=>by
    rw[hg t t1 (by omega)];refine NS es p (λy hy=>?_);obtain⟨y1,y2⟩:=NL hy
    have key:∀c,c∈og es->(c<=a↔c<=t):=λc hc=>by
     refine⟨λh=>by omega,λh=>?_⟩;apply jq;intro Nr;have hcK:=mw c hc (by omega) (by omega);obtain⟨k,hk,rfl⟩:=qx hcK;by_cases lK:k<i
     .have:=((cC k hk) an).1 lK;omega
     .by_cases NV:k=i
      .subst NV;omega
      .have:=kx.1 hK i k lj hk (by omega);omega
    exact⟨key _ y1,key _ y2⟩
   have NW:=kT.snoc (b:=a) (c:=min K[i] u) (p:=lR a p es) (by omega) tQ
   obtain⟨out,e,hc,hl⟩:=ih (i+1) (min K[i] u) (acc++[(a,(min K[i] u,lR a p es))]) (by omega) (by omega) (by omega) (λh=>by
    apply jq;intro NX;obtain⟨k,hk,Bc⟩:=qx hb;by_cases lK:k=i
    .subst lK;omega
    .have:=kx.1 hK k i hk lj (by omega);omega) (λk hk h=>⟨λlK=>by
    by_cases NV:k=i
    .subst NV;omega
    .have:=((cC k hk) an).1 (by omega);omega,λlK=>by
    have:=kx.1 hK i k lj hk (by omega);omega⟩) (λt t1 t2=>hg t (by omega) t2) (by simp;omega) NW
   exact⟨out,e,hc,by simp at hl;omega⟩
  .rw[ak an,j6,aW];have:a=u:=by omega
   subst this;exact⟨acc,rfl,kT,by omega⟩
theorem Wd{g:Int->Int}{S:aX}(G9:S.length<=10000000){nm:ByteArray}{ls:List cb}(sZ : -1000000000000<=a0)(da:b<=1000000000000){x:Int}:∀(n i:Nat)(a:Int)(acc:aX),i+n=S.length->a0<=a->Ch g b a (S.drop i)->Ch (λt=>lR t (g t) es) a x acc->acc.length<=64*i->
  ∃out,yb (S.length:Int) (i:Int) nm ls es K acc S=some out/\Ch (λt=>lR t (g t) es) b x out/\out.length<=64*S.length
 |0,i,a,acc,hi,_,hc,kT,xa=>by
  rw[jf (by omega)]at hc;have hc:a=b:=hc;subst hc;rw[Su];simp only[j21];rw[ak (by omega),j6,aW];exact⟨acc,rfl,kT,by omega⟩
 |n+1,i,a,acc,hi,ha,hc,kT,xa=>by
  have bF:i<S.length:=by omega
  rw[jc bF]at hc;obtain⟨c1,c2,c3,c4⟩:=hc;have hle:=c4.le;have bf:S.getD i ((0:Int),((0:Int),(0:Int)))=S[i]:=by simp[List.getD,bF]
  obtain⟨k,bb,ek,hk,k1,k2⟩:=jAA hK NU (a+1)
  obtain⟨out,e4,rN,MI⟩:=jBj gI hK NU hb mw (g:=g) (p:=S[i].2.2) (u:=S[i].2.1) hle (m:=(S.length:Int)) (q:=(i:Int)) (w:=S[i].1) (nm:=nm) (ls:=ls) (R:=S) (x:=x) K.length k a acc (by omega) ha c2 (λh=>by
   apply jq;intro NX;obtain⟨j,hj,hjb⟩:=qx hb;have:=k1 j hj (by omega);omega) (λj hj _=>⟨λh=>by have:=k1 j hj h;omega,λh=>by have:=k2 j hj h;omega⟩) c3 (by omega) kT
  have ih:=Wd G9 (nm:=nm) (ls:=ls) sZ da (g:=g) (x:=x) n (i+1) S[i].2.1 out (by omega) (by omega) c4 rN (by omega);rw[Su];simp only[j21];rw[aj (by omega),aU (by omega) (by omega)];simp only[j5,j7,bf,c1];rw[ah (x:=a+1) (by omega) (by omega),ek];simp only[j3];rw[c1]at e4;rw[e4];simp only[j3];rw[ah (x:=(i:Int)+1) (by omega) (by omega),aF];exact ih
end
section
variable{zs:List cg}{ps:List dP}{cs:List bk}(hs:fe zs ps cs)
include hs
theorem We{a b:Int}(ha:0<=a)(bz:a<=b)(hb:b<=8589934592)(hlen:b-a<=35078400):∀ls:List cb,(∀L∈ls,fD zs.length ps.length cs.length L)->
  ∃E:List Int,E.length<=30000*ls.length/\∀L∈ls,∀x,a<x->x<b->cQ zs cs L (x-1)≠cQ zs cs L x->x∈E
 |[],_=>⟨[],by simp,by simp⟩
 |L::ls,hL=>by
  obtain⟨E,e1,e2⟩:=We ha bz hb hlen ls (λM hM=>hL M (by simp[hM]));obtain⟨S,_,c1,l1⟩:=VN hs (hL L (by simp)) (ss:=[]) ha bz hb hlen;refine⟨nk S++E,?_,λM hM x x1 x2 x3=>?_⟩
  .have:(nk S).length<=S.length:=by simp[nk]
   rw[ja,jl];omega
  .rcases je.1 hM with rfl|hM
   .exact ka _ (((G6 c1).1 x).2 ⟨x1,x2,x3⟩)
   .exact kq _ (e2 M hM x x1 x2 x3)
theorem jxd{ls:List cb}{es:List eJ}(hL:∀L∈ls,fD zs.length ps.length cs.length L){a b:Int}(ha:0<=a)(bz:a<=b)(hb:b<=8589934592)(hlen:b-a<=35078400) :
  ∃E:List Int,E.length<=30000*ls.length+2*es.length/\(∀x,a<x->x<b->ff es (x-1) (dr zs cs ls (x-1)) ls.length≠ff es x (dr zs cs ls x) ls.length->x∈E)/\∀x∈og es,x∈E:=by
 obtain⟨E,e1,e2⟩:=We hs ha bz hb hlen ls hL;refine⟨E++og es,by rw[ja,G7];omega,λx x1 x2 x3=>?_,λx hx=>kq _ hx⟩;apply jq;intro hn;simp only[jn,not_or]at hn;refine x3 (V7 (λi hi=>?_) (λp=>V6 hn.2 p));apply jq;intro aZ;have e:∀t,dr zs cs ls t i=cQ zs cs ls[i] t:=λt=>by simp[dr,List.getD,hi]
 rw[e,e]at aZ;exact hn.1 (e2 _ (jg hi) x x1 x2 aZ)
theorem jtI{nm:ByteArray}{ls:List cb}{es:List eJ}(hL:∀L∈ls,fD zs.length ps.length cs.length L)(gZ:ls.length<=4)(hE:∀x∈es,qT ps.length x)(gI:es.length<=9)
  {ss:List cM}{a b:Int}(ha:0<=a)(bz:a<=b)(hb:b<=8589934592)(hlen:b-a<=35078400) :
  ∃out,j3w ((zs,(ps,(cs,ss))),zs.map tb) (nm,(ls,es)) a b=some out/\dO (λt=>ff es t (dr zs cs ls t) ls.length) b none a out/\out.length<=30000*ls.length+2*es.length+1:=by
 obtain⟨out,e,h,_⟩:=jxa hs hL gZ hE gI ha bz hb (by omega) (nm:=nm) (ss:=ss);obtain⟨E,e1,e2,_⟩:=jxd hs (es:=es) hL ha bz hb hlen;have:=V5 h e2;exact⟨out,e,h,by omega⟩
theorem jzh{s:cM}(hk:nY zs.length ps.length cs.length s)(gZ:s.2.1.length<=3)(gI:s.2.2.length<=6){ss:List cM}{a b:Int}(ha:0<=a)(bz:a<b)(hb:b<=8589934592)(hlen:b-a<=34560000) :
  ∃out,j35 ((zs,(ps,(cs,ss))),zs.map tb) s a b=some out/\dO (gy zs cs s) b none a out/\out.length<=10000000:=by
 obtain⟨S,eS,hS,lS⟩:=jtI hs (nm:=s.1) hk.ly (by omega) hk.ed (by omega) (ss:=ss) ha (by omega) hb (by omega);have l0:=Wc (es:=s.2.2) (by omega) (f:=a) (t:=b) (zs:=zs) (ps:=ps) (cs:=cs) (ss:=ss) (tbs:=zs.map tb) (nm:=s.1) (ls:=s.2.1) s.2.2.length 0 [] (by omega) (by simp);rw[jm,jw]at l0;have uD:=G7 s.2.2;obtain⟨C,eC,c1,c2,c3⟩:=Wb (l:=og s.2.2) (by omega) (f:=a) (t:=b)
 have hKp:(C++[b]).Pairwise (· < ·):=ql.2 ⟨c1,ze _ _,λx hx y hy=>by
  simp at hy;subst hy;exact((c3 x).1 hx).2.2⟩
 obtain⟨M,e2,hM,lM⟩:=Wd (es:=s.2.2) (by omega) hKp (by simp;omega) (a0:=a) (b:=b) (by simp) (λx hx x1 x2=>ka _ ((c3 x).2 ⟨hx,x1,x2⟩)) (g:=λt=>ff s.2.2 t (dr zs cs s.2.1 t) s.2.1.length) (S:=S) (by omega) (nm:=s.1) (ls:=s.2.1) (by omega) (by omega) (x:=a) S.length 0 a [] (by omega) (by omega) (by rw[jw];exact hS.ch) rfl (by simp);obtain⟨out,e3,h3,l3⟩:=Nv (l:=M) (by omega) hM;refine⟨out,?_,h3,by omega⟩;simp only[j35,show Int.ofNat s.2.2.length=(s.2.2.length:Int) from rfl];rw[show ya a b s.2.2 (s.2.2.length:Int) 0 zs ps cs ss (zs.map tb) s.1 s.2.1 s.2.2 []=_ from l0];simp only[j3,eC];rw[show j3w ((zs,(ps,(cs,ss))),zs.map tb) (s.1,(s.2.1,s.2.2)) a b=_ from eS];simp only[j3,show Int.ofNat S.length=(S.length:Int) from rfl];rw[show yb (S.length:Int) 0 s.1 s.2.1 s.2.2 (C++[b]) [] S=_ from e2];simp only[j3,e3]
end
set_option linter.unusedSectionVars false
theorem Wh{f:Int->Int}{b v:Int}:∀{l:aX}{q:Option Int}{a:Int},dO f b q a l->2*(l.filter λs=>s.2.2==v).length<=l.length+1/\(q=some v->2*(l.filter λs=>s.2.2==v).length<=l.length)
 |[],_,_,_=>by simp
 |s::r,q,a,h=>by
  obtain⟨_,_,h3,_,h5⟩:=h;have ih:=Wh (v:=v) h5;by_cases hv:s.2.2=v
  .have e:((s::r).filter λs=>s.2.2==v)=s::(r.filter λs=>s.2.2==v):=by simp[hv]
   rw[e];have:=ih.2 (by rw[hv]);refine⟨by simp only[jl];omega,λhq=>absurd (by rw[hq,hv]) h3⟩
  .have e:((s::r).filter λs=>s.2.2==v)=r.filter λs=>s.2.2==v:=by simp[hv]
   rw[e];have:=ih.1;exact⟨by simp only[jl];omega,λ_=>by simp only[jl];omega⟩
def oh(v:Int)(S:aX):SL:=(S.filter λs=>s.2.2==v).map λs=>(s.1,s.2.1)
theorem jxe(v:Int)(s:eX)(r:aX):oh v (s::r)=(if s.2.2=v then [(s.1,s.2.1)] else [])++oh v r:=by
 unfold oh;by_cases hv:s.2.2=v
 .simp[hv]
 .simp[hv]
theorem jAD{f:Int->Int}{a b v:Int}{S:aX}(h:dO f b none a S){x:Int}:br x (oh v S)↔a<=x/\x<b/\f x=v:=by
 unfold br oh;constructor
 .rintro⟨u,hu,h1,h2⟩
  obtain⟨s,hs,rfl⟩:=jt.1 hu;have hm:=qq.1 hs;have hc:=h.ch.mem _ hm.1;have hv:s.2.2=v:=by simpa using hm.2
  exact⟨by dsimp only at h1;omega,by dsimp only at h2;omega,by rw[<-hv];exact hc.2.2.2 x h1 h2⟩
 .rintro⟨h0,h1,h2⟩
  obtain⟨s,hs,c1,c2⟩:=h.ch.has x h0 h1;have hc:=h.ch.mem _ hs;exact⟨_,jt.2 ⟨s,qq.2 ⟨hs,by rw[<-hc.2.2.2 x c1 c2,h2];exact beq_self_eq_true _⟩,rfl⟩,c1,c2⟩
theorem NY{v:Int}{S:aX}(hS:S.length<=1000000):∀(n i:Nat)(acc:SL),i+n=S.length->acc.length<=i->
  yc v S (S.length:Int) (i:Int) acc=some (acc++oh v (S.drop i))
 |0,i,acc,hi,_=>by
  rw[Sv];simp only[j4j];rw[ak (by omega),j6,aW,jf (by omega)];simp[oh]
 |n+1,i,acc,hi,ha=>by
  have bF:i<S.length:=by omega
  have bf:S.getD i ((0:Int),((0:Int),(0:Int)))=S[i]:=by simp[List.getD,bF]
  rw[Sv];simp only[j4j];rw[aj (show (i:Int)<(S.length:Int) by omega),aU (by omega) (by omega),ah (x:=(i:Int)+1) (by omega) (by omega)];simp only[j5,j7,bf];have hd:oh v (S.drop i)=(if S[i].2.2=v then [(S[i].1,S[i].2.1)] else [])++oh v (S.drop (i+1)):=by rw[jc bF,jxe]
  rw[hd];by_cases hv:S[i].2.2=v
  .rw[if_pos hv];rw[dT hv,j5,aj (by simp[aS];omega),j5,aF];have ih:=NY (v:=v) hS n (i+1) (acc++[(S[i].1,S[i].2.1)]) (by omega) (by simp;omega);rw[show ((i+1:Nat):Int)=(i:Int)+1 by omega]at ih;rw[jd]at ih;exact ih
  .rw[if_neg hv,jm];rw[cJ hv,j6,aF];have ih:=NY (v:=v) hS n (i+1) acc (by omega) (by omega);rw[show ((i+1:Nat):Int)=(i:Int)+1 by omega]at ih;exact ih
section
variable{zs:List cg}{ps:List dP}{cs:List bk}(hs:fe zs ps cs)
include hs
theorem jxf{L:cb}(hL:fD zs.length ps.length cs.length L){ss:List cM}{a b:Int}(ha:0<=a)(bz:a<=b)(hb:b<=8589934592){M:Nat}(hM:M<=60)(hlen:b-a<=604800*M) :
  ∃out,j1Z ((zs,(ps,(cs,ss))),zs.map tb) L a b=some out/\dO (cQ zs cs L) b none a out/\out.length<=308*M+191:=by
 obtain⟨out,e,h1,h2⟩:=VJ hs hL (ss:=ss) ha bz hb hM hlen (N:=((b-a)/3600+8).toNat) (by omega) (VM hs hL ha (by omega)) (VL hs hL ha hb);refine⟨out,e,h1,?_⟩;have hw:L.2.2.2.2.2.2.1.length*(M+1)*5<=14*(M+1)*5:=jv _ (jv _ hL.wl)
 have hc:(if L.2.2.2.2.2.2.2.2=0 then 0 else (mG cs L.2.2.2.2.2.2.2.1).2.2.length*5)<=4*5:=by
  by_cases hm:L.2.2.2.2.2.2.2.2=0
  .rw[if_pos hm];omega
  .rw[if_neg hm];refine jv _ (hs.c.dl _ ?_);have hq:=hL.cal hm;have hi:(L.2.2.2.2.2.2.2.1).toNat<cs.length:=by omega
   unfold mG;rw[show cs.getD (L.2.2.2.2.2.2.2.1).toNat (ByteArray.empty,((0:Int),([]:List Int)))=cs[(L.2.2.2.2.2.2.2.1).toNat] by simp[List.getD,hi]];exact jg hi
 omega
theorem Wi{a b:Int}(ha:0<=a)(bz:a<=b)(hb:b<=8589934592){M K:Nat}(hM:M<=60)(hlen:b-a<=604800*M)(hK:K=308*M+191):∀ls:List cb,(∀L∈ls,fD zs.length ps.length cs.length L)->
  ∃E:List Int,E.length<=K*ls.length/\∀L∈ls,∀x,a<x->x<b->cQ zs cs L (x-1)≠cQ zs cs L x->x∈E
 |[],_=>⟨[],by simp,by simp⟩
 |L::ls,hL=>by
  obtain⟨E,e1,e2⟩:=Wi ha bz hb hM hlen hK ls (λM hM=>hL M (by simp[hM]));obtain⟨S,_,c1,l1⟩:=jxf hs (hL L (by simp)) (ss:=[]) ha bz hb hM hlen;refine⟨nk S++E,?_,λM hM x x1 x2 x3=>?_⟩
  .have:(nk S).length<=S.length:=by simp[nk]
   rw[ja,jl,Nat.mul_succ];omega
  .rcases je.1 hM with rfl|hM
   .exact ka _ (((G6 c1).1 x).2 ⟨x1,x2,x3⟩)
   .exact kq _ (e2 M hM x x1 x2 x3)
theorem jvV{s:cM}(hk:nY zs.length ps.length cs.length s){a b:Int}(ha:0<=a)(bz:a<=b)(hb:b<=8589934592){M K:Nat}(hM:M<=60)(hlen:b-a<=604800*M)(hK:K=308*M+191) :
  ∃E:List Int,E.length<=K*s.2.1.length+2*s.2.2.length/\∀x,a<x->x<b->gy zs cs s (x-1)≠gy zs cs s x->x∈E:=by
 obtain⟨E,e1,e2⟩:=Wi hs ha bz hb hM hlen hK s.2.1 hk.ly;refine⟨E++og s.2.2,by rw[ja,G7];omega,λx x1 x2 x3=>?_⟩;apply jq;intro hn;simp only[jn,not_or]at hn;refine x3 ?_
 have hT:ff s.2.2 (x-1) (dr zs cs s.2.1 (x-1)) s.2.1.length=ff s.2.2 x (dr zs cs s.2.1 x) s.2.1.length:=by
  refine V7 (λi hi=>?_) (λp=>V6 hn.2 p);apply jq;intro aZ;have e:∀t,dr zs cs s.2.1 t i=cQ zs cs s.2.1[i] t:=λt=>by simp[dr,List.getD,hi]
  rw[e,e]at aZ;exact hn.1 (e2 _ (jg hi) x x1 x2 aZ)
 unfold gy;rw[hT];refine(NS _ _ λy hy=>?_).symm;obtain⟨m1,m2⟩:=NL hy;have n1:x≠y.2.2.2.1:=λe=>hn.2 (e▸m1);have n2:x≠y.2.2.2.2:=λe=>hn.2 (e▸m2);omega
end
end Go.Proofs.Pw
