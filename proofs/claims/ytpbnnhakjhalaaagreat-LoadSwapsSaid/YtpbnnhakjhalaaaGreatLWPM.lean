/- nT.Cuts: the Gx inside a range, ascending, and the end of the range. -/
import Derived.Test.YtpbnnhakjhalaaaGreatLWPF
import Derived.Test.YtpbnnhakjhalaaaGreatLWLS
import Derived.Test.YtpbnnhakjhalaaaGreatLWPL
import Derived.Test.YtpbnnhakjhalaaaGreatLWPG
import Derived.Test.YtpbnnhakjhalaaaGreatLWPA
import Derived.KernelRfl
open Go Go.Lft
namespace Go.Proofs.Pw
theorem jw1{l:List Int}(hl:l.length<=1000000):∃s,j5q l=some s/\s.Perm l/\s.Pairwise (· <= ·):=by
 obtain⟨s,e,h1,h2⟩:=jvw (xs:=l) (by omega);exact⟨s,by simp only[j5q,e],h1,h2⟩
def mN(f t x:Int):Bool:= !(cond (decide (x<=f)) true (decide (x>=t)))
theorem V4{l:List Int}(hl:l.length<=1000000){f t:Int}:∀(n i:Nat),i+n=l.length->(∀s∈l.take i,mN f t s=true)->
  (∃j:Nat,Ci f t (l.length:Int) (i:Int) l=some (.inl ((j:Int),l))/\j<l.length/\(∀s∈l.take j,mN f t s=true)/\mN f t (l.getD j 0)=false)\/
  (Ci f t (l.length:Int) (i:Int) l=some (.inr l)/\∀s∈l,mN f t s=true)
 |0,i,hi,h=>by
  rw[Sn];simp only[j0G];rw[aj (by omega),j6,aY];rw[List.take_of_length_le (by omega)]at h;exact Or.inr ⟨rfl,h⟩
 |n+1,i,hi,h=>by
  rw[Sn];simp only[j0G,j9e];rw[ag (show (i:Int)<(l.length:Int) by omega),aZ (by omega) (by omega),ah (x:=(i:Int)+1) (by omega) (by omega)];simp only[j5,j7,j3];have au:i<l.length:=by omega
  cases hc:(cond (decide (l.getD i (0:Int)<=f)) true (decide (l.getD i (0:Int)>=t))) with
  |true=>simp only[j5,aY];exact Or.inl ⟨i,rfl,au,h,by simp only[mN];rw[hc];rfl⟩
  |false=>
   simp only[j6,aQ];refine V4 hl n (i+1) (by omega) λs hs=>?_;rw[km]at hs;rcases js.1 hs with hs|hs
   .exact h s hs
   .have bh:l.getD i (0:Int)=l[i]:=by simp[au]
    rw[bh]at hc;rw[jj au]at hs;simp at hs;subst hs;simp only[mN];rw[hc];rfl
theorem N3{l:List Int}(hl:l.length<=1000000){f t:Int}:∀(n i j:Nat)(b:List Int),j+n=l.length->i<=j->b.length=l.length->b.drop j=l.drop j->b.take i=(l.take j).filter (mN f t)->
  ∃(k:Nat)(b':List Int),Fl f t (i:Int) (j:Int) b=some ((k:Int),b')/\b'.length=l.length/\k<=l.length/\b'.take k=l.filter (mN f t)
 |0,i,j,b,hj,ec,hb,hd,ht=>by
  rw[Sp];simp only[j0S,show Int.ofNat (List.length b)=(b.length:Int) from rfl];rw[aj (by omega),j6,aY];rw[List.take_of_length_le (l:=l) (by omega)]at ht;exact⟨i,b,rfl,hb,by omega,ht⟩
 |n+1,i,j,b,hj,ec,hb,hd,ht=>by
  have au:j<l.length:=by omega
  have Nj:b.getD j (0:Int)=l[j]:=by
   have:b[j]? = l[j]? := by
    have h:=jl (λx=>x[0]?) hd;simpa[List.getElem?_drop]using h
   rw[List.getD_eq_getElem?_getD,this,jj au];rfl
  have fJ:b.drop (j+1)=l.drop (j+1):=by have:=jl (List.drop 1) hd;simpa[List.drop_drop]using this
  have iS:l.take (j+1)=l.take j++[l[j]]:=by rw[km,jj au];rfl
  rw[Sp];simp only[j0S,j9e,show Int.ofNat (List.length b)=(b.length:Int) from rfl];rw[ag (show (j:Int)<(b.length:Int) by omega),aZ (by omega) (by omega),aZ (by omega) (by omega),ah (x:=(j:Int)+1) (by omega) (by omega),ah (x:=(i:Int)+1) (by omega) (by omega)];simp only[j5,j7,j3,Nj];cases hc:(cond (decide (l[j]<=f)) true (decide (l[j]>=t))) with
  |true=>simp only[jn,j6,aQ];refine N3 hl n i (j+1) b (by omega) (by omega) hb fJ ?_;rw[iS,zp,ht];simp[mN,hc]
  |false=>
   simp only[k5,j5,aQ];refine N3 hl n (i+1) (j+1) _ (by omega) (by omega) (by simpa using hb) ?_ ?_
   .rw[List.drop_set_of_lt (by omega)];exact fJ
   .have zW:i<b.length:=by omega
    rw[km,List.take_set_of_le (jq _),List.getElem?_set_self zW,ht,iS,zp];simp[mN,hc]
theorem js5{l:List Int}(hl:l.length<=1000000){f t:Int}:∃n m,j2K l f t=some (n,m)/\m.take n.toNat=l.filter (mN f t):=by
 simp only[j2K,j3R,show Int.ofNat (List.length l)=(l.length:Int) from rfl];rcases V4 (f:=f) (t:=t) hl l.length 0 (by omega) (by simp) with⟨j,e,hj,h1,h2⟩|⟨e,h⟩
 .rw[show ((0:Nat):Int)=0 from rfl]at e;rw[e];simp only[j3,Jj];rw[cB (by omega),ah (x:=(j:Int)+1) (by omega) (by omega)];have bh:l.getD j (0:Int)=l[j]:=by simp[hj]
  rw[bh]at h2
  obtain⟨k,b,e2,hb,hk,ht⟩:=N3 (f:=f) (t:=t) hl (l.length-(j+1)) j (j+1) l (by omega) (by omega) rfl rfl (by
   rw[km,jj hj,zp,List.filter_eq_self.2 h1];simp[h2])
  rw[show ((j:Int)+1)=((j+1:Nat):Int) from rfl,e2];simp only[j6,j3,show Int.ofNat (List.length b)=(b.length:Int) from rfl,j7];rw[ag (show (0:Int)<=(k:Int) by omega),ag (show (k:Int)<=(b.length:Int) by omega)];simp only[Bool.and_self,j5,Bool.true_and];rw[ag (by simp;omega),j5];refine⟨_,_,rfl,?_⟩;simp only[show (Int.ofNat k).toNat=k from rfl];rw[qp (by simp;omega),ze,Nat.min_self,ht]
 .rw[show ((0:Nat):Int)=0 from rfl]at e;rw[e];simp only[j3,lT,zj,j5];refine⟨_,_,rfl,?_⟩;simp only[show (Int.ofNat l.length).toNat=l.length from rfl];rw[List.take_of_length_le (jq _),List.filter_eq_self.2 h]
def lI:Int->List Int->List Int
 |_,[]=>[]
 |p,x::r=>if x=p then lI p r else x::lI x r
theorem N4:∀(l:List Int)(p:Int),∀x,x∈p::lI p l↔x∈p::l
 |[],_,_=>Iff.rfl
 |y::r,p,x=>by
  unfold lI;split
  .rename_i h;subst h;rw[N4 r y x];simp
  .have:=N4 r y x;rw[jd,this,jd,jd,jd]
theorem N5:∀(l:List Int)(p:Int),(p::l).Pairwise (· <= ·)->(p::lI p l).Pairwise (· < ·)
 |[],_,_=>by simp[lI]
 |y::r,p,h=>by
  have h1:=qf.1 h;unfold lI;split
  .rename_i h;subst h;exact N5 r y h1.2
  .have ih:=N5 r y h1.2;refine qf.2 ⟨λz hz=>?_,ih⟩;have hy:=h1.1 y (by simp);rcases jd.1 hz with rfl|hz
   .omega
   .have:=(qf.1 ih).1 z hz;omega
theorem N6{l:List Int}(hl:l.length<=1000000){k0:Nat}:∀(n s k:Nat)(b:List Int),k0+s+n=l.length->1<=s->k<=k0+s-1->b.length=l.length->b.drop k=l.drop k->
  ∃(m:Nat)(b':List Int),Cj (k:Int) (k0:Int) (s:Int) b=some ((m:Int),b')/\b'.length=l.length/\m<=l.length/\b'.take m=b.take k++lI (l.getD (k0+s-1) 0) (l.drop (k0+s))
 |0,s,k,b,hn,hs,hk,hb,hd=>by
  rw[Sq];simp only[j18,j7,show Int.ofNat (b.length-k0)=((b.length-k0:Nat):Int) from rfl];rw[aj (by omega),j6,aY,jc (by omega)];exact⟨k,b,rfl,hb,by omega,by simp[lI]⟩
 |n+1,s,k,b,hn,hs,hk,hb,hd=>by
  have au:k0+s<l.length:=by omega
  have Dv:∀j,k<=j->b[j]? = l[j]? := λj hj=>by
   have h:=jl (λx=>x[j-k]?) hd;simpa[List.getElem?_drop,show k+(j-k)=j by omega]using h
  have g1:b.getD (k0+s) (0:Int)=l[k0+s]:=by rw[List.getD_eq_getElem?_getD,Dv _ (by omega),jj au];rfl
  have g2:b.getD (k0+(s-1)) (0:Int)=l.getD (k0+s-1) 0:=by rw[List.getD_eq_getElem?_getD,Dv _ (by omega),show k0+(s-1)=k0+s-1 by omega,List.getD_eq_getElem?_getD]
  have e1:l.getD (k0+(s+1)-1) 0=l[k0+s]:=by rw[show k0+(s+1)-1=k0+s by omega];simp[au]
  rw[Sq];simp only[j18,j7,show Int.ofNat (b.length-k0)=((b.length-k0:Nat):Int) from rfl,show Int.ofNat k0=(k0:Int) from rfl];rw[ag (show (s:Int)<((b.length-k0:Nat):Int) by omega),aZ (show (0:Int)<=(s:Int) by omega) (by omega),ah (x:=(s:Int)-1) (by omega) (by omega),aZ (show (0:Int)<=(s:Int)-1 by omega) (by omega),aZ (show (0:Int)<=(k:Int) by omega) (by omega),ah (x:=(k:Int)+1) (by omega) (by omega),ah (x:=(s:Int)+1) (by omega) (by omega),show ((s:Int)-1).toNat=s-1 by omega,jb au];simp only[j5,g1,g2,lI];by_cases hc:l[k0+s]=l.getD (k0+s-1) 0
  .rw[show (l[k0+s] != l.getD (k0+s-1) 0)=false by rw[bne_eq_false_iff_eq];exact hc,if_pos hc,j6,aQ];have ih:=N6 hl (k0:=k0) n (s+1) k b (by omega) (by omega) (by omega) hb hd;rw[e1,hc,show k0+(s+1)=k0+s+1 by omega]at ih;exact ih
  .rw[show (l[k0+s] != l.getD (k0+s-1) 0)=true by rw[bne_iff_ne];exact hc,if_neg hc,j5,aQ]
   have ih:=N6 hl (k0:=k0) n (s+1) (k+1) (b.set k l[k0+s]) (by omega) (by omega) (by omega) (by simpa using hb) (by
    rw[List.drop_set_of_lt (by omega)];have:=jl (List.drop 1) hd;simpa[List.drop_drop]using this)
   rw[e1,show k0+(s+1)=k0+s+1 by omega]at ih;obtain⟨m,b',r1,r2,r3,r4⟩:=ih;refine⟨m,b',r1,r2,r3,?_⟩;have rh:k<b.length:=by omega
   rw[r4,km,List.take_set_of_le (jq _),List.getElem?_set_self rh];simp
def qL:List Int->List Int
 |[]=>[]
 |a::r=>a::lI a r
theorem V5{l:List Int}(hl:l.length<=1000000):∀(n k:Nat),k+n=l.length->1<=k->qL l=l.take k++lI (l.getD (k-1) 0) (l.drop k)->
  (∃(m:Nat)(b:List Int),wS (k:Int) l=some (.inl ((m:Int),b))/\b.take m=qL l)\/(wS (k:Int) l=some (.inr l)/\qL l=l)
 |0,k,hn,hk,hT=>by
  rw[Sr];simp only[j19,show Int.ofNat l.length=(l.length:Int) from rfl];rw[aj (by omega),j6,aY];rw[List.take_of_length_le (by omega),jc (by omega)]at hT;exact .inr ⟨rfl,by simpa[lI]using hT⟩
 |n+1,k,hn,hk,hT=>by
  have au:k<l.length:=by omega
  have g1:l.getD k (0:Int)=l[k]:=by simp[au]
  rw[jb au]at hT;simp only[lI]at hT;rw[Sr];simp only[j19,show Int.ofNat l.length=(l.length:Int) from rfl];rw[ag (show (k:Int)<(l.length:Int) by omega),aZ (show (0:Int)<=(k:Int) by omega) (by omega),ah (x:=(k:Int)-1) (by omega) (by omega),aZ (show (0:Int)<=(k:Int)-1 by omega) (by omega),ah (x:=(k:Int)+1) (by omega) (by omega),show ((k:Int)-1).toNat=k-1 by omega,ag (show (0:Int)<=(k:Int) by omega),ag (show (k:Int)<=(l.length:Int) by omega)];simp only[j5,j7,g1,Bool.and_self,show Int.ofNat k=(k:Int) from rfl];by_cases hc:l[k]=l.getD (k-1) 0
  .rw[if_pos hc]at hT;obtain⟨m,b,r1,r2,r3,r4⟩:=N6 hl (k0:=k) n 1 k l (by omega) (by omega) (by omega) rfl rfl;rw[show k+1-1=k by omega,g1,hc,<-hT]at r4;rw[eA hc,j5,show Cj (k:Int) (k:Int) 1 l=_ from r1];simp only[j3,j7,show Int.ofNat b.length=(b.length:Int) from rfl];rw[ag (show (0:Int)<=(m:Int) by omega),ag (show (m:Int)<=(b.length:Int) by omega)];simp only[Bool.and_self,j5,Bool.true_and];rw[ag (by simp;omega),j5,aY];refine .inl ⟨m,_,rfl,?_⟩;rw[qp (by simp;omega),ze,Nat.min_self,r4]
  .rw[if_neg hc]at hT;rw[cB hc,j6,aQ];refine V5 hl n (k+1) (by omega) (by omega) ?_;have iS:l.take (k+1)=l.take k++[l[k]]:=by rw[km,jj au];rfl
   rw[hT,iS,show k+1-1=k by omega,g1,jg];rfl
theorem jqk{l:List Int}(hl:l.length<=1000000):∃n m,j40 l=some (n,m)/\m.take n.toNat=qL l:=by
 simp only[j40,show Int.ofNat l.length=(l.length:Int) from rfl];by_cases h2:l.length<2
 .rw[ag (by omega),j5];refine⟨_,_,rfl,?_⟩;rw[j7,List.take_of_length_le (jq _)];match l,h2 with
  |[],_=>rfl
  |[a],_=>rfl
  |_::_::_,h2=>simp at h2;omega
 .rw[aj (by omega),j6]
  have hT:qL l=l.take 1++lI (l.getD (1-1) 0) (l.drop 1):=by
   match l,h2 with
   |[],h2=>simp at h2
   |a::r,_=>rfl
  rcases V5 hl (l.length-1) 1 (by omega) (by omega) hT with⟨m,b,e,h⟩|⟨e,h⟩
  .rw[show wS 1 l=_ from e];refine⟨_,_,rfl,?_⟩;simpa using h
  .rw[show wS 1 l=_ from e];refine⟨_,_,rfl,?_⟩;rw[h];simp
theorem jxS{l:List Int}(x:Int):x∈qL l↔x∈l:=by
 cases l with
 |nil=>exact Iff.rfl
 |cons a r=>exact N4 r a x
theorem jxT{l:List Int}(h:l.Pairwise (· <= ·)):(qL l).Pairwise (· < ·):=by
 cases l with
 |nil=>exact .nil
 |cons a r=>exact N5 r a h
theorem N7:∀(l:List Int)(p:Int),(lI p l).length<=l.length
 |[],_=>jq _
 |y::r,p=>by
  unfold lI;split
  .have:=N7 r p;simp;omega
  .have:=N7 r y;simp;omega
theorem jxU(l:List Int):(qL l).length<=l.length:=by
 cases l with
 |nil=>exact jq _
 |cons a r=>have:=N7 r a;simp[qL];omega
theorem jxV{l:List Int}(hl:l.length<=1000000){f t:Int}:∃C,jgA l f t=some (C++[t])/\C.Pairwise (· < ·)/\C.length<=l.length/\(∀x,x∈C↔x∈l/\f<x/\x<t):=by
 obtain⟨n1,m1,e1,h1⟩:=js5 (l:=l) (by omega) (f:=f) (t:=t);have eZ:(l.filter (mN f t)).length<=l.length:=List.length_filter_le _ _;obtain⟨s,e2,p2,a2⟩:=jw1 (l:=l.filter (mN f t)) (by omega);have dU:=p2.length_eq;obtain⟨n3,m3,e3,h3⟩:=jqk (l:=s) (by omega);have dE:=jxU s;refine⟨qL s,?_,jxT a2,by omega,λx=>?_⟩
 .simp only[jgA,j6T,jt,ql];rw[ag (show 0+l.length<=aP by simp[aP];omega),j5];simp only[j3,e1,h1,e2,e3,h3];rw[ag (show (qL s).length+[t].length<=aP by simp[aP];omega),j5]
 .rw[jxS,p2.mem_iff,vq]
  have:mN f t x=true↔f<x/\x<t:=by
   unfold mN;by_cases h1:x<=f
   .rw[ag h1];simp;omega
   .rw[aj h1];by_cases h2:x>=t
    .rw[ag h2];simp;omega
    .rw[aj h2];simp;omega
  rw[this]
theorem jzh{ds:List Int}(hs:ds.Pairwise (· < ·))(hl:ds.length<=64)(x:Int):∃(k:Nat)(b:Bool),j2m ds x=some ((k:Int),b)/\k<=ds.length/\(∀i,(hi:i<ds.length)->i<k->ds[i]<x)/\∀i,(hi:i<ds.length)->k<=i->x<=ds[i]:=by
 obtain⟨k,e,hk,h1,h2⟩:=Nh hs hl (x:=x) ds.length 0 ds.length (by omega) (by omega) (jq _) (λi _ h=>by omega) (λi hi h=>by omega);rw[show ((0:Nat):Int)=0 from rfl]at e;simp only[j2m,show Int.ofNat ds.length=(ds.length:Int) from rfl,e,j3,j7];by_cases gN:k<ds.length
 .have bh:ds.getD k (0:Int)=ds[k]:=by simp[gN]
  rw[aZ (by omega) (by omega),ag (show (k:Int)<(ds.length:Int) by omega),bh];simp only[Bool.true_or,j5];by_cases hx:ds[k]=x
  .rw[eA hx];exact⟨k,_,rfl,hk,h1,h2⟩
  .rw[cB hx];simp only[j6,j7p,j3,ji];exact⟨k,_,rfl,hk,h1,h2⟩
 .rw[aj (show¬(k:Int)<(ds.length:Int) by omega)];simp only[k5,Bool.or_true,j5,j6,Bool.false_and];exact⟨k,_,rfl,hk,h1,h2⟩
theorem N8{a t:Int}:∀(es:List cR)(p:Int),(∀x∈es,(x.2.2.2.1<=a↔x.2.2.2.1<=t)/\(x.2.2.2.2<=a↔x.2.2.2.2<=t))->iu t p es=iu a p es
 |[],_,_=>rfl
 |x::r,p,h=>by
  have hx:=h x (by simp);simp only[iu]
  have e:oM t p x=oM a p x:=by
   unfold oM;have:(t<x.2.2.2.1\/x.2.2.2.2<=t)↔(a<x.2.2.2.1\/x.2.2.2.2<=a):=by omega
   by_cases hc:a<x.2.2.2.1\/x.2.2.2.2<=a
   .rw[if_pos hc,if_pos (this.2 hc)]
   .rw[if_neg hc,if_neg (λh=>hc (this.1 h))]
  rw[e];exact N8 r _ (λy hy=>h y (by simp[hy]))
theorem V6{es:List cR}(hl:es.length<=1000){f t:Int}{zs:List bI}{ps:List c9}{cs:List aW}{ss:List dA}{tbs:List (Int×bC)}{nm:ByteArray}{ls:List bM}:∀(n i:Nat)(acc:List Int),i+n=es.length->acc.length<=2*i->
  Cx f t es (es.length:Int) (i:Int) zs ps cs ss tbs nm ls es acc=some (f,t,zs,ps,cs,ss,tbs,nm,ls,es,acc++nn (es.drop i))
 |0,i,acc,hi,_=>by
  rw[SS];simp only[j2n];rw[aj (by omega),j6,aY,jc (by omega)];simp[nn]
 |n+1,i,acc,hi,ei=>by
  have aX:i<es.length:=by omega
  have bh:es.getD i ((0:Int),((0:Int),((0:Int),((0:Int),(0:Int)))))=es[i]:=by simp[List.getD,aX]
  have ih:=V6 hl (f:=f) (t:=t) (zs:=zs) (ps:=ps) (cs:=cs) (ss:=ss) (tbs:=tbs) (nm:=nm) (ls:=ls) n (i+1) (acc++[es[i].2.2.2.1,es[i].2.2.2.2]) (by omega) (by simp;omega);rw[SS];simp only[j2n];rw[ag (by omega),aZ (by omega) (by omega),ah (x:=(i:Int)+1) (by omega) (by omega)];simp only[j5,j7,bh];rw[ag (by simp[aP];omega),j5,aQ,jb aX];rw[jg]at ih;exact ih
theorem jw2{es:List cR}(hl:es.length<=100){p t:Int}:jgC es p t=some (iu t p es):=by
 have ef:=V2 hl (t:=t) es.length 0 p (by omega);rw[kc]at ef;simp only[jgC,show Int.ofNat es.length=(es.length:Int) from rfl,show Cw p t es (es.length:Int) 0=_ from ef];rfl
section
variable{es:List cR}(fZ:es.length<=100){K:List Int}(hK:K.Pairwise (· < ·))(N9:K.length<=64){a0 b:Int}(hb:b∈K)(gr:∀x∈nn es,a0<x->x<b->x∈K)
include fZ hK N9 hb gr
theorem jzL{g:Int->Int}{p u:Int}(hu:u<=b){m q w:Int}{nm:ByteArray}{ls:List bM}{R:bK}{x:Int}:∀(n i:Nat)(a:Int)(acc:bK),K.length-i<=n->a0<=a->a<=u->(a<u->i<K.length)->(∀k,(hk:k<K.length)->(a<u->(k<i->K[k]<=a)/\(i<=k->a<K[k])))->(∀t,a<=t->t<u->g t=p)->
  acc.length+(K.length-i)<=1000000000->Ch (λt=>iu t (g t) es) a x acc->
  ∃out,Fz (i:Int) a m q nm ls es w u p K acc R=some (m,q,nm,ls,es,K,out,R)/\Ch (λt=>iu t (g t) es) u x out/\out.length<=acc.length+(K.length-i):=by
 intro n;induction n with
 |zero=>
  intro i a acc hn ha hau hi _ _ _ lG;rw[SU];simp only[j2o];have kL:¬a<u:=λh=>by have:=hi h;omega
  rw[aj kL,j6,aY];have:a=u:=by omega
  subst this;exact⟨acc,rfl,lG,by omega⟩
 |succ n ih=>
  intro i a acc hn ha hau hi cP hg tK lG;rw[SU];simp only[j2o];by_cases au:a<u
  .have jX:=hi au;have bh:K.getD i (0:Int)=K[i]:=by simp[jX]
   have h1:=((cP i jX) au).2 (jq _);rw[ag au,aZ (by omega) (by omega),ah (x:=(i:Int)+1) (by omega) (by omega)];simp only[j5,j7,bh,jw2 fZ,j3];rw[ag (by simp[aP];omega),j5,aQ];have gm:(if K[i]<u then K[i] else u)=min K[i] u:=by split<;>omega
   rw[gm];have gf:a<min K[i] u:=by omega
   have Oa:∀t,a<=t->t<min K[i] u->iu t (g t) es=iu a p es:=λt t1 t2=>by
    rw[hg t t1 (by omega)];refine N8 es p (λy hy=>?_);obtain⟨y1,y2⟩:=N2 hy
    have key:∀c,c∈nn es->(c<=a↔c<=t):=λc hc=>by
     refine⟨λh=>by omega,λh=>?_⟩;apply jm;intro hca;have hcK:=gr c hc (by omega) (by omega);obtain⟨k,hk,rfl⟩:=vg hcK;by_cases lR:k<i
     .have:=((cP k hk) au).1 lR;omega
     .by_cases Ob:k=i
      .subst Ob;omega
      .have:=q7.1 hK i k jX hk (by omega);omega
    exact⟨key _ y1,key _ y2⟩
   have Oc:=lG.snoc (b:=a) (c:=min K[i] u) (p:=iu a p es) (by omega) Oa
   obtain⟨out,e,hc,hl⟩:=ih (i+1) (min K[i] u) (acc++[(a,(min K[i] u,iu a p es))]) (by omega) (by omega) (by omega) (λh=>by
    apply jm;intro Od;obtain⟨k,hk,rh⟩:=vg hb;by_cases lR:k=i
    .subst lR;omega
    .have:=q7.1 hK k i hk jX (by omega);omega) (λk hk h=>⟨λlR=>by
    by_cases Ob:k=i
    .subst Ob;omega
    .have:=((cP k hk) au).1 (by omega);omega,λlR=>by
    have:=q7.1 hK i k jX hk (by omega);omega⟩) (λt t1 t2=>hg t (by omega) t2) (by simp;omega) Oc
   exact⟨out,e,hc,by simp at hl;omega⟩
  .rw[aj au,j6,aY];have:a=u:=by omega
   subst this;exact⟨acc,rfl,lG,by omega⟩
theorem V7{g:Int->Int}{S:bK}(V8:S.length<=10000000){nm:ByteArray}{ls:List bM}(yi : -1000000000000<=a0)(cO:b<=1000000000000){x:Int}:∀(n i:Nat)(a:Int)(acc:bK),i+n=S.length->a0<=a->Ch g b a (S.drop i)->Ch (λt=>iu t (g t) es) a x acc->acc.length<=64*i->
  ∃out,Cy (S.length:Int) (i:Int) nm ls es K acc S=some out/\Ch (λt=>iu t (g t) es) b x out/\out.length<=64*S.length
 |0,i,a,acc,hi,_,hc,lG,tK=>by
  rw[jc (by omega)]at hc;have hc:a=b:=hc;subst hc;rw[SV];simp only[j2p];rw[aj (by omega),j6,aY];exact⟨acc,rfl,lG,by omega⟩
 |n+1,i,a,acc,hi,ha,hc,lG,tK=>by
  have aX:i<S.length:=by omega
  rw[jb aX]at hc;obtain⟨c1,c2,c3,c4⟩:=hc;have hle:=c4.le;have bh:S.getD i ((0:Int),((0:Int),(0:Int)))=S[i]:=by simp[List.getD,aX]
  obtain⟨k,bb,ek,hk,k1,k2⟩:=jzh hK N9 (a+1)
  obtain⟨out,e4,oD,yF⟩:=jzL fZ hK N9 hb gr (g:=g) (p:=S[i].2.2) (u:=S[i].2.1) hle (m:=(S.length:Int)) (q:=(i:Int)) (w:=S[i].1) (nm:=nm) (ls:=ls) (R:=S) (x:=x) K.length k a acc (by omega) ha c2 (λh=>by
   apply jm;intro Od;obtain⟨j,hj,hjb⟩:=vg hb;have:=k1 j hj (by omega);omega) (λj hj _=>⟨λh=>by have:=k1 j hj h;omega,λh=>by have:=k2 j hj h;omega⟩) c3 (by omega) lG
  have ih:=V7 V8 (nm:=nm) (ls:=ls) yi cO (g:=g) (x:=x) n (i+1) S[i].2.1 out (by omega) (by omega) c4 oD (by omega);rw[SV];simp only[j2p];rw[ag (by omega),aZ (by omega) (by omega)];simp only[j5,j7,bh,c1];rw[ah (x:=a+1) (by omega) (by omega),ek];simp only[j3];rw[c1]at e4;rw[e4];simp only[j3];rw[ah (x:=(i:Int)+1) (by omega) (by omega),aQ];exact ih
end
section
variable{zs:List bI}{ps:List c9}{cs:List aW}(hs:cW zs ps cs)
include hs
theorem V9{a b:Int}(ha:0<=a)(cG:a<=b)(hb:b<=8589934592)(hlen:b-a<=35078400):∀ls:List bM,(∀L∈ls,eX zs.length ps.length cs.length L)->
  ∃E:List Int,E.length<=30000*ls.length/\∀L∈ls,∀x,a<x->x<b->db zs cs L (x-1)≠db zs cs L x->x∈E
 |[],_=>⟨[],by simp,by simp⟩
 |L::ls,hL=>by
  obtain⟨E,e1,e2⟩:=V9 ha cG hb hlen ls (λM hM=>hL M (by simp[hM]));obtain⟨S,_,c1,l1⟩:=Vp hs (hL L (by simp)) (ss:=[]) ha cG hb hlen;refine⟨nk S++E,?_,λM hM x x1 x2 x3=>?_⟩
  .have:(nk S).length<=S.length:=by simp[nk]
   rw[je,jo];omega
  .rcases jd.1 hM with rfl|hM
   .exact kj _ (((Gv c1).1 x).2 ⟨x1,x2,x3⟩)
   .exact ku _ (e2 M hM x x1 x2 x3)
theorem jw3{ls:List bM}{es:List cR}(hL:∀L∈ls,eX zs.length ps.length cs.length L){a b:Int}(ha:0<=a)(cG:a<=b)(hb:b<=8589934592)(hlen:b-a<=35078400) :
  ∃E:List Int,E.length<=30000*ls.length+2*es.length/\(∀x,a<x->x<b->du es (x-1) (dh zs cs ls (x-1)) ls.length≠du es x (dh zs cs ls x) ls.length->x∈E)/\∀x∈nn es,x∈E:=by
 obtain⟨E,e1,e2⟩:=V9 hs ha cG hb hlen ls hL;refine⟨E++nn es,by rw[je,Gw];omega,λx x1 x2 x3=>?_,λx hx=>ku _ hx⟩;apply jm;intro hn;simp only[js,not_or]at hn;refine x3 (VZ (λi hi=>?_) (λp=>VY hn.2 p));apply jm;intro aT;have e:∀t,dh zs cs ls t i=db zs cs ls[i] t:=λt=>by simp[dh,List.getD,hi]
 rw[e,e]at aT;exact hn.1 (e2 _ (jh hi) x x1 x2 aT)
theorem js6{nm:ByteArray}{ls:List bM}{es:List cR}(hL:∀L∈ls,eX zs.length ps.length cs.length L)(gM:ls.length<=4)(hE:∀x∈es,kF ps.length x)(fZ:es.length<=9)
  {ss:List dA}{a b:Int}(ha:0<=a)(cG:a<=b)(hb:b<=8589934592)(hlen:b-a<=35078400) :
  ∃out,j49 ((zs,(ps,(cs,ss))),zs.map tb) (nm,(ls,es)) a b=some out/\eH (λt=>du es t (dh zs cs ls t) ls.length) b none a out/\out.length<=30000*ls.length+2*es.length+1:=by
 obtain⟨out,e,h,_⟩:=jvY hs hL gM hE fZ ha cG hb (by omega) (nm:=nm) (ss:=ss);obtain⟨E,e1,e2,_⟩:=jw3 hs (es:=es) hL ha cG hb hlen;have:=VX h e2;exact⟨out,e,h,by omega⟩
theorem jxW{s:dA}(hk:rr zs.length ps.length cs.length s)(gM:s.2.1.length<=3)(fZ:s.2.2.length<=6){ss:List dA}{a b:Int}(ha:0<=a)(cG:a<b)(hb:b<=8589934592)(hlen:b-a<=34560000) :
  ∃out,j6r ((zs,(ps,(cs,ss))),zs.map tb) s a b=some out/\eH (jW zs cs s) b none a out/\out.length<=10000000:=by
 obtain⟨S,eS,hS,lS⟩:=js6 hs (nm:=s.1) hk.ly (by omega) hk.ed (by omega) (ss:=ss) ha (by omega) hb (by omega);have l0:=V6 (es:=s.2.2) (by omega) (f:=a) (t:=b) (zs:=zs) (ps:=ps) (cs:=cs) (ss:=ss) (tbs:=zs.map tb) (nm:=s.1) (ls:=s.2.1) s.2.2.length 0 [] (by omega) (by simp);rw[jt,kc]at l0;have r8:=Gw s.2.2;obtain⟨C,eC,c1,c2,c3⟩:=jxV (l:=nn s.2.2) (by omega) (f:=a) (t:=b)
 have hKp:(C++[b]).Pairwise (· < ·):=List.pairwise_append.2 ⟨c1,List.pairwise_singleton _ _,λx hx y hy=>by
  simp at hy;subst hy;exact((c3 x).1 hx).2.2⟩
 obtain⟨M,e2,hM,lM⟩:=V7 (es:=s.2.2) (by omega) hKp (by simp;omega) (a0:=a) (b:=b) (by simp) (λx hx x1 x2=>kj _ ((c3 x).2 ⟨hx,x1,x2⟩)) (g:=λt=>du s.2.2 t (dh zs cs s.2.1 t) s.2.1.length) (S:=S) (by omega) (nm:=s.1) (ls:=s.2.1) (by omega) (by omega) (x:=a) S.length 0 a [] (by omega) (by omega) (by rw[kc];exact hS.ch) rfl (by simp);obtain⟨out,e3,h3,l3⟩:=NI (l:=M) (by omega) hM;refine⟨out,?_,h3,by omega⟩;simp only[j6r,show Int.ofNat s.2.2.length=(s.2.2.length:Int) from rfl];rw[show Cx a b s.2.2 (s.2.2.length:Int) 0 zs ps cs ss (zs.map tb) s.1 s.2.1 s.2.2 []=_ from l0];simp only[j3,eC];rw[show j49 ((zs,(ps,(cs,ss))),zs.map tb) (s.1,(s.2.1,s.2.2)) a b=_ from eS];simp only[j3,show Int.ofNat S.length=(S.length:Int) from rfl];rw[show Cy (S.length:Int) 0 s.1 s.2.1 s.2.2 (C++[b]) [] S=_ from e2];simp only[j3,e3]
end
set_option linter.unusedSectionVars false
def Gy(p:Int):SL->Prop
 |[]=>True
 |x::r=>p<=x.1/\x.1<x.2/\Gy x.2 r
theorem Gy.weak{p q:Int}(hq:q<=p):∀{l:SL},Gy p l->Gy q l
 |[],_=>trivial
 |_::_,h=>⟨by have:=h.1;omega,h.2⟩
section
variable{zs:List bI}{ps:List c9}{cs:List aW}(hs:cW zs ps cs)
include hs
end
section
variable{zs:List bI}{ps:List c9}{cs:List aW}(hs:cW zs ps cs)
include hs
end
section
variable{zs:List bI}{ps:List c9}{cs:List aW}(hs:cW zs ps cs)
include hs
end
theorem jw4{np:Nat}{t p:Int}{x:cR}(h:kF np x)(hp:p<np):oM t p x<np:=by
 have ha:=h.a;have hb:=h.b;unfold oM;split
 .exact hp
 .split
  .omega
  .split
   .rename_i h1;have:=hb h1.1;omega
   .split
    .rename_i h1;have:=hb h1.1;omega
    .exact hp
theorem Wa{np:Nat}{t:Int}:∀(es:List cR)(p:Int),(∀x∈es,kF np x)->p<np->iu t p es<np
 |[],_,_,hp=>hp
 |x::r,p,h,hp=>by
  simp only[iu];exact Wa r _ (λy hy=>h y (by simp[hy])) (jw4 (h x (by simp)) hp)
section
variable{zs:List bI}{ps:List c9}{cs:List aW}(hs:cW zs ps cs)
include hs
theorem jxX{s:dA}(hk:rr zs.length ps.length cs.length s){t:Int}(h0:0<=t)(h1:t<=8589934592):jW zs cs s t<ps.length:=by
 unfold jW;refine Wa _ _ hk.ed ?_;unfold du;cases hT:dR (ff s.2.2 t (dh zs cs s.2.1 t)) s.2.1.length with
 |none=>dsimp only;omega
 |some k=>
  have gN:=V1 hT;have e:dh zs cs s.2.1 t k=db zs cs s.2.1[k] t:=by simp[dh,List.getD,gN]
  dsimp only
  rw[e];exact(U9 hs (hk.ly _ (jh gN)) h0 h1).2.2
theorem jw5{ss:List dA}(hc:mL (zs,(ps,(cs,ss)))){i:Nat}(hi:i<ss.length)(gM:ss[i].2.1.length<=3)(fZ:ss[i].2.2.length<=6){a b:Int}(ha:0<=a)(cG:a<b)(hb:b<=8589934592)(hlen:b-a<=1209600) :
  ∃S,j6s (zs,(ps,(cs,ss))) (i:Int) a b=some (S,0)/\eH (jW zs cs ss[i]) b none a S/\S.length<=16384:=by
 have Gq:=hc.sc _ (jh hi);have Iy:ss.getD i (ByteArray.empty,(([]:List bM),([]:List cR)))=ss[i]:=by simp[List.getD,hi]
 obtain⟨S,eS,hS,lS⟩:=jxW hs Gq gM fZ (ss:=ss) (a:=a) (b:=b) ha cG hb (by omega);obtain⟨E,e1,e2,e3⟩:=jxP hs (es:=ss[i].2.2) Gq.ly ha (Int.le_of_lt cG) hb hlen
 have V8:S.length<=E.length+1:=VX hS (λx x1 x2 x3=>by
  apply jm;intro hn;refine x3 ?_;have hT:du ss[i].2.2 (x-1) (dh zs cs ss[i].2.1 (x-1)) ss[i].2.1.length=du ss[i].2.2 x (dh zs cs ss[i].2.1 x) ss[i].2.1.length:=by apply jm;intro aT;exact hn (e2 x x1 x2 aT)
  unfold jW;rw[hT];refine(N8 _ _ λy hy=>?_).symm;obtain⟨m1,m2⟩:=N2 hy;have n1:x≠y.2.2.2.1:=λe=>hn (e▸e3 _ m1);have n2:x≠y.2.2.2.2:=λe=>hn (e▸e3 _ m2);omega)
 refine⟨S,?_,hS,by omega⟩;simp only[j6s];rw[show jaB (zs,(ps,(cs,ss))) (i:Int) a b=_ from js4 hs hc hi ha (Int.le_of_lt cG) hb (by omega)];simp only[j3,ji,j6];rw[aZ (by omega) (by omega)];simp only[j5,j7,Iy];rw[show j6r ((zs,(ps,(cs,ss))),zs.map tb) (ss[i].1,(ss[i].2.1,ss[i].2.2)) a b=_ from eS];simp only[j3,show Int.ofNat S.length=(S.length:Int) from rfl];rw[aj (show¬(S.length:Int)>16384 by omega)];rfl
end
end Go.Proofs.Pw
