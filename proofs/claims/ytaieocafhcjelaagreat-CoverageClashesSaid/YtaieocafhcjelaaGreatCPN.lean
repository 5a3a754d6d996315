/- qO.Cuts: the Hg inside a range, ascending, and the end of the range. -/
import Derived.Test.YtaieocafhcjelaaGreatCPG
import Derived.Test.YtaieocafhcjelaaGreatCLS
import Derived.Test.YtaieocafhcjelaaGreatCPM
import Derived.Test.YtaieocafhcjelaaGreatCPH
import Derived.Test.YtaieocafhcjelaaGreatCPB
import Derived.KernelRfl
open Go Go.Lft
namespace Go.Proofs.Pw
theorem jAP{l:List Int}(hl:l.length<=1000000):∃s,j71 l=some s/\s.Perm l/\s.Pairwise (· <= ·):=by
 obtain⟨s,e,h1,h2⟩:=jAn (xs:=l) (by omega);exact⟨s,by simp only[j71,e],h1,h2⟩
def mC(f t x:Int):Bool:= !(cond (decide (x<=f)) true (decide (x>=t)))
theorem XM{l:List Int}(hl:l.length<=1000000){f t:Int}:∀(n i:Nat),i+n=l.length->(∀s∈l.take i,mC f t s=true)->
  (∃j:Nat,xq f t (l.length:Int) (i:Int) l=some (.inl ((j:Int),l))/\j<l.length/\(∀s∈l.take j,mC f t s=true)/\mC f t (l.getD j 0)=false)\/
  (xq f t (l.length:Int) (i:Int) l=some (.inr l)/\∀s∈l,mC f t s=true)
 |0,i,hi,h=>by
  rw[SJ];simp only[j1f];rw[ah (by omega),j6,aU];rw[List.take_of_length_le (by omega)]at h;exact Or.inr ⟨rfl,h⟩
 |n+1,i,hi,h=>by
  rw[SJ];simp only[j1f,jbH];rw[ag (show (i:Int)<(l.length:Int) by omega),aR (by omega) (by omega),aj (x:=(i:Int)+1) (by omega) (by omega)];simp only[j5,j7,j3];have aA:i<l.length:=by omega
  cases hc:(cond (decide (l.getD i (0:Int)<=f)) true (decide (l.getD i (0:Int)>=t))) with
  |true=>simp only[j5,aU];exact Or.inl ⟨i,rfl,aA,h,by simp only[mC];rw[hc];rfl⟩
  |false=>
   simp only[j6,aJ];refine XM hl n (i+1) (by omega) λs hs=>?_;rw[ko]at hs;rcases jn.1 hs with hs|hs
   .exact h s hs
   .have bj:l.getD i (0:Int)=l[i]:=by simp[aA]
    rw[bj]at hc;rw[jh aA]at hs;simp at hs;subst hs;simp only[mC];rw[hc];rfl
theorem OP{l:List Int}(hl:l.length<=1000000){f t:Int}:∀(n i j:Nat)(b:List Int),j+n=l.length->i<=j->b.length=l.length->b.drop j=l.drop j->b.take i=(l.take j).filter (mC f t)->
  ∃(k:Nat)(b':List Int),zU f t (i:Int) (j:Int) b=some ((k:Int),b')/\b'.length=l.length/\k<=l.length/\b'.take k=l.filter (mC f t)
 |0,i,j,b,hj,dP,hb,hd,ht=>by
  rw[SK];simp only[j1D,show Int.ofNat (List.length b)=(b.length:Int) from rfl];rw[ah (by omega),j6,aU];rw[List.take_of_length_le (l:=l) (by omega)]at ht;exact⟨i,b,rfl,hb,by omega,ht⟩
 |n+1,i,j,b,hj,dP,hb,hd,ht=>by
  have aA:j<l.length:=by omega
  have N5:b.getD j (0:Int)=l[j]:=by
   have:b[j]? = l[j]? := by
    have h:=jp (λx=>x[0]?) hd;simpa[List.getElem?_drop]using h
   rw[List.getD_eq_getElem?_getD,this,jh aA];rfl
  have gg:b.drop (j+1)=l.drop (j+1):=by have:=jp (List.drop 1) hd;simpa[List.drop_drop]using this
  have nv:l.take (j+1)=l.take j++[l[j]]:=by rw[ko,jh aA];rfl
  rw[SK];simp only[j1D,jbH,show Int.ofNat (List.length b)=(b.length:Int) from rfl];rw[ag (show (j:Int)<(b.length:Int) by omega),aR (by omega) (by omega),aR (by omega) (by omega),aj (x:=(j:Int)+1) (by omega) (by omega),aj (x:=(i:Int)+1) (by omega) (by omega)];simp only[j5,j7,j3,N5];cases hc:(cond (decide (l[j]<=f)) true (decide (l[j]>=t))) with
  |true=>simp only[ji,j6,aJ];refine OP hl n i (j+1) b (by omega) (by omega) hb gg ?_;rw[nv,va,ht];simp[mC,hc]
  |false=>
   simp only[jt,j5,aJ];refine OP hl n (i+1) (j+1) _ (by omega) (by omega) (by simpa using hb) ?_ ?_
   .rw[List.drop_set_of_lt (by omega)];exact gg
   .have Br:i<b.length:=by omega
    rw[ko,List.take_set_of_le (jl _),List.getElem?_set_self Br,ht,nv,va];simp[mC,hc]
theorem jx4{l:List Int}(hl:l.length<=1000000){f t:Int}:∃n m,j1N l f t=some (n,m)/\m.take n.toNat=l.filter (mC f t):=by
 simp only[j1N,j24,show Int.ofNat (List.length l)=(l.length:Int) from rfl];rcases XM (f:=f) (t:=t) hl l.length 0 (by omega) (by simp) with⟨j,e,hj,h1,h2⟩|⟨e,h⟩
 .rw[show ((0:Nat):Int)=0 from rfl]at e;rw[e];simp only[j3,JF];rw[bW (by omega),aj (x:=(j:Int)+1) (by omega) (by omega)];have bj:l.getD j (0:Int)=l[j]:=by simp[hj]
  rw[bj]at h2
  obtain⟨k,b,e2,hb,hk,ht⟩:=OP (f:=f) (t:=t) hl (l.length-(j+1)) j (j+1) l (by omega) (by omega) rfl rfl (by
   rw[ko,jh hj,va,List.filter_eq_self.2 h1];simp[h2])
  rw[show ((j:Int)+1)=((j+1:Nat):Int) from rfl,e2];simp only[j6,j3,show Int.ofNat (List.length b)=(b.length:Int) from rfl,j7];rw[ag (show (0:Int)<=(k:Int) by omega),ag (show (k:Int)<=(b.length:Int) by omega)];simp only[Bool.and_self,j5,Bool.true_and];rw[ag (by simp;omega),j5];refine⟨_,_,rfl,?_⟩;simp only[show (Int.ofNat k).toNat=k from rfl];rw[qv (by simp;omega),y8,Nat.min_self,ht]
 .rw[show ((0:Nat):Int)=0 from rfl]at e;rw[e];simp only[j3,jK,qj,j5];refine⟨_,_,rfl,?_⟩;simp only[show (Int.ofNat l.length).toNat=l.length from rfl];rw[List.take_of_length_le (jl _),List.filter_eq_self.2 h]
def lx:Int->List Int->List Int
 |_,[]=>[]
 |p,x::r=>if x=p then lx p r else x::lx x r
theorem OQ:∀(l:List Int)(p:Int),∀x,x∈p::lx p l↔x∈p::l
 |[],_,_=>Iff.rfl
 |y::r,p,x=>by
  unfold lx;split
  .rename_i h;subst h;rw[OQ r y x];simp
  .have:=OQ r y x;rw[jg,this,jg,jg,jg]
theorem OR:∀(l:List Int)(p:Int),(p::l).Pairwise (· <= ·)->(p::lx p l).Pairwise (· < ·)
 |[],_,_=>by simp[lx]
 |y::r,p,h=>by
  have h1:=kq.1 h;unfold lx;split
  .rename_i h;subst h;exact OR r y h1.2
  .have ih:=OR r y h1.2;refine kq.2 ⟨λz hz=>?_,ih⟩;have hy:=h1.1 y (by simp);rcases jg.1 hz with rfl|hz
   .omega
   .have:=(kq.1 ih).1 z hz;omega
theorem OS{l:List Int}(hl:l.length<=1000000){k0:Nat}:∀(n s k:Nat)(b:List Int),k0+s+n=l.length->1<=s->k<=k0+s-1->b.length=l.length->b.drop k=l.drop k->
  ∃(m:Nat)(b':List Int),xr (k:Int) (k0:Int) (s:Int) b=some ((m:Int),b')/\b'.length=l.length/\m<=l.length/\b'.take m=b.take k++lx (l.getD (k0+s-1) 0) (l.drop (k0+s))
 |0,s,k,b,hn,hs,hk,hb,hd=>by
  rw[SM];simp only[j2c,j7,show Int.ofNat (b.length-k0)=((b.length-k0:Nat):Int) from rfl];rw[ah (by omega),j6,aU,jf (by omega)];exact⟨k,b,rfl,hb,by omega,by simp[lx]⟩
 |n+1,s,k,b,hn,hs,hk,hb,hd=>by
  have aA:k0+s<l.length:=by omega
  have Ep:∀j,k<=j->b[j]? = l[j]? := λj hj=>by
   have h:=jp (λx=>x[j-k]?) hd;simpa[List.getElem?_drop,show k+(j-k)=j by omega]using h
  have g1:b.getD (k0+s) (0:Int)=l[k0+s]:=by rw[List.getD_eq_getElem?_getD,Ep _ (by omega),jh aA];rfl
  have g2:b.getD (k0+(s-1)) (0:Int)=l.getD (k0+s-1) 0:=by rw[List.getD_eq_getElem?_getD,Ep _ (by omega),show k0+(s-1)=k0+s-1 by omega,List.getD_eq_getElem?_getD]
  have e1:l.getD (k0+(s+1)-1) 0=l[k0+s]:=by rw[show k0+(s+1)-1=k0+s by omega];simp[aA]
  rw[SM];simp only[j2c,j7,show Int.ofNat (b.length-k0)=((b.length-k0:Nat):Int) from rfl,show Int.ofNat k0=(k0:Int) from rfl];rw[ag (show (s:Int)<((b.length-k0:Nat):Int) by omega),aR (show (0:Int)<=(s:Int) by omega) (by omega),aj (x:=(s:Int)-1) (by omega) (by omega),aR (show (0:Int)<=(s:Int)-1 by omega) (by omega),aR (show (0:Int)<=(k:Int) by omega) (by omega),aj (x:=(k:Int)+1) (by omega) (by omega),aj (x:=(s:Int)+1) (by omega) (by omega),show ((s:Int)-1).toNat=s-1 by omega,jc aA];simp only[j5,g1,g2,lx];by_cases hc:l[k0+s]=l.getD (k0+s-1) 0
  .rw[show (l[k0+s] != l.getD (k0+s-1) 0)=false by rw[bne_eq_false_iff_eq];exact hc,if_pos hc,j6,aJ];have ih:=OS hl (k0:=k0) n (s+1) k b (by omega) (by omega) (by omega) hb hd;rw[e1,hc,show k0+(s+1)=k0+s+1 by omega]at ih;exact ih
  .rw[show (l[k0+s] != l.getD (k0+s-1) 0)=true by rw[bne_iff_ne];exact hc,if_neg hc,j5,aJ]
   have ih:=OS hl (k0:=k0) n (s+1) (k+1) (b.set k l[k0+s]) (by omega) (by omega) (by omega) (by simpa using hb) (by
    rw[List.drop_set_of_lt (by omega)];have:=jp (List.drop 1) hd;simpa[List.drop_drop]using this)
   rw[e1,show k0+(s+1)=k0+s+1 by omega]at ih;obtain⟨m,b',r1,r2,r3,r4⟩:=ih;refine⟨m,b',r1,r2,r3,?_⟩;have G1:k<b.length:=by omega
   rw[r4,ko,List.take_set_of_le (jl _),List.getElem?_set_self G1];simp
def qS:List Int->List Int
 |[]=>[]
 |a::r=>a::lx a r
theorem XN{l:List Int}(hl:l.length<=1000000):∀(n k:Nat),k+n=l.length->1<=k->qS l=l.take k++lx (l.getD (k-1) 0) (l.drop k)->
  (∃(m:Nat)(b:List Int),sQ (k:Int) l=some (.inl ((m:Int),b))/\b.take m=qS l)\/(sQ (k:Int) l=some (.inr l)/\qS l=l)
 |0,k,hn,hk,hT=>by
  rw[SN];simp only[j0L,show Int.ofNat l.length=(l.length:Int) from rfl];rw[ah (by omega),j6,aU];rw[List.take_of_length_le (by omega),jf (by omega)]at hT;exact .inr ⟨rfl,by simpa[lx]using hT⟩
 |n+1,k,hn,hk,hT=>by
  have aA:k<l.length:=by omega
  have g1:l.getD k (0:Int)=l[k]:=by simp[aA]
  rw[jc aA]at hT;simp only[lx]at hT;rw[SN];simp only[j0L,show Int.ofNat l.length=(l.length:Int) from rfl];rw[ag (show (k:Int)<(l.length:Int) by omega),aR (show (0:Int)<=(k:Int) by omega) (by omega),aj (x:=(k:Int)-1) (by omega) (by omega),aR (show (0:Int)<=(k:Int)-1 by omega) (by omega),aj (x:=(k:Int)+1) (by omega) (by omega),show ((k:Int)-1).toNat=k-1 by omega,ag (show (0:Int)<=(k:Int) by omega),ag (show (k:Int)<=(l.length:Int) by omega)];simp only[j5,j7,g1,Bool.and_self,show Int.ofNat k=(k:Int) from rfl];by_cases hc:l[k]=l.getD (k-1) 0
  .rw[if_pos hc]at hT;obtain⟨m,b,r1,r2,r3,r4⟩:=OS hl (k0:=k) n 1 k l (by omega) (by omega) (by omega) rfl rfl;rw[show k+1-1=k by omega,g1,hc,<-hT]at r4;rw[cP hc,j5,show xr (k:Int) (k:Int) 1 l=_ from r1];simp only[j3,j7,show Int.ofNat b.length=(b.length:Int) from rfl];rw[ag (show (0:Int)<=(m:Int) by omega),ag (show (m:Int)<=(b.length:Int) by omega)];simp only[Bool.and_self,j5,Bool.true_and];rw[ag (by simp;omega),j5,aU];refine .inl ⟨m,_,rfl,?_⟩;rw[qv (by simp;omega),y8,Nat.min_self,r4]
  .rw[if_neg hc]at hT;rw[bW hc,j6,aJ];refine XN hl n (k+1) (by omega) (by omega) ?_;have nv:l.take (k+1)=l.take k++[l[k]]:=by rw[ko,jh aA];rfl
   rw[hT,nv,show k+1-1=k by omega,g1,jd];rfl
theorem juY{l:List Int}(hl:l.length<=1000000):∃n m,j2C l=some (n,m)/\m.take n.toNat=qS l:=by
 simp only[j2C,show Int.ofNat l.length=(l.length:Int) from rfl];by_cases h2:l.length<2
 .rw[ag (by omega),j5];refine⟨_,_,rfl,?_⟩;rw[j7,List.take_of_length_le (jl _)];match l,h2 with
  |[],_=>rfl
  |[a],_=>rfl
  |_::_::_,h2=>simp at h2;omega
 .rw[ah (by omega),j6]
  have hT:qS l=l.take 1++lx (l.getD (1-1) 0) (l.drop 1):=by
   match l,h2 with
   |[],h2=>simp at h2
   |a::r,_=>rfl
  rcases XN hl (l.length-1) 1 (by omega) (by omega) hT with⟨m,b,e,h⟩|⟨e,h⟩
  .rw[show sQ 1 l=_ from e];refine⟨_,_,rfl,?_⟩;simpa using h
  .rw[show sQ 1 l=_ from e];refine⟨_,_,rfl,?_⟩;rw[h];simp
theorem jCN{l:List Int}(x:Int):x∈qS l↔x∈l:=by
 cases l with
 |nil=>exact Iff.rfl
 |cons a r=>exact OQ r a x
theorem jCO{l:List Int}(h:l.Pairwise (· <= ·)):(qS l).Pairwise (· < ·):=by
 cases l with
 |nil=>exact .nil
 |cons a r=>exact OR r a h
theorem OT:∀(l:List Int)(p:Int),(lx p l).length<=l.length
 |[],_=>jl _
 |y::r,p=>by
  unfold lx;split
  .have:=OT r p;simp;omega
  .have:=OT r y;simp;omega
theorem jCP(l:List Int):(qS l).length<=l.length:=by
 cases l with
 |nil=>exact jl _
 |cons a r=>have:=OT r a;simp[qS];omega
theorem jCQ{l:List Int}(hl:l.length<=1000000){f t:Int}:∃C,jdk l f t=some (C++[t])/\C.Pairwise (· < ·)/\C.length<=l.length/\(∀x,x∈C↔x∈l/\f<x/\x<t):=by
 obtain⟨n1,m1,e1,h1⟩:=jx4 (l:=l) (by omega) (f:=f) (t:=t);have eV:(l.filter (mC f t)).length<=l.length:=List.length_filter_le _ _;obtain⟨s,e2,p2,a2⟩:=jAP (l:=l.filter (mC f t)) (by omega);have ee:=p2.length_eq;obtain⟨n3,m3,e3,h3⟩:=juY (l:=s) (by omega);have ei:=jCP s;refine⟨qS s,?_,jCO a2,by omega,λx=>?_⟩
 .simp only[jdk,j8Q,jo,qc];rw[ag (show 0+l.length<=aY by simp[aY];omega),j5];simp only[j3,e1,h1,e2,e3,h3];rw[ag (show (qS s).length+[t].length<=aY by simp[aY];omega),j5]
 .rw[jCN,p2.mem_iff,vv]
  have:mC f t x=true↔f<x/\x<t:=by
   unfold mC;by_cases h1:x<=f
   .rw[ag h1];simp;omega
   .rw[ah h1];by_cases h2:x>=t
    .rw[ag h2];simp;omega
    .rw[ah h2];simp;omega
  rw[this]
theorem jEf{ds:List Int}(hs:ds.Pairwise (· < ·))(hl:ds.length<=64)(x:Int):∃(k:Nat)(b:Bool),j1g ds x=some ((k:Int),b)/\k<=ds.length/\(∀i,(hi:i<ds.length)->i<k->ds[i]<x)/\∀i,(hi:i<ds.length)->k<=i->x<=ds[i]:=by
 obtain⟨k,e,hk,h1,h2⟩:=N3 hs hl (x:=x) ds.length 0 ds.length (by omega) (by omega) (jl _) (λi _ h=>by omega) (λi hi h=>by omega);rw[show ((0:Nat):Int)=0 from rfl]at e;simp only[j1g,show Int.ofNat ds.length=(ds.length:Int) from rfl,e,j3,j7];by_cases jG:k<ds.length
 .have bj:ds.getD k (0:Int)=ds[k]:=by simp[jG]
  rw[aR (by omega) (by omega),ag (show (k:Int)<(ds.length:Int) by omega),bj];simp only[zr,j5];by_cases hx:ds[k]=x
  .rw[cP hx];exact⟨k,_,rfl,hk,h1,h2⟩
  .rw[bW hx];simp only[j6,j9v,j3,jj];exact⟨k,_,rfl,hk,h1,h2⟩
 .rw[ah (show¬(k:Int)<(ds.length:Int) by omega)];simp only[jt,Bool.or_true,j5,j6,Bool.false_and];exact⟨k,_,rfl,hk,h1,h2⟩
theorem OU{a t:Int}:∀(es:List dE)(p:Int),(∀x∈es,(x.2.2.2.1<=a↔x.2.2.2.1<=t)/\(x.2.2.2.2<=a↔x.2.2.2.2<=t))->kD t p es=kD a p es
 |[],_,_=>rfl
 |x::r,p,h=>by
  have hx:=h x (by simp);simp only[kD]
  have e:AA t p x=AA a p x:=by
   unfold AA;have:(t<x.2.2.2.1\/x.2.2.2.2<=t)↔(a<x.2.2.2.1\/x.2.2.2.2<=a):=by omega
   by_cases hc:a<x.2.2.2.1\/x.2.2.2.2<=a
   .rw[if_pos hc,if_pos (this.2 hc)]
   .rw[if_neg hc,if_neg (λh=>hc (this.1 h))]
  rw[e];exact OU r _ (λy hy=>h y (by simp[hy]))
theorem XO{es:List dE}(hl:es.length<=1000){f t:Int}{zs:List bU}{ps:List dH}{cs:List bt}{ss:List cS}{tbs:List (Int×bE)}{nm:ByteArray}{ls:List bP}:∀(n i:Nat)(acc:List Int),i+n=es.length->acc.length<=2*i->
  xF f t es (es.length:Int) (i:Int) zs ps cs ss tbs nm ls es acc=some (f,t,zs,ps,cs,ss,tbs,nm,ls,es,acc++n4 (es.drop i))
 |0,i,acc,hi,_=>by
  rw[Th];simp only[j3L];rw[ah (by omega),j6,aU,jf (by omega)];simp[n4]
 |n+1,i,acc,hi,ea=>by
  have bd:i<es.length:=by omega
  have bj:es.getD i ((0:Int),((0:Int),((0:Int),((0:Int),(0:Int)))))=es[i]:=by simp[List.getD,bd]
  have ih:=XO hl (f:=f) (t:=t) (zs:=zs) (ps:=ps) (cs:=cs) (ss:=ss) (tbs:=tbs) (nm:=nm) (ls:=ls) n (i+1) (acc++[es[i].2.2.2.1,es[i].2.2.2.2]) (by omega) (by simp;omega);rw[Th];simp only[j3L];rw[ag (by omega),aR (by omega) (by omega),aj (x:=(i:Int)+1) (by omega) (by omega)];simp only[j5,j7,bj];rw[ag (by simp[aY];omega),j5,aJ,jc bd];rw[jd]at ih;exact ih
theorem jAQ{es:List dE}(hl:es.length<=100){p t:Int}:jdo es p t=some (kD t p es):=by
 have ef:=XJ hl (t:=t) es.length 0 p (by omega);rw[kc]at ef;simp only[jdo,show Int.ofNat es.length=(es.length:Int) from rfl,show xE p t es (es.length:Int) 0=_ from ef];rfl
section
variable{es:List dE}(gh:es.length<=100){K:List Int}(hK:K.Pairwise (· < ·))(OV:K.length<=64){a0 b:Int}(hb:b∈K)(mn:∀x∈n4 es,a0<x->x<b->x∈K)
include gh hK OV hb mn
theorem jEX{g:Int->Int}{p u:Int}(hu:u<=b){m q w:Int}{nm:ByteArray}{ls:List bP}{R:bQ}{x:Int}:∀(n i:Nat)(a:Int)(acc:bQ),K.length-i<=n->a0<=a->a<=u->(a<u->i<K.length)->(∀k,(hk:k<K.length)->(a<u->(k<i->K[k]<=a)/\(i<=k->a<K[k])))->(∀t,a<=t->t<u->g t=p)->
  acc.length+(K.length-i)<=1000000000->Ch (λt=>kD t (g t) es) a x acc->
  ∃out,Ad (i:Int) a m q nm ls es w u p K acc R=some (m,q,nm,ls,es,K,out,R)/\Ch (λt=>kD t (g t) es) u x out/\out.length<=acc.length+(K.length-i):=by
 intro n;induction n with
 |zero=>
  intro i a acc hn ha hau hi _ _ _ lu;rw[Ti];simp only[j1F];have nr:¬a<u:=λh=>by have:=hi h;omega
  rw[ah nr,j6,aU];have:a=u:=by omega
  subst this;exact⟨acc,rfl,lu,by omega⟩
 |succ n ih=>
  intro i a acc hn ha hau hi cE hg ue lu;rw[Ti];simp only[j1F];by_cases aA:a<u
  .have iE:=hi aA;have bj:K.getD i (0:Int)=K[i]:=by simp[iE]
   have h1:=((cE i iE) aA).2 (jl _);rw[ag aA,aR (by omega) (by omega),aj (x:=(i:Int)+1) (by omega) (by omega)];simp only[j5,j7,bj,jAQ gh,j3];rw[ag (by simp[aY];omega),j5,aJ];have eu:(if K[i]<u then K[i] else u)=min K[i] u:=by split<;>omega
   rw[eu];have eZ:a<min K[i] u:=by omega
   have OW:∀t,a<=t->t<min K[i] u->kD t (g t) es=kD a p es:=λt t1 t2=>by
    rw[hg t t1 (by omega)];refine OU es p (λy hy=>?_);obtain⟨y1,y2⟩:=OO hy
    have key:∀c,c∈n4 es->(c<=a↔c<=t):=λc hc=>by
     refine⟨λh=>by omega,λh=>?_⟩;apply jr;intro Oj;have hcK:=mn c hc (by omega) (by omega);obtain⟨k,hk,rfl⟩:=z8 hcK;by_cases lJ:k<i
     .have:=((cE k hk) aA).1 lJ;omega
     .by_cases OX:k=i
      .subst OX;omega
      .have:=kr.1 hK i k iE hk (by omega);omega
    exact⟨key _ y1,key _ y2⟩
   have OY:=lu.snoc (b:=a) (c:=min K[i] u) (p:=kD a p es) (by omega) OW
   obtain⟨out,e,hc,hl⟩:=ih (i+1) (min K[i] u) (acc++[(a,(min K[i] u,kD a p es))]) (by omega) (by omega) (by omega) (λh=>by
    apply jr;intro OZ;obtain⟨k,hk,G1⟩:=z8 hb;by_cases lJ:k=i
    .subst lJ;omega
    .have:=kr.1 hK k i hk iE (by omega);omega) (λk hk h=>⟨λlJ=>by
    by_cases OX:k=i
    .subst OX;omega
    .have:=((cE k hk) aA).1 (by omega);omega,λlJ=>by
    have:=kr.1 hK i k iE hk (by omega);omega⟩) (λt t1 t2=>hg t (by omega) t2) (by simp;omega) OY
   exact⟨out,e,hc,by simp at hl;omega⟩
  .rw[ah aA,j6,aU];have:a=u:=by omega
   subst this;exact⟨acc,rfl,lu,by omega⟩
theorem XP{g:Int->Int}{S:bQ}(Hh:S.length<=10000000){nm:ByteArray}{ls:List bP}(uB : -1000000000000<=a0)(dJ:b<=1000000000000){x:Int}:∀(n i:Nat)(a:Int)(acc:bQ),i+n=S.length->a0<=a->Ch g b a (S.drop i)->Ch (λt=>kD t (g t) es) a x acc->acc.length<=64*i->
  ∃out,xG (S.length:Int) (i:Int) nm ls es K acc S=some out/\Ch (λt=>kD t (g t) es) b x out/\out.length<=64*S.length
 |0,i,a,acc,hi,_,hc,lu,ue=>by
  rw[jf (by omega)]at hc;have hc:a=b:=hc;subst hc;rw[Tj];simp only[j1G];rw[ah (by omega),j6,aU];exact⟨acc,rfl,lu,by omega⟩
 |n+1,i,a,acc,hi,ha,hc,lu,ue=>by
  have bd:i<S.length:=by omega
  rw[jc bd]at hc;obtain⟨c1,c2,c3,c4⟩:=hc;have hle:=c4.le;have bj:S.getD i ((0:Int),((0:Int),(0:Int)))=S[i]:=by simp[List.getD,bd]
  obtain⟨k,bb,ek,hk,k1,k2⟩:=jEf hK OV (a+1)
  obtain⟨out,e4,rA,Aq⟩:=jEX gh hK OV hb mn (g:=g) (p:=S[i].2.2) (u:=S[i].2.1) hle (m:=(S.length:Int)) (q:=(i:Int)) (w:=S[i].1) (nm:=nm) (ls:=ls) (R:=S) (x:=x) K.length k a acc (by omega) ha c2 (λh=>by
   apply jr;intro OZ;obtain⟨j,hj,hjb⟩:=z8 hb;have:=k1 j hj (by omega);omega) (λj hj _=>⟨λh=>by have:=k1 j hj h;omega,λh=>by have:=k2 j hj h;omega⟩) c3 (by omega) lu
  have ih:=XP Hh (nm:=nm) (ls:=ls) uB dJ (g:=g) (x:=x) n (i+1) S[i].2.1 out (by omega) (by omega) c4 rA (by omega);rw[Tj];simp only[j1G];rw[ag (by omega),aR (by omega) (by omega)];simp only[j5,j7,bj,c1];rw[aj (x:=a+1) (by omega) (by omega),ek];simp only[j3];rw[c1]at e4;rw[e4];simp only[j3];rw[aj (x:=(i:Int)+1) (by omega) (by omega),aJ];exact ih
end
section
variable{zs:List bU}{ps:List dH}{cs:List bt}(hs:fK zs ps cs)
include hs
theorem XQ{a b:Int}(ha:0<=a)(cj:a<=b)(hb:b<=8589934592)(hlen:b-a<=35078400):∀ls:List bP,(∀L∈ls,eD zs.length ps.length cs.length L)->
  ∃E:List Int,E.length<=30000*ls.length/\∀L∈ls,∀x,a<x->x<b->cw zs cs L (x-1)≠cw zs cs L x->x∈E
 |[],_=>⟨[],by simp,by simp⟩
 |L::ls,hL=>by
  obtain⟨E,e1,e2⟩:=XQ ha cj hb hlen ls (λM hM=>hL M (by simp[hM]));obtain⟨S,_,c1,l1⟩:=WZ hs (hL L (by simp)) (ss:=[]) ha cj hb hlen;refine⟨mX S++E,?_,λM hM x x1 x2 x3=>?_⟩
  .have:(mX S).length<=S.length:=by simp[mX]
   rw[ja,jm];omega
  .rcases jg.1 hM with rfl|hM
   .exact k5 _ (((Hd c1).1 x).2 ⟨x1,x2,x3⟩)
   .exact kj _ (e2 M hM x x1 x2 x3)
theorem jAR{ls:List bP}{es:List dE}(hL:∀L∈ls,eD zs.length ps.length cs.length L){a b:Int}(ha:0<=a)(cj:a<=b)(hb:b<=8589934592)(hlen:b-a<=35078400) :
  ∃E:List Int,E.length<=30000*ls.length+2*es.length/\(∀x,a<x->x<b->dX es (x-1) (cU zs cs ls (x-1)) ls.length≠dX es x (cU zs cs ls x) ls.length->x∈E)/\∀x∈n4 es,x∈E:=by
 obtain⟨E,e1,e2⟩:=XQ hs ha cj hb hlen ls hL;refine⟨E++n4 es,by rw[ja,He];omega,λx x1 x2 x3=>?_,λx hx=>kj _ hx⟩;apply jr;intro hn;simp only[jn,not_or]at hn;refine x3 (XH (λi hi=>?_) (λp=>XG hn.2 p));apply jr;intro bq;have e:∀t,cU zs cs ls t i=cw zs cs ls[i] t:=λt=>by simp[cU,List.getD,hi]
 rw[e,e]at bq;exact hn.1 (e2 _ (je hi) x x1 x2 bq)
theorem jx5{nm:ByteArray}{ls:List bP}{es:List dE}(hL:∀L∈ls,eD zs.length ps.length cs.length L)(gF:ls.length<=4)(hE:∀x∈es,nS ps.length x)(gh:es.length<=9)
  {ss:List cS}{a b:Int}(ha:0<=a)(cj:a<=b)(hb:b<=8589934592)(hlen:b-a<=35078400) :
  ∃out,j3c ((zs,(ps,(cs,ss))),zs.map tb) (nm,(ls,es)) a b=some out/\eh (λt=>dX es t (cU zs cs ls t) ls.length) b none a out/\out.length<=30000*ls.length+2*es.length+1:=by
 obtain⟨out,e,h,_⟩:=jAO hs hL gF hE gh ha cj hb (by omega) (nm:=nm) (ss:=ss);obtain⟨E,e1,e2,_⟩:=jAR hs (es:=es) hL ha cj hb hlen;have:=XF h e2;exact⟨out,e,h,by omega⟩
theorem jCR{s:cS}(hk:qK zs.length ps.length cs.length s)(gF:s.2.1.length<=3)(gh:s.2.2.length<=6){ss:List cS}{a b:Int}(ha:0<=a)(cj:a<b)(hb:b<=8589934592)(hlen:b-a<=34560000) :
  ∃out,j2S ((zs,(ps,(cs,ss))),zs.map tb) s a b=some out/\eh (cC zs cs s) b none a out/\out.length<=10000000:=by
 obtain⟨S,eS,hS,lS⟩:=jx5 hs (nm:=s.1) hk.ly (by omega) hk.ed (by omega) (ss:=ss) ha (by omega) hb (by omega);have l0:=XO (es:=s.2.2) (by omega) (f:=a) (t:=b) (zs:=zs) (ps:=ps) (cs:=cs) (ss:=ss) (tbs:=zs.map tb) (nm:=s.1) (ls:=s.2.1) s.2.2.length 0 [] (by omega) (by simp);rw[jo,kc]at l0;have wA:=He s.2.2;obtain⟨C,eC,c1,c2,c3⟩:=jCQ (l:=n4 s.2.2) (by omega) (f:=a) (t:=b)
 have hKp:(C++[b]).Pairwise (· < ·):=qz.2 ⟨c1,zt _ _,λx hx y hy=>by
  simp at hy;subst hy;exact((c3 x).1 hx).2.2⟩
 obtain⟨M,e2,hM,lM⟩:=XP (es:=s.2.2) (by omega) hKp (by simp;omega) (a0:=a) (b:=b) (by simp) (λx hx x1 x2=>k5 _ ((c3 x).2 ⟨hx,x1,x2⟩)) (g:=λt=>dX s.2.2 t (cU zs cs s.2.1 t) s.2.1.length) (S:=S) (by omega) (nm:=s.1) (ls:=s.2.1) (by omega) (by omega) (x:=a) S.length 0 a [] (by omega) (by omega) (by rw[kc];exact hS.ch) rfl (by simp);obtain⟨out,e3,h3,l3⟩:=Oo (l:=M) (by omega) hM;refine⟨out,?_,h3,by omega⟩;simp only[j2S,show Int.ofNat s.2.2.length=(s.2.2.length:Int) from rfl];rw[show xF a b s.2.2 (s.2.2.length:Int) 0 zs ps cs ss (zs.map tb) s.1 s.2.1 s.2.2 []=_ from l0];simp only[j3,eC];rw[show j3c ((zs,(ps,(cs,ss))),zs.map tb) (s.1,(s.2.1,s.2.2)) a b=_ from eS];simp only[j3,show Int.ofNat S.length=(S.length:Int) from rfl];rw[show xG (S.length:Int) 0 s.1 s.2.1 s.2.2 (C++[b]) [] S=_ from e2];simp only[j3,e3]
end
set_option linter.unusedSectionVars false
theorem XR:jbf=some true:=jrq 60 true (by kernel_rfl)
section
variable{zs:List bU}{ps:List dH}{cs:List bt}(hs:fK zs ps cs)
include hs
theorem jAS{L:bP}(hL:eD zs.length ps.length cs.length L){ss:List cS}{a b:Int}(ha:0<=a)(cj:a<=b)(hb:b<=8589934592){M:Nat}(hM:M<=60)(hlen:b-a<=604800*M) :
  ∃out,j1E ((zs,(ps,(cs,ss))),zs.map tb) L a b=some out/\eh (cw zs cs L) b none a out/\out.length<=308*M+191:=by
 obtain⟨out,e,h1,h2⟩:=WV hs hL (ss:=ss) ha cj hb hM hlen (N:=((b-a)/3600+8).toNat) (by omega) (WY hs hL ha (by omega)) (WX hs hL ha hb);refine⟨out,e,h1,?_⟩;have hw:L.2.2.2.2.2.2.1.length*(M+1)*5<=14*(M+1)*5:=jv _ (jv _ hL.wl)
 have hc:(if L.2.2.2.2.2.2.2.2=0 then 0 else (mz cs L.2.2.2.2.2.2.2.1).2.2.length*5)<=4*5:=by
  by_cases hm:L.2.2.2.2.2.2.2.2=0
  .rw[if_pos hm];omega
  .rw[if_neg hm];refine jv _ (hs.c.dl _ ?_);have hq:=hL.cal hm;have hi:(L.2.2.2.2.2.2.2.1).toNat<cs.length:=by omega
   unfold mz;rw[show cs.getD (L.2.2.2.2.2.2.2.1).toNat (ByteArray.empty,((0:Int),([]:List Int)))=cs[(L.2.2.2.2.2.2.2.1).toNat] by simp[List.getD,hi]];exact je hi
 omega
theorem XS{a b:Int}(ha:0<=a)(cj:a<=b)(hb:b<=8589934592){M K:Nat}(hM:M<=60)(hlen:b-a<=604800*M)(hK:K=308*M+191):∀ls:List bP,(∀L∈ls,eD zs.length ps.length cs.length L)->
  ∃E:List Int,E.length<=K*ls.length/\∀L∈ls,∀x,a<x->x<b->cw zs cs L (x-1)≠cw zs cs L x->x∈E
 |[],_=>⟨[],by simp,by simp⟩
 |L::ls,hL=>by
  obtain⟨E,e1,e2⟩:=XS ha cj hb hM hlen hK ls (λM hM=>hL M (by simp[hM]));obtain⟨S,_,c1,l1⟩:=jAS hs (hL L (by simp)) (ss:=[]) ha cj hb hM hlen;refine⟨mX S++E,?_,λM hM x x1 x2 x3=>?_⟩
  .have:(mX S).length<=S.length:=by simp[mX]
   rw[ja,jm,Nat.mul_succ];omega
  .rcases jg.1 hM with rfl|hM
   .exact k5 _ (((Hd c1).1 x).2 ⟨x1,x2,x3⟩)
   .exact kj _ (e2 M hM x x1 x2 x3)
theorem jzE{s:cS}(hk:qK zs.length ps.length cs.length s){a b:Int}(ha:0<=a)(cj:a<=b)(hb:b<=8589934592){M K:Nat}(hM:M<=60)(hlen:b-a<=604800*M)(hK:K=308*M+191) :
  ∃E:List Int,E.length<=K*s.2.1.length+2*s.2.2.length/\∀x,a<x->x<b->cC zs cs s (x-1)≠cC zs cs s x->x∈E:=by
 obtain⟨E,e1,e2⟩:=XS hs ha cj hb hM hlen hK s.2.1 hk.ly;refine⟨E++n4 s.2.2,by rw[ja,He];omega,λx x1 x2 x3=>?_⟩;apply jr;intro hn;simp only[jn,not_or]at hn;refine x3 ?_
 have hT:dX s.2.2 (x-1) (cU zs cs s.2.1 (x-1)) s.2.1.length=dX s.2.2 x (cU zs cs s.2.1 x) s.2.1.length:=by
  refine XH (λi hi=>?_) (λp=>XG hn.2 p);apply jr;intro bq;have e:∀t,cU zs cs s.2.1 t i=cw zs cs s.2.1[i] t:=λt=>by simp[cU,List.getD,hi]
  rw[e,e]at bq;exact hn.1 (e2 _ (je hi) x x1 x2 bq)
 unfold cC;rw[hT];refine(OU _ _ λy hy=>?_).symm;obtain⟨m1,m2⟩:=OO hy;have n1:x≠y.2.2.2.1:=λe=>hn.2 (e▸m1);have n2:x≠y.2.2.2.2:=λe=>hn.2 (e▸m2);omega
end
end Go.Proofs.Pw
