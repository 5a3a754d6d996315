/- oh.Cuts: the Hf inside a range, ascending, and the end of the range. -/
import Derived.Test.YtaieocafhcjelaaGreatEPF
import Derived.Test.YtaieocafhcjelaaGreatELS
import Derived.Test.YtaieocafhcjelaaGreatEPK
import Derived.Test.YtaieocafhcjelaaGreatEPG
import Derived.Test.YtaieocafhcjelaaGreatEPB
import Derived.KernelRfl
open Go Go.Lft
namespace Go.Proofs.Pw
theorem jxm{l:List Int}(hl:l.length<=1000000):∃s,j7b l=some s/\s.Perm l/\s.Pairwise (· <= ·):=by
 obtain⟨s,e,h1,h2⟩:=jx2 (xs:=l) (by omega);exact⟨s,by simp only[j7b,e],h1,h2⟩
def mK(f t x:Int):Bool:= !(cond (decide (x<=f)) true (decide (x>=t)))
theorem Wn{l:List Int}(hl:l.length<=1000000){f t:Int}:∀(n i:Nat),i+n=l.length->(∀s∈l.take i,mK f t s=true)->
  (∃j:Nat,xV f t (l.length:Int) (i:Int) l=some (.inl ((j:Int),l))/\j<l.length/\(∀s∈l.take j,mK f t s=true)/\mK f t (l.getD j 0)=false)\/
  (xV f t (l.length:Int) (i:Int) l=some (.inr l)/\∀s∈l,mK f t s=true)
 |0,i,hi,h=>by
  rw[Sd];simp only[j1E];rw[al (by omega),j6,aW];rw[List.take_of_length_le (by omega)]at h;exact Or.inr ⟨rfl,h⟩
 |n+1,i,hi,h=>by
  rw[Sd];simp only[j1E,jbx];rw[aj (show (i:Int)<(l.length:Int) by omega),aX (by omega) (by omega),ai (x:=(i:Int)+1) (by omega) (by omega)];simp only[j5,j7,j3];have aq:i<l.length:=by omega
  cases hc:(cond (decide (l.getD i (0:Int)<=f)) true (decide (l.getD i (0:Int)>=t))) with
  |true=>simp only[j5,aW];exact Or.inl ⟨i,rfl,aq,h,by simp only[mK];rw[hc];rfl⟩
  |false=>
   simp only[j6,aJ];refine Wn hl n (i+1) (by omega) λs hs=>?_;rw[ko]at hs;rcases jn.1 hs with hs|hs
   .exact h s hs
   .have bh:l.getD i (0:Int)=l[i]:=by simp[aq]
    rw[bh]at hc;rw[jj aq]at hs;simp at hs;subst hs;simp only[mK];rw[hc];rfl
theorem N2{l:List Int}(hl:l.length<=1000000){f t:Int}:∀(n i j:Nat)(b:List Int),j+n=l.length->i<=j->b.length=l.length->b.drop j=l.drop j->b.take i=(l.take j).filter (mK f t)->
  ∃(k:Nat)(b':List Int),AF f t (i:Int) (j:Int) b=some ((k:Int),b')/\b'.length=l.length/\k<=l.length/\b'.take k=l.filter (mK f t)
 |0,i,j,b,hj,dK,hb,hd,ht=>by
  rw[Se];simp only[j20,show Int.ofNat (List.length b)=(b.length:Int) from rfl];rw[al (by omega),j6,aW];rw[List.take_of_length_le (l:=l) (by omega)]at ht;exact⟨i,b,rfl,hb,by omega,ht⟩
 |n+1,i,j,b,hj,dK,hb,hd,ht=>by
  have aq:j<l.length:=by omega
  have Nl:b.getD j (0:Int)=l[j]:=by
   have:b[j]? = l[j]? := by
    have h:=ji (λx=>x[0]?) hd;simpa[List.getElem?_drop]using h
   rw[List.getD_eq_getElem?_getD,this,jj aq];rfl
  have gf:b.drop (j+1)=l.drop (j+1):=by have:=ji (List.drop 1) hd;simpa[List.drop_drop]using this
  have mo:l.take (j+1)=l.take j++[l[j]]:=by rw[ko,jj aq];rfl
  rw[Se];simp only[j20,jbx,show Int.ofNat (List.length b)=(b.length:Int) from rfl];rw[aj (show (j:Int)<(b.length:Int) by omega),aX (by omega) (by omega),aX (by omega) (by omega),ai (x:=(j:Int)+1) (by omega) (by omega),ai (x:=(i:Int)+1) (by omega) (by omega)];simp only[j5,j7,j3,Nl];cases hc:(cond (decide (l[j]<=f)) true (decide (l[j]>=t))) with
  |true=>simp only[jq,j6,aJ];refine N2 hl n i (j+1) b (by omega) (by omega) hb gf ?_;rw[mo,zb,ht];simp[mK,hc]
  |false=>
   simp only[k7,j5,aJ];refine N2 hl n (i+1) (j+1) _ (by omega) (by omega) (by simpa using hb) ?_ ?_
   .rw[List.drop_set_of_lt (by omega)];exact gf
   .have B8:i<b.length:=by omega
    rw[ko,List.take_set_of_le (jg _),vq B8,ht,mo,zb];simp[mK,hc]
theorem jtR{l:List Int}(hl:l.length<=1000000){f t:Int}:∃n m,j29 l f t=some (n,m)/\m.take n.toNat=l.filter (mK f t):=by
 simp only[j29,j2o,show Int.ofNat (List.length l)=(l.length:Int) from rfl];rcases Wn (f:=f) (t:=t) hl l.length 0 (by omega) (by simp) with⟨j,e,hj,h1,h2⟩|⟨e,h⟩
 .rw[show ((0:Nat):Int)=0 from rfl]at e;rw[e];simp only[j3,Rw];rw[cP (by omega),ai (x:=(j:Int)+1) (by omega) (by omega)];have bh:l.getD j (0:Int)=l[j]:=by simp[hj]
  rw[bh]at h2
  obtain⟨k,b,e2,hb,hk,ht⟩:=N2 (f:=f) (t:=t) hl (l.length-(j+1)) j (j+1) l (by omega) (by omega) rfl rfl (by
   rw[ko,jj hj,zb,vg.2 h1];simp[h2])
  rw[show ((j:Int)+1)=((j+1:Nat):Int) from rfl,e2];simp only[j6,j3,show Int.ofNat (List.length b)=(b.length:Int) from rfl,j7];rw[aj (show (0:Int)<=(k:Int) by omega),aj (show (k:Int)<=(b.length:Int) by omega)];simp only[vi,j5,Bool.true_and];rw[aj (by simp;omega),j5];refine⟨_,_,rfl,?_⟩;simp only[show (Int.ofNat k).toNat=k from rfl];rw[zf (by simp;omega),v6,Nat.min_self,ht]
 .rw[show ((0:Nat):Int)=0 from rfl]at e;rw[e];simp only[j3,nV,vb,j5];refine⟨_,_,rfl,?_⟩;simp only[show (Int.ofNat l.length).toNat=l.length from rfl];rw[List.take_of_length_le (jg _),vg.2 h]
def kZ:Int->List Int->List Int
 |_,[]=>[]
 |p,x::r=>if x=p then kZ p r else x::kZ x r
theorem N3:∀(l:List Int)(p:Int),∀x,x∈p::kZ p l↔x∈p::l
 |[],_,_=>Iff.rfl
 |y::r,p,x=>by
  unfold kZ;split
  .rename_i h;subst h;rw[N3 r y x];simp
  .have:=N3 r y x;rw[je,this,je,je,je]
theorem N4:∀(l:List Int)(p:Int),(p::l).Pairwise (· <= ·)->(p::kZ p l).Pairwise (· < ·)
 |[],_,_=>by simp[kZ]
 |y::r,p,h=>by
  have h1:=js.1 h;unfold kZ;split
  .rename_i h;subst h;exact N4 r y h1.2
  .have ih:=N4 r y h1.2;refine js.2 ⟨λz hz=>?_,ih⟩;have hy:=h1.1 y (by simp);rcases je.1 hz with rfl|hz
   .omega
   .have:=(js.1 ih).1 z hz;omega
theorem N5{l:List Int}(hl:l.length<=1000000){k0:Nat}:∀(n s k:Nat)(b:List Int),k0+s+n=l.length->1<=s->k<=k0+s-1->b.length=l.length->b.drop k=l.drop k->
  ∃(m:Nat)(b':List Int),xW (k:Int) (k0:Int) (s:Int) b=some ((m:Int),b')/\b'.length=l.length/\m<=l.length/\b'.take m=b.take k++kZ (l.getD (k0+s-1) 0) (l.drop (k0+s))
 |0,s,k,b,hn,hs,hk,hb,hd=>by
  rw[Sf];simp only[j2w,j7,show Int.ofNat (b.length-k0)=((b.length-k0:Nat):Int) from rfl];rw[al (by omega),j6,aW,jf (by omega)];exact⟨k,b,rfl,hb,by omega,by simp[kZ]⟩
 |n+1,s,k,b,hn,hs,hk,hb,hd=>by
  have aq:k0+s<l.length:=by omega
  have re:∀j,k<=j->b[j]? = l[j]? := λj hj=>by
   have h:=ji (λx=>x[j-k]?) hd;simpa[List.getElem?_drop,show k+(j-k)=j by omega]using h
  have g1:b.getD (k0+s) (0:Int)=l[k0+s]:=by rw[List.getD_eq_getElem?_getD,re _ (by omega),jj aq];rfl
  have g2:b.getD (k0+(s-1)) (0:Int)=l.getD (k0+s-1) 0:=by rw[List.getD_eq_getElem?_getD,re _ (by omega),show k0+(s-1)=k0+s-1 by omega,List.getD_eq_getElem?_getD]
  have e1:l.getD (k0+(s+1)-1) 0=l[k0+s]:=by rw[show k0+(s+1)-1=k0+s by omega];simp[aq]
  rw[Sf];simp only[j2w,j7,show Int.ofNat (b.length-k0)=((b.length-k0:Nat):Int) from rfl,show Int.ofNat k0=(k0:Int) from rfl];rw[aj (show (s:Int)<((b.length-k0:Nat):Int) by omega),aX (show (0:Int)<=(s:Int) by omega) (by omega),ai (x:=(s:Int)-1) (by omega) (by omega),aX (show (0:Int)<=(s:Int)-1 by omega) (by omega),aX (show (0:Int)<=(k:Int) by omega) (by omega),ai (x:=(k:Int)+1) (by omega) (by omega),ai (x:=(s:Int)+1) (by omega) (by omega),show ((s:Int)-1).toNat=s-1 by omega,jc aq];simp only[j5,g1,g2,kZ];by_cases hc:l[k0+s]=l.getD (k0+s-1) 0
  .rw[show (l[k0+s] != l.getD (k0+s-1) 0)=false by rw[bne_eq_false_iff_eq];exact hc,if_pos hc,j6,aJ];have ih:=N5 hl (k0:=k0) n (s+1) k b (by omega) (by omega) (by omega) hb hd;rw[e1,hc,show k0+(s+1)=k0+s+1 by omega]at ih;exact ih
  .rw[show (l[k0+s] != l.getD (k0+s-1) 0)=true by rw[bne_iff_ne];exact hc,if_neg hc,j5,aJ]
   have ih:=N5 hl (k0:=k0) n (s+1) (k+1) (b.set k l[k0+s]) (by omega) (by omega) (by omega) (by simpa using hb) (by
    rw[List.drop_set_of_lt (by omega)];have:=ji (List.drop 1) hd;simpa[List.drop_drop]using this)
   rw[e1,show k0+(s+1)=k0+s+1 by omega]at ih;obtain⟨m,b',r1,r2,r3,r4⟩:=ih;refine⟨m,b',r1,r2,r3,?_⟩;have Bj:k<b.length:=by omega
   rw[r4,ko,List.take_set_of_le (jg _),vq Bj];simp
def rf:List Int->List Int
 |[]=>[]
 |a::r=>a::kZ a r
theorem Wo{l:List Int}(hl:l.length<=1000000):∀(n k:Nat),k+n=l.length->1<=k->rf l=l.take k++kZ (l.getD (k-1) 0) (l.drop k)->
  (∃(m:Nat)(b:List Int),tB (k:Int) l=some (.inl ((m:Int),b))/\b.take m=rf l)\/(tB (k:Int) l=some (.inr l)/\rf l=l)
 |0,k,hn,hk,hT=>by
  rw[Sh];simp only[j18,show Int.ofNat l.length=(l.length:Int) from rfl];rw[al (by omega),j6,aW];rw[List.take_of_length_le (by omega),jf (by omega)]at hT;exact .inr ⟨rfl,by simpa[kZ]using hT⟩
 |n+1,k,hn,hk,hT=>by
  have aq:k<l.length:=by omega
  have g1:l.getD k (0:Int)=l[k]:=by simp[aq]
  rw[jc aq]at hT;simp only[kZ]at hT;rw[Sh];simp only[j18,show Int.ofNat l.length=(l.length:Int) from rfl];rw[aj (show (k:Int)<(l.length:Int) by omega),aX (show (0:Int)<=(k:Int) by omega) (by omega),ai (x:=(k:Int)-1) (by omega) (by omega),aX (show (0:Int)<=(k:Int)-1 by omega) (by omega),ai (x:=(k:Int)+1) (by omega) (by omega),show ((k:Int)-1).toNat=k-1 by omega,aj (show (0:Int)<=(k:Int) by omega),aj (show (k:Int)<=(l.length:Int) by omega)];simp only[j5,j7,g1,vi,show Int.ofNat k=(k:Int) from rfl];by_cases hc:l[k]=l.getD (k-1) 0
  .rw[if_pos hc]at hT;obtain⟨m,b,r1,r2,r3,r4⟩:=N5 hl (k0:=k) n 1 k l (by omega) (by omega) (by omega) rfl rfl;rw[show k+1-1=k by omega,g1,hc,<-hT]at r4;rw[ee hc,j5,show xW (k:Int) (k:Int) 1 l=_ from r1];simp only[j3,j7,show Int.ofNat b.length=(b.length:Int) from rfl];rw[aj (show (0:Int)<=(m:Int) by omega),aj (show (m:Int)<=(b.length:Int) by omega)];simp only[vi,j5,Bool.true_and];rw[aj (by simp;omega),j5,aW];refine .inl ⟨m,_,rfl,?_⟩;rw[zf (by simp;omega),v6,Nat.min_self,r4]
  .rw[if_neg hc]at hT;rw[cP hc,j6,aJ];refine Wo hl n (k+1) (by omega) (by omega) ?_;have mo:l.take (k+1)=l.take k++[l[k]]:=by rw[ko,jj aq];rfl
   rw[hT,mo,show k+1-1=k by omega,g1,jd];rfl
theorem jrW{l:List Int}(hl:l.length<=1000000):∃n m,j2Q l=some (n,m)/\m.take n.toNat=rf l:=by
 simp only[j2Q,show Int.ofNat l.length=(l.length:Int) from rfl];by_cases h2:l.length<2
 .rw[aj (by omega),j5];refine⟨_,_,rfl,?_⟩;rw[j7,List.take_of_length_le (jg _)];match l,h2 with
  |[],_=>rfl
  |[a],_=>rfl
  |_::_::_,h2=>simp at h2;omega
 .rw[al (by omega),j6]
  have hT:rf l=l.take 1++kZ (l.getD (1-1) 0) (l.drop 1):=by
   match l,h2 with
   |[],h2=>simp at h2
   |a::r,_=>rfl
  rcases Wo hl (l.length-1) 1 (by omega) (by omega) hT with⟨m,b,e,h⟩|⟨e,h⟩
  .rw[show tB 1 l=_ from e];refine⟨_,_,rfl,?_⟩;simpa using h
  .rw[show tB 1 l=_ from e];refine⟨_,_,rfl,?_⟩;rw[h];simp
theorem jzr{l:List Int}(x:Int):x∈rf l↔x∈l:=by
 cases l with
 |nil=>exact Iff.rfl
 |cons a r=>exact N3 r a x
theorem jzs{l:List Int}(h:l.Pairwise (· <= ·)):(rf l).Pairwise (· < ·):=by
 cases l with
 |nil=>exact .nil
 |cons a r=>exact N4 r a h
theorem N6:∀(l:List Int)(p:Int),(kZ p l).length<=l.length
 |[],_=>jg _
 |y::r,p=>by
  unfold kZ;split
  .have:=N6 r p;simp;omega
  .have:=N6 r y;simp;omega
theorem jzt(l:List Int):(rf l).length<=l.length:=by
 cases l with
 |nil=>exact jg _
 |cons a r=>have:=N6 r a;simp[rf];omega
theorem Wp{l:List Int}(hl:l.length<=1000000){f t:Int}:∃C,jby l f t=some (C++[t])/\C.Pairwise (· < ·)/\C.length<=l.length/\(∀x,x∈C↔x∈l/\f<x/\x<t):=by
 obtain⟨n1,m1,e1,h1⟩:=jtR (l:=l) (by omega) (f:=f) (t:=t);have fa:(l.filter (mK f t)).length<=l.length:=qt _ _;obtain⟨s,e2,p2,a2⟩:=jxm (l:=l.filter (mK f t)) (by omega);have eu:=p2.length_eq;obtain⟨n3,m3,e3,h3⟩:=jrW (l:=s) (by omega);have fp:=jzt s;refine⟨rf s,?_,jzs a2,by omega,λx=>?_⟩
 .simp only[jby,j8S,jl,kq];rw[aj (show 0+l.length<=aR by simp[aR];omega),j5];simp only[j3,e1,h1,e2,e3,h3];rw[aj (show (rf s).length+[t].length<=aR by simp[aR];omega),j5]
 .rw[jzr,p2.mem_iff,qq]
  have:mK f t x=true↔f<x/\x<t:=by
   unfold mK;by_cases h1:x<=f
   .rw[aj h1];simp;omega
   .rw[al h1];by_cases h2:x>=t
    .rw[aj h2];simp;omega
    .rw[al h2];simp;omega
  rw[this]
theorem jAQ{ds:List Int}(hs:ds.Pairwise (· < ·))(hl:ds.length<=64)(x:Int):∃(k:Nat)(b:Bool),j1F ds x=some ((k:Int),b)/\k<=ds.length/\(∀i,(hi:i<ds.length)->i<k->ds[i]<x)/\∀i,(hi:i<ds.length)->k<=i->x<=ds[i]:=by
 obtain⟨k,e,hk,h1,h2⟩:=Nj hs hl (x:=x) ds.length 0 ds.length (by omega) (by omega) (jg _) (λi _ h=>by omega) (λi hi h=>by omega);rw[show ((0:Nat):Int)=0 from rfl]at e;simp only[j1F,show Int.ofNat ds.length=(ds.length:Int) from rfl,e,j3,j7];by_cases jB:k<ds.length
 .have bh:ds.getD k (0:Int)=ds[k]:=by simp[jB]
  rw[aX (by omega) (by omega),aj (show (k:Int)<(ds.length:Int) by omega),bh];simp only[Bool.true_or,j5];by_cases hx:ds[k]=x
  .rw[ee hx];exact⟨k,_,rfl,hk,h1,h2⟩
  .rw[cP hx];simp only[j6,j9w,j3,jp];exact⟨k,_,rfl,hk,h1,h2⟩
 .rw[al (show¬(k:Int)<(ds.length:Int) by omega)];simp only[k7,Bool.or_true,j5,j6,Bool.false_and];exact⟨k,_,rfl,hk,h1,h2⟩
theorem N7{a t:Int}:∀(es:List eU)(p:Int),(∀x∈es,(x.2.2.2.1<=a↔x.2.2.2.1<=t)/\(x.2.2.2.2<=a↔x.2.2.2.2<=t))->lW t p es=lW a p es
 |[],_,_=>rfl
 |x::r,p,h=>by
  have hx:=h x (by simp);simp only[lW]
  have e:ED t p x=ED a p x:=by
   unfold ED;have:(t<x.2.2.2.1\/x.2.2.2.2<=t)↔(a<x.2.2.2.1\/x.2.2.2.2<=a):=by omega
   by_cases hc:a<x.2.2.2.1\/x.2.2.2.2<=a
   .rw[if_pos hc,if_pos (this.2 hc)]
   .rw[if_neg hc,if_neg (λh=>hc (this.1 h))]
  rw[e];exact N7 r _ (λy hy=>h y (by simp[hy]))
theorem Wq{es:List eU}(hl:es.length<=1000){f t:Int}{zs:List bY}{ps:List dB}{cs:List bf}{ss:List cA}{tbs:List (Int×bT)}{nm:ByteArray}{ls:List cg}:∀(n i:Nat)(acc:List Int),i+n=es.length->acc.length<=2*i->
  yi f t es (es.length:Int) (i:Int) zs ps cs ss tbs nm ls es acc=some (f,t,zs,ps,cs,ss,tbs,nm,ls,es,acc++ou (es.drop i))
 |0,i,acc,hi,_=>by
  rw[SK];simp only[j41];rw[al (by omega),j6,aW,jf (by omega)];simp[ou]
 |n+1,i,acc,hi,eT=>by
  have bF:i<es.length:=by omega
  have bh:es.getD i ((0:Int),((0:Int),((0:Int),((0:Int),(0:Int)))))=es[i]:=by simp[List.getD,bF]
  have ih:=Wq hl (f:=f) (t:=t) (zs:=zs) (ps:=ps) (cs:=cs) (ss:=ss) (tbs:=tbs) (nm:=nm) (ls:=ls) n (i+1) (acc++[es[i].2.2.2.1,es[i].2.2.2.2]) (by omega) (by simp;omega);rw[SK];simp only[j41];rw[aj (by omega),aX (by omega) (by omega),ai (x:=(i:Int)+1) (by omega) (by omega)];simp only[j5,j7,bh];rw[aj (by simp[aR];omega),j5,aJ,jc bF];rw[jd]at ih;exact ih
theorem jxn{es:List eU}(hl:es.length<=100){p t:Int}:jcV es p t=some (lW t p es):=by
 have ef:=Wm hl (t:=t) es.length 0 p (by omega);rw[jv]at ef;simp only[jcV,show Int.ofNat es.length=(es.length:Int) from rfl,show yh p t es (es.length:Int) 0=_ from ef];rfl
section
variable{es:List eU}(hQ:es.length<=100){K:List Int}(hK:K.Pairwise (· < ·))(Hg:K.length<=64){a0 b:Int}(hb:b∈K)(nW:∀x∈ou es,a0<x->x<b->x∈K)
include hQ hK Hg hb nW
theorem jBB{g:Int->Int}{p u:Int}(hu:u<=b){m q w:Int}{nm:ByteArray}{ls:List cg}{R:aS}{x:Int}:∀(n i:Nat)(a:Int)(acc:aS),K.length-i<=n->a0<=a->a<=u->(a<u->i<K.length)->(∀k,(hk:k<K.length)->(a<u->(k<i->K[k]<=a)/\(i<=k->a<K[k])))->(∀t,a<=t->t<u->g t=p)->
  acc.length+(K.length-i)<=1000000000->Ch (λt=>lW t (g t) es) a x acc->
  ∃out,AR (i:Int) a m q nm ls es w u p K acc R=some (m,q,nm,ls,es,K,out,R)/\Ch (λt=>lW t (g t) es) u x out/\out.length<=acc.length+(K.length-i):=by
 intro n;induction n with
 |zero=>
  intro i a acc hn ha hau hi _ _ _ kX;rw[SM];simp only[j22];have nK:¬a<u:=λh=>by have:=hi h;omega
  rw[al nK,j6,aW];have:a=u:=by omega
  subst this;exact⟨acc,rfl,kX,by omega⟩
 |succ n ih=>
  intro i a acc hn ha hau hi cH hg xh kX;rw[SM];simp only[j22];by_cases aq:a<u
  .have lE:=hi aq;have bh:K.getD i (0:Int)=K[i]:=by simp[lE]
   have h1:=((cH i lE) aq).2 (jg _);rw[aj aq,aX (by omega) (by omega),ai (x:=(i:Int)+1) (by omega) (by omega)];simp only[j5,j7,bh,jxn hQ,j3];rw[aj (by simp[aR];omega),j5,aJ];have dZ:(if K[i]<u then K[i] else u)=min K[i] u:=by split<;>omega
   rw[dZ];have gj:a<min K[i] u:=by omega
   have mL:∀t,a<=t->t<min K[i] u->lW t (g t) es=lW a p es:=λt t1 t2=>by
    rw[hg t t1 (by omega)];refine N7 es p (λy hy=>?_);obtain⟨y1,y2⟩:=N0 hy
    have key:∀c,c∈ou es->(c<=a↔c<=t):=λc hc=>by
     refine⟨λh=>by omega,λh=>?_⟩;apply jr;intro NG;have hcK:=nW c hc (by omega) (by omega);obtain⟨k,hk,rfl⟩:=qz hcK;by_cases lQ:k<i
     .have:=((cH k hk) aq).1 lQ;omega
     .by_cases N8:k=i
      .subst N8;omega
      .have:=ky.1 hK i k lE hk (by omega);omega
    exact⟨key _ y1,key _ y2⟩
   have N9:=kX.snoc (b:=a) (c:=min K[i] u) (p:=lW a p es) (by omega) mL
   obtain⟨out,e,hc,hl⟩:=ih (i+1) (min K[i] u) (acc++[(a,(min K[i] u,lW a p es))]) (by omega) (by omega) (by omega) (λh=>by
    apply jr;intro Oa;obtain⟨k,hk,Bj⟩:=qz hb;by_cases lQ:k=i
    .subst lQ;omega
    .have:=ky.1 hK k i hk lE (by omega);omega) (λk hk h=>⟨λlQ=>by
    by_cases N8:k=i
    .subst N8;omega
    .have:=((cH k hk) aq).1 (by omega);omega,λlQ=>by
    have:=ky.1 hK i k lE hk (by omega);omega⟩) (λt t1 t2=>hg t (by omega) t2) (by simp;omega) N9
   exact⟨out,e,hc,by simp at hl;omega⟩
  .rw[al aq,j6,aW];have:a=u:=by omega
   subst this;exact⟨acc,rfl,kX,by omega⟩
theorem Wr{g:Int->Int}{S:aS}(Hh:S.length<=10000000){nm:ByteArray}{ls:List cg}(tc : -1000000000000<=a0)(da:b<=1000000000000){x:Int}:∀(n i:Nat)(a:Int)(acc:aS),i+n=S.length->a0<=a->Ch g b a (S.drop i)->Ch (λt=>lW t (g t) es) a x acc->acc.length<=64*i->
  ∃out,yj (S.length:Int) (i:Int) nm ls es K acc S=some out/\Ch (λt=>lW t (g t) es) b x out/\out.length<=64*S.length
 |0,i,a,acc,hi,_,hc,kX,xh=>by
  rw[jf (by omega)]at hc;have hc:a=b:=hc;subst hc;rw[SN];simp only[j23];rw[al (by omega),j6,aW];exact⟨acc,rfl,kX,by omega⟩
 |n+1,i,a,acc,hi,ha,hc,kX,xh=>by
  have bF:i<S.length:=by omega
  rw[jc bF]at hc;obtain⟨c1,c2,c3,c4⟩:=hc;have hle:=c4.le;have bh:S.getD i ((0:Int),((0:Int),(0:Int)))=S[i]:=by simp[List.getD,bF]
  obtain⟨k,bb,ek,hk,k1,k2⟩:=jAQ hK Hg (a+1)
  obtain⟨out,e4,rR,MV⟩:=jBB hQ hK Hg hb nW (g:=g) (p:=S[i].2.2) (u:=S[i].2.1) hle (m:=(S.length:Int)) (q:=(i:Int)) (w:=S[i].1) (nm:=nm) (ls:=ls) (R:=S) (x:=x) K.length k a acc (by omega) ha c2 (λh=>by
   apply jr;intro Oa;obtain⟨j,hj,hjb⟩:=qz hb;have:=k1 j hj (by omega);omega) (λj hj _=>⟨λh=>by have:=k1 j hj h;omega,λh=>by have:=k2 j hj h;omega⟩) c3 (by omega) kX
  have ih:=Wr Hh (nm:=nm) (ls:=ls) tc da (g:=g) (x:=x) n (i+1) S[i].2.1 out (by omega) (by omega) c4 rR (by omega);rw[SN];simp only[j23];rw[aj (by omega),aX (by omega) (by omega)];simp only[j5,j7,bh,c1];rw[ai (x:=a+1) (by omega) (by omega),ek];simp only[j3];rw[c1]at e4;rw[e4];simp only[j3];rw[ai (x:=(i:Int)+1) (by omega) (by omega),aJ];exact ih
end
section
variable{zs:List bY}{ps:List dB}{cs:List bf}(hs:eX zs ps cs)
include hs
theorem Ws{a b:Int}(ha:0<=a)(bR:a<=b)(hb:b<=8589934592)(hlen:b-a<=35078400):∀ls:List cg,(∀L∈ls,fI zs.length ps.length cs.length L)->
  ∃E:List Int,E.length<=30000*ls.length/\∀L∈ls,∀x,a<x->x<b->cR zs cs L (x-1)≠cR zs cs L x->x∈E
 |[],_=>⟨[],by simp,by simp⟩
 |L::ls,hL=>by
  obtain⟨E,e1,e2⟩:=Ws ha bR hb hlen ls (λM hM=>hL M (by simp[hM]));obtain⟨S,_,c1,l1⟩:=VZ hs (hL L (by simp)) (ss:=[]) ha bR hb hlen;refine⟨nt S++E,?_,λM hM x x1 x2 x3=>?_⟩
  .have:(nt S).length<=S.length:=by simp[nt]
   rw[ja,jk];omega
  .rcases je.1 hM with rfl|hM
   .exact kj _ (((Hd c1).1 x).2 ⟨x1,x2,x3⟩)
   .exact kv _ (e2 M hM x x1 x2 x3)
theorem jxo{ls:List cg}{es:List eU}(hL:∀L∈ls,fI zs.length ps.length cs.length L){a b:Int}(ha:0<=a)(bR:a<=b)(hb:b<=8589934592)(hlen:b-a<=35078400) :
  ∃E:List Int,E.length<=30000*ls.length+2*es.length/\(∀x,a<x->x<b->fi es (x-1) (du zs cs ls (x-1)) ls.length≠fi es x (du zs cs ls x) ls.length->x∈E)/\∀x∈ou es,x∈E:=by
 obtain⟨E,e1,e2⟩:=Ws hs ha bR hb hlen ls hL;refine⟨E++ou es,by rw[ja,He];omega,λx x1 x2 x3=>?_,λx hx=>kv _ hx⟩;apply jr;intro hn;simp only[jn,not_or]at hn;refine x3 (Wl (λi hi=>?_) (λp=>Wk hn.2 p));apply jr;intro ba;have e:∀t,du zs cs ls t i=cR zs cs ls[i] t:=λt=>by simp[du,List.getD,hi]
 rw[e,e]at ba;exact hn.1 (e2 _ (jh hi) x x1 x2 ba)
theorem jtS{nm:ByteArray}{ls:List cg}{es:List eU}(hL:∀L∈ls,fI zs.length ps.length cs.length L)(ib:ls.length<=4)(hE:∀x∈es,qV ps.length x)(hQ:es.length<=9)
  {ss:List cA}{a b:Int}(ha:0<=a)(bR:a<=b)(hb:b<=8589934592)(hlen:b-a<=35078400) :
  ∃out,j3x ((zs,(ps,(cs,ss))),zs.map tb) (nm,(ls,es)) a b=some out/\di (λt=>fi es t (du zs cs ls t) ls.length) b none a out/\out.length<=30000*ls.length+2*es.length+1:=by
 obtain⟨out,e,h,_⟩:=jxl hs hL ib hE hQ ha bR hb (by omega) (nm:=nm) (ss:=ss);obtain⟨E,e1,e2,_⟩:=jxo hs (es:=es) hL ha bR hb hlen;have:=Wj h e2;exact⟨out,e,h,by omega⟩
theorem jzu{s:cA}(hk:vU zs.length ps.length cs.length s)(ib:s.2.1.length<=3)(hQ:s.2.2.length<=6){ss:List cA}{a b:Int}(ha:0<=a)(bR:a<b)(hb:b<=8589934592)(hlen:b-a<=34560000) :
  ∃out,j0N ((zs,(ps,(cs,ss))),zs.map tb) s a b=some out/\di (dU zs cs s) b none a out/\out.length<=10000000:=by
 obtain⟨S,eS,hS,lS⟩:=jtS hs (nm:=s.1) hk.ly (by omega) hk.ed (by omega) (ss:=ss) ha (by omega) hb (by omega);have l0:=Wq (es:=s.2.2) (by omega) (f:=a) (t:=b) (zs:=zs) (ps:=ps) (cs:=cs) (ss:=ss) (tbs:=zs.map tb) (nm:=s.1) (ls:=s.2.1) s.2.2.length 0 [] (by omega) (by simp);rw[jl,jv]at l0;have uE:=He s.2.2;obtain⟨C,eC,c1,c2,c3⟩:=Wp (l:=ou s.2.2) (by omega) (f:=a) (t:=b)
 have hKp:(C++[b]).Pairwise (· < ·):=qh.2 ⟨c1,zg _ _,λx hx y hy=>by
  simp at hy;subst hy;exact((c3 x).1 hx).2.2⟩
 obtain⟨M,e2,hM,lM⟩:=Wr (es:=s.2.2) (by omega) hKp (by simp;omega) (a0:=a) (b:=b) (by simp) (λx hx x1 x2=>kj _ ((c3 x).2 ⟨hx,x1,x2⟩)) (g:=λt=>fi s.2.2 t (du zs cs s.2.1 t) s.2.1.length) (S:=S) (by omega) (nm:=s.1) (ls:=s.2.1) (by omega) (by omega) (x:=a) S.length 0 a [] (by omega) (by omega) (by rw[jv];exact hS.ch) rfl (by simp);obtain⟨out,e3,h3,l3⟩:=NK (l:=M) (by omega) hM;refine⟨out,?_,h3,by omega⟩;simp only[j0N,show Int.ofNat s.2.2.length=(s.2.2.length:Int) from rfl];rw[show yi a b s.2.2 (s.2.2.length:Int) 0 zs ps cs ss (zs.map tb) s.1 s.2.1 s.2.2 []=_ from l0];simp only[j3,eC];rw[show j3x ((zs,(ps,(cs,ss))),zs.map tb) (s.1,(s.2.1,s.2.2)) a b=_ from eS];simp only[j3,show Int.ofNat S.length=(S.length:Int) from rfl];rw[show yj (S.length:Int) 0 s.1 s.2.1 s.2.2 (C++[b]) [] S=_ from e2];simp only[j3,e3]
end
set_option linter.unusedSectionVars false
def iB(v:Int)(S:aS):SL:=(S.filter λs=>s.2.2==v).map λs=>(s.1,s.2.1)
theorem jxp(v:Int)(s:ej)(r:aS):iB v (s::r)=(if s.2.2=v then [(s.1,s.2.1)] else [])++iB v r:=by
 unfold iB;by_cases hv:s.2.2=v
 .simp[hv]
 .simp[hv]
theorem jAT{f:Int->Int}{a b v:Int}{S:aS}(h:di f b none a S){x:Int}:bz x (iB v S)↔a<=x/\x<b/\f x=v:=by
 unfold bz iB;constructor
 .rintro⟨u,hu,h1,h2⟩
  obtain⟨s,hs,rfl⟩:=ju.1 hu;have hm:=qq.1 hs;have hc:=h.ch.mem _ hm.1;have hv:s.2.2=v:=by simpa using hm.2
  exact⟨by dsimp only at h1;omega,by dsimp only at h2;omega,by rw[<-hv];exact hc.2.2.2 x h1 h2⟩
 .rintro⟨h0,h1,h2⟩
  obtain⟨s,hs,c1,c2⟩:=h.ch.has x h0 h1;have hc:=h.ch.mem _ hs;exact⟨_,ju.2 ⟨s,qq.2 ⟨hs,by rw[<-hc.2.2.2 x c1 c2,h2];exact vb _⟩,rfl⟩,c1,c2⟩
theorem Ob{v:Int}{S:aS}(hS:S.length<=1000000):∀(n i:Nat)(acc:SL),i+n=S.length->acc.length<=i->
  yk v S (S.length:Int) (i:Int) acc=some (acc++iB v (S.drop i))
 |0,i,acc,hi,_=>by
  rw[SO];simp only[j4k];rw[al (by omega),j6,aW,jf (by omega)];simp[iB]
 |n+1,i,acc,hi,ha=>by
  have bF:i<S.length:=by omega
  have bh:S.getD i ((0:Int),((0:Int),(0:Int)))=S[i]:=by simp[List.getD,bF]
  rw[SO];simp only[j4k];rw[aj (show (i:Int)<(S.length:Int) by omega),aX (by omega) (by omega),ai (x:=(i:Int)+1) (by omega) (by omega)];simp only[j5,j7,bh];have hd:iB v (S.drop i)=(if S[i].2.2=v then [(S[i].1,S[i].2.1)] else [])++iB v (S.drop (i+1)):=by rw[jc bF,jxp]
  rw[hd];by_cases hv:S[i].2.2=v
  .rw[if_pos hv];rw[ee hv,j5,aj (by simp[aR];omega),j5,aJ];have ih:=Ob (v:=v) hS n (i+1) (acc++[(S[i].1,S[i].2.1)]) (by omega) (by simp;omega);rw[show ((i+1:Nat):Int)=(i:Int)+1 by omega]at ih;rw[jd]at ih;exact ih
  .rw[if_neg hv,jl];rw[cP hv,j6,aJ];have ih:=Ob (v:=v) hS n (i+1) acc (by omega) (by omega);rw[show ((i+1:Nat):Int)=(i:Int)+1 by omega]at ih;exact ih
section
variable{zs:List bY}{ps:List dB}{cs:List bf}(hs:eX zs ps cs)
include hs
theorem jxq{L:cg}(hL:fI zs.length ps.length cs.length L){ss:List cA}{a b:Int}(ha:0<=a)(bR:a<=b)(hb:b<=8589934592){M:Nat}(hM:M<=60)(hlen:b-a<=604800*M) :
  ∃out,j21 ((zs,(ps,(cs,ss))),zs.map tb) L a b=some out/\di (cR zs cs L) b none a out/\out.length<=308*M+191:=by
 obtain⟨out,e,h1,h2⟩:=VV hs hL (ss:=ss) ha bR hb hM hlen (N:=((b-a)/3600+8).toNat) (by omega) (VY hs hL ha (by omega)) (VX hs hL ha hb);refine⟨out,e,h1,?_⟩;have hw:L.2.2.2.2.2.2.1.length*(M+1)*5<=14*(M+1)*5:=jx _ (jx _ hL.wl)
 have hc:(if L.2.2.2.2.2.2.2.2=0 then 0 else (mJ cs L.2.2.2.2.2.2.2.1).2.2.length*5)<=4*5:=by
  by_cases hm:L.2.2.2.2.2.2.2.2=0
  .rw[if_pos hm];omega
  .rw[if_neg hm];refine jx _ (hs.c.dl _ ?_);have hq:=hL.cal hm;have hi:(L.2.2.2.2.2.2.2.1).toNat<cs.length:=by omega
   unfold mJ;rw[show cs.getD (L.2.2.2.2.2.2.2.1).toNat (ByteArray.empty,((0:Int),([]:List Int)))=cs[(L.2.2.2.2.2.2.2.1).toNat] by simp[List.getD,hi]];exact jh hi
 omega
theorem Wt{a b:Int}(ha:0<=a)(bR:a<=b)(hb:b<=8589934592){M K:Nat}(hM:M<=60)(hlen:b-a<=604800*M)(hK:K=308*M+191):∀ls:List cg,(∀L∈ls,fI zs.length ps.length cs.length L)->
  ∃E:List Int,E.length<=K*ls.length/\∀L∈ls,∀x,a<x->x<b->cR zs cs L (x-1)≠cR zs cs L x->x∈E
 |[],_=>⟨[],by simp,by simp⟩
 |L::ls,hL=>by
  obtain⟨E,e1,e2⟩:=Wt ha bR hb hM hlen hK ls (λM hM=>hL M (by simp[hM]));obtain⟨S,_,c1,l1⟩:=jxq hs (hL L (by simp)) (ss:=[]) ha bR hb hM hlen;refine⟨nt S++E,?_,λM hM x x1 x2 x3=>?_⟩
  .have:(nt S).length<=S.length:=by simp[nt]
   rw[ja,jk,vv];omega
  .rcases je.1 hM with rfl|hM
   .exact kj _ (((Hd c1).1 x).2 ⟨x1,x2,x3⟩)
   .exact kv _ (e2 M hM x x1 x2 x3)
theorem jw5{s:cA}(hk:vU zs.length ps.length cs.length s){a b:Int}(ha:0<=a)(bR:a<=b)(hb:b<=8589934592){M K:Nat}(hM:M<=60)(hlen:b-a<=604800*M)(hK:K=308*M+191) :
  ∃E:List Int,E.length<=K*s.2.1.length+2*s.2.2.length/\∀x,a<x->x<b->dU zs cs s (x-1)≠dU zs cs s x->x∈E:=by
 obtain⟨E,e1,e2⟩:=Wt hs ha bR hb hM hlen hK s.2.1 hk.ly;refine⟨E++ou s.2.2,by rw[ja,He];omega,λx x1 x2 x3=>?_⟩;apply jr;intro hn;simp only[jn,not_or]at hn;refine x3 ?_
 have hT:fi s.2.2 (x-1) (du zs cs s.2.1 (x-1)) s.2.1.length=fi s.2.2 x (du zs cs s.2.1 x) s.2.1.length:=by
  refine Wl (λi hi=>?_) (λp=>Wk hn.2 p);apply jr;intro ba;have e:∀t,du zs cs s.2.1 t i=cR zs cs s.2.1[i] t:=λt=>by simp[du,List.getD,hi]
  rw[e,e]at ba;exact hn.1 (e2 _ (jh hi) x x1 x2 ba)
 unfold dU;rw[hT];refine(N7 _ _ λy hy=>?_).symm;obtain⟨m1,m2⟩:=N0 hy;have n1:x≠y.2.2.2.1:=λe=>hn.2 (e▸m1);have n2:x≠y.2.2.2.2:=λe=>hn.2 (e▸m2);omega
end
end Go.Proofs.Pw
