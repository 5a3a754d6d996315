/- sS.Cuts: the vK inside a range, ascending, and the end of the range. -/
import Derived.Test.YtjpgjpnfacnmaaaGreatLSPF
import Derived.Test.YtjpgjpnfacnmaaaGreatLSLS
import Derived.Test.YtjpgjpnfacnmaaaGreatLSPL
import Derived.Test.YtjpgjpnfacnmaaaGreatLSPG
import Derived.Test.YtjpgjpnfacnmaaaGreatLSPA
import Derived.KernelRfl
open Go Go.Lft
namespace Go.Proofs.Pw
theorem jBb{l:List Int}(hl:l.length<=1000000):∃s,j5W l=some s/\s.Perm l/\s.Pairwise (· <= ·):=by
 obtain⟨s,e,h1,h2⟩:=jAH (xs:=l) (by omega);exact⟨s,by simp only[j5W,e],h1,h2⟩
def oD(f t x:Int):Bool:= !(cond (decide (x<=f)) true (decide (x>=t)))
theorem jzw{l:List Int}(hl:l.length<=1000000){f t:Int}:∀(n i:Nat),i+n=l.length->(∀s∈l.take i,oD f t s=true)->
  (∃j:Nat,ED f t (l.length:Int) (i:Int) l=some (.inl ((j:Int),l))/\j<l.length/\(∀s∈l.take j,oD f t s=true)/\oD f t (l.getD j 0)=false)\/
  (ED f t (l.length:Int) (i:Int) l=some (.inr l)/\∀s∈l,oD f t s=true)
 |0,i,hi,h=>by
  rw[WK];simp only[j0J];rw[ah (by omega),j7,aW];rw[List.take_of_length_le (by omega)]at h;exact Or.inr ⟨rfl,h⟩
 |n+1,i,hi,h=>by
  rw[WK];simp only[j0J,jap];rw[ag (show (i:Int)<(l.length:Int) by omega),bz,ai (x:=(i:Int)+1)];simp only[j6,j8,j4];have ak:i<l.length:=by omega
  cases hc:(cond (decide (l.getD i (0:Int)<=f)) true (decide (l.getD i (0:Int)>=t))) with
  |true=>simp only[j6,aW];exact Or.inl ⟨i,rfl,ak,h,by simp only[oD];rw[hc];rfl⟩
  |false=>
   simp only[j7,aK];refine jzw hl n (i+1) (by omega) λs hs=>?_;rw[kq]at hs;rcases jn.1 hs with hs|hs
   .exact h s hs
   .have aR:l.getD i (0:Int)=l[i]:=by simp[ak]
    rw[aR]at hc;rw[jk ak]at hs;simp at hs;subst hs;simp only[oD];rw[hc];rfl
theorem R9{l:List Int}(hl:l.length<=1000000){f t:Int}:∀(n i j:Nat)(b:List Int),j+n=l.length->i<=j->b.length=l.length->b.drop j=l.drop j->b.take i=(l.take j).filter (oD f t)->
  ∃(k:Nat)(b':List Int),Iw f t (i:Int) (j:Int) b=some ((k:Int),b')/\b'.length=l.length/\k<=l.length/\b'.take k=l.filter (oD f t)
 |0,i,j,b,hj,dF,hb,hd,ht=>by
  rw[WM];simp only[j0V,show Int.ofNat (List.length b)=(b.length:Int) from rfl];rw[ah (by omega),j7,aW];rw[List.take_of_length_le (l:=l) (by omega)]at ht;exact⟨i,b,rfl,hb,by omega,ht⟩
 |n+1,i,j,b,hj,dF,hb,hd,ht=>by
  have ak:j<l.length:=by omega
  have yX:b.getD j (0:Int)=l[j]:=by
   have:b[j]? = l[j]? := by
    have h:=jq (λx=>x[0]?) hd;simpa[List.getElem?_drop]using h
   rw[List.getD_eq_getElem?_getD,this,jk ak];rfl
  have gx:b.drop (j+1)=l.drop (j+1):=by have:=jq (List.drop 1) hd;simpa[List.drop_drop]using this
  have kQ:l.take (j+1)=l.take j++[l[j]]:=by rw[kq,jk ak];rfl
  rw[WM];simp only[j0V,jap,show Int.ofNat (List.length b)=(b.length:Int) from rfl];rw[ag (show (j:Int)<(b.length:Int) by omega),bz,bz,ai (x:=(j:Int)+1),ai (x:=(i:Int)+1)];simp only[j6,j8,j4,yX];cases hc:(cond (decide (l[j]<=f)) true (decide (l[j]>=t))) with
  |true=>simp only[jl,j7,aK];refine R9 hl n i (j+1) b (by omega) (by omega) hb gx ?_;rw[kQ,vk,ht];simp[oD,hc]
  |false=>
   simp only[ka,j6,aK];refine R9 hl n (i+1) (j+1) _ (by omega) (by omega) (by simpa using hb) ?_ ?_
   .rw[List.drop_set_of_lt (by omega)];exact gx
   .have xM:i<b.length:=by omega
    rw[kq,List.take_set_of_le (js _),List.getElem?_set_self xM,ht,kQ,vk];simp[oD,hc]
theorem jwV{l:List Int}(hl:l.length<=1000000){f t:Int}:∃n m,j2U l f t=some (n,m)/\m.take n.toNat=l.filter (oD f t):=by
 simp only[j2U,j48,show Int.ofNat (List.length l)=(l.length:Int) from rfl];rcases jzw (f:=f) (t:=t) hl l.length 0 (by omega) (by simp) with⟨j,e,hj,h1,h2⟩|⟨e,h⟩
 .rw[show ((0:Nat):Int)=0 from rfl]at e;rw[e];simp only[j4,MP];rw[bW (by omega),ai (x:=(j:Int)+1)];have aR:l.getD j (0:Int)=l[j]:=by simp[hj]
  rw[aR]at h2
  obtain⟨k,b,e2,hb,hk,ht⟩:=R9 (f:=f) (t:=t) hl (l.length-(j+1)) j (j+1) l (by omega) (by omega) rfl rfl (by
   rw[kq,jk hj,vk,List.filter_eq_self.2 h1];simp[h2])
  rw[show ((j:Int)+1)=((j+1:Nat):Int) from rfl,e2];simp only[j7,j4,show Int.ofNat (List.length b)=(b.length:Int) from rfl,j8];rw[ag (show (0:Int)<=(k:Int) by omega),ag (show (k:Int)<=(b.length:Int) by omega)];simp only[vu,j6,yl];rw[ag (by simp;omega),j6];refine⟨_,_,rfl,?_⟩;simp only[show (Int.ofNat k).toNat=k from rfl];rw[ze (by simp;omega),ya,Nat.min_self,ht]
 .rw[show ((0:Nat):Int)=0 from rfl]at e;rw[e];simp only[j4,nw,qd,j6];refine⟨_,_,rfl,?_⟩;simp only[show (Int.ofNat l.length).toNat=l.length from rfl];rw[List.take_of_length_le (js _),List.filter_eq_self.2 h]
def mX:Int->List Int->List Int
 |_,[]=>[]
 |p,x::r=>if x=p then mX p r else x::mX x r
theorem Sa:∀(l:List Int)(p:Int),∀x,x∈p::mX p l↔x∈p::l
 |[],_,_=>Iff.rfl
 |y::r,p,x=>by
  unfold mX;split
  .rename_i h;subst h;rw[Sa r y x];simp
  .have:=Sa r y x;rw[je,this,je,je,je]
theorem Sb:∀(l:List Int)(p:Int),(p::l).Pairwise (· <= ·)->(p::mX p l).Pairwise (· < ·)
 |[],_,_=>by simp[mX]
 |y::r,p,h=>by
  have h1:=ki.1 h;unfold mX;split
  .rename_i h;subst h;exact Sb r y h1.2
  .have ih:=Sb r y h1.2;refine ki.2 ⟨λz hz=>?_,ih⟩;have hy:=h1.1 y (by simp);rcases je.1 hz with rfl|hz
   .omega
   .have:=(ki.1 ih).1 z hz;omega
theorem Sc{l:List Int}(hl:l.length<=1000000){k0:Nat}:∀(n s k:Nat)(b:List Int),k0+s+n=l.length->1<=s->k<=k0+s-1->b.length=l.length->b.drop k=l.drop k->
  ∃(m:Nat)(b':List Int),EE (k:Int) (k0:Int) (s:Int) b=some ((m:Int),b')/\b'.length=l.length/\m<=l.length/\b'.take m=b.take k++mX (l.getD (k0+s-1) 0) (l.drop (k0+s))
 |0,s,k,b,hn,hs,hk,hb,hd=>by
  rw[WN];simp only[j1e,j8,show Int.ofNat (b.length-k0)=((b.length-k0:Nat):Int) from rfl];rw[ah (by omega),j7,aW,jd (by omega)];exact⟨k,b,rfl,hb,by omega,by simp[mX]⟩
 |n+1,s,k,b,hn,hs,hk,hb,hd=>by
  have ak:k0+s<l.length:=by omega
  have Gy:∀j,k<=j->b[j]? = l[j]? := λj hj=>by
   have h:=jq (λx=>x[j-k]?) hd;simpa[List.getElem?_drop,show k+(j-k)=j by omega]using h
  have g1:b.getD (k0+s) (0:Int)=l[k0+s]:=by rw[List.getD_eq_getElem?_getD,Gy _ (by omega),jk ak];rfl
  have g2:b.getD (k0+(s-1)) (0:Int)=l.getD (k0+s-1) 0:=by rw[List.getD_eq_getElem?_getD,Gy _ (by omega),show k0+(s-1)=k0+s-1 by omega,List.getD_eq_getElem?_getD]
  have e1:l.getD (k0+(s+1)-1) 0=l[k0+s]:=by rw[show k0+(s+1)-1=k0+s by omega];simp[ak]
  rw[WN];simp only[j1e,j8,show Int.ofNat (b.length-k0)=((b.length-k0:Nat):Int) from rfl,show Int.ofNat k0=(k0:Int) from rfl];rw[ag (show (s:Int)<((b.length-k0:Nat):Int) by omega),cw (show (0:Int)<=(s:Int) by omega) (by omega),ai (x:=(s:Int)-1),cw (show (0:Int)<=(s:Int)-1 by omega) (by omega),cw (show (0:Int)<=(k:Int) by omega) (by omega),ai (x:=(k:Int)+1),ai (x:=(s:Int)+1),show ((s:Int)-1).toNat=s-1 by omega,jb ak];simp only[j6,g1,g2,mX];by_cases hc:l[k0+s]=l.getD (k0+s-1) 0
  .rw[show (l[k0+s] != l.getD (k0+s-1) 0)=false by rw[bne_eq_false_iff_eq];exact hc,if_pos hc,j7,aK];have ih:=Sc hl (k0:=k0) n (s+1) k b (by omega) (by omega) (by omega) hb hd;rw[e1,hc,show k0+(s+1)=k0+s+1 by omega]at ih;exact ih
  .rw[show (l[k0+s] != l.getD (k0+s-1) 0)=true by rw[bne_iff_ne];exact hc,if_neg hc,j6,aK]
   have ih:=Sc hl (k0:=k0) n (s+1) (k+1) (b.set k l[k0+s]) (by omega) (by omega) (by omega) (by simpa using hb) (by
    rw[List.drop_set_of_lt (by omega)];have:=jq (List.drop 1) hd;simpa[List.drop_drop]using this)
   rw[e1,show k0+(s+1)=k0+s+1 by omega]at ih;obtain⟨m,b',r1,r2,r3,r4⟩:=ih;refine⟨m,b',r1,r2,r3,?_⟩;have tF:k<b.length:=by omega
   rw[r4,kq,List.take_set_of_le (js _),List.getElem?_set_self tF];simp
def sY:List Int->List Int
 |[]=>[]
 |a::r=>a::mX a r
theorem jCg{l:List Int}(hl:l.length<=1000000):∀(n k:Nat),k+n=l.length->1<=k->sY l=l.take k++mX (l.getD (k-1) 0) (l.drop k)->
  (∃(m:Nat)(b:List Int),zN (k:Int) l=some (.inl ((m:Int),b))/\b.take m=sY l)\/(zN (k:Int) l=some (.inr l)/\sY l=l)
 |0,k,hn,hk,hT=>by
  rw[WO];simp only[j1f,show Int.ofNat l.length=(l.length:Int) from rfl];rw[ah (by omega),j7,aW];rw[List.take_of_length_le (by omega),jd (by omega)]at hT;exact .inr ⟨rfl,by simpa[mX]using hT⟩
 |n+1,k,hn,hk,hT=>by
  have ak:k<l.length:=by omega
  have g1:l.getD k (0:Int)=l[k]:=by simp[ak]
  rw[jb ak]at hT;simp only[mX]at hT;rw[WO];simp only[j1f,show Int.ofNat l.length=(l.length:Int) from rfl];rw[ag (show (k:Int)<(l.length:Int) by omega),cw (show (0:Int)<=(k:Int) by omega) (by omega),ai (x:=(k:Int)-1),cw (show (0:Int)<=(k:Int)-1 by omega) (by omega),ai (x:=(k:Int)+1),show ((k:Int)-1).toNat=k-1 by omega,ag (show (0:Int)<=(k:Int) by omega),ag (show (k:Int)<=(l.length:Int) by omega)];simp only[j6,j8,g1,vu,show Int.ofNat k=(k:Int) from rfl];by_cases hc:l[k]=l.getD (k-1) 0
  .rw[if_pos hc]at hT;obtain⟨m,b,r1,r2,r3,r4⟩:=Sc hl (k0:=k) n 1 k l (by omega) (by omega) (by omega) rfl rfl;rw[show k+1-1=k by omega,g1,hc,<-hT]at r4;rw[di hc,j6,show EE (k:Int) (k:Int) 1 l=_ from r1];simp only[j4,j8,show Int.ofNat b.length=(b.length:Int) from rfl];rw[ag (show (0:Int)<=(m:Int) by omega),ag (show (m:Int)<=(b.length:Int) by omega)];simp only[vu,j6,yl];rw[ag (by simp;omega),j6,aW];refine .inl ⟨m,_,rfl,?_⟩;rw[ze (by simp;omega),ya,Nat.min_self,r4]
  .rw[if_neg hc]at hT;rw[bW hc,j7,aK];refine jCg hl n (k+1) (by omega) (by omega) ?_;have kQ:l.take (k+1)=l.take k++[l[k]]:=by rw[kq,jk ak];rfl
   rw[hT,kQ,show k+1-1=k by omega,g1,jj];rfl
theorem juq{l:List Int}(hl:l.length<=1000000):∃n m,j4l l=some (n,m)/\m.take n.toNat=sY l:=by
 simp only[j4l,show Int.ofNat l.length=(l.length:Int) from rfl];by_cases h2:l.length<2
 .rw[ag (by omega),j6];refine⟨_,_,rfl,?_⟩;rw[j8,List.take_of_length_le (js _)];match l,h2 with
  |[],_=>rfl
  |[a],_=>rfl
  |_::_::_,h2=>simp at h2;omega
 .rw[ah (by omega),j7]
  have hT:sY l=l.take 1++mX (l.getD (1-1) 0) (l.drop 1):=by
   match l,h2 with
   |[],h2=>simp at h2
   |a::r,_=>rfl
  rcases jCg hl (l.length-1) 1 (by omega) (by omega) hT with⟨m,b,e,h⟩|⟨e,h⟩
  .rw[show zN 1 l=_ from e];refine⟨_,_,rfl,?_⟩;simpa using h
  .rw[show zN 1 l=_ from e];refine⟨_,_,rfl,?_⟩;rw[h];simp
theorem jDG{l:List Int}(x:Int):x∈sY l↔x∈l:=by
 cases l with
 |nil=>exact Iff.rfl
 |cons a r=>exact Sa r a x
theorem jDH{l:List Int}(h:l.Pairwise (· <= ·)):(sY l).Pairwise (· < ·):=by
 cases l with
 |nil=>exact .nil
 |cons a r=>exact Sb r a h
theorem Sd:∀(l:List Int)(p:Int),(mX p l).length<=l.length
 |[],_=>js _
 |y::r,p=>by
  unfold mX;split
  .have:=Sd r p;simp;omega
  .have:=Sd r y;simp;omega
theorem jDI(l:List Int):(sY l).length<=l.length:=by
 cases l with
 |nil=>exact js _
 |cons a r=>have:=Sd r a;simp[sY];omega
theorem jzy{l:List Int}(hl:l.length<=1000000){f t:Int}:∃C,jjo l f t=some (C++[t])/\C.Pairwise (· < ·)/\C.length<=l.length/\(∀x,x∈C↔x∈l/\f<x/\x<t):=by
 obtain⟨n1,m1,e1,h1⟩:=jwV (l:=l) (by omega) (f:=f) (t:=t);have fk:(l.filter (oD f t)).length<=l.length:=qt _ _;obtain⟨s,e2,p2,a2⟩:=jBb (l:=l.filter (oD f t)) (by omega);have dV:=p2.length_eq;obtain⟨n3,m3,e3,h3⟩:=juq (l:=s) (by omega);have eM:=jDI s;refine⟨sY s,?_,jDH a2,by omega,λx=>?_⟩
 .simp only[jjo,j7N,jv,qc];rw[ag (show 0+l.length<=aN by simp[aN];omega),j6];simp only[j4,e1,h1,e2,e3,h3];rw[ag (show (sY s).length+[t].length<=aN by simp[aN];omega),j6]
 .rw[jDG,p2.mem_iff,qu]
  have:oD f t x=true↔f<x/\x<t:=by
   unfold oD;by_cases h1:x<=f
   .rw[ag h1];simp;omega
   .rw[ah h1];by_cases h2:x>=t
    .rw[ag h2];simp;omega
    .rw[ah h2];simp;omega
  rw[this]
theorem jFc{ds:List Int}(hs:ds.Pairwise (· < ·))(hl:ds.length<=64)(x:Int):∃(k:Nat)(b:Bool),j2m ds x=some ((k:Int),b)/\k<=ds.length/\(∀i,(hi:i<ds.length)->i<k->ds[i]<x)/\∀i,(hi:i<ds.length)->k<=i->x<=ds[i]:=by
 obtain⟨k,e,hk,h1,h2⟩:=Rk hs hl (x:=x) ds.length 0 ds.length (by omega) (by omega) (js _) (λi _ h=>by omega) (λi hi h=>by omega);rw[show ((0:Nat):Int)=0 from rfl]at e;simp only[j2m,show Int.ofNat ds.length=(ds.length:Int) from rfl,e,j4,j8];by_cases ia:k<ds.length
 .have aR:ds.getD k (0:Int)=ds[k]:=by simp[ia]
  rw[bz,ag (show (k:Int)<(ds.length:Int) by omega),aR];simp only[zj,j6];by_cases hx:ds[k]=x
  .rw[di hx];exact⟨k,_,rfl,hk,h1,h2⟩
  .rw[bW hx];simp only[j7,j8q,j4,jh];exact⟨k,_,rfl,hk,h1,h2⟩
 .rw[ah (show¬(k:Int)<(ds.length:Int) by omega)];simp only[ka,Bool.or_true,j6,j7,Bool.false_and];exact⟨k,_,rfl,hk,h1,h2⟩
theorem Gz{a t:Int}:∀(es:List dA)(p:Int),(∀x∈es,(x.2.2.2.1<=a↔x.2.2.2.1<=t)/\(x.2.2.2.2<=a↔x.2.2.2.2<=t))->jO t p es=jO a p es
 |[],_,_=>rfl
 |x::r,p,h=>by
  have hx:=h x (by simp);simp only[jO]
  have e:tL t p x=tL a p x:=by
   unfold tL;have:(t<x.2.2.2.1\/x.2.2.2.2<=t)↔(a<x.2.2.2.1\/x.2.2.2.2<=a):=by omega
   by_cases hc:a<x.2.2.2.1\/x.2.2.2.2<=a
   .rw[if_pos hc,if_pos (this.2 hc)]
   .rw[if_neg hc,if_neg (λh=>hc (this.1 h))]
  rw[e];exact Gz r _ (λy hy=>h y (by simp[hy]))
theorem Se{es:List dA}(hl:es.length<=1000){f t:Int}{zs:List br}{ps:List cZ}{cs:List aX}{ss:List cF}{tbs:List (Int×bn)}{nm:ByteArray}{ls:List bI}:∀(n i:Nat)(acc:List Int),i+n=es.length->acc.length<=2*i->
  BZ f t es (es.length:Int) (i:Int) zs ps cs ss tbs nm ls es acc=some (f,t,zs,ps,cs,ss,tbs,nm,ls,es,acc++iL (es.drop i))
 |0,i,acc,hi,_=>by
  rw[Xh];simp only[j2n];rw[ah (by omega),j7,aW,jd (by omega)];simp[iL]
 |n+1,i,acc,hi,dZ=>by
  have bj:i<es.length:=by omega
  have aR:es.getD i ((0:Int),((0:Int),((0:Int),((0:Int),(0:Int)))))=es[i]:=by simp[List.getD,bj]
  have ih:=Se hl (f:=f) (t:=t) (zs:=zs) (ps:=ps) (cs:=cs) (ss:=ss) (tbs:=tbs) (nm:=nm) (ls:=ls) n (i+1) (acc++[es[i].2.2.2.1,es[i].2.2.2.2]) (by omega) (by simp;omega);rw[Xh];simp only[j2n];rw[ag (by omega),bz,ai (x:=(i:Int)+1)];simp only[j6,j8,aR];rw[ag (by simp[aN];omega),j6,aK,jb bj];rw[jj]at ih;exact ih
theorem jBc{es:List dA}(hl:es.length<=100){p t:Int}:jjq es p t=some (jO t p es):=by
 have ef:=jzu hl (t:=t) es.length 0 p (by omega);rw[jr]at ef;simp only[jjq,show Int.ofNat es.length=(es.length:Int) from rfl,show ES p t es (es.length:Int) 0=_ from ef];rfl
section
variable{es:List dA}(eX:es.length<=100){K:List Int}(hK:K.Pairwise (· < ·))(Sf:K.length<=64){a0 b:Int}(hb:b∈K)(gM:∀x∈iL es,a0<x->x<b->x∈K)
include eX hK Sf hb gM
theorem jFV{g:Int->Int}{p u:Int}(hu:u<=b){m q w:Int}{nm:ByteArray}{ls:List bI}{R:bD}{x:Int}:∀(n i:Nat)(a:Int)(acc:bD),K.length-i<=n->a0<=a->a<=u->(a<u->i<K.length)->(∀k,(hk:k<K.length)->(a<u->(k<i->K[k]<=a)/\(i<=k->a<K[k])))->(∀t,a<=t->t<u->g t=p)->
  acc.length+(K.length-i)<=1000000000->Ch (λt=>jO t (g t) es) a x acc->
  ∃out,IH (i:Int) a m q nm ls es w u p K acc R=some (m,q,nm,ls,es,K,out,R)/\Ch (λt=>jO t (g t) es) u x out/\out.length<=acc.length+(K.length-i):=by
 intro n;induction n with
 |zero=>
  intro i a acc hn ha hau hi _ _ _ mU;rw[Xi];simp only[j2o];have qO:¬a<u:=λh=>by have:=hi h;omega
  rw[ah qO,j7,aW];have:a=u:=by omega
  subst this;exact⟨acc,rfl,mU,by omega⟩
 |succ n ih=>
  intro i a acc hn ha hau hi dQ hg nk mU;rw[Xi];simp only[j2o];by_cases ak:a<u
  .have kZ:=hi ak;have aR:K.getD i (0:Int)=K[i]:=by simp[kZ]
   have h1:=((dQ i kZ) ak).2 (js _);rw[ag ak,bz,ai (x:=(i:Int)+1)];simp only[j6,j8,aR,jBc eX,j4];rw[ag (by simp[aN];omega),j6,aK];have fp:(if K[i]<u then K[i] else u)=min K[i] u:=by split<;>omega
   rw[fp];have fD:a<min K[i] u:=by omega
   have Sh:∀t,a<=t->t<min K[i] u->jO t (g t) es=jO a p es:=λt t1 t2=>by
    rw[hg t t1 (by omega)];refine Gz es p (λy hy=>?_);obtain⟨y1,y2⟩:=J1 hy
    have key:∀c,c∈iL es->(c<=a↔c<=t):=λc hc=>by
     refine⟨λh=>by omega,λh=>?_⟩;apply jp;intro hca;have hcK:=gM c hc (by omega) (by omega);obtain⟨k,hk,rfl⟩:=vg hcK;by_cases nn:k<i
     .have:=((dQ k hk) ak).1 nn;omega
     .by_cases Si:k=i
      .subst Si;omega
      .have:=ko.1 hK i k kZ hk (by omega);omega
    exact⟨key _ y1,key _ y2⟩
   have Sj:=mU.snoc (b:=a) (c:=min K[i] u) (p:=jO a p es) (by omega) Sh
   obtain⟨out,e,hc,hl⟩:=ih (i+1) (min K[i] u) (acc++[(a,(min K[i] u,jO a p es))]) (by omega) (by omega) (by omega) (λh=>by
    apply jp;intro Sk;obtain⟨k,hk,tF⟩:=vg hb;by_cases nn:k=i
    .subst nn;omega
    .have:=ko.1 hK k i hk kZ (by omega);omega) (λk hk h=>⟨λnn=>by
    by_cases Si:k=i
    .subst Si;omega
    .have:=((dQ k hk) ak).1 (by omega);omega,λnn=>by
    have:=ko.1 hK i k kZ hk (by omega);omega⟩) (λt t1 t2=>hg t (by omega) t2) (by simp;omega) Sj
   exact⟨out,e,hc,by simp at hl;omega⟩
  .rw[ah ak,j7,aW];have:a=u:=by omega
   subst this;exact⟨acc,rfl,mU,by omega⟩
theorem jFd{g:Int->Int}{S:bD}(tM:S.length<=10000000){nm:ByteArray}{ls:List bI}(BI : -1000000000000<=a0)(eZ:b<=1000000000000){x:Int}:∀(n i:Nat)(a:Int)(acc:bD),i+n=S.length->a0<=a->Ch g b a (S.drop i)->Ch (λt=>jO t (g t) es) a x acc->acc.length<=64*i->
  ∃out,zR (S.length:Int) (i:Int) nm ls es K acc S=some out/\Ch (λt=>jO t (g t) es) b x out/\out.length<=64*S.length
 |0,i,a,acc,hi,_,hc,mU,nk=>by
  rw[jd (by omega)]at hc;have hc:a=b:=hc;subst hc;rw[NB];simp only[j1E];rw[ah (by omega),j7,aW];exact⟨acc,rfl,mU,by omega⟩
 |n+1,i,a,acc,hi,ha,hc,mU,nk=>by
  have bj:i<S.length:=by omega
  rw[jb bj]at hc;obtain⟨c1,c2,c3,c4⟩:=hc;have hle:=c4.le;have aR:S.getD i ((0:Int),((0:Int),(0:Int)))=S[i]:=by simp[List.getD,bj]
  obtain⟨k,bb,ek,hk,k1,k2⟩:=jFc hK Sf (a+1)
  obtain⟨out,e4,nt,vE⟩:=jFV eX hK Sf hb gM (g:=g) (p:=S[i].2.2) (u:=S[i].2.1) hle (m:=(S.length:Int)) (q:=(i:Int)) (w:=S[i].1) (nm:=nm) (ls:=ls) (R:=S) (x:=x) K.length k a acc (by omega) ha c2 (λh=>by
   apply jp;intro Sk;obtain⟨j,hj,Ar⟩:=vg hb;have:=k1 j hj (by omega);omega) (λj hj _=>⟨λh=>by have:=k1 j hj h;omega,λh=>by have:=k2 j hj h;omega⟩) c3 (by omega) mU
  have ih:=jFd tM (nm:=nm) (ls:=ls) BI eZ (g:=g) (x:=x) n (i+1) S[i].2.1 out (by omega) (by omega) c4 nt (by omega);rw[NB];simp only[j1E];rw[ag (by omega),bz];simp only[j6,j8,aR,c1];rw[ai (x:=a+1),ek];simp only[j4];rw[c1]at e4;rw[e4];simp only[j4];rw[ai (x:=(i:Int)+1),aK];exact ih
end
section
variable{zs:List br}{ps:List cZ}{cs:List aX}(hs:cN zs ps cs)
include hs
theorem jvy{a b:Int}(ha:0<=a)(bG:a<=b)(hb:b<=8589934592)(hlen:b-a<=35078400):∀ls:List bI,(∀L∈ls,eD zs.length ps.length cs.length L)->
  ∃E:List Int,E.length<=30000*ls.length/\∀L∈ls,∀x,a<x->x<b->bO zs cs L (x-1)≠bO zs cs L x->x∈E
 |[],_=>⟨[],by simp,by simp⟩
 |L::ls,hL=>by
  obtain⟨E,e1,e2⟩:=jvy ha bG hb hlen ls (λM hM=>hL M (by simp[hM]));obtain⟨S,_,c1,l1⟩:=jvt hs (hL L (by simp)) (ss:=[]) ha bG hb hlen;refine⟨mW S++E,?_,λM hM x x1 x2 x3=>?_⟩
  .have:(mW S).length<=S.length:=by simp[mW]
   rw[jg,jm];omega
  .rcases je.1 hM with rfl|hM
   .exact jz _ (((Gx c1).1 x).2 ⟨x1,x2,x3⟩)
   .exact k7 _ (e2 M hM x x1 x2 x3)
theorem jBd{ls:List bI}{es:List dA}(hL:∀L∈ls,eD zs.length ps.length cs.length L){a b:Int}(ha:0<=a)(bG:a<=b)(hb:b<=8589934592)(hlen:b-a<=35078400) :
  ∃E:List Int,E.length<=30000*ls.length+2*es.length/\(∀x,a<x->x<b->dB es (x-1) (cG zs cs ls (x-1)) ls.length≠dB es x (cG zs cs ls x) ls.length->x∈E)/\∀x∈iL es,x∈E:=by
 obtain⟨E,e1,e2⟩:=jvy hs ha bG hb hlen ls hL;refine⟨E++iL es,by rw[jg,Aq];omega,λx x1 x2 x3=>?_,λx hx=>k7 _ hx⟩;apply jp;intro hn;simp only[jn,not_or]at hn;refine x3 (J2 (λi hi=>?_) (λp=>R7 hn.2 p));apply jp;intro bk;have e:∀t,cG zs cs ls t i=bO zs cs ls[i] t:=λt=>by simp[cG,List.getD,hi]
 rw[e,e]at bk;exact hn.1 (e2 _ (jf hi) x x1 x2 bk)
theorem joK{nm:ByteArray}{ls:List bI}{es:List dA}(hL:∀L∈ls,eD zs.length ps.length cs.length L)(eE:ls.length<=4)(hE:∀x∈es,mT ps.length x)(eX:es.length<=9)
  {ss:List cF}{a b:Int}(ha:0<=a)(bG:a<=b)(hb:b<=8589934592)(hlen:b-a<=35078400) :
  ∃out,j3v ((zs,(ps,(cs,ss))),zs.map tb) (nm,(ls,es)) a b=some out/\dW (λt=>dB es t (cG zs cs ls t) ls.length) b none a out/\out.length<=30000*ls.length+2*es.length+1:=by
 obtain⟨out,e,h,_⟩:=jBa hs hL eE hE eX ha bG hb (by omega) (nm:=nm) (ss:=ss);obtain⟨E,e1,e2,_⟩:=jBd hs (es:=es) hL ha bG hb hlen;have:=R6 h e2;exact⟨out,e,h,by omega⟩
theorem jDK{s:cF}(hk:pV zs.length ps.length cs.length s)(eE:s.2.1.length<=3)(eX:s.2.2.length<=6){ss:List cF}{a b:Int}(ha:0<=a)(bG:a<b)(hb:b<=8589934592)(hlen:b-a<=34560000) :
  ∃out,j37 ((zs,(ps,(cs,ss))),zs.map tb) s a b=some out/\dW (cR zs cs s) b none a out/\out.length<=10000000:=by
 obtain⟨S,eS,hS,lS⟩:=joK hs (nm:=s.1) hk.ly (by omega) hk.ed (by omega) (ss:=ss) ha (by omega) hb (by omega);have l0:=Se (es:=s.2.2) (by omega) (f:=a) (t:=b) (zs:=zs) (ps:=ps) (cs:=cs) (ss:=ss) (tbs:=zs.map tb) (nm:=s.1) (ls:=s.2.1) s.2.2.length 0 [] (by omega) (by simp);rw[jv,jr]at l0;have uB:=Aq s.2.2;obtain⟨C,eC,c1,c2,c3⟩:=jzy (l:=iL s.2.2) (by omega) (f:=a) (t:=b)
 have hKp:(C++[b]).Pairwise (· < ·):=qw.2 ⟨c1,yk _ _,λx hx y hy=>by
  simp at hy;subst hy;exact((c3 x).1 hx).2.2⟩
 obtain⟨M,e2,hM,lM⟩:=jFd (es:=s.2.2) (by omega) hKp (by simp;omega) (a0:=a) (b:=b) (by simp) (λx hx x1 x2=>jz _ ((c3 x).2 ⟨hx,x1,x2⟩)) (g:=λt=>dB s.2.2 t (cG zs cs s.2.1 t) s.2.1.length) (S:=S) (by omega) (nm:=s.1) (ls:=s.2.1) (by omega) (by omega) (x:=a) S.length 0 a [] (by omega) (by omega) (by rw[jr];exact hS.ch) rfl (by simp);obtain⟨out,e3,h3,l3⟩:=JX (l:=M) (by omega) hM;refine⟨out,?_,h3,by omega⟩;simp only[j37,show Int.ofNat s.2.2.length=(s.2.2.length:Int) from rfl];rw[show BZ a b s.2.2 (s.2.2.length:Int) 0 zs ps cs ss (zs.map tb) s.1 s.2.1 s.2.2 []=_ from l0];simp only[j4,eC];rw[show j3v ((zs,(ps,(cs,ss))),zs.map tb) (s.1,(s.2.1,s.2.2)) a b=_ from eS];simp only[j4,show Int.ofNat S.length=(S.length:Int) from rfl];rw[show zR (S.length:Int) 0 s.1 s.2.1 s.2.2 (C++[b]) [] S=_ from e2];simp only[j4,e3]
end
set_option linter.unusedSectionVars false
def bq(f:Int->Bool)(a:Int):Nat->Int
 |0=>0
 |n+1=>bq f a n+(cond (f (a+n)) 1 0)
theorem GA(f:Int->Bool)(a:Int):∀n:Nat,0<=bq f a n/\bq f a n<=n
 |0=>by simp[bq]
 |n+1=>by
  have:=GA f a n;simp only[bq];cases f (a+n)<;>simp only[j6,j7]<;>omega
theorem GB(f:Int->Bool)(a:Int)(n:Nat):∀m:Nat,bq f a (n+m)=bq f a n+bq f (a+n) m
 |0=>by simp[bq]
 |m+1=>by
  have:=GB f a n m;rw[show n+(m+1)=(n+m)+1 by omega];simp only[bq];rw[this,show a+((n+m:Nat):Int)=a+(n:Int)+(m:Int) by omega];omega
theorem J3{f g:Int->Bool}{a:Int}:∀{n:Nat},(∀x,a<=x->x<a+n->f x=g x)->bq f a n=bq g a n
 |0,_=>rfl
 |n+1,h=>by
  simp only[bq];rw[J3 (n:=n) (λx h1 h2=>h x h1 (by omega)),h (a+n) (by omega) (by omega)]
theorem J4{f:Int->Bool}{a:Int}:∀{n:Nat},(∀x,a<=x->x<a+n->f x=false)->bq f a n=0
 |0,_=>rfl
 |n+1,h=>by
  simp only[bq];rw[J4 (n:=n) (λx h1 h2=>h x h1 (by omega)),h (a+n) (by omega) (by omega)];rfl
theorem Sl{f:Int->Bool}{a:Int}:∀{n:Nat},(∀x,a<=x->x<a+n->f x=true)->bq f a n=n
 |0,_=>rfl
 |n+1,h=>by
  simp only[bq];rw[Sl (n:=n) (λx h1 h2=>h x h1 (by omega)),h (a+n) (by omega) (by omega)];simp only[j6];omega
def jP(p:Int):SL->Prop
 |[]=>True
 |x::r=>p<=x.1/\x.1<x.2/\jP x.2 r
theorem jP.weak{p q:Int}(hq:q<=p):∀{l:SL},jP p l->jP q l
 |[],_=>trivial
 |_::_,h=>⟨by have:=h.1;omega,h.2⟩
theorem bP.ino:∀{l:SL}{p:Int},bP p l->jP (p+1) l
 |[],_,_=>trivial
 |x::r,p,h=>⟨by have:=h.1;omega,h.2.1,(bP.ino h.2.2).weak (by omega)⟩
theorem ei.ino:∀{l:WL}{p:Int},ei p l->jP p l
 |[],_,_=>trivial
 |_::_,_,h=>⟨h.1,h.2.1,ei.ino h.2.2.2⟩
theorem jzz:∀{l:SL}{p s:Int},jP p l->s<p->hasB s l=false
 |[],_,_,_,_=>rfl
 |x::r,p,s,h,hs=>by
  obtain⟨h1,h2,h3⟩:=h;simp only[hasB];rw[ah (show¬x.1<=s by omega),jzz h3 (by omega)];rfl
theorem Sn:∀{l:SL}{p:Int}{N:Nat},jP p l->(∀u∈l,u.2<=p+N)->eB l=bq (λs=>hasB s l) p N
 |[],p,N,_,_=>(J4 (f:=λs=>hasB s []) (λ_ _ _=>rfl)).symm
 |x::r,p,N,h,hb=>by
  obtain⟨h1,h2,h3⟩:=h;have hx:=hb x (by simp);obtain⟨n1,e1⟩:∃n1:Nat,x.1=p+n1:=⟨(x.1-p).toNat,by omega⟩;obtain⟨n2,e2⟩:∃n2:Nat,x.2=x.1+n2:=⟨(x.2-x.1).toNat,by omega⟩;obtain⟨n3,e3⟩:∃n3:Nat,N=n1+n2+n3:=⟨N-n1-n2,by omega⟩;have ih:=Sn (l:=r) (p:=x.2) (N:=n3) h3 (λu hu=>by have:=hb u (by simp[hu]);omega);subst e3;rw[GB,GB]
  rw[J4 (a:=p) (n:=n1) (λs s1 s2=>by
   simp only[hasB];rw[ah (show¬x.1<=s by omega),jzz h3 (by omega)];rfl)]
  rw[Sl (a:=p+(n1:Int)) (n:=n2) (λs s1 s2=>by
   simp only[hasB];rw[ag (show x.1<=s by omega),ag (show s<x.2 by omega)];rfl)]
  rw[J3 (a:=p+((n1+n2:Nat):Int)) (g:=λs=>hasB s r) (λs s1 s2=>by
   simp only[hasB];rw[ah (show¬s<x.2 by omega)];cases decide (x.1<=s)<;>rfl)]
  rw[show p+((n1+n2:Nat):Int)=x.2 by omega,<-ih];simp only[eB];omega
theorem Sp:∀{l:SL}{p:Int},jP p l->0<=eB l
 |[],_,_=>k9 _
 |x::r,p,h=>by
  have:=Sp h.2.2;have:=h.2.1;simp only[eB];omega
theorem Sq:∀{l:SL}{p:Int},jP p l->∀i,∃q,jP q (l.drop i)
 |[],p,_,i=>⟨p,by simp[jP]⟩
 |x::r,p,h,0=>⟨p,h⟩
 |x::r,p,h,i+1=>Sq h.2.2 i
theorem jFe{l:SL}{p:Int}(h:bP p l)(hp : -1<=p)(hl:l.length<=4096)(hb:∀u∈l,u.2<=8589934592):∀(n i:Nat)(s:Int),i+n=l.length->0<=s->s+eB (l.drop i)<=1000000000000->
  I4 l s (i:Int)=some (s+eB (l.drop i))
 |0,i,s,hi,_,_=>by
  rw[X9];simp only[j4W,show Int.ofNat (List.length l)=(l.length:Int) from rfl];rw[ah (by omega),j7,aW,jd (by omega)];simp[eB]
 |n+1,i,s,hi,hs,kK=>by
  have ak:i<l.length:=by omega
  have aR:l.getD i ((0:Int),(0:Int))=l[i]:=by simp[ak]
  have hg:=JT h i ak;have hu:=jBV h hp hl hb i ak;rw[aR]at hg hu;obtain⟨q,hq⟩:=Sq h.ino (i+1);have bJ:=Sp hq;rw[jb ak]at kK ⊢;simp only[eB]at kK ⊢;rw[X9];simp only[j4W,show Int.ofNat (List.length l)=(l.length:Int) from rfl,jz8 h hp hl hb];rw[ag (show (i:Int)<(l.length:Int) by omega),bz];simp only[j6,j4,j8,aR];rw[ai (x:=(i:Int)+1),ai (x:=l[i].2-l[i].1),ai (x:=s+(l[i].2-l[i].1)),aK];have:=jFe h hp hl hb n (i+1) (s+(l[i].2-l[i].1)) (by omega) (by omega) (by omega);rw[show s+(l[i].2-l[i].1+eB (l.drop (i+1)))=s+(l[i].2-l[i].1)+eB (l.drop (i+1)) by omega];exact this
theorem jwW{l:SL}{p:Int}(h:bP p l)(hp : -1<=p)(hl:l.length<=4096)(hb:∀u∈l,u.2<=8589934592)(hs:eB l<=1000000000000):j8O l=some (eB l):=by
 have:=jFe h hp hl hb l.length 0 0 (by omega) (by omega) (by rw[jr];omega);rw[show ((0:Nat):Int)=0 from rfl,jr,Int.zero_add]at this;simp only[j8O,this,j4]
theorem jBe{np:Nat}{t p:Int}{x:dA}(h:mT np x)(hp : -1<=p) : -1<=tL t p x:=by
 have ha:=h.a;have hb:=h.b;unfold tL;split
 .exact hp
 .split
  .omega
  .split
   .rename_i h1;have:=hb h1.1;omega
   .split
    .rename_i h1;have:=hb h1.1;omega
    .exact hp
theorem jvz{np:Nat}{t:Int}:∀(es:List dA)(p:Int),(∀x∈es,mT np x) -> -1<=p -> -1<=jO t p es
 |[],_,_,hp=>hp
 |x::r,p,h,hp=>by
  simp only[jO];exact jvz r _ (λy hy=>h y (by simp[hy])) (jBe (h x (by simp)) hp)
section
variable{zs:List br}{ps:List cZ}{cs:List aX}(hs:cN zs ps cs)
include hs
theorem jDL{s:cF}(hk:pV zs.length ps.length cs.length s){t:Int}(h0:0<=t)(h1:t<=8589934592) : -1<=cR zs cs s t:=by
 unfold cR;refine jvz _ _ hk.ed ?_;unfold dB;cases hT:dI (fZ s.2.2 t (cG zs cs s.2.1 t)) s.2.1.length with
 |none=>exact k9 _
 |some k=>
  have ia:=R8 hT;have e:cG zs cs s.2.1 t k=bO zs cs s.2.1[k] t:=by simp[cG,List.getD,ia]
  dsimp only
  rw[e];exact(RB hs (hk.ly _ (jf ia)) h0 h1).2.1
end
section
variable{zs:List br}{ps:List cZ}{cs:List aX}(hs:cN zs ps cs)
include hs
end
end Go.Proofs.Pw
