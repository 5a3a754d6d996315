/- ue.Cuts: the w7 inside a range, ascending, and the end of the range. -/
import Derived.Test.YtkoifkkadkmecaaGreatLRPF
import Derived.Test.YtkoifkkadkmecaaGreatLRLS
import Derived.Test.YtkoifkkadkmecaaGreatLRPL
import Derived.Test.YtkoifkkadkmecaaGreatLRPG
import Derived.Test.YtkoifkkadkmecaaGreatLRFns
import Derived.Test.YtkoifkkadkmecaaGreatLRLD
import Derived.KernelRfl
open _root_ renaming Int->o,List->D,Nat->J,ByteArray->X
open Int renaming ofNat->F
open List renaming take_of_length_le->G,getD_eq_getElem?_getD->H,length->N,drop_set_of_lt->O,take_set_of_le->U,getElem?_drop->W,getD->Y,drop_drop->À,drop->Å
open Option renaming some->I
open Go Go.Lft
namespace Go.Proofs.Pw
theorem jCz{l:D o}(hl:l.length<=1000000):∃s,j7c l=I s/\s.Perm l/\s.Pairwise (· <= ·):=by
 obtain⟨s,e,h1,h2⟩:=jC9 (xs:=l) omg_;exact⟨s,by simp only[j7c,e],h1,h2⟩
def pr(f t x:o):Bool:= !(cond (decide (x<=f)) true (decide (x>=t)))
theorem ϫ{l:D o}(hl:l.length<=1000000){f t:o}:∀(n i:J),i+n=l.length->(∀s∈l.take i,pr f t s=true)->
  (∃j:J,Fb f t (l.length:o) (i:o) l=I (.inl ((j:o),l))/\j<l.length/\(∀s∈l.take j,pr f t s=true)/\pr f t (l.getD j 0)=false)\/
  (Fb f t (l.length:o) (i:o) l=I (.inr l)/\∀s∈l,pr f t s=true)
 |0,i,hi,h=>by
  rw[XU];simp only[j19];rw[ai omg_,j7,aP];rw[G omg_]at h;exact Or.inr ⟨rfl,h⟩
 |n+1,i,hi,h=>by
  rw[XU];simp only[j19,jcl];rw[ah (show (i:o)<(l.length:o) by omega),bJ,aj (x:=(i:o)+1)];simp only[j6,j8,j4];have aq:i<l.length:=omg_;cases hc:(cond (decide (l.getD i (0:o)<=f)) true (decide (l.getD i (0:o)>=t))) with
  |true=>simp only[j6,aP];exact Or.inl ⟨i,rfl,aq,h,by simp only[pr];rw[hc];rfl⟩
  |false=>
   simp only[j7,aB];refine ϫ hl n (i+1) omg_ λs hs=>?_;rw[ku]at hs;rcases jj.1 hs with hs|hs
   .exact h s hs
   .have aT:l.getD i (0:o)=l[i]:=by simp[aq]
    rw[aT]at hc;rw[jm aq]at hs;simp at hs;subst hs;simp only[pr];rw[hc];rfl
theorem Tr{l:D o}(hl:l.length<=1000000){f t:o}:∀(n i j:J)(b:D o),j+n=l.length->i<=j->b.length=l.length->b.drop j=l.drop j->b.take i=(l.take j).filter (pr f t)->
  ∃(k:J)(b':D o),Ji f t (i:o) (j:o) b=I ((k:o),b')/\b'.length=l.length/\k<=l.length/\b'.take k=l.filter (pr f t)
 |0,i,j,b,hj,dP,hb,hd,ht=>by
  rw[XV];simp only[j1r,show F (N b)=(b.length:o) from rfl];rw[ai omg_,j7,aP];rw[G (l:=l) omg_]at ht;exact⟨i,b,rfl,hb,omg_,ht⟩
 |n+1,i,j,b,hj,dP,hb,hd,ht=>by
  have aq:j<l.length:=omg_
  have Sp:b.getD j (0:o)=l[j]:=by
   have:b[j]? = l[j]? := by
    have h:=jo (λx=>x[0]?) hd;simpa[W]using h
   rw[H,this,jm aq];rfl
  have gU:b.drop (j+1)=l.drop (j+1):=by have:=jo (Å 1) hd;simpa[À]using this
  have oY:l.take (j+1)=l.take j++[l[j]]:=by rw[ku,jm aq];rfl
  rw[XV];simp only[j1r,jcl,show F (N b)=(b.length:o) from rfl];rw[ah (show (j:o)<(b.length:o) by omega),bJ,bJ,aj (x:=(j:o)+1),aj (x:=(i:o)+1)];simp only[j6,j8,j4,Sp];cases hc:(cond (decide (l[j]<=f)) true (decide (l[j]>=t))) with
  |true=>simp only[jl,j7,aB];refine Tr hl n i (j+1) b omg_ omg_ hb gU ?_;rw[oY,vw,ht];simp[pr,hc]
  |false=>
   simp only[jv,j6,aB];refine Tr hl n (i+1) (j+1) _ omg_ omg_ (by simpa using hb) ?_ ?_
   .rw[O omg_];exact gU
   .have DJ:i<b.length:=omg_;rw[ku,U (jn _),yu DJ,ht,oY,vw];simp[pr,hc]
theorem jyo{l:D o}(hl:l.length<=1000000){f t:o}:∃n m,j3X l f t=I (n,m)/\m.take n.toNat=l.filter (pr f t):=by
 simp only[j3X,j5n,show F (N l)=(l.length:o) from rfl];rcases ϫ (f:=f) (t:=t) hl l.length 0 omg_ smp_ with⟨j,e,hj,h1,h2⟩|⟨e,h⟩
 .rw[show ((0:J):o)=0 from rfl]at e;rw[e];simp only[j4,N0];rw[ca omg_,aj (x:=(j:o)+1)];have aT:l.getD j (0:o)=l[j]:=by simp[hj]
  rw[aT]at h2
  obtain⟨k,b,e2,hb,hk,ht⟩:=Tr (f:=f) (t:=t) hl (l.length-(j+1)) j (j+1) l omg_ omg_ rfl rfl (by
   rw[ku,jm hj,vw,List.filter_eq_self.2 h1];simp[h2])
  rw[show ((j:o)+1)=((j+1:J):o) from rfl,e2];simp only[j7,j4,show F (N b)=(b.length:o) from rfl,j8];rw[ah (show (0:o)<=(k:o) by omega),ah (show (k:o)<=(b.length:o) by omega)];simp only[zt,j6,ym];rw[ah sqo_,j6];refine⟨_,_,rfl,?_⟩;simp only[show (F k).toNat=k from rfl];rw[z6 sqo_,vp,Nat.min_self,ht]
 .rw[show ((0:J):o)=0 from rfl]at e;rw[e];simp only[j4,kV,qs,j6];refine⟨_,_,rfl,?_⟩;simp only[show (F l.length).toNat=l.length from rfl];rw[G (jn _),List.filter_eq_self.2 h]
def n4:o->D o->D o
 |_,[]=>[]
 |p,x::r=>if x=p then n4 p r else x::n4 x r
theorem Ts:∀(l:D o)(p:o),∀x,x∈p::n4 p l↔x∈p::l
 |[],_,_=>Iff.rfl
 |y::r,p,x=>by
  unfold n4;split
  .rename_i h;subst h;rw[Ts r y x];simp
  .have:=Ts r y x;rw[je,this,je,je,je]
theorem Tt:∀(l:D o)(p:o),(p::l).Pairwise (· <= ·)->(p::n4 p l).Pairwise (· < ·)
 |[],_,_=>by simp[n4]
 |y::r,p,h=>by
  have h1:=jt.1 h;unfold n4;split
  .rename_i h;subst h;exact Tt r y h1.2
  .have ih:=Tt r y h1.2;refine jt.2 ⟨λz hz=>?_,ih⟩;have hy:=h1.1 y smp_;rcases je.1 hz with rfl|hz
   .omega
   .have:=(jt.1 ih).1 z hz;omega
theorem Tu{l:D o}(hl:l.length<=1000000){k0:J}:∀(n s k:J)(b:D o),k0+s+n=l.length->1<=s->k<=k0+s-1->b.length=l.length->b.drop k=l.drop k->
  ∃(m:J)(b':D o),Fc (k:o) (k0:o) (s:o) b=I ((m:o),b')/\b'.length=l.length/\m<=l.length/\b'.take m=b.take k++n4 (l.getD (k0+s-1) 0) (l.drop (k0+s))
 |0,s,k,b,hn,hs,hk,hb,hd=>by
  rw[XW];simp only[j1Q,j8,show F (b.length-k0)=((b.length-k0:J):o) from rfl];rw[ai omg_,j7,aP,jd omg_];exact⟨k,b,rfl,hb,omg_,by simp[n4]⟩
 |n+1,s,k,b,hn,hs,hk,hb,hd=>by
  have aq:k0+s<l.length:=omg_
  have uq:∀j,k<=j->b[j]? = l[j]? := λj hj=>by
   have h:=jo (λx=>x[j-k]?) hd;simpa[W,show k+(j-k)=j by omega]using h
  have g1:b.getD (k0+s) (0:o)=l[k0+s]:=by rw[H,uq _ omg_,jm aq];rfl
  have g2:b.getD (k0+(s-1)) (0:o)=l.getD (k0+s-1) 0:=by rw[H,uq _ omg_,show k0+(s-1)=k0+s-1 by omega,H]
  have e1:l.getD (k0+(s+1)-1) 0=l[k0+s]:=by rw[show k0+(s+1)-1=k0+s by omega];simp[aq]
  rw[XW];simp only[j1Q,j8,show F (b.length-k0)=((b.length-k0:J):o) from rfl,show F k0=(k0:o) from rfl];rw[ah (show (s:o)<((b.length-k0:J):o) by omega),bA (show (0:o)<=(s:o) by omega) omg_,aj (x:=(s:o)-1),bA (show (0:o)<=(s:o)-1 by omega) omg_,bA (show (0:o)<=(k:o) by omega) omg_,aj (x:=(k:o)+1),aj (x:=(s:o)+1),show ((s:o)-1).toNat=s-1 by omega,jb aq];simp only[j6,g1,g2,n4];by_cases hc:l[k0+s]=l.getD (k0+s-1) 0
  .rw[show (l[k0+s] != l.getD (k0+s-1) 0)=false by rw[bne_eq_false_iff_eq];exact hc,if_pos hc,j7,aB];have ih:=Tu hl (k0:=k0) n (s+1) k b omg_ omg_ omg_ hb hd;rw[e1,hc,show k0+(s+1)=k0+s+1 by omega]at ih;exact ih
  .rw[show (l[k0+s] != l.getD (k0+s-1) 0)=true by rw[bne_iff_ne];exact hc,if_neg hc,j6,aB]
   have ih:=Tu hl (k0:=k0) n (s+1) (k+1) (b.set k l[k0+s]) omg_ omg_ omg_ (by simpa using hb) (by
    rw[O omg_];have:=jo (Å 1) hd;simpa[À]using this)
   rw[e1,show k0+(s+1)=k0+s+1 by omega]at ih;obtain⟨m,b',r1,r2,r3,r4⟩:=ih;refine⟨m,b',r1,r2,r3,?_⟩;have C3:k<b.length:=omg_;rw[r4,ku,U (jn _),yu C3];simp
def ur:D o->D o
 |[]=>[]
 |a::r=>a::n4 a r
theorem Ϭ{l:D o}(hl:l.length<=1000000):∀(n k:J),k+n=l.length->1<=k->ur l=l.take k++n4 (l.getD (k-1) 0) (l.drop k)->
  (∃(m:J)(b:D o),AW (k:o) l=I (.inl ((m:o),b))/\b.take m=ur l)\/(AW (k:o) l=I (.inr l)/\ur l=l)
 |0,k,hn,hk,hT=>by
  rw[XX];simp only[j1R,show F l.length=(l.length:o) from rfl];rw[ai omg_,j7,aP];rw[G omg_,jd omg_]at hT;exact .inr ⟨rfl,by simpa[n4]using hT⟩
 |n+1,k,hn,hk,hT=>by
  have aq:k<l.length:=omg_;have g1:l.getD k (0:o)=l[k]:=by simp[aq]
  rw[jb aq]at hT;simp only[n4]at hT;rw[XX];simp only[j1R,show F l.length=(l.length:o) from rfl];rw[ah (show (k:o)<(l.length:o) by omega),bA (show (0:o)<=(k:o) by omega) omg_,aj (x:=(k:o)-1),bA (show (0:o)<=(k:o)-1 by omega) omg_,aj (x:=(k:o)+1),show ((k:o)-1).toNat=k-1 by omega,ah (show (0:o)<=(k:o) by omega),ah (show (k:o)<=(l.length:o) by omega)];simp only[j6,j8,g1,zt,show F k=(k:o) from rfl];by_cases hc:l[k]=l.getD (k-1) 0
  .rw[if_pos hc]at hT;obtain⟨m,b,r1,r2,r3,r4⟩:=Tu hl (k0:=k) n 1 k l omg_ omg_ omg_ rfl rfl;rw[show k+1-1=k by omega,g1,hc,<-hT]at r4;rw[cR hc,j6,show Fc (k:o) (k:o) 1 l=_ from r1];simp only[j4,j8,show F b.length=(b.length:o) from rfl];rw[ah (show (0:o)<=(m:o) by omega),ah (show (m:o)<=(b.length:o) by omega)];simp only[zt,j6,ym];rw[ah sqo_,j6,aP];refine .inl ⟨m,_,rfl,?_⟩;rw[z6 sqo_,vp,Nat.min_self,r4]
  .rw[if_neg hc]at hT;rw[ca hc,j7,aB];refine Ϭ hl n (k+1) omg_ omg_ ?_;have oY:l.take (k+1)=l.take k++[l[k]]:=by rw[ku,jm aq];rfl
   rw[hT,oY,show k+1-1=k by omega,g1,jh];rfl
theorem jvK{l:D o}(hl:l.length<=1000000):∃n m,j5H l=I (n,m)/\m.take n.toNat=ur l:=by
 simp only[j5H,show F l.length=(l.length:o) from rfl];by_cases h2:l.length<2
 .rw[ah omg_,j6];refine⟨_,_,rfl,?_⟩;rw[j8,G (jn _)];match l,h2 with
  |[],_=>rfl
  |[a],_=>rfl
  |_::_::_,h2=>simp at h2;omega
 .rw[ai omg_,j7]
  have hT:ur l=l.take 1++n4 (l.getD (1-1) 0) (l.drop 1):=by
   match l,h2 with
   |[],h2=>simp at h2
   |a::r,_=>rfl
  rcases Ϭ hl (l.length-1) 1 omg_ omg_ hT with⟨m,b,e,h⟩|⟨e,h⟩
  .rw[show AW 1 l=_ from e];refine⟨_,_,rfl,?_⟩;simpa using h
  .rw[show AW 1 l=_ from e];refine⟨_,_,rfl,?_⟩;rw[h];simp
theorem jFd{l:D o}(x:o):x∈ur l↔x∈l:=by
 cases l with
 |nil=>exact Iff.rfl
 |cons a r=>exact Ts r a x
theorem jFe{l:D o}(h:l.Pairwise (· <= ·)):(ur l).Pairwise (· < ·):=by
 cases l with
 |nil=>exact .nil
 |cons a r=>exact Tt r a h
theorem Tv:∀(l:D o)(p:o),(n4 p l).length<=l.length
 |[],_=>jn _
 |y::r,p=>by
  unfold n4;split
  .have:=Tv r p;simp;omega
  .have:=Tv r y;simp;omega
theorem jFf(l:D o):(ur l).length<=l.length:=by
 cases l with
 |nil=>exact jn _
 |cons a r=>have:=Tv r a;simp[ur];omega
theorem ϭ{l:D o}(hl:l.length<=1000000){f t:o}:∃C,jia l f t=I (C++[t])/\C.Pairwise (· < ·)/\C.length<=l.length/\(∀x,x∈C↔x∈l/\f<x/\x<t):=by
 obtain⟨n1,m1,e1,h1⟩:=jyo (l:=l) omg_ (f:=f) (t:=t);have fh:(l.filter (pr f t)).length<=l.length:=qo _ _;obtain⟨s,e2,p2,a2⟩:=jCz (l:=l.filter (pr f t)) omg_;have dS:=p2.length_eq;obtain⟨n3,m3,e3,h3⟩:=jvK (l:=s) omg_;have ej:=jFf s;refine⟨ur s,?_,jFe a2,omg_,λx=>?_⟩
 .simp only[jia,j9g,jp,jw];rw[ah (show 0+l.length<=aG by simp[aG];omega),j6];simp only[j4,e1,h1,e2,e3,h3];rw[ah (show (ur s).length+[t].length<=aG by simp[aG];omega),j6]
 .rw[jFd,p2.mem_iff,kz]
  have:pr f t x=true↔f<x/\x<t:=by
   unfold pr;by_cases h1:x<=f
   .rw[ah h1];simp;omega
   .rw[ai h1];by_cases h2:x>=t
    .rw[ah h2];simp;omega
    .rw[ai h2];simp;omega
  rw[this]
theorem jGP{ds:D o}(hs:ds.Pairwise (· < ·))(hl:ds.length<=64)(x:o):∃(k:J)(b:Bool),j3e ds x=I ((k:o),b)/\k<=ds.length/\(∀i,(hi:i<ds.length)->i<k->ds[i]<x)/\∀i,(hi:i<ds.length)->k<=i->x<=ds[i]:=by
 obtain⟨k,e,hk,h1,h2⟩:=Sl hs hl (x:=x) ds.length 0 ds.length omg_ omg_ (jn _) (λi _ h=>omg_) (λi hi h=>omg_);rw[show ((0:J):o)=0 from rfl]at e;simp only[j3e,show F ds.length=(ds.length:o) from rfl,e,j4,j8];by_cases iv:k<ds.length
 .have aT:ds.getD k (0:o)=ds[k]:=by simp[iv]
  rw[bJ,ah (show (k:o)<(ds.length:o) by omega),aT];simp only[qz,j6];by_cases hx:ds[k]=x
  .rw[cR hx];exact⟨k,_,rfl,hk,h1,h2⟩
  .rw[ca hx];simp only[j7,j9V,j4,jk];exact⟨k,_,rfl,hk,h1,h2⟩
 .rw[ai (show¬(k:o)<(ds.length:o) by omega)];simp only[jv,Bool.or_true,j6,j7,Bool.false_and];exact⟨k,_,rfl,hk,h1,h2⟩
theorem Lh{a t:o}:∀(es:D dN)(p:o),(∀x∈es,(x.2.2.2.1<=a↔x.2.2.2.1<=t)/\(x.2.2.2.2<=a↔x.2.2.2.2<=t))->nj t p es=nj a p es
 |[],_,_=>rfl
 |x::r,p,h=>by
  have hx:=h x smp_;simp only[nj]
  have e:C9 t p x=C9 a p x:=by
   unfold C9;have:(t<x.2.2.2.1\/x.2.2.2.2<=t)↔(a<x.2.2.2.1\/x.2.2.2.2<=a):=omg_;by_cases hc:a<x.2.2.2.1\/x.2.2.2.2<=a
   .rw[if_pos hc,if_pos (this.2 hc)]
   .rw[if_neg hc,if_neg (λh=>hc (this.1 h))]
  rw[e];exact Lh r _ (λy hy=>h y (by simp[hy]))
theorem Ϯ{es:D dN}(hl:es.length<=1000){f t:o}{zs:D bF}{ps:D cI}{cs:D aU}{ss:D cu}{tbs:D (o×bI)}{nm:X}{ls:D bP}:∀(n i:J)(acc:D o),i+n=es.length->acc.length<=2*i->
  Ft f t es (es.length:o) (i:o) zs ps cs ss tbs nm ls es acc=I (f,t,zs,ps,cs,ss,tbs,nm,ls,es,acc++lu (es.drop i))
 |0,i,acc,hi,_=>by
  rw[Yj];simp only[j3f];rw[ai omg_,j7,aP,jd omg_];simp[lu]
 |n+1,i,acc,hi,dQ=>by
  have bh:i<es.length:=omg_;have aT:es.getD i ((0:o),((0:o),((0:o),((0:o),(0:o)))))=es[i]:=by simp[Y,bh]
  have ih:=Ϯ hl (f:=f) (t:=t) (zs:=zs) (ps:=ps) (cs:=cs) (ss:=ss) (tbs:=tbs) (nm:=nm) (ls:=ls) n (i+1) (acc++[es[i].2.2.2.1,es[i].2.2.2.2]) omg_ sqo_;rw[Yj];simp only[j3f];rw[ah omg_,bJ,aj (x:=(i:o)+1)];simp only[j6,j8,aT];rw[ah (by simp[aG];omega),j6,aB,jb bh];rw[jh]at ih;exact ih
theorem jCA{es:D dN}(hl:es.length<=100){p t:o}:jl3 es p t=I (nj t p es):=by
 have ef:=Ϩ hl (t:=t) es.length 0 p omg_;rw[jr]at ef;simp only[jl3,show F es.length=(es.length:o) from rfl,show Fs p t es (es.length:o) 0=_ from ef];rfl
section
variable{es:D dN}(gV:es.length<=100){K:D o}(hK:K.Pairwise (· < ·))(Tw:K.length<=64){a0 b:o}(hb:b∈K)(iE:∀x∈lu es,a0<x->x<b->x∈K)
include gV hK Tw hb iE
theorem jHQ{g:o->o}{p u:o}(hu:u<=b){m q w:o}{nm:X}{ls:D bP}{R:bm}{x:o}:∀(n i:J)(a:o)(acc:bm),K.length-i<=n->a0<=a->a<=u->(a<u->i<K.length)->(∀k,(hk:k<K.length)->(a<u->(k<i->K[k]<=a)/\(i<=k->a<K[k])))->(∀t,a<=t->t<u->g t=p)->
  acc.length+(K.length-i)<=1000000000->Ch (λt=>nj t (g t) es) a x acc->
  ∃out,Jt (i:o) a m q nm ls es w u p K acc R=I (m,q,nm,ls,es,K,out,R)/\Ch (λt=>nj t (g t) es) u x out/\out.length<=acc.length+(K.length-i):=by
 intro n;induction n with
 |zero=>
  intro i a acc hn ha hau hi _ _ _ nY;rw[Yk];simp only[j3g];have qQ:¬a<u:=λh=>by have:=hi h;omega
  rw[ai qQ,j7,aP];have:a=u:=omg_;subst this;exact⟨acc,rfl,nY,omg_⟩
 |succ n ih=>
  intro i a acc hn ha hau hi dz hg uO nY;rw[Yk];simp only[j3g];by_cases aq:a<u
  .have kC:=hi aq;have aT:K.getD i (0:o)=K[i]:=by simp[kC]
   have h1:=((dz i kC) aq).2 (jn _);rw[ah aq,bJ,aj (x:=(i:o)+1)];simp only[j6,j8,aT,jCA gV,j4];rw[ah (by simp[aG];omega),j6,aB];have ee:(if K[i]<u then K[i] else u)=min K[i] u:=by split<;>omega
   rw[ee];have fw:a<min K[i] u:=omg_
   have pt:∀t,a<=t->t<min K[i] u->nj t (g t) es=nj a p es:=λt t1 t2=>by
    rw[hg t t1 omg_];refine Lh es p (λy hy=>?_);obtain⟨y1,y2⟩:=To hy
    have key:∀c,c∈lu es->(c<=a↔c<=t):=λc hc=>by
     refine⟨λh=>omg_,λh=>?_⟩;apply ju;intro SQ;have hcK:=iE c hc omg_ omg_;obtain⟨k,hk,rfl⟩:=qa hcK;by_cases ou:k<i
     .have:=((dz k hk) aq).1 ou;omega
     .by_cases Tx:k=i
      .subst Tx;omega
      .have:=kg.1 hK i k kC hk omg_;omega
    exact⟨key _ y1,key _ y2⟩
   have Tz:=nY.snoc (b:=a) (c:=min K[i] u) (p:=nj a p es) omg_ pt
   obtain⟨out,e,hc,hl⟩:=ih (i+1) (min K[i] u) (acc++[(a,(min K[i] u,nj a p es))]) omg_ omg_ omg_ (λh=>by
    apply ju;intro TA;obtain⟨k,hk,C3⟩:=qa hb;by_cases ou:k=i
    .subst ou;omega
    .have:=kg.1 hK k i hk kC omg_;omega) (λk hk h=>⟨λou=>by
    by_cases Tx:k=i
    .subst Tx;omega
    .have:=((dz k hk) aq).1 omg_;omega,λou=>by
    have:=kg.1 hK i k kC hk omg_;omega⟩) (λt t1 t2=>hg t omg_ t2) sqo_ Tz
   exact⟨out,e,hc,by simp at hl;omega⟩
  .rw[ai aq,j7,aP];have:a=u:=omg_;subst this;exact⟨acc,rfl,nY,omg_⟩
theorem ϯ{g:o->o}{S:bm}(BB:S.length<=10000000){nm:X}{ls:D bP}(wB : -1000000000000<=a0)(dR:b<=1000000000000){x:o}:∀(n i:J)(a:o)(acc:bm),i+n=S.length->a0<=a->Ch g b a (S.drop i)->Ch (λt=>nj t (g t) es) a x acc->acc.length<=64*i->
  ∃out,Fu (S.length:o) (i:o) nm ls es K acc S=I out/\Ch (λt=>nj t (g t) es) b x out/\out.length<=64*S.length
 |0,i,a,acc,hi,_,hc,nY,uO=>by
  rw[jd omg_]at hc;have hc:a=b:=hc;subst hc;rw[Yl];simp only[j3h];rw[ai omg_,j7,aP];exact⟨acc,rfl,nY,omg_⟩
 |n+1,i,a,acc,hi,ha,hc,nY,uO=>by
  have bh:i<S.length:=omg_;rw[jb bh]at hc;obtain⟨c1,c2,c3,c4⟩:=hc;have hle:=c4.le;have aT:S.getD i ((0:o),((0:o),(0:o)))=S[i]:=by simp[Y,bh]
  obtain⟨k,bb,ek,hk,k1,k2⟩:=jGP hK Tw (a+1)
  obtain⟨out,e4,uU,wT⟩:=jHQ gV hK Tw hb iE (g:=g) (p:=S[i].2.2) (u:=S[i].2.1) hle (m:=(S.length:o)) (q:=(i:o)) (w:=S[i].1) (nm:=nm) (ls:=ls) (R:=S) (x:=x) K.length k a acc omg_ ha c2 (λh=>by
   apply ju;intro TA;obtain⟨j,hj,qA⟩:=qa hb;have:=k1 j hj omg_;omega) (λj hj _=>⟨λh=>by have:=k1 j hj h;omega,λh=>by have:=k2 j hj h;omega⟩) c3 omg_ nY
  have ih:=ϯ BB (nm:=nm) (ls:=ls) wB dR (g:=g) (x:=x) n (i+1) S[i].2.1 out omg_ omg_ c4 uU omg_;rw[Yl];simp only[j3h];rw[ah omg_,bJ];simp only[j6,j8,aT,c1];rw[aj (x:=a+1),ek];simp only[j4];rw[c1]at e4;rw[e4];simp only[j4];rw[aj (x:=(i:o)+1),aB];exact ih
end
section
variable{zs:D bF}{ps:D cI}{cs:D aU}(hs:cC zs ps cs)
include hs
theorem ϰ{a b:o}(ha:0<=a)(bt:a<=b)(hb:b<=8589934592)(hlen:b-a<=35078400):∀ls:D bP,(∀L∈ls,ez zs.length ps.length cs.length L)->
  ∃E:D o,E.length<=30000*ls.length/\∀L∈ls,∀x,a<x->x<b->cb zs cs L (x-1)≠cb zs cs L x->x∈E
 |[],_=>⟨[],smp_,smp_⟩
 |L::ls,hL=>by
  obtain⟨E,e1,e2⟩:=ϰ ha bt hb hlen ls (λM hM=>hL M (by simp[hM]));obtain⟨S,_,c1,l1⟩:=ν hs (hL L smp_) (ss:=[]) ha bt hb hlen;refine⟨p9 S++E,?_,λM hM x x1 x2 x3=>?_⟩
  .have:(p9 S).length<=S.length:=by simp[p9]
   rw[jc,ji];omega
  .rcases je.1 hM with rfl|hM
   .exact jx _ (((Lg c1).1 x).2 ⟨x1,x2,x3⟩)
   .exact k5 _ (e2 M hM x x1 x2 x3)
theorem jCB{ls:D bP}{es:D dN}(hL:∀L∈ls,ez zs.length ps.length cs.length L){a b:o}(ha:0<=a)(bt:a<=b)(hb:b<=8589934592)(hlen:b-a<=35078400) :
  ∃E:D o,E.length<=30000*ls.length+2*es.length/\(∀x,a<x->x<b->fc es (x-1) (dx zs cs ls (x-1)) ls.length≠fc es x (dx zs cs ls x) ls.length->x∈E)/\∀x∈lu es,x∈E:=by
 obtain⟨E,e1,e2⟩:=ϰ hs ha bt hb hlen ls hL;refine⟨E++lu es,by rw[jc,Hg];omega,λx x1 x2 x3=>?_,λx hx=>k5 _ hx⟩;apply ju;intro hn;simp only[jj,not_or]at hn;refine x3 (Tp (λi hi=>?_) (λp=>Ϧ hn.2 p));apply ju;intro bz;have e:∀t,dx zs cs ls t i=cb zs cs ls[i] t:=λt=>by simp[dx,Y,hi]
 rw[e,e]at bz;exact hn.1 (e2 _ (jf hi) x x1 x2 bz)
theorem jyp{nm:X}{ls:D bP}{es:D dN}(hL:∀L∈ls,ez zs.length ps.length cs.length L)(fm:ls.length<=4)(hE:∀x∈es,rm ps.length x)(gV:es.length<=9)
  {ss:D cu}{a b:o}(ha:0<=a)(bt:a<=b)(hb:b<=8589934592)(hlen:b-a<=35078400) :
  ∃out,j5S ((zs,(ps,(cs,ss))),zs.map tb) (nm,(ls,es)) a b=I out/\dg (λt=>fc es t (dx zs cs ls t) ls.length) b none a out/\out.length<=30000*ls.length+2*es.length+1:=by
 obtain⟨out,e,h,_⟩:=jCy hs hL fm hE gV ha bt hb omg_ (nm:=nm) (ss:=ss);obtain⟨E,e1,e2,_⟩:=jCB hs (es:=es) hL ha bt hb hlen;have:=Tn h e2;exact⟨out,e,h,omg_⟩
theorem ϱ{s:cu}(hk:tZ zs.length ps.length cs.length s)(fm:s.2.1.length<=3)(gV:s.2.2.length<=6){ss:D cu}{a b:o}(ha:0<=a)(bt:a<b)(hb:b<=8589934592)(hlen:b-a<=34560000) :
  ∃out,j0G ((zs,(ps,(cs,ss))),zs.map tb) s a b=I out/\dg (cN zs cs s) b none a out/\out.length<=10000000:=by
 obtain⟨S,eS,hS,lS⟩:=jyp hs (nm:=s.1) hk.ly omg_ hk.ed omg_ (ss:=ss) ha omg_ hb omg_;have l0:=Ϯ (es:=s.2.2) omg_ (f:=a) (t:=b) (zs:=zs) (ps:=ps) (cs:=cs) (ss:=ss) (tbs:=zs.map tb) (nm:=s.1) (ls:=s.2.1) s.2.2.length 0 [] omg_ smp_;rw[jp,jr]at l0;have rZ:=Hg s.2.2;obtain⟨C,eC,c1,c2,c3⟩:=ϭ (l:=lu s.2.2) omg_ (f:=a) (t:=b)
 have hKp:(C++[b]).Pairwise (· < ·):=qh.2 ⟨c1,qw _ _,λx hx y hy=>by
  simp at hy;subst hy;exact((c3 x).1 hx).2.2⟩
 obtain⟨M,e2,hM,lM⟩:=ϯ (es:=s.2.2) omg_ hKp sqo_ (a0:=a) (b:=b) smp_ (λx hx x1 x2=>jx _ ((c3 x).2 ⟨hx,x1,x2⟩)) (g:=λt=>fc s.2.2 t (dx zs cs s.2.1 t) s.2.1.length) (S:=S) omg_ (nm:=s.1) (ls:=s.2.1) omg_ omg_ (x:=a) S.length 0 a [] omg_ omg_ (by rw[jr];exact hS.ch) rfl smp_;obtain⟨out,e3,h3,l3⟩:=SV (l:=M) omg_ hM;refine⟨out,?_,h3,omg_⟩;simp only[j0G,show F s.2.2.length=(s.2.2.length:o) from rfl];rw[show Ft a b s.2.2 (s.2.2.length:o) 0 zs ps cs ss (zs.map tb) s.1 s.2.1 s.2.2 []=_ from l0];simp only[j4,eC];rw[show j5S ((zs,(ps,(cs,ss))),zs.map tb) (s.1,(s.2.1,s.2.2)) a b=_ from eS];simp only[j4,show F S.length=(S.length:o) from rfl];rw[show Fu (S.length:o) 0 s.1 s.2.1 s.2.2 (C++[b]) [] S=_ from e2];simp only[j4,e3]
end
set_option linter.unusedSectionVars false
def rD(p:o):SL->Prop
 |[]=>True
 |x::r=>p<=x.1/\x.1<x.2/\rD x.2 r
theorem rD.weak{p q:o}(hq:q<=p):∀{l:SL},rD p l->rD q l
 |[],_=>trivial
 |_::_,h=>⟨by have:=h.1;omega,h.2⟩
section
variable{zs:D bF}{ps:D cI}{cs:D aU}(hs:cC zs ps cs)
include hs
end
section
variable{zs:D bF}{ps:D cI}{cs:D aU}(hs:cC zs ps cs)
include hs
end
def mS(v:o)(S:bm):SL:=(S.filter λs=>s.2.2==v).map λs=>(s.1,s.2.1)
theorem jCC(v:o)(s:fI)(r:bm):mS v (s::r)=(if s.2.2=v then [(s.1,s.2.1)] else [])++mS v r:=by
 unfold mS;by_cases hv:s.2.2=v
 .simp[hv]
 .simp[hv]
theorem jGS{f:o->o}{a b v:o}{S:bm}(h:dg f b none a S){x:o}:bq x (mS v S)↔a<=x/\x<b/\f x=v:=by
 unfold bq mS;constructor
 .rintro⟨u,hu,h1,h2⟩
  obtain⟨s,hs,rfl⟩:=jz.1 hu;have hm:=kz.1 hs;have hc:=h.ch.mem _ hm.1;have hv:s.2.2=v:=by simpa using hm.2
  exact⟨by dsimp only at h1;omega,by dsimp only at h2;omega,by rw[<-hv];exact hc.2.2.2 x h1 h2⟩
 .rintro⟨h0,h1,h2⟩
  obtain⟨s,hs,c1,c2⟩:=h.ch.has x h0 h1;have hc:=h.ch.mem _ hs;exact⟨_,jz.2 ⟨s,kz.2 ⟨hs,by rw[<-hc.2.2.2 x c1 c2,h2];exact qs _⟩,rfl⟩,c1,c2⟩
theorem TB{v:o}{S:bm}(hS:S.length<=1000000):∀(n i:J)(acc:SL),i+n=S.length->acc.length<=i->
  Fv v S (S.length:o) (i:o) acc=I (acc++mS v (S.drop i))
 |0,i,acc,hi,_=>by
  rw[Ym];simp only[j3I];rw[ai omg_,j7,aP,jd omg_];simp[mS]
 |n+1,i,acc,hi,ha=>by
  have bh:i<S.length:=omg_;have aT:S.getD i ((0:o),((0:o),(0:o)))=S[i]:=by simp[Y,bh]
  rw[Ym];simp only[j3I];rw[ah (show (i:o)<(S.length:o) by omega),bJ,aj (x:=(i:o)+1)];simp only[j6,j8,aT];have hd:mS v (S.drop i)=(if S[i].2.2=v then [(S[i].1,S[i].2.1)] else [])++mS v (S.drop (i+1)):=by rw[jb bh,jCC]
  rw[hd];by_cases hv:S[i].2.2=v
  .rw[if_pos hv];rw[cR hv,j6,ah (by simp[aG];omega),j6,aB];have ih:=TB (v:=v) hS n (i+1) (acc++[(S[i].1,S[i].2.1)]) omg_ sqo_;rw[show ((i+1:J):o)=(i:o)+1 by omega]at ih;rw[jh]at ih;exact ih
  .rw[if_neg hv,jp];rw[ca hv,j7,aB];have ih:=TB (v:=v) hS n (i+1) acc omg_ omg_;rw[show ((i+1:J):o)=(i:o)+1 by omega]at ih;exact ih
section
variable{zs:D bF}{ps:D cI}{cs:D aU}(hs:cC zs ps cs)
include hs
end
section
variable{zs:D bF}{ps:D cI}{cs:D aU}(hs:cC zs ps cs)
include hs
end
section
variable{zs:D bF}{ps:D cI}{cs:D aU}(hs:cC zs ps cs)
include hs
end
section
variable{zs:D bF}{ps:D cI}{cs:D aU}(hs:cC zs ps cs)
include hs
end
section
variable{zs:D bF}{ps:D cI}{cs:D aU}(hs:cC zs ps cs)
include hs
end
section
variable{α:Type}(key:α->o)
def cO(x:α):D α->D α
 |[]=>[x]
 |y::ys=>if key x<key y then x::y::ys else y::cO x ys
def cd(l:D α):D α:=l.foldl (λacc x=>cO key x acc) []
def gw:D α->D α->D α
 |[],bs=>bs
 |a::gC,bs=>go a (gw gC) gC bs
where go (a:α) (f:D α->D α) (gC:D α):D α->D α
 |[]=>a::gC
 |b::bs=>if key b<key a then b::go a f gC bs else a::f (b::bs)
theorem qB:∀gC:D α,gw key gC []=gC
 |[]=>rfl
 |_::_=>rfl
theorem pz(a b:α)(gC bs:D α):gw key (a::gC) (b::bs)=if key b<key a then b::gw key (a::gC) bs else a::gw key gC (b::bs):=rfl
variable{key}
theorem Li(x:α):∀(A B:D α),cO key x (gw key A B)=gw key A (cO key x B)
 |[],_=>rfl
 |[a],[]=>by
  simp only[qB,cO,pz];split<;>rfl
 |a::a'::gC,[]=>by
  have ih:=Li x (a'::gC) [];rw[qB]at ih ⊢;rw[show cO key x ([]:D α)=[x] from rfl]at ih ⊢;rw[pz];rw[cO];split
  .rw[qB]
  .rw[ih]
 |a::gC,b::bs=>by
  have i1:=Li x (a::gC) bs;have i2:=Li x gC (b::bs);rw[pz];by_cases h1:key b<key a
  .rw[if_pos h1];simp only[cO];by_cases h2:key x<key b
   .rw[if_pos h2,if_pos h2,pz,if_pos (show key x<key a by omega),pz,if_pos h1]
   .rw[if_neg h2,if_neg h2,pz,if_pos h1,i1]
  .rw[if_neg h1];rw[show cO key x (a::gw key gC (b::bs))=if key x<key a then x::a::gw key gC (b::bs) else a::cO key x (gw key gC (b::bs)) from rfl,i2];rw[show cO key x (b::bs)=if key x<key b then x::b::bs else b::cO key x bs from rfl];by_cases h2:key x<key b
   .rw[if_pos h2];by_cases h3:key x<key a
    .rw[if_pos h3,pz,if_pos h3,pz,if_neg h1]
    .rw[if_neg h3,pz,if_neg h3]
   .rw[if_neg h2];rw[if_neg (show¬key x<key a by omega),pz,if_neg h1]
termination_by A B=>A.length+B.length
theorem ϲ:∀(ys A B:D α),ys.foldl (λacc x=>cO key x acc) (gw key A B)=gw key A (ys.foldl (λacc x=>cO key x acc) B)
 |[],_,_=>rfl
 |y::ys,A,B=>by
  simp only[vz];rw[Li,ϲ ys A]
theorem ϳ(xs ys:D α):cd key (xs++ys)=gw key (cd key xs) (cd key ys):=by
 have h:=ϲ (key:=key) ys (cd key xs) [];rw[qB]at h;simp only[cd,List.foldl_append]at h ⊢;exact h
theorem w8:∀(A1 B1 A2 B2:D α),(∀x∈A2,∀y∈B1,key y<key x)->(∀x∈A1,∀y∈B2,¬key y<key x)->
  gw key (A1++A2) (B1++B2)=gw key A1 B1++gw key A2 B2
 |[],[],_,_,_,_=>rfl
 |[],b::bs,[],B2,_,_=>rfl
 |[],b::bs,a::gC,B2,h1,h2=>by
  have ih:=w8 [] bs (a::gC) B2 (λx hx y hy=>h1 x hx y (by simp[hy])) h2;rw[jp]at ih;rw[jp,qp,pz,if_pos (h1 a smp_ b smp_),ih];rfl
 |a::gC,[],A2,[],_,_=>by simp only[kc,qB]
 |a::gC,[],A2,b::bs,h1,h2=>by
  have ih:=w8 gC [] A2 (b::bs) h1 (λx hx y hy=>h2 x (by simp[hx]) y hy);rw[jp,qB]at ih;rw[jp,qp,pz,if_neg (h2 a smp_ b smp_),ih,qB];rfl
 |a::gC,b::bs,A2,B2,h1,h2=>by
  have i1:=w8 (a::gC) bs A2 B2 (λx hx y hy=>h1 x hx y (by simp[hy])) h2;have i2:=w8 gC (b::bs) A2 B2 h1 (λx hx y hy=>h2 x (by simp[hx]) y hy);rw[qp,qp,pz,pz];split
  .rw[<-qp,i1];rfl
  .rw[<-qp,i2];rfl
termination_by A1 B1=>A1.length+B1.length
theorem jFh(x:α)(B1 B2:D α)(h1:∀y∈B1,key y<key x)(h2:∀y∈B2,¬key y<key x):gw key [x] (B1++B2)=B1++x::B2:=by
 have e1:=w8 (key:=key) [] B1 [x] B2 (by simpa using h1) smp_;have e2:=w8 (key:=key) [x] [] [] B2 smp_ (by simpa using h2);rw[jp]at e1;rw[kc,jp,qB]at e2;rw[e1,e2];rfl
theorem jCD(y:α)(A1 A2:D α)(h1:∀x∈A1,¬key y<key x)(h2:∀x∈A2,key y<key x):gw key (A1++A2) [y]=A1++y::A2:=by
 have e1:=w8 (key:=key) A1 [] A2 [y] smp_ (by simpa using h1);have e2:=w8 (key:=key) [] [y] A2 [] (by simpa using h2) smp_;rw[jp,qB]at e1;rw[jp,kc,qB]at e2;rw[e1,e2];rfl
theorem Hh(x:α):∀l:D α,(cO key x l).Perm (x::l)
 |[]=>List.Perm.refl _
 |y::ys=>by
  unfold cO;split
  .exact List.Perm.refl _
  .exact((Hh x ys).cons y).trans (List.Perm.swap x y ys)
theorem ϴ:∀(l acc:D α),(l.foldl (λacc x=>cO key x acc) acc).Perm (acc++l)
 |[],acc=>smp_
 |x::xs,acc=>by
  simp only[vz];refine(ϴ xs (cO key x acc)).trans ?_;refine((Hh x acc).append_right xs).trans ?_;rw[qp];exact List.perm_middle.symm
theorem sv(l:D α):(cd key l).Perm l:=by
 have:=ϴ (key:=key) l [];rwa[jp]at this
theorem w9(l:D α):(cd key l).length=l.length:=(sv l).length_eq
theorem TC{R:α->α->Prop}(x:α):∀l:D α,l.Pairwise (λy z=>key y<key z\/key y=key z/\R y z)->(∀y∈l,R y x)->(cO key x l).Pairwise (λy z=>key y<key z\/key y=key z/\R y z)
 |[],_,_=>qw _ _
 |y::ys,h,hr=>by
  have hc:=jt.1 h;unfold cO;split
  .rename_i aq;refine jt.2 ⟨λz hz=>?_,h⟩;rcases je.1 hz with rfl|hz
   .exact Or.inl aq
   .rcases hc.1 z hz with h1|h1
    .exact Or.inl omg_
    .exact Or.inl omg_
  .rename_i qQ;refine jt.2 ⟨λz hz=>?_,TC x ys hc.2 (λw hw=>hr w (by simp[hw]))⟩;rcases je.1 ((Hh x ys).mem_iff.1 hz) with rfl|hz
   .by_cases he:key y=key z
    .exact Or.inr ⟨he,hr y smp_⟩
    .exact Or.inl omg_
   .exact hc.1 z hz
theorem ϵ{R:α->α->Prop}:∀(l acc:D α),acc.Pairwise (λy z=>key y<key z\/key y=key z/\R y z)->(∀y∈acc,∀z∈l,R y z)->l.Pairwise R->
  (l.foldl (λacc x=>cO key x acc) acc).Pairwise (λy z=>key y<key z\/key y=key z/\R y z)
 |[],_,h,_,_=>h
 |x::xs,acc,h,hr,hl=>by
  simp only[vz];have hc:=jt.1 hl;refine ϵ xs _ (TC x acc h (λy hy=>hr y hy x smp_)) (λy hy z hz=>?_) hc.2;rcases je.1 ((Hh x acc).mem_iff.1 hy) with rfl|hy
  .exact hc.1 z hz
  .exact hr y hy z (by simp[hz])
theorem jFi{R:α->α->Prop}{l:D α}(h:l.Pairwise R):(cd key l).Pairwise (λy z=>key y<key z\/key y=key z/\R y z):=
 ϵ l [] List.Pairwise.nil smp_ h
theorem jFj(l:D α):(cd key l).Pairwise (λy z=>key y<=key z):=
 (jFi (R:=λ_ _=>True) (l:=l) (List.pairwise_of_forall (λ_ _=>trivial))).imp (λh=>omg_)
variable(key)
inductive mT(n:J):D α->D α->Prop
 |last (l:D α):l.length<n->mT n l (cd key l)
 |more (x l d:D α):x.length=n->mT n l d->mT n (x++l) (cd key x++d)
variable{key}
theorem mT.len{n:J}{l d:D α}(h:mT key n l d):d.length=l.length:=by
 induction h with
 |last l _=>exact w9 l
 |more x l d hx _ ih=>simp[w9,ih]
theorem mT.all{n:J}{l d:D α}(h:mT key n l d)(hl:l.length<=n):d=cd key l:=by
 cases h with
 |last _ _=>rfl
 |more x l d hx hb=>have hd:=hb.len;simp only[jc]at hl;have h0:l=[]:=k9.1 omg_;subst h0;have h1:d=[]:=k9.1 (by simpa using hd);subst h1;simp
end
end Go.Proofs.Pw
