/- LimitsRest. -/
import Derived.Test.YtkoifkkadkmecaaGreatLRPR
import Derived.Test.YtkoifkkadkmecaaGreatLRPV
open _root_ renaming Int->j,List->H,Nat->U
open List.Pairwise renaming nil->o,filter->Ã
open List renaming getD->F
open Int renaming ofNat->G,zero_add->Y,sub_self->Â
open ByteArray renaming empty->I
open Eq renaming trans->J
open Bool renaming false->N,true->Á
open Go Go.Lft
namespace Go.Proofs.Pw
def jV(k t:j)(V:bm):Bool:=V.any λv=>cond (v.1==k) (v.2.2==t) N
def iY(k:j)(V:bm):Nat:=(V.filter λv=>v.1==k).length
theorem ŏ{k t:j}{V:bm}(hl:V.length<=1000000):∀(n i:U),i+n=V.length->J4 k t V (V.length:j) (i:j)=some (cond (jV k t (V.drop i)) (.inl Á) (.inr ()))
 |0,i,hi=>by
  rw[ZD];simp only[j2e];rw[ai omg_,j7,aP,jd omg_];rfl
 |n+1,i,hi=>by
  have aq:i<V.length:=omg_;have aT:V.getD i ((0:j),((0:j),(0:j)))=V[i]:=by simp[F,aq]
  have ih:=ŏ (k:=k) (t:=t) hl n (i+1) omg_;rw[ZD,jb aq];simp only[j2e];rw[ah (show (i:j)<(V.length:j) by omega),bJ,aj (x:=(i:j)+1)];simp only[j6,qz,j8,aT,jV,yn];cases (cond (V[i].1==k) (V[i].2.2==t) N) with
  |true=>simp only[j6,aP,qz]
  |false=>simp only[j7,aB,y9];exact ih
theorem Uf{k t:j}{V:bm}(hl:V.length<=1000000):j3N k t V=some (jV k t V):=by
 have e:=ŏ (k:=k) (t:=t) hl V.length 0 omg_;rw[show ((0:U):j)=0 from rfl,jr]at e;simp only[j3N,show G V.length=(V.length:j) from rfl,e,j4];cases jV k t V<;>rfl
theorem Ug{k t:j}{V:bm}:jV k t V=Á↔∃v∈V,v.1=k/\v.2.2=t:=by
 unfold jV;rw[zv];constructor
 .rintro⟨v,hv,h⟩
  refine⟨v,hv,?_⟩;by_cases e:v.1=k
  .rw[cR e,j6]at h;exact⟨e,by simpa using h⟩
  .rw[ca e]at h;simp at h
 .rintro⟨v,hv,rfl,rfl⟩
  exact⟨v,hv,smp_⟩
theorem Ő{s5:j}{X:bG}{V:bm}{zs:H bF}{ps:H cI}{cs:H aU}{ss:H cu}{D R:SL}(hl:V.length<=1000000):∀(n i:U)(r q d:j),i+n=V.length->0<=r->r<=i->0<=q->q<=i->0<=d->d<=i->
  J5 s5 X V r q d (V.length:j) (i:j) zs ps cs ss V D R=some (s5,X,V,r+iY 1 (V.drop i),q+iY 2 (V.drop i),d+iY 3 (V.drop i),zs,ps,cs,ss,D,R)
 |0,i,r,q,d,hi,_,_,_,_,_,_=>by
  rw[ZE];simp only[j30];rw[ai omg_,j7,aP,jd omg_];simp[iY]
 |n+1,i,r,q,d,hi,r0,r1,q0,q1,d0,d1=>by
  have aq:i<V.length:=omg_;have aT:V.getD i ((0:j),((0:j),(0:j)))=V[i]:=by simp[F,aq]
  have ih:=λ(r q d:j)(r0:0<=r)(r1:r<=((i+1:U):j))(q0:0<=q)(q1:q<=((i+1:U):j))(d0:0<=d)(d1:d<=((i+1:U):j))=>Ő (s5:=s5) (X:=X) (zs:=zs) (ps:=ps) (cs:=cs) (ss:=ss) (D:=D) (R:=R) hl n (i+1) r q d omg_ r0 r1 q0 q1 d0 d1
  have qX:∀k,iY k (V.drop i)=iY k (V.drop (i+1))+(if V[i].1=k then 1 else 0):=λk=>by
   rw[jb aq];unfold iY;by_cases e:V[i].1=k
   .rw[List.filter_cons_of_pos (by simpa using e),if_pos e];rfl
   .rw[List.filter_cons_of_neg (by simpa using e),if_neg e];rfl
  rw[ZE,qX 1,qX 2,qX 3];simp only[j30];rw[ah (show (i:j)<(V.length:j) by omega),bJ,aj (x:=(i:j)+1),aj (x:=r+1),aj (x:=q+1),aj (x:=d+1)];simp only[j6,j8,aT];by_cases e1:V[i].1=1
  .rw[cR e1,if_pos e1,if_neg (show¬V[i].1=2 by omega),if_neg (show¬V[i].1=3 by omega),j6,aB];refine J (ih (r+1) q d omg_ omg_ q0 omg_ d0 omg_) ?_;simp only[j5,j9,qc,and_true];exact⟨omg_,omg_,omg_⟩
  .rw[ca e1,if_neg e1,j7];by_cases e2:V[i].1=2
   .rw[cR e2,if_pos e2,if_neg (show¬V[i].1=3 by omega),j6,aB];refine J (ih r (q+1) d r0 omg_ omg_ omg_ d0 omg_) ?_;simp only[j5,j9,qc,and_true];exact⟨omg_,omg_,omg_⟩
   .rw[ca e2,if_neg e2,j7];by_cases e3:V[i].1=3
    .rw[cR e3,if_pos e3,j6,aB];refine J (ih r q (d+1) r0 omg_ q0 omg_ omg_ omg_) ?_;simp only[j5,j9,qc,and_true];exact⟨omg_,omg_,omg_⟩
    .rw[ca e3,if_neg e3,j7,aB];refine J (ih r q d r0 omg_ q0 omg_ d0 omg_) ?_;simp only[j5,j9,qc,and_true];exact⟨omg_,omg_,omg_⟩
theorem ő{k:j}{l:SL}{p x:j}(h:bB p l)(hx:x∈iM k p l):p<x:=by
 obtain⟨s,hs,rfl⟩:=Lu hx;exact(h.mem s hs).1
theorem Œ{k:j}:∀(l:SL)(s:j×j),bB s.2 l->∀i,(h:i<l.length)->(l[i].1∈iM k s.2 l↔l[i].1-((s::l)[i]'sqo_).2<k)
 |[],_,_,i,h=>by simp at h
 |u::r,s,hs,0,_=>by
  simp only[List.getElem_cons_zero,iM]
  have hn:¬u.1∈iM k u.2 r:=λh=>by
   have:=ő hs.2.2 h;have:=hs.2.1;omega
  by_cases h:u.1-s.2<k
  .rw[if_pos h];simp[h]
  .rw[if_neg h];exact⟨λh'=>absurd h' hn,λh'=>absurd h' h⟩
 |u::r,s,hs,i+1,hi=>by
  have bh:i<r.length:=by simpa using hi
  have ih:=Œ (k:=k) r u hs.2.2 i bh;have bz:r[i].1≠u.1:=by have:=(hs.2.2.mem r[i] (jf bh)).1;have:=hs.2.1;omega
  simp only[List.getElem_cons_succ,iM];rw[<-ih];by_cases h:u.1-s.2<k
  .rw[if_pos h,je];exact⟨λh'=>h'.resolve_left bz,.inr⟩
  .rw[if_neg h]
theorem œ{k:j}:∀{l:SL}{p:j},bB p l->(iM k p l).Pairwise (· < ·)
 |[],_,_=>o
 |u::r,p,h=>by
  have ih:=œ (k:=k) h.2.2;have hu:=h.2.1;simp only[iM];split
  .exact jt.2 ⟨λy hy=>by have:=ő h.2.2 hy;omega,ih⟩
  .exact ih
theorem Ŕ:∀{l:SL}{p:j},bB p l->iM 0 p l=[]
 |[],_,_=>rfl
 |u::r,p,h=>by
  have:=h.1;simp only[iM];rw[if_neg omg_,Ŕ h.2.2]
theorem ŕ{p:U}{X:bG}{V:bm}{zs:H bF}{ps:H cI}{cs:H aU}{ss:H cu}{D R:SL}{q d K:j}(hp:p<ps.length)(hK:ps[p].2.2.2.2.1=K)(hV:V.length<=1000000)(hl:D.length<=1000000)(hb:∀u∈D,0<=u.1/\u.2<=8589934592/\u.1<u.2)
  (hh:∀i,(h:i+1<D.length)->jV 1 D[i+1].1 V=decide (D[i+1].1-D[i].2<K)):∀(n i:U)(r:j)(h:i+1+n=D.length),0<=r->r<=1000000->(iM K D[i].2 (D.drop (i+1))).length<=r->
  Gg (p:j) X V r q d ((i:j)+1) zs ps cs ss D R=some (.inr ((p:j),X,V,r-(iM K D[i].2 (D.drop (i+1))).length,q,d,zs,ps,cs,ss,R))
 |0,i,r,h,r0,r1,hr=>by
  rw[OP];simp only[j2c,show G D.length=(D.length:j) from rfl];rw[ai omg_,j7,aP,jd omg_];simp[iM]
 |n+1,i,r,h,r0,r1,hr=>by
  have hi:i<D.length:=omg_;have xh:i+1<D.length:=omg_;have g0:D.getD i ((0:j),(0:j))=D[i]:=by simp[F,hi]
  have g1:D.getD (i+1) ((0:j),(0:j))=D[i+1]:=by simp[F,xh]
  have gp:ps.getD p (I,((0:j),(([]:SL),((0:j),((0:j),N)))))=ps[p]:=by simp[F,hp]
  have b0:=hb _ (jf hi);have b1:=hb _ (jf xh);rw[jb xh]at hr ⊢;have ih:=λ(r:j)(r0:0<=r)(r1:r<=1000000)(hr:(iM K D[i+1].2 (D.drop (i+1+1))).length<=r)=>ŕ (X:=X) (zs:=zs) (cs:=cs) (ss:=ss) (R:=R) (q:=q) (d:=d) hp hK hV hl hb hh n (i+1) r omg_ r0 r1 hr;rw[show ((i+1:U):j)+1=(i:j)+1+1 by omega]at ih;simp only[iM]at hr ⊢;rw[OP];simp only[j2c,show G D.length=(D.length:j) from rfl];rw[ah (show (i:j)+1<(D.length:j) by omega),aj (x:=(i:j)+1-1),show (i:j)+1-1=(i:j) by omega,bA (show (0:j)<=(i:j)+1 by omega) (show (i:j)+1<(D.length:j) by omega),bA (show (0:j)<=(i:j) by omega) (show (i:j)<(D.length:j) by omega),bA (show (0:j)<=(p:j) by omega) (show (p:j)<(ps.length:j) by omega)];simp only[j6,j8,show ((i:j)+1).toNat=i+1 by omega,g0,g1,gp,hK,Uf hV,hh i xh,j4];rw[aj (x:=D[i+1].1-D[i].2),qs,aj (x:=r-1),aj (x:=(i:j)+1+1)];simp only[jl,j7];by_cases hq:D[i+1].1-D[i].2<K
  .rw[if_pos hq]at hr ⊢;simp only[ji]at hr;rw[ah hq,j6,aB];refine J (ih (r-1) omg_ omg_ omg_) ?_;simp only[j5,Sum.inr.injEq,j9,qc,and_true,ji];omega
  .rw[if_neg hq]at hr ⊢;rw[ai hq,j7,aB];exact ih r r0 r1 hr
theorem Ŗ{p:U}{X:bG}{V:bm}{zs:H bF}{ps:H cI}{cs:H aU}{ss:H cu}{R:SL}{r d:j}{c:Bool}(hp:p<ps.length)(hc:ps[p].2.2.2.2.2=c)(hV:V.length<=1000000)(hl:R.length<=1000000)
  (hh:∀u∈R,jV 2 u.1 V = !c):∀(n i:U)(q:j),i+n=R.length -> -1000000<=q-n->q<=1000000->
  J6 (p:j) X V r q d (R.length:j) (i:j) zs ps cs ss R=some (.inr ((p:j),X,V,r,cond c q (q-n),d))
 |0,i,q,hi,_,_=>by
  rw[ZF];simp only[j31];rw[ai omg_,j7,aP];cases c<;>simp
 |n+1,i,q,hi,q0,q1=>by
  have aq:i<R.length:=omg_;have aT:R.getD i ((0:j),(0:j))=R[i]:=by simp[F,aq]
  have gp:ps.getD p (I,((0:j),(([]:SL),((0:j),((0:j),N)))))=ps[p]:=by simp[F,hp]
  have ih:=λ(q:j)(q0 : -1000000<=q-n)(q1:q<=1000000)=>Ŗ (X:=X) (zs:=zs) (cs:=cs) (ss:=ss) (r:=r) (d:=d) hp hc hV hl hh n (i+1) q omg_ q0 q1;rw[ZF];simp only[j31];rw[ah (show (i:j)<(R.length:j) by omega),bA (show (0:j)<=(i:j) by omega) (show (i:j)<(R.length:j) by omega),bA (show (0:j)<=(p:j) by omega) (show (p:j)<(ps.length:j) by omega),aj (x:=(i:j)+1),aj (x:=q-1)];simp only[j6,j8,aT,gp,hc,Uf hV,hh _ (jf aq),j4];cases c with
  |true=>simp only[jl,show (N==Á)=N from rfl,j7,aB];exact ih q omg_ q1
  |false=>simp only[jv,show (Á==N)=N from rfl,j7,j6,aB];refine J (ih (q-1) omg_ omg_) ?_;simp only[j7,j5,Sum.inr.injEq,j9,qc,and_true];omega
def dd(p:j):j->bG->H j
 |_,[]=>[]
 |t,z::r=>if z.1=p then (if z.2.2.2.1=t then dd p t r else z.2.2.2.1::dd p z.2.2.2.1 r) else dd p t r
theorem LI(p:j):∀(X:bG)(t:j),X.Pairwise qC->(∀z∈X,t<=z.2.2.2.1)->(dd p t X).Pairwise (· < ·)/\(∀x∈dd p t X,t<x)/\∀x,t<x->(x∈dd p t X↔∃z∈X,z.1=p/\z.2.2.2.1=x)
 |[],t,_,_=>⟨o,by simp[dd],λx _=>by simp[dd]⟩
 |z::r,t,hp,hle=>by
  have qO:=jt.1 hp;have hz:=hle z smp_;simp only[dd];by_cases h1:z.1=p
  .rw[if_pos h1];by_cases h2:z.2.2.2.1=t
   .rw[if_pos h2];obtain⟨a1,a2,a3⟩:=LI p r t qO.2 (λy hy=>hle y (by simp[hy]));refine⟨a1,a2,λx hx=>?_⟩;rw[a3 x hx];constructor
    .rintro⟨y,hy,h⟩;exact⟨y,by simp[hy],h⟩
    .rintro⟨y,hy,h⟩
     rcases je.1 hy with rfl|hy
     .omega
     .exact⟨y,hy,h⟩
   .rw[if_neg h2];obtain⟨a1,a2,a3⟩:=LI p r z.2.2.2.1 qO.2 (λy hy=>qO.1 y hy);refine⟨jt.2 ⟨a2,a1⟩,λx hx=>?_,λx hx=>?_⟩
    .rcases je.1 hx with rfl|hx
     .omega
     .have:=a2 x hx;omega
    .rw[je];constructor
     .rintro (rfl|h)
      .exact⟨z,smp_,h1,rfl⟩
      .obtain⟨y,hy,h⟩:=(a3 x (a2 x h)).1 h;exact⟨y,by simp[hy],h⟩
     .rintro⟨y,hy,h⟩
      rcases je.1 hy with rfl|hy
      .exact .inl h.2.symm
      .have Hb:z.2.2.2.1<=y.2.2.2.1:=qO.1 y hy;by_cases he:x=z.2.2.2.1
       .exact .inl he
       .exact .inr ((a3 x omg_).2 ⟨y,hy,h⟩)
  .rw[if_neg h1];obtain⟨a1,a2,a3⟩:=LI p r t qO.2 (λy hy=>hle y (by simp[hy]));refine⟨a1,a2,λx hx=>?_⟩;rw[a3 x hx];constructor
   .rintro⟨y,hy,h⟩;exact⟨y,by simp[hy],h⟩
   .rintro⟨y,hy,h⟩
    rcases je.1 hy with rfl|hy
    .exact absurd h.1 h1
    .exact⟨y,hy,h⟩
theorem ŗ{p:j}{X:bG}{V:bm}{r q:j}(hV:V.length<=1000000)(hl:X.length<=1000000)(hh:∀z∈X,z.1=p->jV 3 z.2.2.2.1 V=Á):∀(n i:U)(t d:j),i+n=X.length -> -1000000<=d-n->d<=1000000->
  J7 p X V r q d t (X.length:j) (i:j)=some (.inr (r,q,d-(dd p t (X.drop i)).length))
 |0,i,t,d,hi,_,_=>by
  rw[ZG];simp only[j32];rw[ai omg_,j7,aP,jd omg_];simp[dd]
 |n+1,i,t,d,hi,d0,d1=>by
  have aq:i<X.length:=omg_;have aT:X.getD i ((0:j),((0:j),((0:j),((0:j),(0:j)))))=X[i]:=by simp[F,aq]
  have ih:=λ(t d:j)(d0 : -1000000<=d-n)(d1:d<=1000000)=>ŗ (r:=r) (q:=q) hV hl hh n (i+1) t d omg_ d0 d1;rw[ZG,jb aq];simp only[j32,dd];rw[ah (show (i:j)<(X.length:j) by omega),bA (show (0:j)<=(i:j) by omega) (show (i:j)<(X.length:j) by omega),aj (x:=(i:j)+1),aj (x:=d-1)];simp only[j6,j8,aT];by_cases h1:X[i].1=p
  .rw[show (X[i].1 != p)=N by simp[h1],if_pos h1];simp only[j7,Uf hV,hh _ (jf aq) h1,j4,jl];by_cases h2:X[i].2.2.2.1=t
   .rw[show (X[i].2.2.2.1 != t)=N by simp[h2],if_pos h2];simp only[j7,aB,h2];exact ih t d omg_ d1
   .rw[show (X[i].2.2.2.1 != t)=Á by simp[h2],if_neg h2];simp only[j6,aB];refine J (ih X[i].2.2.2.1 (d-1) omg_ omg_) ?_;simp only[j5,Sum.inr.injEq,j9,qc,ji];omega
  .rw[show (X[i].1 != p)=Á by simp[h1],if_neg h1];simp only[j6,aB];exact ih t d omg_ d1
theorem Ř:∀{l m:H j},l.Pairwise (· < ·)->m.Pairwise (· < ·)->(∀x,x∈l↔x∈m)->l=m
 |[],[],_,_,_=>rfl
 |[],y::m,_,_,h=>absurd ((h y).2 smp_) smp_
 |x::l,[],_,_,h=>absurd ((h x).1 smp_) smp_
 |x::l,y::m,hl,hm,h=>by
  have iS:=jt.1 hl;have kS:=jt.1 hm
  have e:x=y:=by
   rcases je.1 ((h x).1 smp_) with e|e
   .exact e
   .rcases je.1 ((h y).2 smp_) with e'|e'
    .exact e'.symm
    .have:=kS.1 x e;have:=iS.1 y e';omega
  subst e;rw[Ř iS.2 kS.2 λz=>?_];constructor
  .intro hz;rcases je.1 ((h z).1 (by simp[hz])) with rfl|h'
   .have:=iS.1 z hz;omega
   .exact h'
  .intro hz;rcases je.1 ((h z).2 (by simp[hz])) with rfl|h'
   .have:=kS.1 z hz;omega
   .exact h'
theorem Uh{k p:j}{V:bm}{T:H j}(hV:V.Pairwise kI)(hp:∀v∈V,v.2.1=p)(hT:T.Pairwise (· < ·))(h:∀t,(∃v∈V,v.1=k/\v.2.2=t)↔t∈T):iY k V=T.length:=by
 have e:((V.filter λv=>v.1==k).map λv=>v.2.2)=T:=by
  refine Ř ?_ hT λt=>?_
  .rw[List.pairwise_map];have hf:=Ã (λv:fI=>v.1==k) hV;refine(List.pairwise_iff_forall_sublist.2 λ{x y} hs=>?_);have iJ:kI x y:=List.pairwise_iff_forall_sublist.1 hf hs;have mx:x∈V.filter λv=>v.1==k:=hs.subset smp_;have my:y∈V.filter λv=>v.1==k:=hs.subset smp_;have kx:x.1=k:=by simpa using (kz.1 mx).2
   have ky:y.1=k:=by simpa using (kz.1 my).2
   have px:=hp x (kz.1 mx).1;have py:=hp y (kz.1 my).1;unfold kI at iJ;omega
  .rw[<-h t,jz];constructor
   .rintro⟨v,hv,rfl⟩
    obtain⟨h1,h2⟩:=kz.1 hv;exact⟨v,h1,by simpa using h2,rfl⟩
   .rintro⟨v,hv,h1,rfl⟩
    exact⟨v,kz.2 ⟨hv,by simpa using h1⟩,rfl⟩
 rw[<-e,ke];rfl
theorem jHo{k p:j}{L:H j}{v:fI}:v∈vK k p L↔v.1=k/\v.2.1=p/\v.2.2∈L:=by
 unfold vK;rw[jz];constructor
 .rintro⟨t,ht,rfl⟩;exact⟨rfl,rfl,ht⟩
 .rintro⟨rfl,rfl,h⟩;exact⟨v.2.2,h,rfl⟩
theorem Ui{p:j}{A B C E:H j}{v:fI}:v∈jT p A B C E↔v.2.1=p/\(v.1=0/\v.2.2∈A\/v.1=1/\v.2.2∈B\/v.1=2/\v.2.2∈C\/v.1=3/\v.2.2∈E):=by
 unfold jT;simp only[jj,jHo];constructor
 .rintro (⟨h1,h2,h3⟩|⟨h1,h2,h3⟩|⟨h1,h2,h3⟩|⟨h1,h2,h3⟩)
  .exact⟨h2,.inl ⟨h1,h3⟩⟩
  .exact⟨h2,.inr (.inl ⟨h1,h3⟩)⟩
  .exact⟨h2,.inr (.inr (.inl ⟨h1,h3⟩))⟩
  .exact⟨h2,.inr (.inr (.inr ⟨h1,h3⟩))⟩
 .rintro⟨h2,⟨h1,h3⟩|⟨h1,h3⟩|⟨h1,h3⟩|⟨h1,h3⟩⟩
  .exact .inl ⟨h1,h2,h3⟩
  .exact .inr (.inl ⟨h1,h2,h3⟩)
  .exact .inr (.inr (.inl ⟨h1,h2,h3⟩))
  .exact .inr (.inr (.inr ⟨h1,h2,h3⟩))
theorem Uj{z:bF}(hz:fY z){w:WL}(hw:gj 0 w)(hl:w.length<=14){a b:j}(ha:0<=a)(bt:a<=b)(hb:b<=8589934592)(hlen:b-a<=1209600) :
  ∃W,j2d (tb z) w a b=some W/\jaY z w a b=some (W,0)/\bB (a-1) W/\(∀u∈W,a<=u.1/\u.2<=b)/\W.length<=210:=by
 have fm:(tb z).2.length<=4:=wY hz;obtain⟨out,e1,s1,s2,s3,s4⟩:=Sz hz.ztab.2 (qi fm omg_) hw hl (M:=2) omg_ ha bt hb omg_;obtain⟨BL,f1,t1,t2,_,t4⟩:=ķ hz.zref.2.1 (qi fm omg_) (uj hw hl) hw hl (M:=2) omg_ ha bt hb omg_ omg_
 have:BL=out:=T5 t1 s1 λx=>by
  by_cases hx:a<=x/\x<b
  .obtain⟨k,hk,k1,k2⟩:=tT hz.ztab.2 (t:=x) omg_ omg_;rw[s4 k hk x hx.1 hx.2 k1 k2,t4 k hk x hx.1 hx.2 k1 k2]
  .constructor
   .intro h;have:=t1.low h;obtain⟨u,hu,u1,u2⟩:=h;have:=t2 u hu;omega
   .intro h;have:=s1.low h;obtain⟨u,hu,u1,u2⟩:=h;have:=(s2 u hu).2;omega
 subst this;have Hn:BL.length<=210:=by have:w.length*(2+1)*((tb z).2.length+1)<=14*(2+1)*(4+1):=ql (k7 _ hl) omg_;omega
 rw[if_neg omg_]at f1;exact⟨BL,e1,f1,s1,s2,Hn⟩
theorem ř:∀{l:SL}{p:j},bB p l->(l.map (·.1)).Pairwise (· < ·)
 |[],_,_=>o
 |u::r,p,h=>by
  refine jt.2 ⟨λy hy=>?_,ř h.2.2⟩;obtain⟨s,hs,rfl⟩:=jz.1 hy;have h1:=(h.2.2.mem s hs).1;have h2:=h.2.1;show u.1<s.1;omega
theorem jpf(t:H j)(_h:Wf (.list (.int .i64)) t):jd0 t=some true:=by
 simp only[jd0,jm6,j4,show G (List.length t)=(t.length:j) from rfl];by_cases hl:(t.length:j)<=500
 .rw[ah hl];simp only[jl,j7,jok,j4];obtain⟨zs,ps,cs,ss,a1,e1,hs,g0,g1,g2,g3,d1⟩:=jyi (L:=t) (a:=0) (n:=3) ⟨omg_,omg_,omg_⟩ omg_ omg_;have hc:=jF0 hs (ss:=ss) omg_ (by rw[g2];exact jEZ.take _) (λs h=>(g3 s h).ck);have r5:=hs.so.p0;have hp4:=hs.so.p1;obtain⟨pI,a2,e2,p0,p1,d2⟩:=dt (n:=(ps.length:j)) d1 omg_ omg_;obtain⟨x,a3,e3,x0,x1,d3⟩:=_V d2;obtain⟨p,rfl⟩:∃p:U,pI=(p:j):=⟨pI.toNat,omg_⟩;have hp:p<ps.length:=omg_;have mb:=hc.pc ps[p] (jf hp);have gp:ps.getD p (I,((0:j),(([]:SL),((0:j),((0:j),N)))))=ps[p]:=by simp[F,hp]
  obtain⟨V,D,A,B,C,L,eV,eD,hD,hDs,lD,bD,hA,hB,hC,eL,hI,lL,vP,vM,lV,_,_⟩:=jCR hs hc (λs h=>⟨(g3 s h).ll,(g3 s h).el⟩) omg_ omg_ hp (a:=x) (b:=x+691200) omg_ omg_ omg_ omg_
  obtain⟨X,eX,xP,xM,lX⟩:=jD1 hs (K:=600) omg_ hc omg_ (a:=x) (b:=x+691200) omg_ omg_ omg_ omg_ (λs h=>by
   have hk:=(g3 s h).ck;have fm:=(g3 s h).ll;have gV:=(g3 s h).el;obtain⟨S,e,hS,_⟩:=ϱ hs hk fm omg_ (ss:=ss) (a:=x) (b:=x+691200) omg_ omg_ omg_ omg_;obtain⟨E,q1,q2⟩:=ĩ hs hk (a:=x) (b:=x+691200) omg_ omg_ omg_ (M:=2) (K:=197) omg_ omg_ rfl;have:=Tn hS q2;exact⟨S,hS,omg_⟩) hI
  have hz:fY (aF zs ps[p].2.1):=fH hs.so.ok mb.z0 mb.z1;obtain⟨W,eW,fW,w1,w2,w3⟩:=Uj hz mb.w mb.wl (a:=x) (b:=x+691200) omg_ omg_ omg_ omg_;obtain⟨R,eR,r1,r2,r3⟩:=SF hD w1 omg_ omg_;have Hy:=λu hu=>hD.mem u hu;have eM:=jD2 hD w1 omg_ omg_ omg_ (λu hu=>by have:=bD u hu;omega) (λu hu=>by have:=w2 u hu;omega) r1 r2 omg_;have hm:=λv=>vM v
  have hk:∀k t,(∃v∈V,v.1=k/\v.2.2=t)↔(k=0/\t∈A\/k=1/\t∈B\/k=2/\t∈C\/k=3/\t∈jS (p:j) (cd aw L)):=λk t=>by
   constructor
   .rintro⟨v,hv,rfl,rfl⟩
    exact(Ui.1 ((vM v).1 hv)).2
   .intro h;exact⟨(k,((p:j),t)),(vM _).2 (Ui.2 ⟨rfl,h⟩),rfl,rfl⟩
  have Uk:∀v∈V,v.2.1=(p:j):=λv hv=>(Ui.1 ((vM v).1 hv)).1;have h1:∀t,(∃v∈V,v.1=1/\v.2.2=t)↔t∈B:=λt=>by rw[hk];simp
  have h2:∀t,(∃v∈V,v.1=2/\v.2.2=t)↔t∈C:=λt=>by rw[hk];simp
  have h3:∀t,(∃v∈V,v.1=3/\v.2.2=t)↔t∈jS (p:j) (cd aw L):=λt=>by rw[hk];simp
  have LJ:B=pD ps[p].2.2.2.2.1 D:=by
   rcases hB with⟨e,rfl⟩|⟨_,e⟩
   .rw[e];match D,hD with
    |[],_=>rfl
    |s::r,h=>exact(Ŕ h.2.2).symm
   .exact e
  have LK:C=cond ps[p].2.2.2.2.2 [] (R.map (·.1)):=by
   rcases hC with⟨e,rfl⟩|⟨e,W',Q,BH,_,_,eQ,q1,q2,_,rfl⟩
   .rw[e];rfl
   .rw[e,j7];rw[eW]at BH;obtain rfl:=Option.some.inj BH;rw[eR]at eQ;obtain rfl:=Option.some.inj eQ;rfl
  have hE:∀t,t∈jS (p:j) (cd aw L)↔∃z∈X,z.1=(p:j)/\z.2.2.2.1=t:=λt=>by
   unfold jS;rw[jz];constructor
   .rintro⟨z,hz,rfl⟩
    obtain⟨z1,z2⟩:=kz.1 hz;exact⟨z,(xM z).2 ((sv (key:=aw) L).mem_iff.1 z1),by simpa using z2,rfl⟩
   .rintro⟨z,hz,z1,rfl⟩
    exact⟨z,kz.2 ⟨(sv (key:=aw) L).mem_iff.2 ((xM z).1 hz),by simpa using z1⟩,rfl⟩
  have Ś:∀z∈X,0<=z.2.2.2.1:=λz hz=>by
   obtain⟨i',k',_,_,_,g4⟩:=hI.ok z ((xM z).1 hz);have:=g4.lo;omega
  obtain⟨dd1,dd2,ś⟩:=LI (p:j) X (-1) xP (λz hz=>by have:=Ś z hz;omega)
  have n1:iY 1 V=B.length:=Uh vP Uk (by
   rw[LJ];match D,hD with
   |[],_=>exact o
   |s::r,h=>exact œ h.2.2) h1
  have n2:iY 2 V=C.length:=Uh vP Uk (by
   rw[LK];cases ps[p].2.2.2.2.2 with
   |true=>exact o
   |false=>exact ř r1) h2
  have n3:iY 3 V=(dd (p:j) (-1) X).length:=Uh vP Uk dd1 (λt=>by
   rw[h3,hE];constructor
   .rintro⟨z,hz,z1,rfl⟩
    exact(ś _ (by have:=Ś z hz;omega)).2 ⟨z,hz,z1,rfl⟩
   .intro h;exact(ś t (dd2 t h)).1 h)
  have lBC:B.length<=1000000/\C.length<=1000000/\(dd (p:j) (-1) X).length<=1000000:=by have f:∀k,iY k V<=V.length:=λk=>qo _ _;have:=f 1;have:=f 2;have:=f 3;omega
  have l0:=Ő (s5:=(p:j)) (X:=X) (zs:=zs) (ps:=ps) (cs:=cs) (ss:=ss) (D:=D) (R:=R) (V:=V) omg_ V.length 0 0 0 0 omg_ omg_ omg_ omg_ omg_ omg_ omg_;rw[show ((0:U):j)=0 from rfl,jr,Y,Y,Y,n1,n2,n3]at l0
  have l3:Gg (p:j) X V (B.length:j) (C.length:j) ((dd (p:j) (-1) X).length:j) 1 zs ps cs ss D R=some (.inr ((p:j),X,V,0,(C.length:j),((dd (p:j) (-1) X).length:j),zs,ps,cs,ss,R)):=by
   by_cases Ŝ:D.length=0
   .have:D=[]:=k9.1 Ŝ;have hB0:B=[]:=by rw[LJ,this];rfl
    rw[OP];simp only[j2c,this,hB0,jw];rw[ai (by decide),j7,aP];rfl
   .have hlen:B.length=(iM ps[p].2.2.2.2.1 (D[0]'omg_).2 (D.drop (0+1))).length:=by
     rw[LJ];match D,Ŝ with
     |[],h=>exact absurd rfl h
     |s::r,_=>rfl
    have:=ŕ (X:=X) (V:=V) (zs:=zs) (cs:=cs) (ss:=ss) (R:=R) (q:=(C.length:j)) (d:=((dd (p:j) (-1) X).length:j)) hp rfl omg_ omg_ (λu hu=>by
     have:=bD u hu;have:=Hy u hu;omega) (λi hi=>by
     have Vb:i<D.length:=omg_
     have dR:jV 1 D[i+1].1 V=Á↔D[i+1].1-D[i].2<ps[p].2.2.2.2.1:=by
      rw[Ug,h1,LJ];match D,hi,hD with
      |s::r,hi,h=>exact Œ r s h.2.2 i (by simpa using hi)
     rw[vg,dR,decide_eq_true_iff]) (D.length-1) 0 (B.length:j) omg_ omg_ omg_ (Int.ofNat_le.2 (Nat.le_of_eq hlen.symm))
    rw[show ((0:U):j)+1=1 from rfl]at this;rw[this,<-hlen,Â]
  have l5:=Ŗ (X:=X) (V:=V) (zs:=zs) (cs:=cs) (ss:=ss) (r:=0) (d:=((dd (p:j) (-1) X).length:j)) (R:=R) hp rfl omg_ omg_ (λu hu=>by
   have fv:jV 2 u.1 V=Á↔u.1∈C:=by rw[Ug,h2]
   cases qM:ps[p].2.2.2.2.2 with
   |true=>rw[LK,qM,j6]at fv;rw[jl,z8];intro h;simpa using fv.1 h
   |false=>rw[LK,qM,j7]at fv;exact fv.2 (jz.2 ⟨u,hu,rfl⟩)) R.length 0 (C.length:j) omg_ omg_ omg_
  have uP:cond ps[p].2.2.2.2.2 (C.length:j) ((C.length:j)-(R.length:j))=0:=by
   rw[LK];cases ps[p].2.2.2.2.2 with
   |true=>rfl
   |false=>simp
  rw[uP,show ((0:U):j)=0 from rfl]at l5;have l7:=ŗ (p:=(p:j)) (X:=X) (V:=V) (r:=0) (q:=0) omg_ omg_ (λz hz z1=>Ug.2 ((h3 _).2 ((hE _).2 ⟨z,hz,z1,rfl⟩))) X.length 0 (-1) ((dd (p:j) (-1) X).length:j) omg_ omg_ omg_;rw[show ((0:U):j)=0 from rfl,jr,Â]at l7;have gz:zs.getD ps[p].2.1.toNat (I,((0:j),([]:H aN)))=aF zs ps[p].2.1:=rfl;simp only[e1,j4,show G ps.length=(ps.length:j) from rfl,e2,e3];rw[aj (x:=x+691200),show j24 (zs,ps,cs,ss) (p:j) x (x+691200)=_ from eV];simp only[j4];rw[show j7g (zs,ps,cs,ss) (p:j) x (x+691200)=_ from eD];simp only[j4];rw[show jeo (zs,ps,cs,ss) x (x+691200)=_ from eX];simp only[j4];rw[bA (show (0:j)<=(p:j) by omega) (show (p:j)<(ps.length:j) by omega)];simp only[j6,j8,gp];rw[bA (show (0:j)<=ps[p].2.1 from mb.z0) (show ps[p].2.1<(zs.length:j) from mb.z1)];simp only[j6,gz];rw[show jaY ((aF zs ps[p].2.1).1,(aF zs ps[p].2.1).2.1,(aF zs ps[p].2.1).2.2) ps[p].2.2.1 x (x+691200)=_ from fW];simp only[j4,jk,j7,eM,show G V.length=(V.length:j) from rfl];rw[l0];simp only[j4];rw[l3];simp only[j4,kV,show G R.length=(R.length:j) from rfl];rw[l5];simp only[j4,kV,show G X.length=(X.length:j) from rfl];rw[l7];simp only[j4,kV,qs,j6,Ĥ]
 .rw[ai hl];simp only[jv,j6,Ĥ,j4]
end Go.Proofs.Pw
