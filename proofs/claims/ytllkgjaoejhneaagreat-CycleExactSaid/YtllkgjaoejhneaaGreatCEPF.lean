/- Ns UG each other. -/
import Derived.Test.YtllkgjaoejhneaaGreatCEPE
import Derived.KernelRfl
import Derived.Test.YtllkgjaoejhneaaGreatCELD
import Derived.Test.YtllkgjaoejhneaaGreatCEPD
import Derived.Test.YtllkgjaoejhneaaGreatCEPA
import Derived.Test.YtllkgjaoejhneaaGreatCEFns
open _root_ renaming Int->A,List->D,Option->H,ByteArray->J,Nat->M
open ByteArray renaming empty->B,ext->À
open Decidable renaming decide->E
open Option renaming some->F,none->S,some_or->Z
open Int renaming ofNat->G,mul_comm->W,tmod->Y
open Bool renaming true->I,false->O
noncomputable section
open Go Go.Lft
namespace Go.Proofs.Pw
section
variable{zs:D bz}{ps:D cZ}{cs:D aT}(hs:lG zs ps cs)
include hs
end
def nI(es:D cO)(p t:A):Bool:=es.any λx=>x.1==0&&(x.2.1==p&&(E (x.2.2.2.1<=t)&&E (t<x.2.2.2.2)))
theorem UH{es:D cO}{p t:A}(hl:es.length<=1000):∀(n i:M),i+n=es.length->∃r,Cn es p t (es.length:A) (i:A)=F r/\
  match r with
  |.inl k=>0<=k/\nI (es.drop i) p t=I
  |.inr _=>nI (es.drop i) p t=O
 |0,i,hi=>by
  rw[RX];simp only[j0s];rw[al aa,jd,bd,jk aa];exact⟨_,rfl,rfl⟩
 |n+1,i,hi=>by
  have ay:i<es.length:=aa;have bG:es.getD i ((0:A),((0:A),((0:A),((0:A),(0:A)))))=es[i]:=by simp[List.getD,ay]
  rw[RX];simp only[j0s,jcf];rw[ai aa,bR,au (x:=(i:A)+1)];simp only[jc,je,bG,ja];rw[jj ay];have e:(cond (cond (cond (es[i].1==(0:A)) (es[i].2.1==p) O) (E (es[i].2.2.2.1<=t)) O) (E (t<es[i].2.2.2.2)) O)=(es[i].1==0&&(es[i].2.1==p&&(E (es[i].2.2.2.1<=t)&&E (t<es[i].2.2.2.2)))):=by cases es[i].1==(0:A)<;>cases es[i].2.1==p<;>cases E (es[i].2.2.2.1<=t)<;>rfl
  rw[e];have ha:nI (es[i]::es.drop (i+1)) p t=((es[i].1==0&&(es[i].2.1==p&&(E (es[i].2.2.2.1<=t)&&E (t<es[i].2.2.2.2))))||nI (es.drop (i+1)) p t):=rfl;rw[ha];cases hx:(es[i].1==0&&(es[i].2.1==p&&(E (es[i].2.2.2.1<=t)&&E (t<es[i].2.2.2.2)))) with
  |true=>rw[jc,bd];exact⟨_,rfl,aa,rfl⟩
  |false=>rw[jd,aZ];obtain⟨r,e1,e2⟩:=UH (es:=es) (p:=p) (t:=t) hl n (i+1) aa;exact⟨r,e1,by simpa using e2⟩
theorem jwU{nm:J}{ls:D bh}{es:D cO}{p t:A}(hl:es.length<=1000):je6 (nm,(ls,es)) p t=F (nI es p t):=by
 obtain⟨r,e1,e2⟩:=UH (p:=p) (t:=t) hl es.length 0 aa;simp only[je6,j1H,j28,show G es.length=(es.length:A) from rfl];rw[show Cn es p t (es.length:A) 0=_ from e1];cases r with
 |inl k=>simp only[jw]at e2;simp only[ja,pH,e2.2];rw[ai (show k>=0 from e2.1)]
 |inr u=>simp only[jw]at e2;simp only[ja,kW,e2];rfl
def iD(good:M->Bool):M->H M
 |0=>S
 |n+1=>cond (good n) (F n) (iD good n)
def om(es:D cO)(t:A)(Pf:M->A)(i:M):Bool:=E (0<=Pf i) && !nI es (Pf i) t
theorem UI{ls:D bh}{zs:D bz}{ps:D cZ}{cs:D aT}{ss:D cL}{tbs:D (A×aW)}{nm:J}{es:D cO}{t b6 b7:A}{Pf:M->A}(hl:es.length<=1000)
  (hP:∀i (h:i<ls.length),j2p ((zs,(ps,(cs,ss))),tbs) ls[i] t=F (Pf i)):∀n:M,n<=ls.length->
  Co (n:A) ls zs ps cs ss tbs nm ls es t b6 b7=F (match iD (om es t Pf) n with|some i=> .inr ((i:A),Pf i)|none=> .inl (b6,b7))
 |0,hn=>by
  rw[RY];simp only[j2O];rw[ai aa,jc,bd];rfl
 |n+1,hn=>by
  have ay:n<ls.length:=aa;have bG:ls.getD n (B,((0:A),(((0:A),(0:A)),((0:A),((0:A),(([]:D A),(([]:D (A×A)),((0:A),(0:A)))))))))=ls[n]:=by simp[List.getD,ay]
  have ih:=UI (nm:=nm) (b6:=b6) (b7:=b7) hl hP n aa;have hp:=hP n ay;rw[RY];simp only[j2O];rw[al aa,ai (show ((n+1:M):A)<=G ls.length by simp;omega),show ((n+1:M):A)-1=(n:A) by omega];simp only[jc,jd,je,bG];rw[show j2p ((zs,(ps,(cs,ss))),tbs) (ls[n].1,(ls[n].2.1,((ls[n].2.2.1.1,ls[n].2.2.1.2),(ls[n].2.2.2.1,(ls[n].2.2.2.2.1,(ls[n].2.2.2.2.2.1,(ls[n].2.2.2.2.2.2.1,(ls[n].2.2.2.2.2.2.2.1,ls[n].2.2.2.2.2.2.2.2)))))))) t=_ from hp];simp only[ja,iD,om];by_cases h0:0<=Pf n
  .rw[al (show¬Pf n<0 by omega),ai h0];simp only[jd,jwU hl,ja,zk];cases nI es (Pf n) t with
   |true=>simp only[jl,jd,aZ];exact ih
   |false=>rfl
  .rw[ai (show Pf n<0 by omega),al h0];simp only[jc,Bool.false_and,jd,aZ];exact ih
theorem jrv{ls:D bh}{zs:D bz}{ps:D cZ}{cs:D aT}{ss:D cL}{tbs:D (A×aW)}{nm:J}{es:D cO}{t:A}{Pf:M->A}(hl:es.length<=1000)
  (hP:∀i (h:i<ls.length),j2p ((zs,(ps,(cs,ss))),tbs) ls[i] t=F (Pf i)) :
  j5X ((zs,(ps,(cs,ss))),tbs) (nm,(ls,es)) t=F (match iD (om es t Pf) ls.length with|some i=>((i:A),Pf i)|none=>((-1:A),(-1:A))):=by
 have lp:=UI (nm:=nm) (b6:=0) (b7:=0) hl hP ls.length (jz _);simp only[j5X,j1Y,ja];rw[show Co (G ls.length) ls zs ps cs ss tbs nm ls es t 0 0=_ from lp];cases iD (om es t Pf) ls.length with
 |none=>rfl
 |some i=>rfl
section
variable{zs:D bz}{ps:D cZ}{cs:D aT}{ss:D cL}
def jL(es:D cO)(t:A)(Pf:M->A)(n:M):Int:=match iD (om es t Pf) n with
 |some i=>Pf i
 |none=> -1
end
instance(L:bh):Decidable (Rt L):=
 decidable_of_iff (1<=L.2.2.1.1/\L.2.2.1.1<=100000/\0<=L.2.2.1.2/\L.2.2.1.2<=86399/\0<=L.2.2.2.1/\L.2.2.2.1<=2/\1<=L.2.2.2.2.1/\L.2.2.2.2.1<=400/\L.2.2.2.2.2.1≠[])
  ⟨λ⟨a,b,c,d,e,f,g,h,i⟩=>⟨a,b,c,d,e,f,g,h,i⟩,λ⟨a,b,c,d,e,f,g,h,i⟩=>⟨a,b,c,d,e,f,g,h,i⟩⟩
section
variable{z:bz}{l:aW}(h4:Z4 z l)
include h4
theorem UJ(L:bh):ja4 z L=F (if Rt L then 0 else 8):=by
 have hc:j5D (z.1,(z.2.1,z.2.2))=F 0:=by simp only[j5D,show j0g (z.1,(z.2.1,z.2.2))=_ from h4.1,ja]
 simp only[ja4,hc,ja,ji,jd]
 have key:(cond (cond (cond (cond (cond (cond (cond (cond (E (L.2.2.1.1<1)) I (E (L.2.2.1.1>100000))) I (E (L.2.2.1.2<0))) I (E (L.2.2.1.2>=86400))) I (E (L.2.2.2.1<0))) I (E (L.2.2.2.1>2))) I (E (L.2.2.2.2.1<1))) I (E (L.2.2.2.2.1>400))) I (G L.2.2.2.2.2.1.length==0)) = !E (Rt L):=by
  have hlen:(G L.2.2.2.2.2.1.length==0)=E (L.2.2.2.2.2.1=[]):=by
   cases L.2.2.2.2.2.1 with
   |nil=>rfl
   |cons x r=>simp;omega
  rw[hlen];rw[Bool.eq_iff_iff];simp only[qb,kg];constructor
  .intro hh h;have a1:=h.d0;have a2:=h.d1;have a3:=h.c0;have a4:=h.c1;have a5:=h.u0;have a6:=h.u1;have a7:=h.e0;have a8:=h.e1;rw[al (show¬L.2.2.1.1<1 by omega),al (show¬L.2.2.1.1>100000 by omega),al (show¬L.2.2.1.2<0 by omega),al (show¬L.2.2.1.2>=86400 by omega),al (show¬L.2.2.2.1<0 by omega),al (show¬L.2.2.2.1>2 by omega),al (show¬L.2.2.2.2.1<1 by omega),al (show¬L.2.2.2.2.1>400 by omega),al h.m0]at hh;simp at hh
  .intro hn;by_cases a1:L.2.2.1.1<1
   .rw[ai a1];rfl
   rw[al a1];by_cases a2:L.2.2.1.1>100000
   .rw[ai a2];rfl
   rw[al a2];by_cases a3:L.2.2.1.2<0
   .rw[ai a3];rfl
   rw[al a3];by_cases a4:L.2.2.1.2>=86400
   .rw[ai a4];rfl
   rw[al a4];by_cases a5:L.2.2.2.1<0
   .rw[ai a5];rfl
   rw[al a5];by_cases a6:L.2.2.2.1>2
   .rw[ai a6];rfl
   rw[al a6];by_cases a7:L.2.2.2.2.1<1
   .rw[ai a7];rfl
   rw[al a7];by_cases a8:L.2.2.2.2.1>400
   .rw[ai a8];rfl
   rw[al a8];by_cases a9:L.2.2.2.2.2.1=[]
   .rw[ai a9];rfl
   exact absurd ⟨aa,aa,aa,aa,aa,aa,aa,aa,a9⟩ hn
 rw[key];by_cases h:Rt L
 .rw[ai h,if_pos h];rfl
 .rw[al h,if_neg h];rfl
end
theorem UK{z:bz}{l:aW}(hz:Z4 z l){L:bh}(h:Rt L){t N:A}(hN:N<=8589934592):∀n:M,(n:A)<=N->
  ∃K:A,wL t ((n:A)-1) z.1 z.2.1 z.2.2 L.1 L.2.1 L.2.2.1.1 L.2.2.1.2 L.2.2.2.1 L.2.2.2.2.1 L.2.2.2.2.2.1 L.2.2.2.2.2.2.1 L.2.2.2.2.2.2.2.1 L.2.2.2.2.2.2.2.2=F K/\
   (K = -1\/0<=K/\QO z.2.1 l L t K)/\K<n/\∀j:A,K<j->0<=j->j<n->¬QO z.2.1 l L t j
 |0,_=>by
  rw[SB];simp only[j4F];rw[al aa,jd,bd];exact⟨_,rfl,.inl aa,aa,λj h1 h2 h3=>aa⟩
 |n+1,hn=>by
  obtain⟨K,e,k0,k1,k2⟩:=UK hz h (t:=t) hN n aa;obtain⟨v,hH,hv⟩:=Dn hz h (k:=(n:A)) aa aa;rw[SB,show ((n+1:M):A)-1=(n:A) by omega];simp only[j4F];rw[ai aa,jc,show j5E (z.1,(z.2.1,z.2.2)) (L.1,L.2.1,(L.2.2.1.1,L.2.2.1.2),L.2.2.2.1,L.2.2.2.2.1,L.2.2.2.2.2.1,L.2.2.2.2.2.2.1,L.2.2.2.2.2.2.2.1,L.2.2.2.2.2.2.2.2) (n:A)=_ from hH];simp only[ja];rw[au (x:=(n:A)-1)]
  have down:¬QO z.2.1 l L t (n:A)->(lpK (F (Sum.inl (t,(n:A)-1,z.1,z.2.1,z.2.2,L.1,L.2.1,L.2.2.1.1,L.2.2.1.2,L.2.2.2.1,L.2.2.2.2.1,L.2.2.2.2.2.1,L.2.2.2.2.2.2.1,L.2.2.2.2.2.2.2.1,L.2.2.2.2.2.2.2.2)):H ((A×A×J×A×D aP×J×A×A×A×A×A×D A×WL×A×A) ⊕ A)) (λh=>wL h.1 h.2.1 h.2.2.1 h.2.2.2.1 h.2.2.2.2.1 h.2.2.2.2.2.1 h.2.2.2.2.2.2.1 h.2.2.2.2.2.2.2.1 h.2.2.2.2.2.2.2.2.1 h.2.2.2.2.2.2.2.2.2.1 h.2.2.2.2.2.2.2.2.2.2.1 h.2.2.2.2.2.2.2.2.2.2.2.1 h.2.2.2.2.2.2.2.2.2.2.2.2.1 h.2.2.2.2.2.2.2.2.2.2.2.2.2.1 h.2.2.2.2.2.2.2.2.2.2.2.2.2.2))=F K/\∀j:A,K<j->0<=j->j<((n+1:M):A)->¬QO z.2.1 l L t j:=by
   intro hq;refine⟨by rw[aZ];exact e,λj h1 h2 h3=>?_⟩;by_cases tw:j<n
   .exact k2 j h1 h2 tw
   .rw[show j=(n:A) by omega];exact hq
  cases hx:hO z.2.1 l L (n:A) with
  |none=>
   simp only[zf,jd];obtain⟨d1,d2⟩:=down λ⟨y,hy,_⟩=>by rw[hx]at hy;simp at hy
   exact⟨K,d1,k0,aa,d2⟩
  |some x=>
   have:=hv x hx;subst this;simp only[qy,jc];by_cases hc:v<=t
   .rw[ai hc,jc,bd];exact⟨_,rfl,.inr ⟨aa,v,hx,hc⟩,aa,λj h1 h2 h3=>aa⟩
   .rw[al hc,jd];obtain⟨d1,d2⟩:=down λ⟨y,hy,yq⟩=>by rw[hx]at hy;simp at hy;omega
    exact⟨K,d1,k0,aa,d2⟩
theorem jyz{z:bz}{l:aW}(hz:Z4 z l){L:bh}(h:Rt L){t:A}(GK:0<=t)(ph:t<=8589934592):∃K:A,jdx z L t=F K/\sv z.2.1 l L t K:=by
 have hs:=h.step;have GJ:=h.d0;have nS:=h.d1;have qQ:=h.e0;have tF:=h.e1;have gn:=h.c0;have eg:=h.c1;simp only[jdx];by_cases h0:L.2.2.2.1=0
 .have hF:=GI hz (d:=L.2.2.1.1) (c:=L.2.2.1.2) aa gn eg;have gE:L.2.2.1.1*86400+L.2.2.1.2=dy L 0:=by unfold dy;omega
  rw[fi h0,jc,show j2V (z.1,(z.2.1,z.2.2)) (L.2.2.1.1,L.2.2.1.2)=_ from hF,gE];simp only[ja]
  have nq:(∀v,fO z.2.1 l (dy L 0)=F v->t<v)->¬QO z.2.1 l L t 0:=by
   rintro hn ⟨y,hy,yq⟩
   have:=hn y (UD h0 hy);omega
  cases hf:fO z.2.1 l (dy L 0) with
  |none=>exact⟨-1,rfl,.inl ⟨rfl,nq λv hv=>by rw[hf]at hv;simp at hv⟩⟩
  |some v=>
   have Np:=xc hz.2 hf;simp only[kv,jc];by_cases hc:v<=t
   .obtain⟨s1,s2,s3⟩:=UC (o:=z.2.1) (l:=l) h h0 ph hf hc Np.2.1;rw[ai hc,jc,au (x:=t-v),au (x:=3600*L.2.2.2.2.1),cN (show¬3600*L.2.2.2.2.1=0 by omega),qs aa,au (x:=(t-v)/(3600*L.2.2.2.2.1))];exact⟨_,rfl,s1⟩
   .rw[al hc];exact⟨-1,rfl,.inl ⟨rfl,nq λv' hv=>by rw[hf]at hv;simp at hv;omega⟩⟩
 .obtain⟨j,hj,j1,j2⟩:=Gx hz.2 GK ph;have o0:=hz.2.of0 j hj;have o1:=hz.2.of1 j hj;have eT:=Up hz (t:=t) GK ph hj j1 j2;rw[cN h0,jd,show j3b (z.1,(z.2.1,z.2.2)) t=_ from eT];simp only[ja];have Dq:∀k:A,QO z.2.1 l L t k->L.2.2.1.1+k*dx L<=(t+bL z.2.1 l j)/86400+2:=λk hq=>QO.day hz.2 h h0 hq hj;generalize Eb:(t+bL z.2.1 l j)/86400=ld at Dq;rw[au (x:=ld+2),au (x:=ld+2-L.2.2.1.1)]
  have fin:∀st:A,st=dx L->∃K:A,((wL t (w64 (Int.tdiv (if (0:A)>ld+2-L.2.2.1.1 then (0:A) else ld+2-L.2.2.1.1) st)) z.1 z.2.1 z.2.2 L.1 L.2.1 L.2.2.1.1 L.2.2.1.2 L.2.2.2.1 L.2.2.2.2.1 L.2.2.2.2.2.1 L.2.2.2.2.2.2.1 L.2.2.2.2.2.2.2.1 L.2.2.2.2.2.2.2.2).bind λq0=>F q0)=F K/\sv z.2.1 l L t K:=by
   rintro st rfl
   obtain⟨m,hm,pT,gq⟩:∃m:A,(if (0:A)>ld+2-L.2.2.1.1 then (0:A) else ld+2-L.2.2.1.1)=m/\0<=m/\m<=1000000:=⟨_,rfl,by split<;>omega,by split<;>omega⟩;have AR:ld+2-L.2.2.1.1<=m:=by rw[<-hm];split<;>omega
   rw[hm,qs pT];have q0:0<=m/dx L:=vp pT aa;have q1:m/dx L<=m:=vd _ pT;have q2:m<dx L*(m/dx L)+dx L:=Int.lt_mul_ediv_self_add aa;rw[au];generalize m/dx L=km at *;obtain⟨K,e,k0,k1,k2⟩:=UK hz h (t:=t) (Int.le_refl _) (km+1).toNat aa;rw[show (((km+1).toNat:M):A)-1=km by omega]at e;rw[e];refine⟨K,rfl,?_⟩
   have top:¬QO z.2.1 l L t (K+1):=by
    by_cases hK:K+1<=km
    .exact k2 (K+1) aa (by rcases k0 with k0|k0<;>omega) aa
    .intro hq;have hd:=Dq _ hq;have bI:K=km:=aa;rw[bI,Int.add_mul,Int.one_mul]at hd;have:dx L*km=km*dx L:=W _ _;omega
   rcases k0 with k0|k0
   .subst k0;exact .inl ⟨rfl,top⟩
   .exact .inr ⟨k0.1,k0.2,top⟩
  by_cases h2:L.2.2.2.1=2
  .have xe:dx L=7*L.2.2.2.2.1:=by unfold dx;rw[if_pos h2]
   rw[fi h2,jc,au (x:=L.2.2.2.2.1*7),cN (show¬L.2.2.2.2.1*7=0 by omega)];simp only[jo,jc];exact fin _ (by rw[xe,W])
  .have xe:dx L=L.2.2.2.2.1:=by unfold dx;rw[if_neg h2]
   rw[cN h2,jd,cN (show¬L.2.2.2.2.1=0 by omega)];simp only[jo,jc];exact fin _ xe.symm
abbrev Dr:=A×(A×A)
abbrev fU:=D Dr
def Ch(f:A->A)(b:A):A->fU->Prop
 |a,[]=>a=b
 |a,s::r=>s.1=a/\a<=s.2.1/\(∀t,a<=t->t<s.2.1->f t=s.2.2)/\Ch f b s.2.1 r
def iE(f:A->A)(b:A):H A->A->fU->Prop
 |_,a,[]=>a=b
 |q,a,s::r=>s.1=a/\a<s.2.1/\q≠F s.2.2/\(∀t,a<=t->t<s.2.1->f t=s.2.2)/\iE f b (F s.2.2) s.2.1 r
theorem Ch.le{f:A->A}{b:A}:∀{l:fU}{a:A},Ch f b a l->a<=b
 |[],_,h=>Int.le_of_eq h
 |_::_,_,h=>Int.le_trans h.2.1 h.2.2.2.le
theorem Ch.app{f:A->A}{b c:A}:∀{l r:fU}{a:A},Ch f b a l->Ch f c b r->Ch f c a (l++r)
 |[],_,_,h,h'=>by have h:_=_:=h;subst h;exact h'
 |_::_,_,_,h,h'=>⟨h.1,h.2.1,h.2.2.1,h.2.2.2.app h'⟩
theorem Ch.snoc{f:A->A}{b c p:A}{l:fU}{a:A}(h:Ch f b a l)(uu:b<=c)(hp:∀t,b<=t->t<c->f t=p):Ch f c a (l++[(b,(c,p))]):=
 h.app ⟨rfl,uu,hp,rfl⟩
theorem iE.ch{f:A->A}{b:A}:∀{l:fU}{q:H A}{a:A},iE f b q a l->Ch f b a l
 |[],_,_,h=>h
 |_::_,_,_,h=>⟨h.1,Int.le_of_lt h.2.1,h.2.2.2.1,h.2.2.2.2.ch⟩
theorem iE.uniq{f:A->A}{b:A}:∀{l l':fU}{q:H A}{a:A},iE f b q a l->iE f b q a l'->l=l'
 |[],[],_,_,_,_=>rfl
 |[],_::_,_,_,h,h'=>by have:=h'.2.1;have:=h'.2.2.2.2.ch.le;have h:_=_:=h;omega
 |_::_,[],_,_,h,h'=>by have:=h.2.1;have:=h.2.2.2.2.ch.le;have h':_=_:=h';omega
 |s::r,s'::r',q,a,h,h'=>by
  obtain⟨h1,h2,h3,h4,h5⟩:=h;obtain⟨g1,g2,g3,g4,g5⟩:=h';have hp:s.2.2=s'.2.2:=by rw[<-h4 a aa h2,<-g4 a aa g2]
  have ht:s.2.1=s'.2.1:=by
   apply zg;intro br;by_cases ay:s.2.1<s'.2.1
   .match r,h5 with
    |[],h5=>have:=g5.ch.le;have h5:_=_:=h5;omega
    |u::v,h5=>have e1:=h5.2.2.2.1 s.2.1 aa h5.2.1;have e2:=g4 s.2.1 aa ay;exact h5.2.2.1 (by rw[<-e1,e2,hp])
   .match r',g5 with
    |[],g5=>have:=h5.ch.le;have g5:_=_:=g5;omega
    |u::v,g5=>have e1:=g5.2.2.2.1 s'.2.1 aa g5.2.1;have e2:=h4 s'.2.1 aa aa;exact g5.2.2.1 (by rw[<-e1,e2,hp])
  have hs:s=s':=Prod.ext (by rw[h1,g1]) (Prod.ext ht hp);subst hs;rw[h5.uniq g5]
def lstP:H A->fU->H A
 |q,[]=>q
 |_,s::r=>lstP (F s.2.2) r
theorem UL:∀(l:fU)(q:H A)(s:Dr),lstP q (l++[s])=F s.2.2
 |[],_,_=>rfl
 |_::r,_,s=>UL r _ s
theorem iE.snoc{f:A->A}{b c p:A}:∀{l:fU}{q:H A}{a:A},iE f b q a l->b<c->lstP q l≠F p->(∀t,b<=t->t<c->f t=p)->iE f c q a (l++[(b,(c,p))])
 |[],_,_,h,uu,hl,hp=>by have h:_=_:=h;subst h;exact⟨rfl,uu,hl,hp,rfl⟩
 |_::_,_,_,h,uu,hl,hp=>⟨h.1,h.2.1,h.2.2.1,h.2.2.2.1,h.2.2.2.2.snoc uu hl hp⟩
theorem iE.ext{f:A->A}{b c x p:A}:∀{l:fU}{q:H A}{a:A},iE f b q a (l++[(x,(b,p))])->b<=c->(∀t,b<=t->t<c->f t=p)->iE f c q a (l++[(x,(c,p))])
 |[],_,_,h,uu,hp=>⟨h.1,by have:=h.2.1;dsimp only at this ⊢;omega,h.2.2.1,λt h1 h2=>by
  by_cases ht:t<b
  .exact h.2.2.2.1 t h1 ht
  .exact hp t aa h2,rfl⟩
 |_::_,_,_,h,uu,hp=>⟨h.1,h.2.1,h.2.2.1,h.2.2.2.1,h.2.2.2.2.ext uu hp⟩
def GM(out:fU)(s:Dr):fU:=
 if s.2.1<=s.1 then out else match out.getLast? with
  |some x=>if x.2.1=s.1/\x.2.2=s.2.2 then out.dropLast++[(x.1,(s.2.1,x.2.2))] else out++[s]
  |none=>out++[s]
theorem jxY{f:A->A}{a b:A}{out:fU}(h:iE f b S a out){s:Dr}(h1:s.1=b)(h2:b<=s.2.1)(h3:∀t,b<=t->t<s.2.1->f t=s.2.2):iE f s.2.1 S a (GM out s):=by
 obtain⟨x,y,p⟩:=s;dsimp only at h1 h2 h3 ⊢;subst h1;unfold GM;dsimp only;by_cases BZ:y<=x
 .rw[if_pos BZ];have:y=x:=aa;subst this;exact h
 .rw[if_neg BZ];rcases List.eq_nil_or_concat out with rfl|⟨l,u,rfl⟩
  .exact h.snoc aa (by simp[lstP]) h3
  .rw[List.concat_eq_append]at h ⊢;rw[List.getLast?_append];simp only[List.getLast?_singleton,Z];by_cases hu:u.2.1=x/\u.2.2=p
   .rw[if_pos hu,List.dropLast_concat];obtain⟨u1,u2,u3⟩:=u;dsimp only at hu ⊢;obtain⟨rfl,rfl⟩:=hu;exact h.ext h2 h3
   .rw[if_neg hu];refine h.snoc aa ?_ h3;rw[UL];intro e;have hp:u.2.2=p:=by simpa using e
    refine hu ⟨?_,hp⟩
    have:∀(l:fU)(q:H A)(a:A),iE f x q a (l++[u])->u.2.1=x:=by
     intro l;induction l with
     |nil=>intro q a h;exact h.2.2.2.2
     |cons v r ih=>intro q a h;exact ih _ _ h.2.2.2.2
    exact this l _ _ h
theorem UM{f:A->A}{b:A}:∀(l:fU){a c:A}{out:fU},iE f c S a out->Ch f b c l->iE f b S a (l.foldl GM out)
 |[],_,_,_,h,h'=>by have h':_=_:=h';subst h';exact h
 |s::r,_,_,_,h,h'=>UM r (jxY h h'.1 h'.2.1 h'.2.2.1) h'.2.2.2
theorem Ch.cov{f:A->A}{a b:A}{l:fU}(h:Ch f b a l):iE f b S a (l.foldl GM []):=UM l (show iE f a S a [] from rfl) h
theorem Ch.mem{f:A->A}{b:A}:∀{l:fU}{a:A},Ch f b a l->∀s∈l,a<=s.1/\s.1<=s.2.1/\s.2.1<=b/\∀t,s.1<=t->t<s.2.1->f t=s.2.2
 |[],_,_,s,hs=>by simp at hs
 |u::r,a,h,s,hs=>by
  obtain⟨h1,h2,h3,h4⟩:=h;rcases jm.1 hs with rfl|hs
  .exact⟨aa,aa,h4.le,λt t1 t2=>h3 t aa t2⟩
  .have:=h4.mem s hs;exact⟨aa,this.2.1,this.2.2.1,this.2.2.2⟩
theorem Ch.has{f:A->A}{b:A}:∀{l:fU}{a:A},Ch f b a l->∀x,a<=x->x<b->∃s∈l,s.1<=x/\x<s.2.1
 |[],_,h,x,h1,h2=>by have h:_=_:=h;omega
 |u::r,a,h,x,h1,h2=>by
  obtain⟨g1,g2,g3,g4⟩:=h;by_cases hx:x<u.2.1
  .exact⟨u,af,aa,hx⟩
  .obtain⟨s,hs,e⟩:=g4.has x aa h2;exact⟨s,by simp[hs],e⟩
theorem Ch.congr{f g:A->A}{b:A}:∀{l:fU}{a:A},Ch f b a l->(∀t,a<=t->t<b->f t=g t)->Ch g b a l
 |[],_,h,_=>h
 |u::r,a,h,hg=>by
  obtain⟨g1,g2,g3,g4⟩:=h;have:=g4.le;exact⟨g1,g2,λt t1 t2=>by rw[<-hg t t1 aa];exact g3 t t1 t2,g4.congr (λt t1 t2=>hg t aa t2)⟩
theorem iE.pos{f:A->A}{b:A}:∀{l:fU}{q:H A}{a:A},iE f b q a l->∀s∈l,s.1<s.2.1
 |[],_,_,_,s,hs=>by simp at hs
 |u::r,_,a,h,s,hs=>by
  rcases jm.1 hs with rfl|hs
  .have:=h.1;have:=h.2.1;omega
  .exact h.2.2.2.2.pos s hs
section
variable{zs:D bz}{ps:D cZ}{cs:D aT}(hs:lG zs ps cs)
include hs
omit hs in
def aX(zs:D bz)(i:A):bz:=zs.getD i.toNat (B,((0:A),([]:D aP)))
omit hs in
def nJ(cs:D aT)(i:A):aT:=cs.getD i.toNat (B,((0:A),([]:D A)))
omit hs in
def eB(z:bz)(t:A):A×Int:=(j0u (tb z) t).getD (0,0)
omit hs in
def jM(d:A×A):Int:=(j3n d).getD 0
omit hs in
def gI(z:bz)(L:bh)(t:A):Int:=(j3m (tb z) L t).getD (-1)
omit hs in
def lg(zs:D bz)(cs:D aT)(L:bh)(t:A):Bool:=
 cond (L.2.2.2.2.2.2.2.2==0) I (E ((eB (aX zs (nJ cs L.2.2.2.2.2.2.2.1).2.1) t).1∈(nJ cs L.2.2.2.2.2.2.2.1).2.2)==(L.2.2.2.2.2.2.2.2==(2:A)))
omit hs in
def mw(zs:D bz)(cs:D aT)(L:bh)(t:A):Bool:=
 cond (E (0<=gI (aX zs L.2.1) L t)) (cond (okW L.2.2.2.2.2.2.1 (jM (eB (aX zs L.2.1) t))) (lg zs cs L t) O) O
omit hs in
def iF(zs:D bz)(cs:D aT)(L:bh)(t:A):Int:=cond (mw zs cs L t) (xg L (gI (aX zs L.2.1) L t)) (-1)
omit hs in
theorem Nt{z:bz}(hz:fA z){t:A}(h0:0<=t)(h1:t<=8589934592):j0u (tb z) t=F (eB z t)/\j3n (eB z t)=F (jM (eB z t)):=by
 obtain⟨d,s,hd,fN⟩:=jxW hz h0 h1;have:eB z t=d:=by simp[eB,hd]
 rw[this];exact⟨hd,by simp[jM,fN]⟩
omit hs in
theorem UN{z:bz}(hz:fA z){L:bh}(hR:Rt L){t:A}(h0:0<=t)(h1:t<=8589934592):j3m (tb z) L t=F (gI z L t)/\sv z.2.1 (tb z).2 L t (gI z L t):=by
 obtain⟨K,e,hK⟩:=jyx hz.ztab.2 hR h0 h1;have:gI z L t=K:=by simp only[gI,show j3m (tb z) L t=_ from e,qf]
 rw[this];exact⟨e,hK⟩
omit hs in
theorem jyA{L:bh}{t:A}(h:mw zs cs L t=I):0<=gI (aX zs L.2.1) L t:=by
 by_cases hk:0<=gI (aX zs L.2.1) L t
 .exact hk
 .unfold mw at h;rw[al hk]at h;simp at h
theorem jyB{L:bh}(hL:ig zs.length ps.length cs.length L){ss:D cL}{t:A}(h0:0<=t)(h1:t<=8589934592) :
  (∃r,j5x ((zs,(ps,(cs,ss))),zs.map tb) L t=F (r,mw zs cs L t))/\j2p ((zs,(ps,(cs,ss))),zs.map tb) L t=F (iF zs cs L t)/\(mw zs cs L t=I->0<=gI (aX zs L.2.1) L t):=by
 have lH:=hL.rt2;have hz:=gZ hs.ok hL.z0 hL.z1;obtain⟨hd,fN⟩:=Nt hz h0 h1;obtain⟨eK,hK⟩:=UN hz lH h0 h1
 have uv:mw zs cs L t=I->0<=gI (aX zs L.2.1) L t:=λh=>by
  by_cases hk:0<=gI (aX zs L.2.1) L t
  .exact hk
  .unfold mw at h;rw[al hk]at h;simp at h
 obtain⟨r,er,hr⟩:=jxV (ps:=ps) (ss:=ss) hs.ok hL lH h0 h1 rfl hd fN eK (lg zs cs L t) (λh=>by unfold lg;rw[fi h];rfl) (λh=>⟨_,rfl,mu hs (hL.cal h).1 (hL.cal h).2,_,(Nt (gZ hs.ok (mu hs (hL.cal h).1 (hL.cal h).2).z0 (mu hs (hL.cal h).1 (hL.cal h).2).z1) h0 h1).1,by
  unfold lg;rw[cN h];rfl⟩)
 exact⟨⟨r,er⟩,jv8 hL.m0 er hr uv,uv⟩
end
section
variable{zs:D bz}{ps:D cZ}{cs:D aT}(hs:lG zs ps cs)
include hs
end
section
variable{zs:D bz}{ps:D cZ}{cs:D aT}(hs:lG zs ps cs)
include hs
end
theorem UO{x y:J}(h:x≠y):(x.toList==y.toList)=false:=by
 rw[ByteArray.toList_eq,ByteArray.toList_eq];exact qc.2 λhh=>h (À (Array.toList_inj.mp (eq_of_beq hh)))
theorem Nu:j8e=F 98980:=by kernel_rfl
section
variable{zs:D bz}{ps:D cZ}{cs:D aT}{ss:D cL}
theorem UP{w:WL}(h:jV 0 w)(hl:w.length<=14):∀(n i:M),i+n=w.length->yK w (i:A)=F (.inr ())
 |0,i,hi=>by
  rw[FG];simp only[j2E,show G w.length=(w.length:A) from rfl];rw[al aa,jd,bd]
 |n+1,i,hi=>by
  have cH:i<w.length:=aa;have hg:=T1 h i cH;have ih:=UP h hl n (i+1) aa;rw[FG];simp only[j2E,show G w.length=(w.length:A) from rfl];rw[ai aa,bR];simp only[jc,je];rw[al (show¬(w.getD i (0,0)).1<0 by omega),al (show¬(w.getD i (0,0)).1>=(w.getD i (0,0)).2 by omega),al (show¬(w.getD i (0,0)).2>604800 by omega),au (x:=(i:A)+1)];simp only[jd];by_cases h0:(i:A)>0
  .obtain⟨k,rfl⟩:∃k,i=k+1:=⟨i-1,aa⟩;have hgap:=T2 h k aa;rw[ai h0,jc,au (x:=((k+1:M):A)-1),show ((k+1:M):A)-1=(k:A) by omega,cG (show (0:A)<=(k:A) by omega) aa];simp only[jc,je];rw[al (show¬(w.getD (k+1) (0,0)).1<(w.getD k (0,0)).2 by omega),jd,aZ];exact ih
  .rw[al h0,jd,aZ];exact ih
theorem Nv{w:WL}(h:jV 0 w)(hl:w.length<=14):j7x w=F 0:=by
 simp only[j7x,show G w.length=(w.length:A) from rfl];rw[al aa,jd,show yK w 0=_ from UP h hl w.length 0 aa];rfl
end
theorem Nw{w:WL}(hl:w.length<=14)(s:A):∀(n i:M),i+n=w.length->Cx w s (i:A)=F (cond (hasB s (w.drop i)) (.inl I) (.inr ()))
 |0,i,hi=>by
  rw[SC];simp only[j4a,show G w.length=(w.length:A) from rfl];rw[al aa,jd,bd,jk aa];rfl
 |n+1,i,hi=>by
  have cH:i<w.length:=aa;have bG:w.getD i ((0:A),(0:A))=w[i]:=by simp[List.getD,cH]
  rw[SC];simp only[j4a,show G w.length=(w.length:A) from rfl];rw[ai aa,bR];simp only[jc,zj,je,bG];rw[au (x:=(i:A)+1),jj cH];have hb:hasB s (w[i]::w.drop (i+1))=cond (cond (E (w[i].1<=s)) (E (s<w[i].2)) O) I (hasB s (w.drop (i+1))):=rfl;rw[hb];by_cases h1:w[i].1<=s
  .rw[ai (show s>=w[i].1 from h1)];simp only[jc];by_cases h2:s<w[i].2
   .rw[ai h2];rfl
   .rw[al h2];simp only[jd,aZ];exact Nw hl s n (i+1) aa
  .rw[al (show¬s>=w[i].1 from h1)];simp only[jd,aZ];exact Nw hl s n (i+1) aa
theorem jtO{w:WL}(hl:w.length<=14)(s:A):jef w s=F (hasB s w):=by
 have:=Nw hl s w.length 0 aa;simp only[jef,show Cx w s 0=_ from this,ja,jw];cases hasB s w<;>rfl
theorem UQ{z:bz}(hz:fA z){t:A}(h0:0<=t)(h1:t<=8589934592):j3b z t=F (eB z t,0):=by
 have h4:=hz.zref.2.1;obtain⟨k,hk,k1,k2⟩:=Gx h4.2 h0 h1;have e:=MN h4.2 hk k1 k2;have:eB z t=((t+bL z.2.1 (tb z).2 k)/86400,(t+bL z.2.1 (tb z).2 k)%86400):=by simp only[eB,show j0u (tb z) t=_ from e,qf]
 rw[this];exact Up h4 h0 h1 hk k1 k2
theorem jy0{z:bz}(hz:fA z){t:A}(h0:0<=t)(h1:t<=8589934592){w:WL}(hw:jV 0 w)(hl:w.length<=14):j9M z t=F (jM (eB z t),0)/\jnd z w t=F (hasB (jM (eB z t)) w):=by
 have e1:=UQ hz h0 h1;obtain⟨_,fN⟩:=Nt hz h0 h1;have e2:jee (eB z t)=F (jM (eB z t)):=fN;have e3:j9M z t=F (jM (eB z t),0):=by simp only[j9M,show j3b (z.1,(z.2.1,z.2.2)) t=_ from e1,ja,ji,jd,show jee ((eB z t).1,(eB z t).2)=_ from e2]
 refine⟨e3,?_⟩;simp only[jnd,show j9M (z.1,(z.2.1,z.2.2)) t=_ from e3,ja,kv,jc,Nv hw hl,jtO hl]
section
variable{zs:D bz}{ps:D cZ}{cs:D aT}(hs:lG zs ps cs)
include hs
theorem Nx{k d e:A}{x:aT}(hx:oh zs.length x){L:bh}:∀(n i:M)(b:Bool),i+n=x.2.2.length->b=E (d∈x.2.2.take i)->
  wM k b (i:A) L.1 L.2.1 L.2.2.1.1 L.2.2.1.2 L.2.2.2.1 L.2.2.2.2.1 L.2.2.2.2.2.1 L.2.2.2.2.2.2.1 L.2.2.2.2.2.2.2.1 L.2.2.2.2.2.2.2.2 x.1 x.2.1 x.2.2 d e=
   F (k,E (d∈x.2.2),L.1,L.2.1,L.2.2.1.1,L.2.2.1.2,L.2.2.2.1,L.2.2.2.2.1,L.2.2.2.2.2.1,L.2.2.2.2.2.2.1,L.2.2.2.2.2.2.2.1,L.2.2.2.2.2.2.2.2)
 |0,i,b,hi,hb=>by
  rw[SD];simp only[j59,show G x.2.2.length=(x.2.2.length:A) from rfl];rw[al aa,jd,bd,hb,List.take_of_length_le aa]
 |n+1,i,b,hi,hb=>by
  have _:=hs;have nX:=hx.len;have cH:i<x.2.2.length:=aa;have bG:x.2.2.getD i (0:A)=x.2.2[i]:=by simp[cH]
  rw[SD];simp only[j59,show G x.2.2.length=(x.2.2.length:A) from rfl];rw[ai aa,au (x:=(i:A)+1),jc];have ht:x.2.2.take (i+1)=x.2.2.take i++[x.2.2[i]]:=by rw[List.take_add_one,ka cH];rfl
  cases BB:b with
  |true=>simp only[jc,aZ];refine Nx hx n (i+1) I aa ?_;have:d∈x.2.2.take i:=ky (by rw[<-hb,BB]);rw[ht];exact(ai (kj _ this)).symm
  |false=>
   have bO:d∉x.2.2.take i:=of_decide_eq_false (by rw[<-hb,BB]);rw[cG (show (0:A)<=(i:A) by omega) aa];simp only[jd,jc,je,bG,aZ];refine Nx hx n (i+1) _ aa ?_;rw[ht];by_cases he:x.2.2[i]=d
   .rw[fi he];exact(ai (kq _ (by simp[he]))).symm
   .rw[cN he];refine(al λhm=>?_).symm;rcases jx.1 hm with h|h
    .exact bO h
    .simp at h;exact he h.symm
theorem jwX{L:bh}(hL:ig zs.length ps.length cs.length L){ss:D cL}{t:A}(h0:0<=t)(h1:t<=8589934592):∃k,jg3 (zs,(ps,(cs,ss))) L t=F (k,mw zs cs L t)/\(mw zs cs L t=I->k=gI (aX zs L.2.1) L t):=by
 have lH:=hL.rt2;have hz:fA (aX zs L.2.1):=gZ hs.ok hL.z0 hL.z1;have h4:=hz.zref.2.1;obtain⟨K,eK,hK⟩:=jyz h4 lH h0 h1;have hKs:K=gI (aX zs L.2.1) L t:=sv.uniq h4.2 lH hK (UN hz lH h0 h1).2;subst hKs;have ek:jdy (aX zs L.2.1) L t=F (gI (aX zs L.2.1) L t,0):=by simp only[jdy,show ja4 ((aX zs L.2.1).1,((aX zs L.2.1).2.1,(aX zs L.2.1).2.2)) (L.1,L.2.1,(L.2.2.1.1,L.2.2.1.2),L.2.2.2.1,L.2.2.2.2.1,L.2.2.2.2.2.1,L.2.2.2.2.2.2.1,L.2.2.2.2.2.2.2.1,L.2.2.2.2.2.2.2.2)=_ from UJ h4 L,ja];rw[if_pos lH,al (show¬t<0 by omega),al (show¬t>8589934592 by omega)];simp only[ji,jd];rw[show jdx ((aX zs L.2.1).1,((aX zs L.2.1).2.1,(aX zs L.2.1).2.2)) (L.1,L.2.1,(L.2.2.1.1,L.2.2.1.2),L.2.2.2.1,L.2.2.2.2.1,L.2.2.2.2.2.1,L.2.2.2.2.2.2.1,L.2.2.2.2.2.2.2.1,L.2.2.2.2.2.2.2.2) t=_ from eK];rfl
 obtain⟨_,ein⟩:=jy0 hz h0 h1 hL.w hL.wl
 have uw:(cond (L.2.2.2.2.2.2.2.2==(0:A)) (F (gI (aX zs L.2.1) L t,I)) (cond (inR L.2.2.2.2.2.2.2.1 cs.length) (cond (inR (cs.getD L.2.2.2.2.2.2.2.1.toNat (B,((0:A),([]:D A)))).2.1 zs.length)
   ((
    j3b ((zs.getD (cs.getD L.2.2.2.2.2.2.2.1.toNat (B,((0:A),([]:D A)))).2.1.toNat (B,((0:A),([]:D aP)))).1,((zs.getD (cs.getD L.2.2.2.2.2.2.2.1.toNat (B,((0:A),([]:D A)))).2.1.toNat (B,((0:A),([]:D aP)))).2.1,(zs.getD (cs.getD L.2.2.2.2.2.2.2.1.toNat (B,((0:A),([]:D A)))).2.1.toNat (B,((0:A),([]:D aP)))).2.2)) t).bind λUR=>
    (wM (gI (aX zs L.2.1) L t) O 0 L.1 L.2.1 L.2.2.1.1 L.2.2.1.2 L.2.2.2.1 L.2.2.2.2.1 L.2.2.2.2.2.1 L.2.2.2.2.2.2.1 L.2.2.2.2.2.2.2.1 L.2.2.2.2.2.2.2.2 (cs.getD L.2.2.2.2.2.2.2.1.toNat (B,((0:A),([]:D A)))).1 (cs.getD L.2.2.2.2.2.2.2.1.toNat (B,((0:A),([]:D A)))).2.1 (cs.getD L.2.2.2.2.2.2.2.1.toNat (B,((0:A),([]:D A)))).2.2 UR.1.1 UR.1.2).bind λq0=>
     F (q0.1,(q0.2.1==(q0.2.2.2.2.2.2.2.2.2.2.2==(2:A))))) S) S))=F (gI (aX zs L.2.1) L t,lg zs cs L t):=by
  by_cases hm:L.2.2.2.2.2.2.2.2=0
  .rw[fi hm,jc];unfold lg;rw[fi hm];rfl
  .have cV:=hL.cal hm;have hx:=mu hs cV.1 cV.2;have mb:=gZ hs.ok hx.z0 hx.z1;rw[cN hm,jd,cG cV.1 cV.2,cG hx.z0 hx.z1];simp only[jc];rw[show j3b ((zs.getD (cs.getD L.2.2.2.2.2.2.2.1.toNat (B,((0:A),([]:D A)))).2.1.toNat (B,((0:A),([]:D aP)))).1,((zs.getD (cs.getD L.2.2.2.2.2.2.2.1.toNat (B,((0:A),([]:D A)))).2.1.toNat (B,((0:A),([]:D aP)))).2.1,(zs.getD (cs.getD L.2.2.2.2.2.2.2.1.toNat (B,((0:A),([]:D A)))).2.1.toNat (B,((0:A),([]:D aP)))).2.2)) t=_ from UQ mb h0 h1];simp only[ja];rw[show wM (gI (aX zs L.2.1) L t) O 0 L.1 L.2.1 L.2.2.1.1 L.2.2.1.2 L.2.2.2.1 L.2.2.2.2.1 L.2.2.2.2.2.1 L.2.2.2.2.2.2.1 L.2.2.2.2.2.2.2.1 L.2.2.2.2.2.2.2.2 (cs.getD L.2.2.2.2.2.2.2.1.toNat (B,((0:A),([]:D A)))).1 (cs.getD L.2.2.2.2.2.2.2.1.toNat (B,((0:A),([]:D A)))).2.1 (cs.getD L.2.2.2.2.2.2.2.1.toNat (B,((0:A),([]:D A)))).2.2 _ _=_ from Nx hs hx (L:=L) (cs.getD L.2.2.2.2.2.2.2.1.toNat (B,((0:A),([]:D A)))).2.2.length 0 O aa af];unfold lg;rw[cN hm];rfl
 simp only[jg3];rw[cG hL.z0 hL.z1];simp only[jc];rw[show jdy ((zs.getD L.2.1.toNat (B,((0:A),([]:D aP)))).1,((zs.getD L.2.1.toNat (B,((0:A),([]:D aP)))).2.1,(zs.getD L.2.1.toNat (B,((0:A),([]:D aP)))).2.2)) (L.1,L.2.1,(L.2.2.1.1,L.2.2.1.2),L.2.2.2.1,L.2.2.2.2.1,L.2.2.2.2.2.1,L.2.2.2.2.2.2.1,L.2.2.2.2.2.2.2.1,L.2.2.2.2.2.2.2.2) t=_ from ek];simp only[ja,ji,jd];by_cases hk:0<=gI (aX zs L.2.1) L t
 .rw[al (show¬gI (aX zs L.2.1) L t<0 by omega)];simp only[jd,show G L.2.2.2.2.2.2.1.length=(L.2.2.2.2.2.2.1.length:A) from rfl];have uv:mw zs cs L t=cond (okW L.2.2.2.2.2.2.1 (jM (eB (aX zs L.2.1) t))) (lg zs cs L t) false:=by unfold mw;rw[ai hk];rfl
  rw[uv];by_cases hw:(L.2.2.2.2.2.2.1.length:A)>0
  .rw[ai hw,jc,show jnd ((zs.getD L.2.1.toNat (B,((0:A),([]:D aP)))).1,((zs.getD L.2.1.toNat (B,((0:A),([]:D aP)))).2.1,(zs.getD L.2.1.toNat (B,((0:A),([]:D aP)))).2.2)) L.2.2.2.2.2.2.1 t=_ from ein];simp only[ja];unfold okW;rw[ai hw,jc];cases hasB (jM (eB (aX zs L.2.1) t)) L.2.2.2.2.2.2.1 with
   |false=>exact⟨0,rfl,λh=>by simp at h⟩
   |true=>simp only[jl,jd,jc];exact⟨_,uw,λ_=>rfl⟩
  .rw[al hw,jd];unfold okW;rw[al hw];simp only[jd,jc];exact⟨_,uw,λ_=>rfl⟩
 .rw[ai (show gI (aX zs L.2.1) L t<0 by omega)];have uv:mw zs cs L t=false:=by unfold mw;rw[al hk];rfl
  rw[uv];simp only[jc,jl,jo,vw];exact⟨0,rfl,λh=>by simp at h⟩
theorem jv9{L:bh}(hL:ig zs.length ps.length cs.length L){ss:D cL}{t:A}(h0:0<=t)(h1:t<=8589934592):jiY (zs,(ps,(cs,ss))) L t=F (iF zs cs L t):=by
 obtain⟨k,e,hk⟩:=jwX hs hL (ss:=ss) h0 h1;have uv:mw zs cs L t=I->0<=gI (aX zs L.2.1) L t:=jyA;simp only[jiY];rw[show jg3 (zs,ps,cs,ss) (L.1,L.2.1,(L.2.2.1.1,L.2.2.1.2),L.2.2.2.1,L.2.2.2.2.1,L.2.2.2.2.2.1,L.2.2.2.2.2.2.1,L.2.2.2.2.2.2.2.1,L.2.2.2.2.2.2.2.2) t=_ from e];simp only[ja,show G L.2.2.2.2.2.1.length=(L.2.2.2.2.2.1.length:A) from rfl];unfold iF;cases hc:mw zs cs L t with
 |false=>rfl
 |true=>have pT:=hL.m0;have vI:=uv hc;have:=hk hc;subst this;have q1:0<=Y (gI (aX zs L.2.1) L t) (L.2.2.2.2.2.1.length:A):=Int.tmod_nonneg _ vI;have q2:Y (gI (aX zs L.2.1) L t) (L.2.2.2.2.2.1.length:A)<(L.2.2.2.2.2.1.length:A):=vk _ aa;rw[cN (show¬(L.2.2.2.2.2.1.length:A)=0 by omega),cG q1 q2];rfl
end
section
variable{z:bz}{l:aW}(h4:Z4 z l)
include h4
end
section
variable{zs:D bz}{ps:D cZ}{cs:D aT}{ss:D cL}
end
end Go.Proofs.Pw
