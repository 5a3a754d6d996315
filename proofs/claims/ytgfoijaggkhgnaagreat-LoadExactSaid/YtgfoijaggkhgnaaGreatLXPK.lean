/- The references of tX 11 to 14: Tv is on tQ, Tv is on call. -/
import Derived.Test.YtgfoijaggkhgnaaGreatLXPJ
import Derived.Test.YtgfoijaggkhgnaaGreatLXPH
import Derived.Test.YtgfoijaggkhgnaaGreatLXPG
import Derived.Test.YtgfoijaggkhgnaaGreatLXPI
open _root_ renaming Int->o,List->E,Nat->N,ByteArray->O
open ByteArray renaming empty->D
open Int renaming ofNat->F,tmod->X
open Option renaming some->G
open List renaming getD->H,length->R
open Bool renaming false->I,true->J
noncomputable section
open Go Go.Lft
namespace Go.Proofs.Pw
theorem TZ{w:WL}(hl:w.length<=14)(s:o):∀(n i:N),i+n=w.length->GD w s (i:o)=G (cond (hasB s (w.drop i)) (.inl J) (.inr ()))
 |0,i,hi=>by
  rw[Z5];simp only[j5f,show F w.length=(w.length:o) from rfl];rw[aj aa,j7,aS,jc aa];rfl
 |n+1,i,hi=>by
  have br:i<w.length:=aa;have aR:w.getD i ((0:o),(0:o))=w[i]:=by simp[H,br]
  rw[Z5];simp only[j5f,show F w.length=(w.length:o) from rfl];rw[ah aa,bD];simp only[j6,zd,j8,aR];rw[al (x:=(i:o)+1),jb br];have hb:hasB s (w[i]::w.drop (i+1))=cond (cond (decide (w[i].1<=s)) (decide (s<w[i].2)) I) J (hasB s (w.drop (i+1))):=rfl;rw[hb];by_cases h1:w[i].1<=s
  .rw[ah (show s>=w[i].1 from h1)];simp only[j6];by_cases h2:s<w[i].2
   .rw[ah h2];rfl
   .rw[aj h2];simp only[j7,aH];exact TZ hl s n (i+1) aa
  .rw[aj (show¬s>=w[i].1 from h1)];simp only[j7,aH];exact TZ hl s n (i+1) aa
theorem jBi{w:WL}(hl:w.length<=14)(s:o):jiJ w s=G (hasB s w):=by
 have:=TZ hl s w.length 0 aa;simp only[jiJ,show GD w s 0=_ from this,j4,jm];cases hasB s w<;>rfl
theorem ϻ{z:bF}(hz:gx z){t:o}(h0:0<=t)(h1:t<=8589934592):j3Q z t=G (cL z t,0):=by
 have h4:=hz.zref.2.1;obtain⟨k,hk,k1,k2⟩:=pX h4.2 h0 h1;have e:=Da h4.2 hk k1 k2;have:cL z t=((t+bk z.2.1 (tb z).2 k)/86400,(t+bk z.2.1 (tb z).2 k)%86400):=by simp only[cL,show j1y (tb z) t=_ from e,v7]
 rw[this];exact Ε h4 h0 h1 hk k1 k2
theorem jHl{z:bF}(hz:gx z){t:o}(h0:0<=t)(h1:t<=8589934592){w:WL}(hw:eN 0 w)(hl:w.length<=14):jcY z t=G (fi (cL z t),0)/\jta z w t=G (hasB (fi (cL z t)) w):=by
 have e1:=ϻ hz h0 h1;obtain⟨_,lR⟩:=TL hz h0 h1;have e2:j8c (cL z t)=G (fi (cL z t)):=lR;have e3:jcY z t=G (fi (cL z t),0):=by simp only[jcY,show j3Q (z.1,(z.2.1,z.2.2)) t=_ from e1,j4,jh,j7,show j8c ((cL z t).1,(cL z t).2)=_ from e2]
 refine⟨e3,?_⟩;simp only[jta,show jcY (z.1,(z.2.1,z.2.2)) t=_ from e3,j4,kq,j6,tW hw hl,jBi hl]
section
variable{zs:E bF}{ps:E cR}{cs:E aV}(hs:db zs ps cs)
include hs
theorem T0{k d e:o}{x:aV}(hx:ra zs.length x){L:bZ}:∀(n i:N)(b:Bool),i+n=x.2.2.length->b=decide (d∈x.2.2.take i)->
  AV k b (i:o) L.1 L.2.1 L.2.2.1.1 L.2.2.1.2 L.2.2.2.1 L.2.2.2.2.1 L.2.2.2.2.2.1 L.2.2.2.2.2.2.1 L.2.2.2.2.2.2.2.1 L.2.2.2.2.2.2.2.2 x.1 x.2.1 x.2.2 d e=
   G (k,decide (d∈x.2.2),L.1,L.2.1,L.2.2.1.1,L.2.2.1.2,L.2.2.2.1,L.2.2.2.2.1,L.2.2.2.2.2.1,L.2.2.2.2.2.2.1,L.2.2.2.2.2.2.2.1,L.2.2.2.2.2.2.2.2)
 |0,i,b,hi,hb=>by
  rw[Z6];simp only[j6U,show F x.2.2.length=(x.2.2.length:o) from rfl];rw[aj aa,j7,aS,hb,List.take_of_length_le aa]
 |n+1,i,b,hi,hb=>by
  have _:=hs;have nV:=hx.len;have br:i<x.2.2.length:=aa;have aR:x.2.2.getD i (0:o)=x.2.2[i]:=by simp[br]
  rw[Z6];simp only[j6U,show F x.2.2.length=(x.2.2.length:o) from rfl];rw[ah aa,al (x:=(i:o)+1),j6];have ht:x.2.2.take (i+1)=x.2.2.take i++[x.2.2[i]]:=by rw[q8,jp br];rfl
  cases Ap:b with
  |true=>simp only[j6,aH];refine T0 hx n (i+1) J aa ?_;have:d∈x.2.2.take i:=q7 (by rw[<-hb,Ap]);rw[ht];exact(ah (ju _ this)).symm
  |false=>
   have cG:d∉x.2.2.take i:=of_decide_eq_false (by rw[<-hb,Ap]);rw[bY (show (0:o)<=(i:o) by omega) aa];simp only[j7,j6,j8,aR,aH];refine T0 hx n (i+1) _ aa ?_;rw[ht];by_cases he:x.2.2[i]=d
   .rw[dC he];exact(ah (jq _ (by simp[he]))).symm
   .rw[cj he];refine(aj λhm=>?_).symm;rcases jn.1 hm with h|h
    .exact cG h
    .simp at h;exact he h.symm
theorem jFP{L:bZ}(hL:fh zs.length ps.length cs.length L){ss:E cW}{t:o}(h0:0<=t)(h1:t<=8589934592):∃k,jkW (zs,(ps,(cs,ss))) L t=G (k,gg zs cs L t)/\(gg zs cs L t=J->k=ct (aO zs L.2.1) L t):=by
 have tU:=hL.rt2;have hz:gx (aO zs L.2.1):=gR hs.so.ok hL.z0 hL.z1;have h4:=hz.zref.2.1;obtain⟨K,eK,hK⟩:=ύ h4 tU h0 h1;have hKs:K=ct (aO zs L.2.1) L t:=kY.uniq h4.2 tU hK (sa hz tU h0 h1).2;subst hKs;have ek:jhT (aO zs L.2.1) L t=G (ct (aO zs L.2.1) L t,0):=by simp only[jhT,show jdo ((aO zs L.2.1).1,((aO zs L.2.1).2.1,(aO zs L.2.1).2.2)) (L.1,L.2.1,(L.2.2.1.1,L.2.2.1.2),L.2.2.2.1,L.2.2.2.2.1,L.2.2.2.2.2.1,L.2.2.2.2.2.2.1,L.2.2.2.2.2.2.2.1,L.2.2.2.2.2.2.2.2)=_ from ϋ h4 L,j4];rw[if_pos tU,aj (show¬t<0 by omega),aj (show¬t>8589934592 by omega)];simp only[jh,j7];rw[show jdq ((aO zs L.2.1).1,((aO zs L.2.1).2.1,(aO zs L.2.1).2.2)) (L.1,L.2.1,(L.2.2.1.1,L.2.2.1.2),L.2.2.2.1,L.2.2.2.2.1,L.2.2.2.2.2.1,L.2.2.2.2.2.2.1,L.2.2.2.2.2.2.2.1,L.2.2.2.2.2.2.2.2) t=_ from eK];rfl
 obtain⟨_,ein⟩:=jHl hz h0 h1 hL.w hL.wl
 have p7:(cond (L.2.2.2.2.2.2.2.2==(0:o)) (G (ct (aO zs L.2.1) L t,J)) (cond (inR L.2.2.2.2.2.2.2.1 cs.length) (cond (inR (cs.getD L.2.2.2.2.2.2.2.1.toNat (D,((0:o),([]:E o)))).2.1 zs.length)
   ((
    j3Q ((zs.getD (cs.getD L.2.2.2.2.2.2.2.1.toNat (D,((0:o),([]:E o)))).2.1.toNat (D,((0:o),([]:E aL)))).1,((zs.getD (cs.getD L.2.2.2.2.2.2.2.1.toNat (D,((0:o),([]:E o)))).2.1.toNat (D,((0:o),([]:E aL)))).2.1,(zs.getD (cs.getD L.2.2.2.2.2.2.2.1.toNat (D,((0:o),([]:E o)))).2.1.toNat (D,((0:o),([]:E aL)))).2.2)) t).bind λĀ=>
    (AV (ct (aO zs L.2.1) L t) I 0 L.1 L.2.1 L.2.2.1.1 L.2.2.1.2 L.2.2.2.1 L.2.2.2.2.1 L.2.2.2.2.2.1 L.2.2.2.2.2.2.1 L.2.2.2.2.2.2.2.1 L.2.2.2.2.2.2.2.2 (cs.getD L.2.2.2.2.2.2.2.1.toNat (D,((0:o),([]:E o)))).1 (cs.getD L.2.2.2.2.2.2.2.1.toNat (D,((0:o),([]:E o)))).2.1 (cs.getD L.2.2.2.2.2.2.2.1.toNat (D,((0:o),([]:E o)))).2.2 Ā.1.1 Ā.1.2).bind λq0=>
     G (q0.1,(q0.2.1==(q0.2.2.2.2.2.2.2.2.2.2.2==(2:o))))) none) none))=G (ct (aO zs L.2.1) L t,jD zs cs L t):=by
  by_cases hm:L.2.2.2.2.2.2.2.2=0
  .rw[dC hm,j6];unfold jD;rw[dC hm];rfl
  .have cN:=hL.cal hm;have hx:=pt hs cN.1 cN.2;have Cu:=gR hs.so.ok hx.z0 hx.z1;rw[cj hm,j7,bY cN.1 cN.2,bY hx.z0 hx.z1];simp only[j6];rw[show j3Q ((zs.getD (cs.getD L.2.2.2.2.2.2.2.1.toNat (D,((0:o),([]:E o)))).2.1.toNat (D,((0:o),([]:E aL)))).1,((zs.getD (cs.getD L.2.2.2.2.2.2.2.1.toNat (D,((0:o),([]:E o)))).2.1.toNat (D,((0:o),([]:E aL)))).2.1,(zs.getD (cs.getD L.2.2.2.2.2.2.2.1.toNat (D,((0:o),([]:E o)))).2.1.toNat (D,((0:o),([]:E aL)))).2.2)) t=_ from ϻ Cu h0 h1];simp only[j4];rw[show AV (ct (aO zs L.2.1) L t) I 0 L.1 L.2.1 L.2.2.1.1 L.2.2.1.2 L.2.2.2.1 L.2.2.2.2.1 L.2.2.2.2.2.1 L.2.2.2.2.2.2.1 L.2.2.2.2.2.2.2.1 L.2.2.2.2.2.2.2.2 (cs.getD L.2.2.2.2.2.2.2.1.toNat (D,((0:o),([]:E o)))).1 (cs.getD L.2.2.2.2.2.2.2.1.toNat (D,((0:o),([]:E o)))).2.1 (cs.getD L.2.2.2.2.2.2.2.1.toNat (D,((0:o),([]:E o)))).2.2 _ _=_ from T0 hs hx (L:=L) (cs.getD L.2.2.2.2.2.2.2.1.toNat (D,((0:o),([]:E o)))).2.2.length 0 I aa ae];unfold jD;rw[cj hm];rfl
 simp only[jkW];rw[bY hL.z0 hL.z1];simp only[j6];rw[show jhT ((zs.getD L.2.1.toNat (D,((0:o),([]:E aL)))).1,((zs.getD L.2.1.toNat (D,((0:o),([]:E aL)))).2.1,(zs.getD L.2.1.toNat (D,((0:o),([]:E aL)))).2.2)) (L.1,L.2.1,(L.2.2.1.1,L.2.2.1.2),L.2.2.2.1,L.2.2.2.2.1,L.2.2.2.2.2.1,L.2.2.2.2.2.2.1,L.2.2.2.2.2.2.2.1,L.2.2.2.2.2.2.2.2) t=_ from ek];simp only[j4,jh,j7];by_cases hk:0<=ct (aO zs L.2.1) L t
 .rw[aj (show¬ct (aO zs L.2.1) L t<0 by omega)];simp only[j7,show F L.2.2.2.2.2.2.1.length=(L.2.2.2.2.2.2.1.length:o) from rfl];have oo:gg zs cs L t=cond (okW L.2.2.2.2.2.2.1 (fi (cL (aO zs L.2.1) t))) (jD zs cs L t) false:=by unfold gg;rw[ah hk];rfl
  rw[oo];by_cases hw:(L.2.2.2.2.2.2.1.length:o)>0
  .rw[ah hw,j6,show jta ((zs.getD L.2.1.toNat (D,((0:o),([]:E aL)))).1,((zs.getD L.2.1.toNat (D,((0:o),([]:E aL)))).2.1,(zs.getD L.2.1.toNat (D,((0:o),([]:E aL)))).2.2)) L.2.2.2.2.2.2.1 t=_ from ein];simp only[j4];unfold okW;rw[ah hw,j6];cases hasB (fi (cL (aO zs L.2.1) t)) L.2.2.2.2.2.2.1 with
   |false=>exact⟨0,rfl,λh=>by simp at h⟩
   |true=>simp only[jl,j7,j6];exact⟨_,p7,λ_=>rfl⟩
  .rw[aj hw,j7];unfold okW;rw[aj hw];simp only[j7,j6];exact⟨_,p7,λ_=>rfl⟩
 .rw[ah (show ct (aO zs L.2.1) L t<0 by omega)];have oo:gg zs cs L t=false:=by unfold gg;rw[aj hk];rfl
  rw[oo];simp only[j6,jl,ka,Bool.or_true];exact⟨0,rfl,λh=>by simp at h⟩
theorem jDb{L:bZ}(hL:fh zs.length ps.length cs.length L){ss:E cW}{t:o}(h0:0<=t)(h1:t<=8589934592):joc (zs,(ps,(cs,ss))) L t=G (cu zs cs L t):=by
 obtain⟨k,e,hk⟩:=jFP hs hL (ss:=ss) h0 h1;have oo:gg zs cs L t=J->0<=ct (aO zs L.2.1) L t:=Ly;simp only[joc];rw[show jkW (zs,ps,cs,ss) (L.1,L.2.1,(L.2.2.1.1,L.2.2.1.2),L.2.2.2.1,L.2.2.2.2.1,L.2.2.2.2.2.1,L.2.2.2.2.2.2.1,L.2.2.2.2.2.2.2.1,L.2.2.2.2.2.2.2.2) t=_ from e];simp only[j4,show F L.2.2.2.2.2.1.length=(L.2.2.2.2.2.1.length:o) from rfl];unfold cu;cases hc:gg zs cs L t with
 |false=>rfl
 |true=>have mS:=hL.m0;have mO:=oo hc;have:=hk hc;subst this;have q1:0<=X (ct (aO zs L.2.1) L t) (L.2.2.2.2.2.1.length:o):=Int.tmod_nonneg _ mO;have q2:X (ct (aO zs L.2.1) L t) (L.2.2.2.2.2.1.length:o)<(L.2.2.2.2.2.1.length:o):=yx _ aa;rw[cj (show¬(L.2.2.2.2.2.1.length:o)=0 by omega),bY q1 q2];rfl
theorem ā:∀z∈zs,j7J z=G 0:=λz hz=>TY (hs.so.ok z hz)
end
def dv(zs:E bF)(cs:E aV)(ls:E bZ)(t:o)(i:N):Int:=cu zs cs (ls.getD i (D,((0:o),(((0:o),(0:o)),((0:o),((0:o),(([]:E o),(([]:E (o×o)),((0:o),(0:o)))))))))) t
def p8(es:E dV)(p:o):SL:=(es.filter λx=>x.1==0&&x.2.1==p).map λx=>(x.2.2.2.1,x.2.2.2.2)
theorem jHn{es:E dV}{p t:o}:bJ t (p8 es p)↔jJ es p t=true:=by
 unfold bJ p8 jJ;rw[zj];constructor
 .rintro⟨s,hs,h1,h2⟩
  obtain⟨x,hx,rfl⟩:=jr.1 hs;obtain⟨h3,h4⟩:=zf.1 hx;dsimp only at h1 h2;refine⟨x,h3,?_⟩;simp only[jd,jo]at h4 ⊢;exact⟨h4.1,h4.2,h1,h2⟩
 .rintro⟨x,hx,h⟩
  simp only[jd,jo]at h;exact⟨_,jr.2 ⟨x,zf.2 ⟨hx,by simp only[jd];exact⟨h.1,h.2.1⟩⟩,rfl⟩,h.2.2.1,h.2.2.2⟩
theorem T1{es:E dV}(hl:es.length<=1000){p:o}:∀(n i:N)(acc:SL),i+n=es.length->acc.length<=i->F7 p es (es.length:o) (i:o) acc=G (acc++p8 (es.drop i) p)
 |0,i,acc,hi,_=>by
  rw[Zi];simp only[j45];rw[aj aa,j7,aS,jc aa];simp[p8]
 |n+1,i,acc,hi,ha=>by
  have br:i<es.length:=aa;have aR:es.getD i ((0:o),((0:o),((0:o),((0:o),(0:o)))))=es[i]:=by simp[H,br]
  rw[Zi];simp only[j45];rw[ah aa,bD,al (x:=(i:o)+1)];simp only[j6,j8,aR];have hc:cond (es[i].1==(0:o)) (es[i].2.1==p) I=(es[i].1==0&&es[i].2.1==p):=by cases es[i].1==(0:o)<;>rfl
  rw[hc,jb br];cases hx:(es[i].1==0&&es[i].2.1==p) with
  |true=>
   rw[j6,ah (by simp[aM];omega),j6,aH];have:=T1 hl (p:=p) n (i+1) (acc++[(es[i].2.2.2.1,es[i].2.2.2.2)]) aa ax;have e:p8 (es[i]::es.drop (i+1)) p=(es[i].2.2.2.1,es[i].2.2.2.2)::p8 (es.drop (i+1)) p:=by simp only[p8,List.filter_cons,hx,if_true,ke]
   rw[e];rw[jj]at this;exact this
  |false=>
   rw[j7,aH];have:=T1 hl (p:=p) n (i+1) acc aa aa;have e:p8 (es[i]::es.drop (i+1)) p=p8 (es.drop (i+1)) p:=by unfold p8;rw[List.filter_cons_of_neg (by simp only[hx];simp)]
   rw[e];exact this
theorem jBj{es:E dV}{np:N}(hE:∀x∈es,pq np x)(hl:es.length<=48)(nm:O)(ls:E bZ)(p:o) :
  ∃out,j7E (nm,(ls,es)) p=G out/\ca (-1) out/\(∀t,bJ t out↔jJ es p t=J)/\out.length<=es.length:=by
 have lp:=T1 (es:=es) aa (p:=p) es.length 0 [] aa ae;rw[jw,jm]at lp;have fm:(p8 es p).length<=es.length:=by unfold p8;rw[kj];exact vv _ _
 have hb:∀s∈p8 es p,0<=s.1/\s.1<s.2/\s.2<=1000000000000:=λs h=>by
  obtain⟨x,hx,rfl⟩:=jr.1 h;have:=hE x (zf.1 hx).1;exact⟨this.f0,this.ft,this.t1⟩
 obtain⟨out,e,h1,h2,h3,h4⟩:=HM (l:=p8 es p) aa (λs h=>by have:=hb s h;omega) (lo:=0) (hi:=1000000000000) (λs h _=>by have:=hb s h;omega);refine⟨out,?_,h1,λt=>(h2 t).trans jHn,aa⟩;simp only[j7E,show F es.length=(es.length:o) from rfl];rw[show F7 p es (es.length:o) 0 []=_ from lp];simp only[j4,e]
theorem HT{β:Type}(l:E (o×β))(k:o)(v:β)(j:o):ej (eD l k v) j=(j==k||ej l j):=by
 induction l with
 |nil=>simp[eD,ej]
 |cons x r ih=>
  simp only[eD];by_cases h:k=x.1
  .rw[dC h,j6];simp only[ej,yc];rw[<-h];cases j==k<;>simp
  .rw[cj h,j7];have:ej (x::eD r k v) j=(j==x.1||ej (eD r k v) j):=rfl;rw[this,ih];have:ej (x::r) j=(j==x.1||ej r j):=rfl;rw[this];cases j==x.1<;>cases j==k<;>simp
theorem LD{β:Type}(d:β)(l:E (o×β))(k:o)(v:β)(j:o):di d (eD l k v) j=cond (j==k) v (di d l j):=by
 induction l with
 |nil=>rfl
 |cons x r ih=>
  simp only[eD];by_cases h:k=x.1
  .rw[dC h,j6];show cond (j==k) v (di d r j)=cond (j==k) v (cond (j==x.1) x.2 (di d r j));rw[<-h];cases j==k<;>rfl
  .rw[cj h,j7];show cond (j==x.1) x.2 (di d (eD r k v) j)=cond (j==k) v (cond (j==x.1) x.2 (di d r j));rw[ih];by_cases hj:j=x.1
   .rw[dC hj,j6,cj (show¬j=k by omega)];rfl
   .rw[cj hj];rfl
def iA(p:o):bE->Prop
 |[]=>True
 |x::r=>p<=x.1/\x.1<x.2.1/\iA x.2.1 r
def oq(t:o)(l:bE):Prop:=∃x∈l,x.1<=t/\t<x.2.1
theorem HU{t:o}{s:kK}{l:bE}:oq t (s::l)↔(s.1<=t/\t<s.2.1)\/oq t l:=by
 constructor
 .rintro⟨u,hu,h⟩
  rcases je.1 hu with rfl|hu
  .exact .inl h
  .exact .inr ⟨u,hu,h⟩
 .rintro (h|⟨u,hu,h⟩)
  .exact⟨s,ae,h⟩
  .exact⟨u,by simp[hu],h⟩
theorem T2{t:o}:¬oq t []:=by rintro⟨s,hs,_⟩;simp at hs
theorem iA.weak{p q:o}(hq:q<=p):∀{l:bE},iA p l->iA q l
 |[],_=>trivial
 |_::_,h=>⟨by have:=h.1;omega,h.2⟩
theorem iA.low{p t:o}:∀{l:bE},iA p l->oq t l->p<=t
 |[],_,h=>absurd h T2
 |s::r,h,hx=>by
  rcases HU.1 hx with hx|hx
  .have:=h.1;omega
  .have:=iA.low h.2.2 hx;have:=h.1;have:=h.2.1;omega
theorem iA.app{e:o}{r:bE}(hr:iA e r):∀{l:bE}{p:o},iA p l->p<=e->(∀x∈l,x.2.1<=e)->iA p (l++r)
 |[],_,_,hp,_=>hr.weak hp
 |x::l,p,h,_,hl=>⟨h.1,h.2.1,hr.app h.2.2 (hl x ae) (λy hy=>hl y (by simp[hy]))⟩
theorem iA.apart{p:o}:∀{l:bE},iA p l->l.Pairwise (λx y=>x.2.1<=y.1)/\∀x∈l,p<=x.1
 |[],_=>⟨List.Pairwise.nil,ae⟩
 |x::l,h=>by
  obtain⟨h1,h2⟩:=iA.apart h.2.2
  exact⟨kb.2 ⟨h2,h1⟩,λy hy=>by
   rcases je.1 hy with rfl|hy
   .exact h.1
   .have:=h2 y hy;have:=h.1;have:=h.2.1;omega⟩
def sb(s:cW)(p:o):SL:=(j7E s p).getD []
def sd(s:cW)(x:kK):SL:=(j2Q [(x.1,x.2.1)] (sb s x.2.2)).getD []
def nL(s:cW)(x:kK):bE:=if x.2.2<0 then [] else (sd s x).map λu=>(u.1,(u.2,x.2.2))
section
variable{nm:O}{ls:E bZ}{es:E dV}{np:N}(hE:∀x∈es,pq np x)(hl:es.length<=48)
include hE hl
theorem Ă(p:o):j7E (nm,(ls,es)) p=G (sb (nm,(ls,es)) p)/\ca (-1) (sb (nm,(ls,es)) p)/\(∀t,bJ t (sb (nm,(ls,es)) p)↔jJ es p t=J)/\(sb (nm,(ls,es)) p).length<=es.length:=by
 obtain⟨out,e,h⟩:=jBj hE hl nm ls p;have:sb (nm,(ls,es)) p=out:=by simp[sb,e]
 rw[this];exact⟨e,h⟩
theorem T3{x:kK}(hx:x.1<x.2.1):j2Q [(x.1,x.2.1)] (sb (nm,(ls,es)) x.2.2)=G (sd (nm,(ls,es)) x)/\ca (x.1-1) (sd (nm,(ls,es)) x)/\
  (∀t,bJ t (sd (nm,(ls,es)) x)↔(x.1<=t/\t<x.2.1)/\jJ es x.2.2 t=I)/\(sd (nm,(ls,es)) x).length<=1+es.length:=by
 obtain⟨_,l1,l2,l3⟩:=Ă (nm:=nm) (ls:=ls) hE hl x.2.2;obtain⟨out,e,h1,h2,h3⟩:=TI (B:=sb (nm,(ls,es)) x.2.2) aa (A:=[(x.1,x.2.1)]) (p:=x.1-1) ⟨by dsimp only;omega,hx,trivial⟩ l1 ae;have:sd (nm,(ls,es)) x=out:=by simp[sd,e]
 rw[this];refine⟨e,h1,λt=>?_,by rw[kf]at h3;omega⟩;rw[h2 t,l2 t,dI];constructor
 .rintro⟨h|h,h'⟩
  .exact⟨h,by simpa using h'⟩
  .exact absurd h fP
 .rintro⟨h,h'⟩
  exact⟨.inl h,by simp[h']⟩
omit hE hl in
theorem ă{S:bE}{m j f e p:o}{mp:E (o×SL)}{W:SL}(hW:W.length<=1000):∀(n i:N)(acc:bE),i+n=W.length->acc.length+n<=1000000000->
  AP S m j (W.length:o) (i:o) nm ls es f e p mp acc W=G (S,m,j,nm,ls,es,mp,acc++(W.drop i).map λu=>(u.1,(u.2,p)))
 |0,i,acc,hi,_=>by
  rw[Zj];simp only[j3p];rw[aj aa,j7,aS,jc aa];simp
 |n+1,i,acc,hi,ha=>by
  have br:i<W.length:=aa;have aR:W.getD i ((0:o),(0:o))=W[i]:=by simp[H,br]
  rw[Zj];simp only[j3p];rw[ah aa,bD,al (x:=(i:o)+1)];simp only[j6,j8,aR];rw[ah (by simp[aM];omega),j6,aH,jb br,ke];have:=ă (S:=S) (m:=m) (j:=j) (f:=f) (e:=e) (p:=p) (mp:=mp) hW n (i+1) (acc++[(W[i].1,(W[i].2,p))]) aa ax;rw[jj]at this;exact this
theorem T4{S:bE}(hS:S.length<=100000)(bK:∀x∈S,x.1<x.2.1):∀(n i:N)(mp:E (o×SL))(acc:bE),i+n=S.length->(∀p,ej mp p=J->di [] mp p=sb (nm,(ls,es)) p)->acc.length<=49*i->
  CX S (S.length:o) (i:o) nm ls es mp acc=G (acc++(S.drop i).flatMap (nL (nm,(ls,es))))
 |0,i,mp,acc,hi,_,_=>by
  rw[Zk];simp only[j3q];rw[aj aa,j7,aS,jc aa];simp
 |n+1,i,mp,acc,hi,hm,ha=>by
  have br:i<S.length:=aa;have aR:S.getD i ((0:o),((0:o),(0:o)))=S[i]:=by simp[H,br]
  have hp:=bK _ (jg br);rw[Zk];simp only[j3q];rw[ah (show (i:o)<(S.length:o) by omega),bD];simp only[j6,j8,aR];rw[jb br,zr];by_cases gQ:S[i].2.2<0
  .rw[ah gQ,j6,al (x:=(i:o)+1),aH];have e:nL (nm,(ls,es)) S[i]=[]:=if_pos gQ;rw[e,jw];exact T4 hS bK n (i+1) mp acc aa hm aa
  .have e:nL (nm,(ls,es)) S[i]=(sd (nm,(ls,es)) S[i]).map λu=>(u.1,(u.2,S[i].2.2)):=if_neg gQ;obtain⟨w1,_,_,w4⟩:=T3 (nm:=nm) (ls:=ls) hE hl hp;rw[aj gQ,j7]
   have fin:∀wI:E (o×SL),(∀p,ej wI p=J->di [] wI p=sb (nm,(ls,es)) p)->di [] wI S[i].2.2=sb (nm,(ls,es)) S[i].2.2->
     lpK ((j2Q [(S[i].1,S[i].2.1)] (di [] wI S[i].2.2)).bind λĄ=>
      (AP S (S.length:o) (i:o) (F Ą.length) 0 nm ls es S[i].1 S[i].2.1 S[i].2.2 wI acc Ą).bind λq2=>
       (G (Sum.inl (q2.1,q2.2.1,w64 (q2.2.2.1+1),q2.2.2.2.1,q2.2.2.2.2.1,q2.2.2.2.2.2.1,q2.2.2.2.2.2.2.1,q2.2.2.2.2.2.2.2)):Option ((bE×o×o×O×E bZ×E dV×E (o×SL)×bE) ⊕ bE)))
      (λh=>CX h.1 h.2.1 h.2.2.1 h.2.2.2.1 h.2.2.2.2.1 h.2.2.2.2.2.1 h.2.2.2.2.2.2.1 h.2.2.2.2.2.2.2)=G (acc++(nL (nm,(ls,es)) S[i]++(S.drop (i+1)).flatMap (nL (nm,(ls,es))))):=λwI lL hg=>by
    have l2:=ă (nm:=nm) (ls:=ls) (es:=es) (S:=S) (m:=(S.length:o)) (j:=(i:o)) (f:=S[i].1) (e:=S[i].2.1) (p:=S[i].2.2) (mp:=wI) (W:=sd (nm,(ls,es)) S[i]) aa (sd (nm,(ls,es)) S[i]).length 0 acc aa aa;rw[hg,w1];simp only[j4];rw[show AP S (S.length:o) (i:o) (F (sd (nm,(ls,es)) S[i]).length) 0 nm ls es S[i].1 S[i].2.1 S[i].2.2 wI acc (sd (nm,(ls,es)) S[i])=_ from l2];simp only[j4,jm];rw[al (x:=(i:o)+1),aH,<-e,<-jj];exact T4 hS bK n (i+1) wI _ aa lL (by rw[jf,e,kj];omega)
   cases hh:ej mp S[i].2.2 with
   |true=>simp only[jl,j7];exact fin mp hm (hm _ hh)
   |false=>
    simp only[ka,j6];rw[show j7E (nm,(ls,es)) S[i].2.2=_ from (Ă (nm:=nm) (ls:=ls) hE hl S[i].2.2).1];simp only[j4];refine fin _ (λp zB=>?_) ?_
    .rw[LD];by_cases ot:p=S[i].2.2
     .rw[dC ot,j6,ot]
     .rw[HT,cj ot,qu]at zB;rw[cj ot,j7];exact hm p zB
    .rw[LD];simp
theorem jyG{S:bE}(hS:S.length<=100000)(bK:∀x∈S,x.1<x.2.1):j9Z (nm,(ls,es)) S=G (S.flatMap (nL (nm,(ls,es)))):=by
 simp only[j9Z,show F S.length=(S.length:o) from rfl];rw[show CX S (S.length:o) 0 nm ls es [] []=_ from T4 hE hl hS bK S.length 0 [] [] aa (λp h=>by simp[ej]at h) ae];rfl
theorem jFR{x:kK}(hx:x.1<x.2.1):(nL (nm,(ls,es)) x).length<=1+es.length:=by
 unfold nL;split
 .simp
 .rw[kj];exact(T3 (nm:=nm) (ls:=ls) hE hl hx).2.2.2
theorem ą:∀{S:bE},(∀x∈S,x.1<x.2.1)->(S.flatMap (nL (nm,(ls,es)))).length<=S.length*(1+es.length)
 |[],_=>ae
 |x::S,h=>by
  have h1:=jFR (nm:=nm) (ls:=ls) hE hl (h x ae);have h2:=ą (S:=S) (λy hy=>h y (by simp[hy]));rw[zr,jf,jk,Nat.add_mul];omega
theorem Ć{p:o}{c e:o}:∀{W:SL}{q:o},ca q W->(∀u∈W,u.2<=e)->iA (q+1) (W.map λu=>(u.1,(u.2,c)))/\(p<=q+1->iA p (W.map λu=>(u.1,(u.2,c))))
 |[],_,_,_=>⟨trivial,λ_=>trivial⟩
 |u::W,q,h,hb=>by
  have _:=hE;have _:=hl;have h3:=(Ć (p:=u.2) (c:=c) (e:=e) (W:=W) h.2.2 (λv hv=>hb v (by simp[hv]))).2 aa;exact⟨⟨by have:=h.1;dsimp only;omega,h.2.1,h3⟩,λhp=>⟨by have:=h.1;dsimp only;omega,h.2.1,h3⟩⟩
theorem ć{f:o->o}{b:o}:∀{S:bE}{a:o},Ch f b a S->(∀x∈S,x.1<x.2.1)->
  iA a (S.flatMap (nL (nm,(ls,es))))/\(∀x∈S.flatMap (nL (nm,(ls,es))),x.2.1<=b/\∀t,x.1<=t->t<x.2.1->f t=x.2.2/\0<=x.2.2/\jJ es x.2.2 t=I)/\
   ∀t,a<=t->t<b->0<=f t->jJ es (f t) t=I->oq t (S.flatMap (nL (nm,(ls,es))))
 |[],a,h,_=>⟨trivial,ae,λt h1 h2=>by have h:a=b:=h;omega⟩
 |x::S,a,h,bK=>by
  obtain⟨h1,h2,h3,h4⟩:=h;have hx:=bK x ae;obtain⟨i1,i2,i3⟩:=ć (f:=f) (b:=b) h4 (λy hy=>bK y (by simp[hy]));have hle:=h4.le;obtain⟨_,w2,w3,_⟩:=T3 (nm:=nm) (ls:=ls) hE hl hx
  have ez:∀y∈nL (nm,(ls,es)) x,0<=x.2.2/\y.2.2=x.2.2/\y.1<y.2.1/\x.1<=y.1/\y.2.1<=x.2.1/\∀t,y.1<=t->t<y.2.1->jJ es x.2.2 t=false:=λy hy=>by
   unfold nL at hy;split at hy
   .simp at hy
   .obtain⟨u,hu,rfl⟩:=jr.1 hy;have hm:=ca.mem w2 u hu;have e1:=(w3 (u.2-1)).1 ⟨u,hu,aa,aa⟩;exact⟨aa,rfl,hm.2,by dsimp only;omega,by dsimp only;omega,λt t1 t2=>((w3 t).1 ⟨u,hu,t1,t2⟩).2⟩
  rw[zr];refine⟨?_,λy hy=>?_,λt t1 t2 t3 t4=>?_⟩
  .refine iA.app i1 ?_ h2 (λy hy=>(ez y hy).2.2.2.2.1);unfold nL;split
   .trivial
   .exact(Ć hE hl (p:=a) (c:=x.2.2) (e:=x.2.1) w2 (λu hu=>by
     have hm:=ca.mem w2 u hu;have e1:=(w3 (u.2-1)).1 ⟨u,hu,aa,aa⟩;omega)).2 aa
  .rcases jn.1 hy with hy|hy
   .obtain⟨g1,g2,g3,g4,g5,g6⟩:=ez y hy;exact⟨aa,λt t1 t2=>⟨by rw[g2];exact h3 t aa aa,aa,by rw[g2];exact g6 t t1 t2⟩⟩
   .exact i2 y hy
  .by_cases an:t<x.2.1
   .have hf:=h3 t t1 an;rw[hf]at t3 t4;obtain⟨u,hu,u1,u2⟩:=(w3 t).2 ⟨⟨aa,an⟩,t4⟩;refine⟨(u.1,(u.2,x.2.2)),ju _ ?_,u1,u2⟩;unfold nL;rw[if_neg aa];exact jr.2 ⟨u,hu,rfl⟩
   .obtain⟨y,hy,y1,y2⟩:=i3 t aa t2 t3 t4;exact⟨y,jq _ hy,y1,y2⟩
end
def lX:N->bE->SL->bE
 |n+1,s::a,u::b=>(if (if u.1>s.1 then u.1 else s.1)<(if u.2<s.2.1 then u.2 else s.2.1) then [((if u.1>s.1 then u.1 else s.1),((if u.2<s.2.1 then u.2 else s.2.1),s.2.2))] else [])++
  (if s.2.1<u.2 then lX n a (u::b) else lX n (s::a) b)
 |_,_,_=>[]
theorem T5:∀(n:N)(a:bE)(b:SL)(p q:o),a.length+b.length<=n->iA p a->ca q b->
  iA p (lX n a b)/\iA q (lX n a b)/\(∀x∈lX n a b,∃s∈a,s.1<=x.1/\x.2.1<=s.2.1/\x.2.2=s.2.2/\∀t,x.1<=t->t<x.2.1->bJ t b)/\(∀t,oq t a->bJ t b->oq t (lX n a b))/\(lX n a b).length<=a.length+b.length
 |0,a,b,p,q,hn,_,_=>by
  obtain rfl:a=[]:=qg.1 aa;exact⟨trivial,trivial,by simp[lX],λt h=>absurd h T2,by simp[lX]⟩
 |n+1,[],b,p,q,_,_,_=>⟨trivial,trivial,by simp[lX],λt h=>absurd h T2,by simp[lX]⟩
 |n+1,_::_,[],p,q,_,_,_=>⟨trivial,trivial,by simp[lX],λt _ h=>absurd h fP,by simp[lX]⟩
 |n+1,s::a,u::b,p,q,hn,ha,hb=>by
  obtain⟨a1,a2,a3⟩:=ha;obtain⟨b1,b2,b3⟩:=hb;simp only[jk]at hn ⊢
  have hx:∃f t:o,f=(if u.1>s.1 then u.1 else s.1)/\t=(if u.2<s.2.1 then u.2 else s.2.1)/\(∀x,(f<=x/\x<t)↔(s.1<=x/\x<s.2.1)/\(u.1<=x/\x<u.2))/\p<=f/\q<=f/\t<=s.2.1/\t<=u.2/\s.1<=f:=by
   refine⟨_,_,rfl,rfl,λx=>?_,?_,?_,?_,?_,?_⟩
   .constructor
    .intro h;split at h<;>split at h<;>omega
    .intro h;split<;>split<;>omega
   all_goals split<;>omega
  obtain⟨f,t,ef,et,hi,f1,f2,t1,t2,f3⟩:=hx;simp only[lX,<-ef,<-et]
  have key:∀(a':bE)(b':SL)(r:bE),iA t r->iA p r->iA q r->(∀x∈r,∃s'∈(s::a),s'.1<=x.1/\x.2.1<=s'.2.1/\x.2.2=s'.2.2/\∀y,x.1<=y->y<x.2.1->bJ y (u::b))->(∀y,oq y a'->bJ y b'->oq y r)->
    r.length<=a'.length+b'.length->a'.length+b'.length+1=a.length+1+(b.length+1)->(∀y,oq y (s::a)->bJ y (u::b)->(f<=y/\y<t)\/(oq y a'/\bJ y b'))->
    iA p ((if f<t then [(f,(t,s.2.2))] else [])++r)/\iA q ((if f<t then [(f,(t,s.2.2))] else [])++r)/\(∀x∈((if f<t then [(f,(t,s.2.2))] else [])++r),∃s'∈(s::a),s'.1<=x.1/\x.2.1<=s'.2.1/\x.2.2=s'.2.2/\∀y,x.1<=y->y<x.2.1->bJ y (u::b))/\
     (∀y,oq y (s::a)->bJ y (u::b)->oq y ((if f<t then [(f,(t,s.2.2))] else [])++r))/\((if f<t then [(f,(t,s.2.2))] else [])++r).length<=a.length+1+(b.length+1):=by
   intro a' b' r zI Lu TG Lv Ĉ hl rK tS;by_cases jV:f<t
   .rw[if_pos jV];refine⟨⟨f1,jV,zI⟩,⟨f2,jV,zI⟩,λx hx=>?_,λy y1 y2=>?_,ax⟩
    .rcases je.1 hx with rfl|hx
     .exact⟨s,ae,f3,t1,rfl,λy y1 y2=>dI.2 (.inl ((hi y).1 ⟨y1,y2⟩).2)⟩
     .exact Lv x hx
    .rcases tS y y1 y2 with h|h
     .exact HU.2 (.inl h)
     .exact HU.2 (.inr (Ĉ y h.1 h.2))
   .rw[if_neg jV,jw];refine⟨Lu,TG,Lv,λy y1 y2=>?_,aa⟩;rcases tS y y1 y2 with h|h
    .omega
    .exact Ĉ y h.1 h.2
  by_cases hc:s.2.1<u.2
  .rw[if_pos hc];obtain⟨i1,i2,i3,i4,i5⟩:=T5 n a (u::b) s.2.1 q ax a3 ⟨b1,b2,b3⟩;refine key a (u::b) _ (i1.weak t1) (i1.weak aa) i2 (λx hx=>?_) i4 i5 ax (λy y1 y2=>?_)
   .obtain⟨s',dt,r⟩:=i3 x hx;exact⟨s',by simp[dt],r⟩
   .rcases HU.1 y1 with h|h
    .rcases dI.1 y2 with h'|h'
     .exact .inl ((hi y).2 ⟨h,h'⟩)
     .have:=ca.low b3 h';omega
    .exact .inr ⟨h,y2⟩
  .rw[if_neg hc];obtain⟨i1,i2,i3,i4,i5⟩:=T5 n (s::a) b p u.2 ax ⟨a1,a2,a3⟩ b3;refine key (s::a) b _ (i2.weak t2) i1 (i2.weak aa) (λx hx=>?_) i4 i5 ax (λy y1 y2=>?_)
   .obtain⟨s',dt,r1,r2,r3,r4⟩:=i3 x hx;exact⟨s',dt,r1,r2,r3,λy y1 y2=>dI.2 (.inr (r4 y y1 y2))⟩
   .rcases dI.1 y2 with h|h
    .rcases HU.1 y1 with h'|h'
     .exact .inl ((hi y).2 ⟨h',h⟩)
     .have:=iA.low a3 h';omega
    .exact .inr ⟨y1,h⟩
theorem T6{A:bE}{B:SL}(hA:A.length<=10000000)(hB:B.length<=10000000):∀(n i k:N)(acc:bE),i<=A.length->k<=B.length->(A.length-i)+(B.length-k)=n->acc.length+n<=3000000->
  AQ A B (i:o) (k:o) acc=G (acc++lX n (A.drop i) (B.drop k))
 |n,i,k,acc,hi,hk,hn,eM=>by
  rw[jkL];simp only[j5C,show F (R A)=(A.length:o) from rfl,show F (R B)=(B.length:o) from rfl];by_cases fg:i<A.length/\k<B.length
  .obtain⟨br,bQ⟩:=fg;obtain⟨n,rfl⟩:∃m,n=m+1:=⟨n-1,aa⟩;have gA:A.getD i ((0:o),((0:o),(0:o)))=A[i]:=by simp[H,br]
   have gB:B.getD k ((0:o),(0:o))=B[k]:=by simp[H,bQ]
   rw[ah (show (i:o)<(A.length:o) by omega),ah (show (k:o)<(B.length:o) by omega),bY (show (0:o)<=(i:o) by omega) aa,bY (show (0:o)<=(k:o) by omega) aa];simp only[j6,j8,gA,gB];rw[al (x:=(i:o)+1),al (x:=(k:o)+1)];rw[jb br,jb bQ];simp only[lX];generalize (if B[k].1>A[i].1 then B[k].1 else A[i].1:o)=f;generalize (if B[k].2<A[i].2.1 then B[k].2 else A[i].2.1:o)=t
   have HO:∀bI:bE,bI.length<=acc.length+1->AQ A B ((i:o)+1) (k:o) bI=G (bI++lX n (A.drop (i+1)) (B[k]::B.drop (k+1))):=λbI rI=>by
    have:=T6 hA hB n (i+1) k bI aa aa aa aa;rw[<-jb bQ];exact this
   have Bv:∀bI:bE,bI.length<=acc.length+1->AQ A B (i:o) ((k:o)+1) bI=G (bI++lX n (A[i]::A.drop (i+1)) (B.drop (k+1))):=λbI rI=>by
    have:=T6 hA hB n i (k+1) bI aa aa aa aa;rw[<-jb br];exact this
   by_cases jV:f<t
   .rw[ah jV,if_pos jV,ah (by simp[aM];omega)];simp only[j6];by_cases hc:A[i].2.1<B[k].2
    .rw[ah hc,if_pos hc];simp only[j6,aH];rw[HO _ ae,jj]
    .rw[aj hc,if_neg hc];simp only[j7,aH];rw[Bv _ ae,jj]
   .rw[aj jV,if_neg jV];simp only[j7];by_cases hc:A[i].2.1<B[k].2
    .rw[ah hc,if_pos hc];simp only[j6,aH];rw[HO _ aa,jw]
    .rw[aj hc,if_neg hc];simp only[j7,aH];rw[Bv _ aa,jw]
  .have hc:cond (decide ((i:o)<(A.length:o))) (decide ((k:o)<(B.length:o))) I=false:=by
    by_cases h1:i<A.length
    .rw[ah aa,j6];exact aj aa
    .rw[aj aa,j7]
   rw[hc,j7,aS]
   have:lX n (A.drop i) (B.drop k)=[]:=by
    by_cases h1:i<A.length
    .rw[yz (show B.length<=k by omega)];cases n<;>cases A.drop i<;>rfl
    .rw[yz (show A.length<=i by omega)];cases n<;>rfl
   rw[this,ql]
theorem ĉ{l:bE}(hl:l.length<=10000000):∀(n i:N)(acc:SL),i+n=l.length->acc.length<=i->F8 l (l.length:o) (i:o) acc=G (acc++(l.drop i).map λx=>(x.1,x.2.1))
 |0,i,acc,hi,_=>by
  rw[Zl];simp only[j4x];rw[aj aa,j7,aS,jc aa];simp
 |n+1,i,acc,hi,ha=>by
  have br:i<l.length:=aa;have aR:l.getD i ((0:o),((0:o),(0:o)))=l[i]:=by simp[H,br]
  rw[Zl];simp only[j4x];rw[ah aa,bD,al (x:=(i:o)+1)];simp only[j6,j8,aR];rw[ah (by simp[aM];omega),j6,aH,jb br,ke];have:=ĉ hl n (i+1) (acc++[(l[i].1,l[i].2.1)]) aa ax;rw[jj]at this;exact this
theorem jDc{l:bE}(hl:l.length<=10000000){lo hi:o}(h0:0<=lo)(h1:hi<=8589934592)(hb:∀x∈l,lo<=x.1/\x.1<x.2.1/\x.2.1<=hi) :
  ∃out,jdf l=G out/\ca (lo-1) out/\(∀t,bJ t out↔oq t l)/\out.length<=l.length:=by
 have lp:=ĉ hl l.length 0 [] aa ae;rw[jw,jm]at lp
 have aW:∀s∈l.map (λx=>(x.1,x.2.1)),lo<=s.1/\s.1<s.2/\s.2<=hi:=λs h=>by
  obtain⟨x,hx,rfl⟩:=jr.1 h;exact hb x hx
 obtain⟨out,e,g1,g2,g3,g4⟩:=HM (l:=l.map λx=>(x.1,x.2.1)) (by simpa using hl) (λs h=>by have:=aW s h;omega) (lo:=lo) (hi:=hi) (λs h _=>by have:=aW s h;omega);refine⟨out,?_,g1,λt=>(g2 t).trans ⟨?_,?_⟩,by simpa using g3⟩
 .simp only[jdf,show F l.length=(l.length:o) from rfl];rw[show F8 l (l.length:o) 0 []=_ from lp];simp only[j4,e]
 .rintro⟨s,hs,h⟩
  obtain⟨x,hx,rfl⟩:=jr.1 hs;exact⟨x,hx,h⟩
 .rintro⟨x,hx,h⟩
  exact⟨_,jr.2 ⟨x,hx,rfl⟩,h⟩
section
variable{zs:E bF}{ps:E cR}{cs:E aV}(hs:db zs ps cs)
include hs
end
end Go.Proofs.Pw
