/- The references of um 11 to 14: Sk is on ue, Sk is on call. -/
import Derived.Test.YtkoifkkadkmecaaGreatLRPJ
import Derived.Test.YtkoifkkadkmecaaGreatLRPH
import Derived.Test.YtkoifkkadkmecaaGreatLRPG
import Derived.Test.YtkoifkkadkmecaaGreatLRPI
open _root_ renaming Int->o,List->E,Nat->N,ByteArray->O
open ByteArray renaming empty->D
open Int renaming ofNat->F,tmod->X
open Option renaming some->G
open List renaming getD->H,length->R
open Bool renaming false->I,true->J
noncomputable section
open Go Go.Lft
namespace Go.Proofs.Pw
theorem Tb{w:WL}(hl:w.length<=14)(s:o):∀(n i:N),i+n=w.length->F7 w s (i:o)=G (cond (hasB s (w.drop i)) (.inl J) (.inr ()))
 |0,i,hi=>by
  rw[Zo];simp only[j6e,show F w.length=(w.length:o) from rfl];rw[ai omg_,j7,aP,jd omg_];rfl
 |n+1,i,hi=>by
  have bh:i<w.length:=omg_;have aT:w.getD i ((0:o),(0:o))=w[i]:=by simp[H,bh]
  rw[Zo];simp only[j6e,show F w.length=(w.length:o) from rfl];rw[ah omg_,bJ];simp only[j6,qz,j8,aT];rw[aj (x:=(i:o)+1),jb bh];have hb:hasB s (w[i]::w.drop (i+1))=cond (cond (decide (w[i].1<=s)) (decide (s<w[i].2)) I) J (hasB s (w.drop (i+1))):=rfl;rw[hb];by_cases h1:w[i].1<=s
  .rw[ah (show s>=w[i].1 from h1)];simp only[j6];by_cases h2:s<w[i].2
   .rw[ah h2];rfl
   .rw[ai h2];simp only[j7,aB];exact Tb hl s n (i+1) omg_
  .rw[ai (show¬s>=w[i].1 from h1)];simp only[j7,aB];exact Tb hl s n (i+1) omg_
theorem jAI{w:WL}(hl:w.length<=14)(s:o):jjc w s=G (hasB s w):=by
 have:=Tb hl s w.length 0 omg_;simp only[jjc,show F7 w s 0=_ from this,j4,jr];cases hasB s w<;>rfl
theorem ϓ{z:bF}(hz:fY z){t:o}(h0:0<=t)(h1:t<=8589934592):j4D z t=G (cA z t,0):=by
 have h4:=hz.zref.2.1;obtain⟨k,hk,k1,k2⟩:=tT h4.2 h0 h1;have e:=CW h4.2 hk k1 k2;have:cA z t=((t+bu z.2.1 (tb z).2 k)/86400,(t+bu z.2.1 (tb z).2 k)%86400):=by simp only[cA,show j1n (tb z) t=_ from e,qd]
 rw[this];exact r_ h4 h0 h1 hk k1 k2
theorem jGJ{z:bF}(hz:fY z){t:o}(h0:0<=t)(h1:t<=8589934592){w:WL}(hw:gj 0 w)(hl:w.length<=14):jdW z t=G (fe (cA z t),0)/\jt8 z w t=G (hasB (fe (cA z t)) w):=by
 have e1:=ϓ hz h0 h1;obtain⟨_,gG⟩:=SP hz h0 h1;have e2:j8Y (cA z t)=G (fe (cA z t)):=gG;have e3:jdW z t=G (fe (cA z t),0):=by simp only[jdW,show j4D (z.1,(z.2.1,z.2.2)) t=_ from e1,j4,jk,j7,show j8Y ((cA z t).1,(cA z t).2)=_ from e2]
 refine⟨e3,?_⟩;simp only[jt8,show jdW (z.1,(z.2.1,z.2.2)) t=_ from e3,j4,qs,j6,uj hw hl,jAI hl]
section
variable{zs:E bF}{ps:E cI}{cs:E aU}(hs:cC zs ps cs)
include hs
theorem Tc{k d e:o}{x:aU}(hx:rk zs.length x){L:bP}:∀(n i:N)(b:Bool),i+n=x.2.2.length->b=decide (d∈x.2.2.take i)->
  Be k b (i:o) L.1 L.2.1 L.2.2.1.1 L.2.2.1.2 L.2.2.2.1 L.2.2.2.2.1 L.2.2.2.2.2.1 L.2.2.2.2.2.2.1 L.2.2.2.2.2.2.2.1 L.2.2.2.2.2.2.2.2 x.1 x.2.1 x.2.2 d e=
   G (k,decide (d∈x.2.2),L.1,L.2.1,L.2.2.1.1,L.2.2.1.2,L.2.2.2.1,L.2.2.2.2.1,L.2.2.2.2.2.1,L.2.2.2.2.2.2.1,L.2.2.2.2.2.2.2.1,L.2.2.2.2.2.2.2.2)
 |0,i,b,hi,hb=>by
  rw[Zp];simp only[j7T,show F x.2.2.length=(x.2.2.length:o) from rfl];rw[ai omg_,j7,aP,hb,List.take_of_length_le omg_]
 |n+1,i,b,hi,hb=>by
  have _:=hs;have om:=hx.len;have bh:i<x.2.2.length:=omg_;have aT:x.2.2.getD i (0:o)=x.2.2[i]:=by simp[bh]
  rw[Zp];simp only[j7T,show F x.2.2.length=(x.2.2.length:o) from rfl];rw[ah omg_,aj (x:=(i:o)+1),j6];have ht:x.2.2.take (i+1)=x.2.2.take i++[x.2.2[i]]:=by rw[ku,jm bh];rfl
  cases ϔ:b with
  |true=>simp only[j6,aB];refine Tc hx n (i+1) J omg_ ?_;have:d∈x.2.2.take i:=q8 (by rw[<-hb,ϔ]);rw[ht];exact(ah (jx _ this)).symm
  |false=>
   have ct:d∉x.2.2.take i:=vv (by rw[<-hb,ϔ]);rw[bA (show (0:o)<=(i:o) by omega) omg_];simp only[j7,j6,j8,aT,aB];refine Tc hx n (i+1) _ omg_ ?_;rw[ht];by_cases he:x.2.2[i]=d
   .rw[cR he];exact(ah (k5 _ (by simp[he]))).symm
   .rw[ca he];refine(ai λhm=>?_).symm;rcases jj.1 hm with h|h
    .exact ct h
    .simp at h;exact he h.symm
theorem jF8{L:bP}(hL:ez zs.length ps.length cs.length L){ss:E cu}{t:o}(h0:0<=t)(h1:t<=8589934592):∃k,jle (zs,(ps,(cs,ss))) L t=G (k,fN zs cs L t)/\(fN zs cs L t=J->k=bQ (aF zs L.2.1) L t):=by
 have uh:=hL.rt2;have hz:fY (aF zs L.2.1):=fH hs.so.ok hL.z0 hL.z1;have h4:=hz.zref.2.1;obtain⟨K,eK,hK⟩:=Δ h4 uh h0 h1;have hKs:K=bQ (aF zs L.2.1) L t:=jR.uniq h4.2 uh hK (pZ hz uh h0 h1).2;subst hKs;have ek:jil (aF zs L.2.1) L t=G (bQ (aF zs L.2.1) L t,0):=by simp only[jil,show jei ((aF zs L.2.1).1,((aF zs L.2.1).2.1,(aF zs L.2.1).2.2)) (L.1,L.2.1,(L.2.2.1.1,L.2.2.1.2),L.2.2.2.1,L.2.2.2.2.1,L.2.2.2.2.2.1,L.2.2.2.2.2.2.1,L.2.2.2.2.2.2.2.1,L.2.2.2.2.2.2.2.2)=_ from Β h4 L,j4];rw[if_pos uh,ai (show¬t<0 by omega),ai (show¬t>8589934592 by omega)];simp only[jk,j7];rw[show jek ((aF zs L.2.1).1,((aF zs L.2.1).2.1,(aF zs L.2.1).2.2)) (L.1,L.2.1,(L.2.2.1.1,L.2.2.1.2),L.2.2.2.1,L.2.2.2.2.1,L.2.2.2.2.2.1,L.2.2.2.2.2.2.1,L.2.2.2.2.2.2.2.1,L.2.2.2.2.2.2.2.2) t=_ from eK];rfl
 obtain⟨_,ein⟩:=jGJ hz h0 h1 hL.w hL.wl
 have zC:(cond (L.2.2.2.2.2.2.2.2==(0:o)) (G (bQ (aF zs L.2.1) L t,J)) (cond (inR L.2.2.2.2.2.2.2.1 cs.length) (cond (inR (cs.getD L.2.2.2.2.2.2.2.1.toNat (D,((0:o),([]:E o)))).2.1 zs.length)
   ((
    j4D ((zs.getD (cs.getD L.2.2.2.2.2.2.2.1.toNat (D,((0:o),([]:E o)))).2.1.toNat (D,((0:o),([]:E aN)))).1,((zs.getD (cs.getD L.2.2.2.2.2.2.2.1.toNat (D,((0:o),([]:E o)))).2.1.toNat (D,((0:o),([]:E aN)))).2.1,(zs.getD (cs.getD L.2.2.2.2.2.2.2.1.toNat (D,((0:o),([]:E o)))).2.1.toNat (D,((0:o),([]:E aN)))).2.2)) t).bind λϕ=>
    (Be (bQ (aF zs L.2.1) L t) I 0 L.1 L.2.1 L.2.2.1.1 L.2.2.1.2 L.2.2.2.1 L.2.2.2.2.1 L.2.2.2.2.2.1 L.2.2.2.2.2.2.1 L.2.2.2.2.2.2.2.1 L.2.2.2.2.2.2.2.2 (cs.getD L.2.2.2.2.2.2.2.1.toNat (D,((0:o),([]:E o)))).1 (cs.getD L.2.2.2.2.2.2.2.1.toNat (D,((0:o),([]:E o)))).2.1 (cs.getD L.2.2.2.2.2.2.2.1.toNat (D,((0:o),([]:E o)))).2.2 ϕ.1.1 ϕ.1.2).bind λq0=>
     G (q0.1,(q0.2.1==(q0.2.2.2.2.2.2.2.2.2.2.2==(2:o))))) none) none))=G (bQ (aF zs L.2.1) L t,iV zs cs L t):=by
  by_cases hm:L.2.2.2.2.2.2.2.2=0
  .rw[cR hm,j6];unfold iV;rw[cR hm];rfl
  .have cH:=hL.cal hm;have hx:=rz hs cH.1 cH.2;have Cn:=fH hs.so.ok hx.z0 hx.z1;rw[ca hm,j7,bA cH.1 cH.2,bA hx.z0 hx.z1];simp only[j6];rw[show j4D ((zs.getD (cs.getD L.2.2.2.2.2.2.2.1.toNat (D,((0:o),([]:E o)))).2.1.toNat (D,((0:o),([]:E aN)))).1,((zs.getD (cs.getD L.2.2.2.2.2.2.2.1.toNat (D,((0:o),([]:E o)))).2.1.toNat (D,((0:o),([]:E aN)))).2.1,(zs.getD (cs.getD L.2.2.2.2.2.2.2.1.toNat (D,((0:o),([]:E o)))).2.1.toNat (D,((0:o),([]:E aN)))).2.2)) t=_ from ϓ Cn h0 h1];simp only[j4];rw[show Be (bQ (aF zs L.2.1) L t) I 0 L.1 L.2.1 L.2.2.1.1 L.2.2.1.2 L.2.2.2.1 L.2.2.2.2.1 L.2.2.2.2.2.1 L.2.2.2.2.2.2.1 L.2.2.2.2.2.2.2.1 L.2.2.2.2.2.2.2.2 (cs.getD L.2.2.2.2.2.2.2.1.toNat (D,((0:o),([]:E o)))).1 (cs.getD L.2.2.2.2.2.2.2.1.toNat (D,((0:o),([]:E o)))).2.1 (cs.getD L.2.2.2.2.2.2.2.1.toNat (D,((0:o),([]:E o)))).2.2 _ _=_ from Tc hs hx (L:=L) (cs.getD L.2.2.2.2.2.2.2.1.toNat (D,((0:o),([]:E o)))).2.2.length 0 I omg_ smp_];unfold iV;rw[ca hm];rfl
 simp only[jle];rw[bA hL.z0 hL.z1];simp only[j6];rw[show jil ((zs.getD L.2.1.toNat (D,((0:o),([]:E aN)))).1,((zs.getD L.2.1.toNat (D,((0:o),([]:E aN)))).2.1,(zs.getD L.2.1.toNat (D,((0:o),([]:E aN)))).2.2)) (L.1,L.2.1,(L.2.2.1.1,L.2.2.1.2),L.2.2.2.1,L.2.2.2.2.1,L.2.2.2.2.2.1,L.2.2.2.2.2.2.1,L.2.2.2.2.2.2.2.1,L.2.2.2.2.2.2.2.2) t=_ from ek];simp only[j4,jk,j7];by_cases hk:0<=bQ (aF zs L.2.1) L t
 .rw[ai (show¬bQ (aF zs L.2.1) L t<0 by omega)];simp only[j7,show F L.2.2.2.2.2.2.1.length=(L.2.2.2.2.2.2.1.length:o) from rfl];have oy:fN zs cs L t=cond (okW L.2.2.2.2.2.2.1 (fe (cA (aF zs L.2.1) t))) (iV zs cs L t) false:=by unfold fN;rw[ah hk];rfl
  rw[oy];by_cases hw:(L.2.2.2.2.2.2.1.length:o)>0
  .rw[ah hw,j6,show jt8 ((zs.getD L.2.1.toNat (D,((0:o),([]:E aN)))).1,((zs.getD L.2.1.toNat (D,((0:o),([]:E aN)))).2.1,(zs.getD L.2.1.toNat (D,((0:o),([]:E aN)))).2.2)) L.2.2.2.2.2.2.1 t=_ from ein];simp only[j4];unfold okW;rw[ah hw,j6];cases hasB (fe (cA (aF zs L.2.1) t)) L.2.2.2.2.2.2.1 with
   |false=>exact⟨0,rfl,λh=>by simp at h⟩
   |true=>simp only[jl,j7,j6];exact⟨_,zC,λ_=>rfl⟩
  .rw[ai hw,j7];unfold okW;rw[ai hw];simp only[j7,j6];exact⟨_,zC,λ_=>rfl⟩
 .rw[ah (show bQ (aF zs L.2.1) L t<0 by omega)];have oy:fN zs cs L t=false:=by unfold fN;rw[ai hk];rfl
  rw[oy];simp only[j6,jl,jv,Bool.or_true];exact⟨0,rfl,λh=>by simp at h⟩
theorem jCw{L:bP}(hL:ez zs.length ps.length cs.length L){ss:E cu}{t:o}(h0:0<=t)(h1:t<=8589934592):jon (zs,(ps,(cs,ss))) L t=G (cb zs cs L t):=by
 obtain⟨k,e,hk⟩:=jF8 hs hL (ss:=ss) h0 h1;have oy:fN zs cs L t=J->0<=bQ (aF zs L.2.1) L t:=Lb;simp only[jon];rw[show jle (zs,ps,cs,ss) (L.1,L.2.1,(L.2.2.1.1,L.2.2.1.2),L.2.2.2.1,L.2.2.2.2.1,L.2.2.2.2.2.1,L.2.2.2.2.2.2.1,L.2.2.2.2.2.2.2.1,L.2.2.2.2.2.2.2.2) t=_ from e];simp only[j4,show F L.2.2.2.2.2.1.length=(L.2.2.2.2.2.1.length:o) from rfl];unfold cb;cases hc:fN zs cs L t with
 |false=>rfl
 |true=>have gF:=hL.m0;have nd:=oy hc;have:=hk hc;subst this;have q1:0<=X (bQ (aF zs L.2.1) L t) (L.2.2.2.2.2.1.length:o):=Int.tmod_nonneg _ nd;have q2:X (bQ (aF zs L.2.1) L t) (L.2.2.2.2.2.1.length:o)<(L.2.2.2.2.2.1.length:o):=yq _ omg_;rw[ca (show¬(L.2.2.2.2.2.1.length:o)=0 by omega),bA q1 q2];rfl
theorem ϖ:∀z∈zs,j8B z=G 0:=λz hz=>Ta (hs.so.ok z hz)
end
def dx(zs:E bF)(cs:E aU)(ls:E bP)(t:o)(i:N):Int:=cb zs cs (ls.getD i (D,((0:o),(((0:o),(0:o)),((0:o),((0:o),(([]:E o),(([]:E (o×o)),((0:o),(0:o)))))))))) t
def p8(es:E dN)(p:o):SL:=(es.filter λx=>x.1==0&&x.2.1==p).map λx=>(x.2.2.2.1,x.2.2.2.2)
theorem jGL{es:E dN}{p t:o}:bq t (p8 es p)↔jF es p t=true:=by
 unfold bq p8 jF;rw[zv];constructor
 .rintro⟨s,hs,h1,h2⟩
  obtain⟨x,hx,rfl⟩:=jz.1 hs;obtain⟨h3,h4⟩:=kz.1 hx;dsimp only at h1 h2;refine⟨x,h3,?_⟩;simp only[jg,js]at h4 ⊢;exact⟨h4.1,h4.2,h1,h2⟩
 .rintro⟨x,hx,h⟩
  simp only[jg,js]at h;exact⟨_,jz.2 ⟨x,kz.2 ⟨hx,by simp only[jg];exact⟨h.1,h.2.1⟩⟩,rfl⟩,h.2.2.1,h.2.2.2⟩
theorem Td{es:E dN}(hl:es.length<=1000){p:o}:∀(n i:N)(acc:SL),i+n=es.length->acc.length<=i->Fm p es (es.length:o) (i:o) acc=G (acc++p8 (es.drop i) p)
 |0,i,acc,hi,_=>by
  rw[Yc];simp only[j4P];rw[ai omg_,j7,aP,jd omg_];simp[p8]
 |n+1,i,acc,hi,ha=>by
  have bh:i<es.length:=omg_;have aT:es.getD i ((0:o),((0:o),((0:o),((0:o),(0:o)))))=es[i]:=by simp[H,bh]
  rw[Yc];simp only[j4P];rw[ah omg_,bJ,aj (x:=(i:o)+1)];simp only[j6,j8,aT];have hc:cond (es[i].1==(0:o)) (es[i].2.1==p) I=(es[i].1==0&&es[i].2.1==p):=by cases es[i].1==(0:o)<;>rfl
  rw[hc,jb bh];cases hx:(es[i].1==0&&es[i].2.1==p) with
  |true=>
   rw[j6,ah (by simp[aG];omega),j6,aB];have:=Td hl (p:=p) n (i+1) (acc++[(es[i].2.2.2.1,es[i].2.2.2.2)]) omg_ sqo_;have e:p8 (es[i]::es.drop (i+1)) p=(es[i].2.2.2.1,es[i].2.2.2.2)::p8 (es.drop (i+1)) p:=by simp only[p8,List.filter_cons,hx,if_true,qf]
   rw[e];rw[jh]at this;exact this
  |false=>
   rw[j7,aB];have:=Td hl (p:=p) n (i+1) acc omg_ omg_;have e:p8 (es[i]::es.drop (i+1)) p=p8 (es.drop (i+1)) p:=by unfold p8;rw[List.filter_cons_of_neg (by simp only[hx];simp)]
   rw[e];exact this
theorem jAJ{es:E dN}{np:N}(hE:∀x∈es,rm np x)(hl:es.length<=48)(nm:O)(ls:E bP)(p:o) :
  ∃out,j8u (nm,(ls,es)) p=G out/\bB (-1) out/\(∀t,bq t out↔jF es p t=J)/\out.length<=es.length:=by
 have lp:=Td (es:=es) omg_ (p:=p) es.length 0 [] omg_ smp_;rw[jp,jr]at lp;have fh:(p8 es p).length<=es.length:=by unfold p8;rw[ke];exact qo _ _
 have hb:∀s∈p8 es p,0<=s.1/\s.1<s.2/\s.2<=1000000000000:=λs h=>by
  obtain⟨x,hx,rfl⟩:=jz.1 h;have:=hE x (kz.1 hx).1;exact⟨this.f0,this.ft,this.t1⟩
 obtain⟨out,e,h1,h2,h3,h4⟩:=C4 (l:=p8 es p) omg_ (λs h=>by have:=hb s h;omega) (lo:=0) (hi:=1000000000000) (λs h _=>by have:=hb s h;omega);refine⟨out,?_,h1,λt=>(h2 t).trans jGL,omg_⟩;simp only[j8u,show F es.length=(es.length:o) from rfl];rw[show Fm p es (es.length:o) 0 []=_ from lp];simp only[j4,e]
theorem jyj{β:Type}(l:E (o×β))(k:o)(v:β)(j:o):jH (jW l k v) j=(j==k||jH l j):=by
 induction l with
 |nil=>simp[jW,jH]
 |cons x r ih=>
  simp only[jW];by_cases h:k=x.1
  .rw[cR h,j6];simp only[jH,yn];rw[<-h];cases j==k<;>simp
  .rw[ca h,j7];have:jH (x::jW r k v) j=(j==x.1||jH (jW r k v) j):=rfl;rw[this,ih];have:jH (x::r) j=(j==x.1||jH r j):=rfl;rw[this];cases j==x.1<;>cases j==k<;>simp
theorem ϗ{β:Type}(d:β)(l:E (o×β))(k:o)(v:β)(j:o):iN d (jW l k v) j=cond (j==k) v (iN d l j):=by
 induction l with
 |nil=>rfl
 |cons x r ih=>
  simp only[jW];by_cases h:k=x.1
  .rw[cR h,j6];show cond (j==k) v (iN d r j)=cond (j==k) v (cond (j==x.1) x.2 (iN d r j));rw[<-h];cases j==k<;>rfl
  .rw[ca h,j7];show cond (j==x.1) x.2 (iN d (jW r k v) j)=cond (j==k) v (cond (j==x.1) x.2 (iN d r j));rw[ih];by_cases hj:j=x.1
   .rw[cR hj,j6,ca (show¬j=k by omega)];rfl
   .rw[ca hj];rfl
def iw(p:o):bm->Prop
 |[]=>True
 |x::r=>p<=x.1/\x.1<x.2.1/\iw x.2.1 r
def oz(t:o)(l:bm):Prop:=∃x∈l,x.1<=t/\t<x.2.1
theorem He{t:o}{s:fI}{l:bm}:oz t (s::l)↔(s.1<=t/\t<s.2.1)\/oz t l:=by
 constructor
 .rintro⟨u,hu,h⟩
  rcases je.1 hu with rfl|hu
  .exact .inl h
  .exact .inr ⟨u,hu,h⟩
 .rintro (h|⟨u,hu,h⟩)
  .exact⟨s,smp_,h⟩
  .exact⟨u,by simp[hu],h⟩
theorem Te{t:o}:¬oz t []:=by rintro⟨s,hs,_⟩;simp at hs
theorem iw.weak{p q:o}(hq:q<=p):∀{l:bm},iw p l->iw q l
 |[],_=>trivial
 |_::_,h=>⟨by have:=h.1;omega,h.2⟩
theorem iw.low{p t:o}:∀{l:bm},iw p l->oz t l->p<=t
 |[],_,h=>absurd h Te
 |s::r,h,hx=>by
  rcases He.1 hx with hx|hx
  .have:=h.1;omega
  .have:=iw.low h.2.2 hx;have:=h.1;have:=h.2.1;omega
theorem iw.app{e:o}{r:bm}(hr:iw e r):∀{l:bm}{p:o},iw p l->p<=e->(∀x∈l,x.2.1<=e)->iw p (l++r)
 |[],_,_,hp,_=>hr.weak hp
 |x::l,p,h,_,hl=>⟨h.1,h.2.1,hr.app h.2.2 (hl x smp_) (λy hy=>hl y (by simp[hy]))⟩
theorem iw.apart{p:o}:∀{l:bm},iw p l->l.Pairwise (λx y=>x.2.1<=y.1)/\∀x∈l,p<=x.1
 |[],_=>⟨List.Pairwise.nil,smp_⟩
 |x::l,h=>by
  obtain⟨h1,h2⟩:=iw.apart h.2.2
  exact⟨jt.2 ⟨h2,h1⟩,λy hy=>by
   rcases je.1 hy with rfl|hy
   .exact h.1
   .have:=h2 y hy;have:=h.1;have:=h.2.1;omega⟩
def sr(s:cu)(p:o):SL:=(j8u s p).getD []
def su(s:cu)(x:fI):SL:=(j3A [(x.1,x.2.1)] (sr s x.2.2)).getD []
def nZ(s:cu)(x:fI):bm:=if x.2.2<0 then [] else (su s x).map λu=>(u.1,(u.2,x.2.2))
section
variable{nm:O}{ls:E bP}{es:E dN}{np:N}(hE:∀x∈es,rm np x)(hl:es.length<=48)
include hE hl
theorem Ϙ(p:o):j8u (nm,(ls,es)) p=G (sr (nm,(ls,es)) p)/\bB (-1) (sr (nm,(ls,es)) p)/\(∀t,bq t (sr (nm,(ls,es)) p)↔jF es p t=J)/\(sr (nm,(ls,es)) p).length<=es.length:=by
 obtain⟨out,e,h⟩:=jAJ hE hl nm ls p;have:sr (nm,(ls,es)) p=out:=by simp[sr,e]
 rw[this];exact⟨e,h⟩
theorem Tf{x:fI}(hx:x.1<x.2.1):j3A [(x.1,x.2.1)] (sr (nm,(ls,es)) x.2.2)=G (su (nm,(ls,es)) x)/\bB (x.1-1) (su (nm,(ls,es)) x)/\
  (∀t,bq t (su (nm,(ls,es)) x)↔(x.1<=t/\t<x.2.1)/\jF es x.2.2 t=I)/\(su (nm,(ls,es)) x).length<=1+es.length:=by
 obtain⟨_,l1,l2,l3⟩:=Ϙ (nm:=nm) (ls:=ls) hE hl x.2.2;obtain⟨out,e,h1,h2,h3⟩:=SI (B:=sr (nm,(ls,es)) x.2.2) omg_ (A:=[(x.1,x.2.1)]) (p:=x.1-1) ⟨by dsimp only;omega,hx,trivial⟩ l1 smp_;have:su (nm,(ls,es)) x=out:=by simp[su,e]
 rw[this];refine⟨e,h1,λt=>?_,by rw[qe]at h3;omega⟩;rw[h2 t,l2 t,du];constructor
 .rintro⟨h|h,h'⟩
  .exact⟨h,by simpa using h'⟩
  .exact absurd h fp
 .rintro⟨h,h'⟩
  exact⟨.inl h,by simp[h']⟩
omit hE hl in
theorem ϙ{S:bm}{m j f e p:o}{mp:E (o×SL)}{W:SL}(hW:W.length<=1000):∀(n i:N)(acc:bm),i+n=W.length->acc.length+n<=1000000000->
  AY S m j (W.length:o) (i:o) nm ls es f e p mp acc W=G (S,m,j,nm,ls,es,mp,acc++(W.drop i).map λu=>(u.1,(u.2,p)))
 |0,i,acc,hi,_=>by
  rw[Yd];simp only[j47];rw[ai omg_,j7,aP,jd omg_];simp
 |n+1,i,acc,hi,ha=>by
  have bh:i<W.length:=omg_;have aT:W.getD i ((0:o),(0:o))=W[i]:=by simp[H,bh]
  rw[Yd];simp only[j47];rw[ah omg_,bJ,aj (x:=(i:o)+1)];simp only[j6,j8,aT];rw[ah (by simp[aG];omega),j6,aB,jb bh,qf];have:=ϙ (S:=S) (m:=m) (j:=j) (f:=f) (e:=e) (p:=p) (mp:=mp) hW n (i+1) (acc++[(W[i].1,(W[i].2,p))]) omg_ sqo_;rw[jh]at this;exact this
theorem Tg{S:bm}(hS:S.length<=100000)(cq:∀x∈S,x.1<x.2.1):∀(n i:N)(mp:E (o×SL))(acc:bm),i+n=S.length->(∀p,jH mp p=J->iN [] mp p=sr (nm,(ls,es)) p)->acc.length<=49*i->
  CI S (S.length:o) (i:o) nm ls es mp acc=G (acc++(S.drop i).flatMap (nZ (nm,(ls,es))))
 |0,i,mp,acc,hi,_,_=>by
  rw[Ye];simp only[j48];rw[ai omg_,j7,aP,jd omg_];simp
 |n+1,i,mp,acc,hi,hm,ha=>by
  have bh:i<S.length:=omg_;have aT:S.getD i ((0:o),((0:o),(0:o)))=S[i]:=by simp[H,bh]
  have hp:=cq _ (jf bh);rw[Ye];simp only[j48];rw[ah (show (i:o)<(S.length:o) by omega),bJ];simp only[j6,j8,aT];rw[jb bh,z7];by_cases nV:S[i].2.2<0
  .rw[ah nV,j6,aj (x:=(i:o)+1),aB];have e:nZ (nm,(ls,es)) S[i]=[]:=if_pos nV;rw[e,jp];exact Tg hS cq n (i+1) mp acc omg_ hm omg_
  .have e:nZ (nm,(ls,es)) S[i]=(su (nm,(ls,es)) S[i]).map λu=>(u.1,(u.2,S[i].2.2)):=if_neg nV;obtain⟨w1,_,_,w4⟩:=Tf (nm:=nm) (ls:=ls) hE hl hp;rw[ai nV,j7]
   have fin:∀w6:E (o×SL),(∀p,jH w6 p=J->iN [] w6 p=sr (nm,(ls,es)) p)->iN [] w6 S[i].2.2=sr (nm,(ls,es)) S[i].2.2->
     lpK ((j3A [(S[i].1,S[i].2.1)] (iN [] w6 S[i].2.2)).bind λϚ=>
      (AY S (S.length:o) (i:o) (F Ϛ.length) 0 nm ls es S[i].1 S[i].2.1 S[i].2.2 w6 acc Ϛ).bind λq2=>
       (G (Sum.inl (q2.1,q2.2.1,w64 (q2.2.2.1+1),q2.2.2.2.1,q2.2.2.2.2.1,q2.2.2.2.2.2.1,q2.2.2.2.2.2.2.1,q2.2.2.2.2.2.2.2)):Option ((bm×o×o×O×E bP×E dN×E (o×SL)×bm) ⊕ bm)))
      (λh=>CI h.1 h.2.1 h.2.2.1 h.2.2.2.1 h.2.2.2.2.1 h.2.2.2.2.2.1 h.2.2.2.2.2.2.1 h.2.2.2.2.2.2.2)=G (acc++(nZ (nm,(ls,es)) S[i]++(S.drop (i+1)).flatMap (nZ (nm,(ls,es))))):=λw6 kS hg=>by
    have l2:=ϙ (nm:=nm) (ls:=ls) (es:=es) (S:=S) (m:=(S.length:o)) (j:=(i:o)) (f:=S[i].1) (e:=S[i].2.1) (p:=S[i].2.2) (mp:=w6) (W:=su (nm,(ls,es)) S[i]) omg_ (su (nm,(ls,es)) S[i]).length 0 acc omg_ omg_;rw[hg,w1];simp only[j4];rw[show AY S (S.length:o) (i:o) (F (su (nm,(ls,es)) S[i]).length) 0 nm ls es S[i].1 S[i].2.1 S[i].2.2 w6 acc (su (nm,(ls,es)) S[i])=_ from l2];simp only[j4,jr];rw[aj (x:=(i:o)+1),aB,<-e,<-jh];exact Tg hS cq n (i+1) w6 _ omg_ kS (by rw[jc,e,ke];omega)
   cases hh:jH mp S[i].2.2 with
   |true=>simp only[jl,j7];exact fin mp hm (hm _ hh)
   |false=>
    simp only[jv,j6];rw[show j8u (nm,(ls,es)) S[i].2.2=_ from (Ϙ (nm:=nm) (ls:=ls) hE hl S[i].2.2).1];simp only[j4];refine fin _ (λp qO=>?_) ?_
    .rw[ϗ];by_cases Lf:p=S[i].2.2
     .rw[cR Lf,j6,Lf]
     .rw[jyj,ca Lf,y9]at qO;rw[ca Lf,j7];exact hm p qO
    .rw[ϗ];simp
theorem jyk{S:bm}(hS:S.length<=100000)(cq:∀x∈S,x.1<x.2.1):jaI (nm,(ls,es)) S=G (S.flatMap (nZ (nm,(ls,es)))):=by
 simp only[jaI,show F S.length=(S.length:o) from rfl];rw[show CI S (S.length:o) 0 nm ls es [] []=_ from Tg hE hl hS cq S.length 0 [] [] omg_ (λp h=>by simp[jH]at h) smp_];rfl
theorem jFa{x:fI}(hx:x.1<x.2.1):(nZ (nm,(ls,es)) x).length<=1+es.length:=by
 unfold nZ;split
 .simp
 .rw[ke];exact(Tf (nm:=nm) (ls:=ls) hE hl hx).2.2.2
theorem ϛ:∀{S:bm},(∀x∈S,x.1<x.2.1)->(S.flatMap (nZ (nm,(ls,es)))).length<=S.length*(1+es.length)
 |[],_=>smp_
 |x::S,h=>by
  have h1:=jFa (nm:=nm) (ls:=ls) hE hl (h x smp_);have h2:=ϛ (S:=S) (λy hy=>h y (by simp[hy]));rw[z7,jc,ji,Nat.add_mul];omega
theorem Ϝ{p:o}{c e:o}:∀{W:SL}{q:o},bB q W->(∀u∈W,u.2<=e)->iw (q+1) (W.map λu=>(u.1,(u.2,c)))/\(p<=q+1->iw p (W.map λu=>(u.1,(u.2,c))))
 |[],_,_,_=>⟨trivial,λ_=>trivial⟩
 |u::W,q,h,hb=>by
  have _:=hE;have _:=hl;have h3:=(Ϝ (p:=u.2) (c:=c) (e:=e) (W:=W) h.2.2 (λv hv=>hb v (by simp[hv]))).2 omg_;exact⟨⟨by have:=h.1;dsimp only;omega,h.2.1,h3⟩,λhp=>⟨by have:=h.1;dsimp only;omega,h.2.1,h3⟩⟩
theorem ϝ{f:o->o}{b:o}:∀{S:bm}{a:o},Ch f b a S->(∀x∈S,x.1<x.2.1)->
  iw a (S.flatMap (nZ (nm,(ls,es))))/\(∀x∈S.flatMap (nZ (nm,(ls,es))),x.2.1<=b/\∀t,x.1<=t->t<x.2.1->f t=x.2.2/\0<=x.2.2/\jF es x.2.2 t=I)/\
   ∀t,a<=t->t<b->0<=f t->jF es (f t) t=I->oz t (S.flatMap (nZ (nm,(ls,es))))
 |[],a,h,_=>⟨trivial,smp_,λt h1 h2=>by have h:a=b:=h;omega⟩
 |x::S,a,h,cq=>by
  obtain⟨h1,h2,h3,h4⟩:=h;have hx:=cq x smp_;obtain⟨i1,i2,i3⟩:=ϝ (f:=f) (b:=b) h4 (λy hy=>cq y (by simp[hy]));have hle:=h4.le;obtain⟨_,w2,w3,_⟩:=Tf (nm:=nm) (ls:=ls) hE hl hx
  have fy:∀y∈nZ (nm,(ls,es)) x,0<=x.2.2/\y.2.2=x.2.2/\y.1<y.2.1/\x.1<=y.1/\y.2.1<=x.2.1/\∀t,y.1<=t->t<y.2.1->jF es x.2.2 t=false:=λy hy=>by
   unfold nZ at hy;split at hy
   .simp at hy
   .obtain⟨u,hu,rfl⟩:=jz.1 hy;have hm:=bB.mem w2 u hu;have e1:=(w3 (u.2-1)).1 ⟨u,hu,omg_,omg_⟩;exact⟨omg_,rfl,hm.2,by dsimp only;omega,by dsimp only;omega,λt t1 t2=>((w3 t).1 ⟨u,hu,t1,t2⟩).2⟩
  rw[z7];refine⟨?_,λy hy=>?_,λt t1 t2 t3 t4=>?_⟩
  .refine iw.app i1 ?_ h2 (λy hy=>(fy y hy).2.2.2.2.1);unfold nZ;split
   .trivial
   .exact(Ϝ hE hl (p:=a) (c:=x.2.2) (e:=x.2.1) w2 (λu hu=>by
     have hm:=bB.mem w2 u hu;have e1:=(w3 (u.2-1)).1 ⟨u,hu,omg_,omg_⟩;omega)).2 omg_
  .rcases jj.1 hy with hy|hy
   .obtain⟨g1,g2,g3,g4,g5,g6⟩:=fy y hy;exact⟨omg_,λt t1 t2=>⟨by rw[g2];exact h3 t omg_ omg_,omg_,by rw[g2];exact g6 t t1 t2⟩⟩
   .exact i2 y hy
  .by_cases aq:t<x.2.1
   .have hf:=h3 t t1 aq;rw[hf]at t3 t4;obtain⟨u,hu,u1,u2⟩:=(w3 t).2 ⟨⟨omg_,aq⟩,t4⟩;refine⟨(u.1,(u.2,x.2.2)),jx _ ?_,u1,u2⟩;unfold nZ;rw[if_neg omg_];exact jz.2 ⟨u,hu,rfl⟩
   .obtain⟨y,hy,y1,y2⟩:=i3 t omg_ t2 t3 t4;exact⟨y,k5 _ hy,y1,y2⟩
end
def ma:N->bm->SL->bm
 |n+1,s::a,u::b=>(if (if u.1>s.1 then u.1 else s.1)<(if u.2<s.2.1 then u.2 else s.2.1) then [((if u.1>s.1 then u.1 else s.1),((if u.2<s.2.1 then u.2 else s.2.1),s.2.2))] else [])++
  (if s.2.1<u.2 then ma n a (u::b) else ma n (s::a) b)
 |_,_,_=>[]
theorem Th:∀(n:N)(a:bm)(b:SL)(p q:o),a.length+b.length<=n->iw p a->bB q b->
  iw p (ma n a b)/\iw q (ma n a b)/\(∀x∈ma n a b,∃s∈a,s.1<=x.1/\x.2.1<=s.2.1/\x.2.2=s.2.2/\∀t,x.1<=t->t<x.2.1->bq t b)/\(∀t,oz t a->bq t b->oz t (ma n a b))/\(ma n a b).length<=a.length+b.length
 |0,a,b,p,q,hn,_,_=>by
  obtain rfl:a=[]:=k9.1 omg_;exact⟨trivial,trivial,by simp[ma],λt h=>absurd h Te,by simp[ma]⟩
 |n+1,[],b,p,q,_,_,_=>⟨trivial,trivial,by simp[ma],λt h=>absurd h Te,by simp[ma]⟩
 |n+1,_::_,[],p,q,_,_,_=>⟨trivial,trivial,by simp[ma],λt _ h=>absurd h fp,by simp[ma]⟩
 |n+1,s::a,u::b,p,q,hn,ha,hb=>by
  obtain⟨a1,a2,a3⟩:=ha;obtain⟨b1,b2,b3⟩:=hb;simp only[ji]at hn ⊢
  have hx:∃f t:o,f=(if u.1>s.1 then u.1 else s.1)/\t=(if u.2<s.2.1 then u.2 else s.2.1)/\(∀x,(f<=x/\x<t)↔(s.1<=x/\x<s.2.1)/\(u.1<=x/\x<u.2))/\p<=f/\q<=f/\t<=s.2.1/\t<=u.2/\s.1<=f:=by
   refine⟨_,_,rfl,rfl,λx=>?_,?_,?_,?_,?_,?_⟩
   .constructor
    .intro h;split at h<;>split at h<;>omega
    .intro h;split<;>split<;>omega
   all_goals split<;>omega
  obtain⟨f,t,ef,et,hi,f1,f2,t1,t2,f3⟩:=hx;simp only[ma,<-ef,<-et]
  have key:∀(a':bm)(b':SL)(r:bm),iw t r->iw p r->iw q r->(∀x∈r,∃s'∈(s::a),s'.1<=x.1/\x.2.1<=s'.2.1/\x.2.2=s'.2.2/\∀y,x.1<=y->y<x.2.1->bq y (u::b))->(∀y,oz y a'->bq y b'->oz y r)->
    r.length<=a'.length+b'.length->a'.length+b'.length+1=a.length+1+(b.length+1)->(∀y,oz y (s::a)->bq y (u::b)->(f<=y/\y<t)\/(oz y a'/\bq y b'))->
    iw p ((if f<t then [(f,(t,s.2.2))] else [])++r)/\iw q ((if f<t then [(f,(t,s.2.2))] else [])++r)/\(∀x∈((if f<t then [(f,(t,s.2.2))] else [])++r),∃s'∈(s::a),s'.1<=x.1/\x.2.1<=s'.2.1/\x.2.2=s'.2.2/\∀y,x.1<=y->y<x.2.1->bq y (u::b))/\
     (∀y,oz y (s::a)->bq y (u::b)->oz y ((if f<t then [(f,(t,s.2.2))] else [])++r))/\((if f<t then [(f,(t,s.2.2))] else [])++r).length<=a.length+1+(b.length+1):=by
   intro a' b' r Ac wZ SD K8 Ϟ hl uG ug;by_cases jP:f<t
   .rw[if_pos jP];refine⟨⟨f1,jP,Ac⟩,⟨f2,jP,Ac⟩,λx hx=>?_,λy y1 y2=>?_,sqo_⟩
    .rcases je.1 hx with rfl|hx
     .exact⟨s,smp_,f3,t1,rfl,λy y1 y2=>du.2 (.inl ((hi y).1 ⟨y1,y2⟩).2)⟩
     .exact K8 x hx
    .rcases ug y y1 y2 with h|h
     .exact He.2 (.inl h)
     .exact He.2 (.inr (Ϟ y h.1 h.2))
   .rw[if_neg jP,jp];refine⟨wZ,SD,K8,λy y1 y2=>?_,omg_⟩;rcases ug y y1 y2 with h|h
    .omega
    .exact Ϟ y h.1 h.2
  by_cases hc:s.2.1<u.2
  .rw[if_pos hc];obtain⟨i1,i2,i3,i4,i5⟩:=Th n a (u::b) s.2.1 q sqo_ a3 ⟨b1,b2,b3⟩;refine key a (u::b) _ (i1.weak t1) (i1.weak omg_) i2 (λx hx=>?_) i4 i5 sqo_ (λy y1 y2=>?_)
   .obtain⟨s',cW,r⟩:=i3 x hx;exact⟨s',by simp[cW],r⟩
   .rcases He.1 y1 with h|h
    .rcases du.1 y2 with h'|h'
     .exact .inl ((hi y).2 ⟨h,h'⟩)
     .have:=bB.low b3 h';omega
    .exact .inr ⟨h,y2⟩
  .rw[if_neg hc];obtain⟨i1,i2,i3,i4,i5⟩:=Th n (s::a) b p u.2 sqo_ ⟨a1,a2,a3⟩ b3;refine key (s::a) b _ (i2.weak t2) i1 (i2.weak omg_) (λx hx=>?_) i4 i5 sqo_ (λy y1 y2=>?_)
   .obtain⟨s',cW,r1,r2,r3,r4⟩:=i3 x hx;exact⟨s',cW,r1,r2,r3,λy y1 y2=>du.2 (.inr (r4 y y1 y2))⟩
   .rcases du.1 y2 with h|h
    .rcases He.1 y1 with h'|h'
     .exact .inl ((hi y).2 ⟨h',h⟩)
     .have:=iw.low a3 h';omega
    .exact .inr ⟨y1,h⟩
theorem Ti{A:bm}{B:SL}(hA:A.length<=10000000)(hB:B.length<=10000000):∀(n i k:N)(acc:bm),i<=A.length->k<=B.length->(A.length-i)+(B.length-k)=n->acc.length+n<=3000000->
  AZ A B (i:o) (k:o) acc=G (acc++ma n (A.drop i) (B.drop k))
 |n,i,k,acc,hi,hk,hn,dQ=>by
  rw[jl2];simp only[j6y,show F (R A)=(A.length:o) from rfl,show F (R B)=(B.length:o) from rfl];by_cases ee:i<A.length/\k<B.length
  .obtain⟨bh,bH⟩:=ee;obtain⟨n,rfl⟩:∃m,n=m+1:=⟨n-1,omg_⟩;have gA:A.getD i ((0:o),((0:o),(0:o)))=A[i]:=by simp[H,bh]
   have gB:B.getD k ((0:o),(0:o))=B[k]:=by simp[H,bH]
   rw[ah (show (i:o)<(A.length:o) by omega),ah (show (k:o)<(B.length:o) by omega),bA (show (0:o)<=(i:o) by omega) omg_,bA (show (0:o)<=(k:o) by omega) omg_];simp only[j6,j8,gA,gB];rw[aj (x:=(i:o)+1),aj (x:=(k:o)+1)];rw[jb bh,jb bH];simp only[ma];generalize (if B[k].1>A[i].1 then B[k].1 else A[i].1:o)=f;generalize (if B[k].2<A[i].2.1 then B[k].2 else A[i].2.1:o)=t
   have G4:∀aV:bm,aV.length<=acc.length+1->AZ A B ((i:o)+1) (k:o) aV=G (aV++ma n (A.drop (i+1)) (B[k]::B.drop (k+1))):=λaV mm=>by
    have:=Ti hA hB n (i+1) k aV omg_ omg_ omg_ omg_;rw[<-jb bH];exact this
   have G5:∀aV:bm,aV.length<=acc.length+1->AZ A B (i:o) ((k:o)+1) aV=G (aV++ma n (A[i]::A.drop (i+1)) (B.drop (k+1))):=λaV mm=>by
    have:=Ti hA hB n i (k+1) aV omg_ omg_ omg_ omg_;rw[<-jb bh];exact this
   by_cases jP:f<t
   .rw[ah jP,if_pos jP,ah (by simp[aG];omega)];simp only[j6];by_cases hc:A[i].2.1<B[k].2
    .rw[ah hc,if_pos hc];simp only[j6,aB];rw[G4 _ smp_,jh]
    .rw[ai hc,if_neg hc];simp only[j7,aB];rw[G5 _ smp_,jh]
   .rw[ai jP,if_neg jP];simp only[j7];by_cases hc:A[i].2.1<B[k].2
    .rw[ah hc,if_pos hc];simp only[j6,aB];rw[G4 _ omg_,jp]
    .rw[ai hc,if_neg hc];simp only[j7,aB];rw[G5 _ omg_,jp]
  .have hc:cond (decide ((i:o)<(A.length:o))) (decide ((k:o)<(B.length:o))) I=false:=by
    by_cases h1:i<A.length
    .rw[ah omg_,j6];exact ai omg_
    .rw[ai omg_,j7]
   rw[hc,j7,aP]
   have:ma n (A.drop i) (B.drop k)=[]:=by
    by_cases h1:i<A.length
    .rw[yw (show B.length<=k by omega)];cases n<;>cases A.drop i<;>rfl
    .rw[yw (show A.length<=i by omega)];cases n<;>rfl
   rw[this,kc]
theorem ϟ{l:bm}(hl:l.length<=10000000):∀(n i:N)(acc:SL),i+n=l.length->acc.length<=i->Fo l (l.length:o) (i:o) acc=G (acc++(l.drop i).map λx=>(x.1,x.2.1))
 |0,i,acc,hi,_=>by
  rw[Yf];simp only[j5q];rw[ai omg_,j7,aP,jd omg_];simp
 |n+1,i,acc,hi,ha=>by
  have bh:i<l.length:=omg_;have aT:l.getD i ((0:o),((0:o),(0:o)))=l[i]:=by simp[H,bh]
  rw[Yf];simp only[j5q];rw[ah omg_,bJ,aj (x:=(i:o)+1)];simp only[j6,j8,aT];rw[ah (by simp[aG];omega),j6,aB,jb bh,qf];have:=ϟ hl n (i+1) (acc++[(l[i].1,l[i].2.1)]) omg_ sqo_;rw[jh]at this;exact this
theorem jCx{l:bm}(hl:l.length<=10000000){lo hi:o}(h0:0<=lo)(h1:hi<=8589934592)(hb:∀x∈l,lo<=x.1/\x.1<x.2.1/\x.2.1<=hi) :
  ∃out,je5 l=G out/\bB (lo-1) out/\(∀t,bq t out↔oz t l)/\out.length<=l.length:=by
 have lp:=ϟ hl l.length 0 [] omg_ smp_;rw[jp,jr]at lp
 have aW:∀s∈l.map (λx=>(x.1,x.2.1)),lo<=s.1/\s.1<s.2/\s.2<=hi:=λs h=>by
  obtain⟨x,hx,rfl⟩:=jz.1 h;exact hb x hx
 obtain⟨out,e,g1,g2,g3,g4⟩:=C4 (l:=l.map λx=>(x.1,x.2.1)) (by simpa using hl) (λs h=>by have:=aW s h;omega) (lo:=lo) (hi:=hi) (λs h _=>by have:=aW s h;omega);refine⟨out,?_,g1,λt=>(g2 t).trans ⟨?_,?_⟩,by simpa using g3⟩
 .simp only[je5,show F l.length=(l.length:o) from rfl];rw[show Fo l (l.length:o) 0 []=_ from lp];simp only[j4,e]
 .rintro⟨s,hs,h⟩
  obtain⟨x,hx,rfl⟩:=jz.1 hs;exact⟨x,hx,h⟩
 .rintro⟨x,hx,h⟩
  exact⟨_,jz.2 ⟨x,hx,rfl⟩,h⟩
section
variable{zs:E bF}{ps:E cI}{cs:E aU}(hs:cC zs ps cs)
include hs
end
end Go.Proofs.Pw
