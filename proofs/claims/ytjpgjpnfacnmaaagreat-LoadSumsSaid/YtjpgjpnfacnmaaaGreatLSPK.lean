/- The references of sX 11 to 14: Ri is on sS, Ri is on call. -/
import Derived.Test.YtjpgjpnfacnmaaaGreatLSPJ
import Derived.Test.YtjpgjpnfacnmaaaGreatLSPH
import Derived.Test.YtjpgjpnfacnmaaaGreatLSPG
import Derived.Test.YtjpgjpnfacnmaaaGreatLSPI
noncomputable section
open Go Go.Lft
namespace Go.Proofs.Pw
theorem RR{w:WL}(hl:w.length<=14)(s:Int):∀(n i:Nat),i+n=w.length->Fm w s (i:Int)=some (cond (hasB s (w.drop i)) (.inl true) (.inr ()))
 |0,i,hi=>by
  rw[X1];simp only[j4U,show Int.ofNat w.length=(w.length:Int) from rfl];rw[ah (by omega),j7,aW,jd (by omega)];rfl
 |n+1,i,hi=>by
  have bj:i<w.length:=by omega
  have aR:w.getD i ((0:Int),(0:Int))=w[i]:=by simp[List.getD,bj]
  rw[X1];simp only[j4U,show Int.ofNat w.length=(w.length:Int) from rfl];rw[ag (by omega),bz];simp only[j6,zj,j8,aR];rw[ai (x:=(i:Int)+1),jb bj];have hb:hasB s (w[i]::w.drop (i+1))=cond (cond (decide (w[i].1<=s)) (decide (s<w[i].2)) false) true (hasB s (w.drop (i+1))):=rfl;rw[hb];by_cases h1:w[i].1<=s
  .rw[ag (show s>=w[i].1 from h1)];simp only[j6];by_cases h2:s<w[i].2
   .rw[ag h2];rfl
   .rw[ah h2];simp only[j7,aK];exact RR hl s n (i+1) (by omega)
  .rw[ah (show¬s>=w[i].1 from h1)];simp only[j7,aK];exact RR hl s n (i+1) (by omega)
theorem jzk{w:WL}(hl:w.length<=14)(s:Int):jhx w s=some (hasB s w):=by
 have:=RR hl s w.length 0 (by omega);simp only[jhx,show Fm w s 0=_ from this,j4,jr];cases hasB s w<;>rfl
theorem jF6{z:br}(hz:gg z){t:Int}(h0:0<=t)(h1:t<=8589934592):j3w z t=some (cm z t,0):=by
 have h4:=hz.zref.2.1;obtain⟨k,hk,k1,k2⟩:=pQ h4.2 h0 h1;have e:=Cb h4.2 hk k1 k2;have:cm z t=((t+ba z.2.1 (tb z).2 k)/86400,(t+ba z.2.1 (tb z).2 k)%86400):=by simp only[cm,show j1p (tb z) t=_ from e,zg]
 rw[this];exact ZJ h4 h0 h1 hk k1 k2
theorem jF7{z:br}(hz:gg z){t:Int}(h0:0<=t)(h1:t<=8589934592){w:WL}(hw:ei 0 w)(hl:w.length<=14):jbV z t=some (eV (cm z t),0)/\jrE z w t=some (hasB (eV (cm z t)) w):=by
 have e1:=jF6 hz h0 h1;obtain⟨_,kW⟩:=RA hz h0 h1;have e2:j7w (cm z t)=some (eV (cm z t)):=kW;have e3:jbV z t=some (eV (cm z t),0):=by simp only[jbV,show j3w (z.1,(z.2.1,z.2.2)) t=_ from e1,j4,jh,j7,show j7w ((cm z t).1,(cm z t).2)=_ from e2]
 refine⟨e3,?_⟩;simp only[jrE,show jbV (z.1,(z.2.1,z.2.2)) t=_ from e3,j4,qd,j6,vI hw hl,jzk hl]
section
variable{zs:List br}{ps:List cZ}{cs:List aX}(hs:cN zs ps cs)
include hs
theorem RS{k d e:Int}{x:aX}(hx:pT zs.length x){L:bI}:∀(n i:Nat)(b:Bool),i+n=x.2.2.length->b=decide (d∈x.2.2.take i)->
  zV k b (i:Int) L.1 L.2.1 L.2.2.1.1 L.2.2.1.2 L.2.2.2.1 L.2.2.2.2.1 L.2.2.2.2.2.1 L.2.2.2.2.2.2.1 L.2.2.2.2.2.2.2.1 L.2.2.2.2.2.2.2.2 x.1 x.2.1 x.2.2 d e=
   some (k,decide (d∈x.2.2),L.1,L.2.1,L.2.2.1.1,L.2.2.1.2,L.2.2.2.1,L.2.2.2.2.1,L.2.2.2.2.2.1,L.2.2.2.2.2.2.1,L.2.2.2.2.2.2.2.1,L.2.2.2.2.2.2.2.2)
 |0,i,b,hi,hb=>by
  rw[X2];simp only[j6s,show Int.ofNat x.2.2.length=(x.2.2.length:Int) from rfl];rw[ah (by omega),j7,aW,hb,List.take_of_length_le (by omega)]
 |n+1,i,b,hi,hb=>by
  have _:=hs;have ni:=hx.len;have bj:i<x.2.2.length:=by omega
  have aR:x.2.2.getD i (0:Int)=x.2.2[i]:=by simp[bj]
  rw[X2];simp only[j6s,show Int.ofNat x.2.2.length=(x.2.2.length:Int) from rfl];rw[ag (by omega),ai (x:=(i:Int)+1),j6];have ht:x.2.2.take (i+1)=x.2.2.take i++[x.2.2[i]]:=by rw[kq,jk bj];rfl
  cases yP:b with
  |true=>simp only[j6,aK];refine RS hx n (i+1) true (by omega) ?_;have:d∈x.2.2.take i:=kz (by rw[<-hb,yP]);rw[ht];exact(ag (jz _ this)).symm
  |false=>
   have cb:d∉x.2.2.take i:=of_decide_eq_false (by rw[<-hb,yP]);rw[cw (show (0:Int)<=(i:Int) by omega) (by omega)];simp only[j7,j6,j8,aR,aK];refine RS hx n (i+1) _ (by omega) ?_;rw[ht];by_cases he:x.2.2[i]=d
   .rw[di he];exact(ag (k7 _ (by simp[he]))).symm
   .rw[bW he];refine(ah λhm=>?_).symm;rcases jn.1 hm with h|h
    .exact cb h
    .simp at h;exact he h.symm
theorem jDz{L:bI}(hL:eD zs.length ps.length cs.length L){ss:List cF}{t:Int}(h0:0<=t)(h1:t<=8589934592):∃k,jjB (zs,(ps,(cs,ss))) L t=some (k,fN zs cs L t)/\(fN zs cs L t=true->k=bT (aH zs L.2.1) L t):=by
 have sV:=hL.rt2;have hz:gg (aH zs L.2.1):=gv hs.so.ok hL.z0 hL.z1;have h4:=hz.zref.2.1;obtain⟨K,eK,hK⟩:=jES h4 sV h0 h1;have hKs:K=bT (aH zs L.2.1) L t:=kB.uniq h4.2 sV hK (rj hz sV h0 h1).2;subst hKs;have ek:jgM (aH zs L.2.1) L t=some (bT (aH zs L.2.1) L t,0):=by simp only[jgM,show jcj ((aH zs L.2.1).1,((aH zs L.2.1).2.1,(aH zs L.2.1).2.2)) (L.1,L.2.1,(L.2.2.1.1,L.2.2.1.2),L.2.2.2.1,L.2.2.2.2.1,L.2.2.2.2.2.1,L.2.2.2.2.2.2.1,L.2.2.2.2.2.2.2.1,L.2.2.2.2.2.2.2.2)=_ from jnj h4 L,j4];rw[if_pos sV,ah (show¬t<0 by omega),ah (show¬t>8589934592 by omega)];simp only[jh,j7];rw[show jcl ((aH zs L.2.1).1,((aH zs L.2.1).2.1,(aH zs L.2.1).2.2)) (L.1,L.2.1,(L.2.2.1.1,L.2.2.1.2),L.2.2.2.1,L.2.2.2.2.1,L.2.2.2.2.2.1,L.2.2.2.2.2.2.1,L.2.2.2.2.2.2.2.1,L.2.2.2.2.2.2.2.2) t=_ from eK];rfl
 obtain⟨_,ein⟩:=jF7 hz h0 h1 hL.w hL.wl
 have xt:(cond (L.2.2.2.2.2.2.2.2==(0:Int)) (some (bT (aH zs L.2.1) L t,true)) (cond (inR L.2.2.2.2.2.2.2.1 cs.length) (cond (inR (cs.getD L.2.2.2.2.2.2.2.1.toNat (ByteArray.empty,((0:Int),([]:List Int)))).2.1 zs.length)
   ((
    j3w ((zs.getD (cs.getD L.2.2.2.2.2.2.2.1.toNat (ByteArray.empty,((0:Int),([]:List Int)))).2.1.toNat (ByteArray.empty,((0:Int),([]:List aD)))).1,((zs.getD (cs.getD L.2.2.2.2.2.2.2.1.toNat (ByteArray.empty,((0:Int),([]:List Int)))).2.1.toNat (ByteArray.empty,((0:Int),([]:List aD)))).2.1,(zs.getD (cs.getD L.2.2.2.2.2.2.2.1.toNat (ByteArray.empty,((0:Int),([]:List Int)))).2.1.toNat (ByteArray.empty,((0:Int),([]:List aD)))).2.2)) t).bind λr67=>
    (zV (bT (aH zs L.2.1) L t) false 0 L.1 L.2.1 L.2.2.1.1 L.2.2.1.2 L.2.2.2.1 L.2.2.2.2.1 L.2.2.2.2.2.1 L.2.2.2.2.2.2.1 L.2.2.2.2.2.2.2.1 L.2.2.2.2.2.2.2.2 (cs.getD L.2.2.2.2.2.2.2.1.toNat (ByteArray.empty,((0:Int),([]:List Int)))).1 (cs.getD L.2.2.2.2.2.2.2.1.toNat (ByteArray.empty,((0:Int),([]:List Int)))).2.1 (cs.getD L.2.2.2.2.2.2.2.1.toNat (ByteArray.empty,((0:Int),([]:List Int)))).2.2 r67.1.1 r67.1.2).bind λq0=>
     some (q0.1,(q0.2.1==(q0.2.2.2.2.2.2.2.2.2.2.2==(2:Int))))) none) none))=some (bT (aH zs L.2.1) L t,iF zs cs L t):=by
  by_cases hm:L.2.2.2.2.2.2.2.2=0
  .rw[di hm,j6];unfold iF;rw[di hm];rfl
  .have cD:=hL.cal hm;have hx:=oA hs cD.1 cD.2;have Bs:=gv hs.so.ok hx.z0 hx.z1;rw[bW hm,j7,cw cD.1 cD.2,cw hx.z0 hx.z1];simp only[j6];rw[show j3w ((zs.getD (cs.getD L.2.2.2.2.2.2.2.1.toNat (ByteArray.empty,((0:Int),([]:List Int)))).2.1.toNat (ByteArray.empty,((0:Int),([]:List aD)))).1,((zs.getD (cs.getD L.2.2.2.2.2.2.2.1.toNat (ByteArray.empty,((0:Int),([]:List Int)))).2.1.toNat (ByteArray.empty,((0:Int),([]:List aD)))).2.1,(zs.getD (cs.getD L.2.2.2.2.2.2.2.1.toNat (ByteArray.empty,((0:Int),([]:List Int)))).2.1.toNat (ByteArray.empty,((0:Int),([]:List aD)))).2.2)) t=_ from jF6 Bs h0 h1];simp only[j4];rw[show zV (bT (aH zs L.2.1) L t) false 0 L.1 L.2.1 L.2.2.1.1 L.2.2.1.2 L.2.2.2.1 L.2.2.2.2.1 L.2.2.2.2.2.1 L.2.2.2.2.2.2.1 L.2.2.2.2.2.2.2.1 L.2.2.2.2.2.2.2.2 (cs.getD L.2.2.2.2.2.2.2.1.toNat (ByteArray.empty,((0:Int),([]:List Int)))).1 (cs.getD L.2.2.2.2.2.2.2.1.toNat (ByteArray.empty,((0:Int),([]:List Int)))).2.1 (cs.getD L.2.2.2.2.2.2.2.1.toNat (ByteArray.empty,((0:Int),([]:List Int)))).2.2 _ _=_ from RS hs hx (L:=L) (cs.getD L.2.2.2.2.2.2.2.1.toNat (ByteArray.empty,((0:Int),([]:List Int)))).2.2.length 0 false (by omega) (by simp)];unfold iF;rw[bW hm];rfl
 simp only[jjB];rw[cw hL.z0 hL.z1];simp only[j6];rw[show jgM ((zs.getD L.2.1.toNat (ByteArray.empty,((0:Int),([]:List aD)))).1,((zs.getD L.2.1.toNat (ByteArray.empty,((0:Int),([]:List aD)))).2.1,(zs.getD L.2.1.toNat (ByteArray.empty,((0:Int),([]:List aD)))).2.2)) (L.1,L.2.1,(L.2.2.1.1,L.2.2.1.2),L.2.2.2.1,L.2.2.2.2.1,L.2.2.2.2.2.1,L.2.2.2.2.2.2.1,L.2.2.2.2.2.2.2.1,L.2.2.2.2.2.2.2.2) t=_ from ek];simp only[j4,jh,j7];by_cases hk:0<=bT (aH zs L.2.1) L t
 .rw[ah (show¬bT (aH zs L.2.1) L t<0 by omega)];simp only[j7,show Int.ofNat L.2.2.2.2.2.2.1.length=(L.2.2.2.2.2.2.1.length:Int) from rfl];have nD:fN zs cs L t=cond (okW L.2.2.2.2.2.2.1 (eV (cm (aH zs L.2.1) t))) (iF zs cs L t) false:=by unfold fN;rw[ag hk];rfl
  rw[nD];by_cases hw:(L.2.2.2.2.2.2.1.length:Int)>0
  .rw[ag hw,j6,show jrE ((zs.getD L.2.1.toNat (ByteArray.empty,((0:Int),([]:List aD)))).1,((zs.getD L.2.1.toNat (ByteArray.empty,((0:Int),([]:List aD)))).2.1,(zs.getD L.2.1.toNat (ByteArray.empty,((0:Int),([]:List aD)))).2.2)) L.2.2.2.2.2.2.1 t=_ from ein];simp only[j4];unfold okW;rw[ag hw,j6];cases hasB (eV (cm (aH zs L.2.1) t)) L.2.2.2.2.2.2.1 with
   |false=>exact⟨0,rfl,λh=>by simp at h⟩
   |true=>simp only[jl,j7,j6];exact⟨_,xt,λ_=>rfl⟩
  .rw[ah hw,j7];unfold okW;rw[ah hw];simp only[j7,j6];exact⟨_,xt,λ_=>rfl⟩
 .rw[ag (show bT (aH zs L.2.1) L t<0 by omega)];have nD:fN zs cs L t=false:=by unfold fN;rw[ah hk];rfl
  rw[nD];simp only[j6,jl,ka,Bool.or_true];exact⟨0,rfl,λh=>by simp at h⟩
theorem jB8{L:bI}(hL:eD zs.length ps.length cs.length L){ss:List cF}{t:Int}(h0:0<=t)(h1:t<=8589934592):jmA (zs,(ps,(cs,ss))) L t=some (bO zs cs L t):=by
 obtain⟨k,e,hk⟩:=jDz hs hL (ss:=ss) h0 h1;have nD:fN zs cs L t=true->0<=bT (aH zs L.2.1) L t:=JW;simp only[jmA];rw[show jjB (zs,ps,cs,ss) (L.1,L.2.1,(L.2.2.1.1,L.2.2.1.2),L.2.2.2.1,L.2.2.2.2.1,L.2.2.2.2.2.1,L.2.2.2.2.2.2.1,L.2.2.2.2.2.2.2.1,L.2.2.2.2.2.2.2.2) t=_ from e];simp only[j4,show Int.ofNat L.2.2.2.2.2.1.length=(L.2.2.2.2.2.1.length:Int) from rfl];unfold bO;cases hc:fN zs cs L t with
 |false=>rfl
 |true=>have oy:=hL.m0;have mj:=nD hc;have:=hk hc;subst this;have q1:0<=Int.tmod (bT (aH zs L.2.1) L t) (L.2.2.2.2.2.1.length:Int):=Int.tmod_nonneg _ mj;have q2:Int.tmod (bT (aH zs L.2.1) L t) (L.2.2.2.2.2.1.length:Int)<(L.2.2.2.2.2.1.length:Int):=yn _ (by omega);rw[bW (show¬(L.2.2.2.2.2.1.length:Int)=0 by omega),cw q1 q2];rfl
theorem jFU:∀z∈zs,j7b z=some 0:=λz hz=>RQ (hs.so.ok z hz)
end
def cG(zs:List br)(cs:List aX)(ls:List bI)(t:Int)(i:Nat):Int:=bO zs cs (ls.getD i (ByteArray.empty,((0:Int),(((0:Int),(0:Int)),((0:Int),((0:Int),(([]:List Int),(([]:List (Int×Int)),((0:Int),(0:Int)))))))))) t
def pj(es:List dA)(p:Int):SL:=(es.filter λx=>x.1==0&&x.2.1==p).map λx=>(x.2.2.2.1,x.2.2.2.2)
theorem jF8{es:List dA}{p t:Int}:bt t (pj es p)↔iK es p t=true:=by
 unfold bt pj iK;rw[zh];constructor
 .rintro⟨s,hs,h1,h2⟩
  obtain⟨x,hx,rfl⟩:=jt.1 hs;obtain⟨h3,h4⟩:=qu.1 hx;dsimp only at h1 h2;refine⟨x,h3,?_⟩;simp only[jc,jo]at h4 ⊢;exact⟨h4.1,h4.2,h1,h2⟩
 .rintro⟨x,hx,h⟩
  simp only[jc,jo]at h;exact⟨_,jt.2 ⟨x,qu.2 ⟨hx,by simp only[jc];exact⟨h.1,h.2.1⟩⟩,rfl⟩,h.2.2.1,h.2.2.2⟩
theorem RT{es:List dA}(hl:es.length<=1000){p:Int}:∀(n i:Nat)(acc:SL),i+n=es.length->acc.length<=i->EN p es (es.length:Int) (i:Int) acc=some (acc++pj (es.drop i) p)
 |0,i,acc,hi,_=>by
  rw[Xa];simp only[j3I];rw[ah (by omega),j7,aW,jd (by omega)];simp[pj]
 |n+1,i,acc,hi,ha=>by
  have bj:i<es.length:=by omega
  have aR:es.getD i ((0:Int),((0:Int),((0:Int),((0:Int),(0:Int)))))=es[i]:=by simp[List.getD,bj]
  rw[Xa];simp only[j3I];rw[ag (by omega),bz,ai (x:=(i:Int)+1)];simp only[j6,j8,aR];have hc:cond (es[i].1==(0:Int)) (es[i].2.1==p) false=(es[i].1==0&&es[i].2.1==p):=by cases es[i].1==(0:Int)<;>rfl
  rw[hc,jb bj];cases hx:(es[i].1==0&&es[i].2.1==p) with
  |true=>
   rw[j6,ag (by simp[aN];omega),j6,aK];have:=RT hl (p:=p) n (i+1) (acc++[(es[i].2.2.2.1,es[i].2.2.2.2)]) (by omega) (by simp;omega);have e:pj (es[i]::es.drop (i+1)) p=(es[i].2.2.2.1,es[i].2.2.2.2)::pj (es.drop (i+1)) p:=by simp only[pj,List.filter_cons,hx,if_true,ke]
   rw[e];rw[jj]at this;exact this
  |false=>
   rw[j7,aK];have:=RT hl (p:=p) n (i+1) acc (by omega) (by omega);have e:pj (es[i]::es.drop (i+1)) p=pj (es.drop (i+1)) p:=by unfold pj;rw[List.filter_cons_of_neg (by simp only[hx];simp)]
   rw[e];exact this
theorem jzl{es:List dA}{np:Nat}(hE:∀x∈es,mT np x)(hl:es.length<=48)(nm:ByteArray)(ls:List bI)(p:Int) :
  ∃out,j75 (nm,(ls,es)) p=some out/\bP (-1) out/\(∀t,bt t out↔iK es p t=true)/\out.length<=es.length:=by
 have lp:=RT (es:=es) (by omega) (p:=p) es.length 0 [] (by omega) (by simp);rw[jv,jr]at lp;have fk:(pj es p).length<=es.length:=by unfold pj;rw[k5];exact qt _ _
 have hb:∀s∈pj es p,0<=s.1/\s.1<s.2/\s.2<=1000000000000:=λs h=>by
  obtain⟨x,hx,rfl⟩:=jt.1 h;have:=hE x (qu.1 hx).1;exact⟨this.f0,this.ft,this.t1⟩
 obtain⟨out,e,h1,h2,h3,h4⟩:=Gm (l:=pj es p) (by omega) (λs h=>by have:=hb s h;omega) (lo:=0) (hi:=1000000000000) (λs h _=>by have:=hb s h;omega);refine⟨out,?_,h1,λt=>(h2 t).trans jF8,by omega⟩;simp only[j75,show Int.ofNat es.length=(es.length:Int) from rfl];rw[show EN p es (es.length:Int) 0 []=_ from lp];simp only[j4,e]
theorem RU{β:Type}(l:List (Int×β))(k:Int)(v:β)(j:Int):ej (ea l k v) j=(j==k||ej l j):=by
 induction l with
 |nil=>simp[ea,ej]
 |cons x r ih=>
  simp only[ea];by_cases h:k=x.1
  .rw[di h,j6];simp only[ej,List.any_cons];rw[<-h];cases j==k<;>simp
  .rw[bW h,j7];have:ej (x::ea r k v) j=(j==x.1||ej (ea r k v) j):=rfl;rw[this,ih];have:ej (x::r) j=(j==x.1||ej r j):=rfl;rw[this];cases j==x.1<;>cases j==k<;>simp
theorem RW{β:Type}(d:β)(l:List (Int×β))(k:Int)(v:β)(j:Int):dx d (ea l k v) j=cond (j==k) v (dx d l j):=by
 induction l with
 |nil=>rfl
 |cons x r ih=>
  simp only[ea];by_cases h:k=x.1
  .rw[di h,j6];show cond (j==k) v (dx d r j)=cond (j==k) v (cond (j==x.1) x.2 (dx d r j));rw[<-h];cases j==k<;>rfl
  .rw[bW h,j7];show cond (j==x.1) x.2 (dx d (ea r k v) j)=cond (j==k) v (cond (j==x.1) x.2 (dx d r j));rw[ih];by_cases hj:j=x.1
   .rw[di hj,j6,bW (show¬j=k by omega)];rfl
   .rw[bW hj];rfl
def ib(p:Int):bD->Prop
 |[]=>True
 |x::r=>p<=x.1/\x.1<x.2.1/\ib x.2.1 r
def nF(t:Int)(l:bD):Prop:=∃x∈l,x.1<=t/\t<x.2.1
theorem Gv{t:Int}{s:jD}{l:bD}:nF t (s::l)↔(s.1<=t/\t<s.2.1)\/nF t l:=by
 constructor
 .rintro⟨u,hu,h⟩
  rcases je.1 hu with rfl|hu
  .exact .inl h
  .exact .inr ⟨u,hu,h⟩
 .rintro (h|⟨u,hu,h⟩)
  .exact⟨s,by simp,h⟩
  .exact⟨u,by simp[hu],h⟩
theorem RX{t:Int}:¬nF t []:=by rintro⟨s,hs,_⟩;simp at hs
theorem ib.weak{p q:Int}(hq:q<=p):∀{l:bD},ib p l->ib q l
 |[],_=>trivial
 |_::_,h=>⟨by have:=h.1;omega,h.2⟩
theorem ib.low{p t:Int}:∀{l:bD},ib p l->nF t l->p<=t
 |[],_,h=>absurd h RX
 |s::r,h,hx=>by
  rcases Gv.1 hx with hx|hx
  .have:=h.1;omega
  .have:=ib.low h.2.2 hx;have:=h.1;have:=h.2.1;omega
theorem ib.app{e:Int}{r:bD}(hr:ib e r):∀{l:bD}{p:Int},ib p l->p<=e->(∀x∈l,x.2.1<=e)->ib p (l++r)
 |[],_,_,hp,_=>hr.weak hp
 |x::l,p,h,_,hl=>⟨h.1,h.2.1,hr.app h.2.2 (hl x (by simp)) (λy hy=>hl y (by simp[hy]))⟩
theorem ib.apart{p:Int}:∀{l:bD},ib p l->l.Pairwise (λx y=>x.2.1<=y.1)/\∀x∈l,p<=x.1
 |[],_=>⟨List.Pairwise.nil,by simp⟩
 |x::l,h=>by
  obtain⟨h1,h2⟩:=ib.apart h.2.2
  exact⟨ki.2 ⟨h2,h1⟩,λy hy=>by
   rcases je.1 hy with rfl|hy
   .exact h.1
   .have:=h2 y hy;have:=h.1;have:=h.2.1;omega⟩
def rk(s:cF)(p:Int):SL:=(j75 s p).getD []
def rm(s:cF)(x:jD):SL:=(j2x [(x.1,x.2.1)] (rk s x.2.2)).getD []
def mV(s:cF)(x:jD):bD:=if x.2.2<0 then [] else (rm s x).map λu=>(u.1,(u.2,x.2.2))
section
variable{nm:ByteArray}{ls:List bI}{es:List dA}{np:Nat}(hE:∀x∈es,mT np x)(hl:es.length<=48)
include hE hl
theorem jCb(p:Int):j75 (nm,(ls,es)) p=some (rk (nm,(ls,es)) p)/\bP (-1) (rk (nm,(ls,es)) p)/\(∀t,bt t (rk (nm,(ls,es)) p)↔iK es p t=true)/\(rk (nm,(ls,es)) p).length<=es.length:=by
 obtain⟨out,e,h⟩:=jzl hE hl nm ls p;have:rk (nm,(ls,es)) p=out:=by simp[rk,e]
 rw[this];exact⟨e,h⟩
theorem RY{x:jD}(hx:x.1<x.2.1):j2x [(x.1,x.2.1)] (rk (nm,(ls,es)) x.2.2)=some (rm (nm,(ls,es)) x)/\bP (x.1-1) (rm (nm,(ls,es)) x)/\
  (∀t,bt t (rm (nm,(ls,es)) x)↔(x.1<=t/\t<x.2.1)/\iK es x.2.2 t=false)/\(rm (nm,(ls,es)) x).length<=1+es.length:=by
 obtain⟨_,l1,l2,l3⟩:=jCb (nm:=nm) (ls:=ls) hE hl x.2.2;obtain⟨out,e,h1,h2,h3⟩:=Rw (B:=rk (nm,(ls,es)) x.2.2) (by omega) (A:=[(x.1,x.2.1)]) (p:=x.1-1) ⟨by dsimp only;omega,hx,trivial⟩ l1 (by simp);have:rm (nm,(ls,es)) x=out:=by simp[rm,e]
 rw[this];refine⟨e,h1,λt=>?_,by rw[ku]at h3;omega⟩;rw[h2 t,l2 t,eU];constructor
 .rintro⟨h|h,h'⟩
  .exact⟨h,by simpa using h'⟩
  .exact absurd h fU
 .rintro⟨h,h'⟩
  exact⟨.inl h,by simp[h']⟩
omit hE hl in
theorem jCc{S:bD}{m j f e p:Int}{mp:List (Int×SL)}{W:SL}(hW:W.length<=1000):∀(n i:Nat)(acc:bD),i+n=W.length->acc.length+n<=1000000000->
  zP S m j (W.length:Int) (i:Int) nm ls es f e p mp acc W=some (S,m,j,nm,ls,es,mp,acc++(W.drop i).map λu=>(u.1,(u.2,p)))
 |0,i,acc,hi,_=>by
  rw[Xb];simp only[j35];rw[ah (by omega),j7,aW,jd (by omega)];simp
 |n+1,i,acc,hi,ha=>by
  have bj:i<W.length:=by omega
  have aR:W.getD i ((0:Int),(0:Int))=W[i]:=by simp[List.getD,bj]
  rw[Xb];simp only[j35];rw[ag (by omega),bz,ai (x:=(i:Int)+1)];simp only[j6,j8,aR];rw[ag (by simp[aN];omega),j6,aK,jb bj,ke];have:=jCc (S:=S) (m:=m) (j:=j) (f:=f) (e:=e) (p:=p) (mp:=mp) hW n (i+1) (acc++[(W[i].1,(W[i].2,p))]) (by omega) (by simp;omega);rw[jj]at this;exact this
theorem RZ{S:bD}(hS:S.length<=100000)(bJ:∀x∈S,x.1<x.2.1):∀(n i:Nat)(mp:List (Int×SL))(acc:bD),i+n=S.length->(∀p,ej mp p=true->dx [] mp p=rk (nm,(ls,es)) p)->acc.length<=49*i->
  BX S (S.length:Int) (i:Int) nm ls es mp acc=some (acc++(S.drop i).flatMap (mV (nm,(ls,es))))
 |0,i,mp,acc,hi,_,_=>by
  rw[Xc];simp only[j36];rw[ah (by omega),j7,aW,jd (by omega)];simp
 |n+1,i,mp,acc,hi,hm,ha=>by
  have bj:i<S.length:=by omega
  have aR:S.getD i ((0:Int),((0:Int),(0:Int)))=S[i]:=by simp[List.getD,bj]
  have hp:=bJ _ (jf bj);rw[Xc];simp only[j36];rw[ag (show (i:Int)<(S.length:Int) by omega),bz];simp only[j6,j8,aR];rw[jb bj,qz];by_cases gu:S[i].2.2<0
  .rw[ag gu,j6,ai (x:=(i:Int)+1),aK];have e:mV (nm,(ls,es)) S[i]=[]:=if_pos gu;rw[e,jv];exact RZ hS bJ n (i+1) mp acc (by omega) hm (by omega)
  .have e:mV (nm,(ls,es)) S[i]=(rm (nm,(ls,es)) S[i]).map λu=>(u.1,(u.2,S[i].2.2)):=if_neg gu;obtain⟨w1,_,_,w4⟩:=RY (nm:=nm) (ls:=ls) hE hl hp;rw[ah gu,j7]
   have fin:∀vJ:List (Int×SL),(∀p,ej vJ p=true->dx [] vJ p=rk (nm,(ls,es)) p)->dx [] vJ S[i].2.2=rk (nm,(ls,es)) S[i].2.2->
     lpK ((j2x [(S[i].1,S[i].2.1)] (dx [] vJ S[i].2.2)).bind λr49=>
      (zP S (S.length:Int) (i:Int) (Int.ofNat r49.length) 0 nm ls es S[i].1 S[i].2.1 S[i].2.2 vJ acc r49).bind λq2=>
       (some (Sum.inl (q2.1,q2.2.1,w64 (q2.2.2.1+1),q2.2.2.2.1,q2.2.2.2.2.1,q2.2.2.2.2.2.1,q2.2.2.2.2.2.2.1,q2.2.2.2.2.2.2.2)):Option ((bD×Int×Int×ByteArray×List bI×List dA×List (Int×SL)×bD) ⊕ bD)))
      (λh=>BX h.1 h.2.1 h.2.2.1 h.2.2.2.1 h.2.2.2.2.1 h.2.2.2.2.2.1 h.2.2.2.2.2.2.1 h.2.2.2.2.2.2.2)=some (acc++(mV (nm,(ls,es)) S[i]++(S.drop (i+1)).flatMap (mV (nm,(ls,es))))):=λvJ mF hg=>by
    have l2:=jCc (nm:=nm) (ls:=ls) (es:=es) (S:=S) (m:=(S.length:Int)) (j:=(i:Int)) (f:=S[i].1) (e:=S[i].2.1) (p:=S[i].2.2) (mp:=vJ) (W:=rm (nm,(ls,es)) S[i]) (by omega) (rm (nm,(ls,es)) S[i]).length 0 acc (by omega) (by omega);rw[hg,w1];simp only[j4];rw[show zP S (S.length:Int) (i:Int) (Int.ofNat (rm (nm,(ls,es)) S[i]).length) 0 nm ls es S[i].1 S[i].2.1 S[i].2.2 vJ acc (rm (nm,(ls,es)) S[i])=_ from l2];simp only[j4,jr];rw[ai (x:=(i:Int)+1),aK,<-e,<-jj];exact RZ hS bJ n (i+1) vJ _ (by omega) mF (by rw[jg,e,k5];omega)
   cases hh:ej mp S[i].2.2 with
   |true=>simp only[jl,j7];exact fin mp hm (hm _ hh)
   |false=>
    simp only[ka,j6];rw[show j75 (nm,(ls,es)) S[i].2.2=_ from (jCb (nm:=nm) (ls:=ls) hE hl S[i].2.2).1];simp only[j4];refine fin _ (λp xI=>?_) ?_
    .rw[RW];by_cases p7:p=S[i].2.2
     .rw[di p7,j6,p7]
     .rw[RU,bW p7,zt]at xI;rw[bW p7,j7];exact hm p xI
    .rw[RW];simp
theorem jwS{S:bD}(hS:S.length<=100000)(bJ:∀x∈S,x.1<x.2.1):j98 (nm,(ls,es)) S=some (S.flatMap (mV (nm,(ls,es)))):=by
 simp only[j98,show Int.ofNat S.length=(S.length:Int) from rfl];rw[show BX S (S.length:Int) 0 nm ls es [] []=_ from RZ hE hl hS bJ S.length 0 [] [] (by omega) (λp h=>by simp[ej]at h) (by simp)];rfl
theorem jDB{x:jD}(hx:x.1<x.2.1):(mV (nm,(ls,es)) x).length<=1+es.length:=by
 unfold mV;split
 .simp
 .rw[k5];exact(RY (nm:=nm) (ls:=ls) hE hl hx).2.2.2
theorem jvw:∀{S:bD},(∀x∈S,x.1<x.2.1)->(S.flatMap (mV (nm,(ls,es)))).length<=S.length*(1+es.length)
 |[],_=>by simp
 |x::S,h=>by
  have h1:=jDB (nm:=nm) (ls:=ls) hE hl (h x (by simp));have h2:=jvw (S:=S) (λy hy=>h y (by simp[hy]));rw[qz,jg,jm,Nat.add_mul];omega
theorem jCd{p:Int}{c e:Int}:∀{W:SL}{q:Int},bP q W->(∀u∈W,u.2<=e)->ib (q+1) (W.map λu=>(u.1,(u.2,c)))/\(p<=q+1->ib p (W.map λu=>(u.1,(u.2,c))))
 |[],_,_,_=>⟨trivial,λ_=>trivial⟩
 |u::W,q,h,hb=>by
  have _:=hE;have _:=hl;have h3:=(jCd (p:=u.2) (c:=c) (e:=e) (W:=W) h.2.2 (λv hv=>hb v (by simp[hv]))).2 (by omega);exact⟨⟨by have:=h.1;dsimp only;omega,h.2.1,h3⟩,λhp=>⟨by have:=h.1;dsimp only;omega,h.2.1,h3⟩⟩
theorem jzo{f:Int->Int}{b:Int}:∀{S:bD}{a:Int},Ch f b a S->(∀x∈S,x.1<x.2.1)->
  ib a (S.flatMap (mV (nm,(ls,es))))/\(∀x∈S.flatMap (mV (nm,(ls,es))),x.2.1<=b/\∀t,x.1<=t->t<x.2.1->f t=x.2.2/\0<=x.2.2/\iK es x.2.2 t=false)/\
   ∀t,a<=t->t<b->0<=f t->iK es (f t) t=false->nF t (S.flatMap (mV (nm,(ls,es))))
 |[],a,h,_=>⟨trivial,by simp,λt h1 h2=>by have h:a=b:=h;omega⟩
 |x::S,a,h,bJ=>by
  obtain⟨h1,h2,h3,h4⟩:=h;have hx:=bJ x (by simp);obtain⟨i1,i2,i3⟩:=jzo (f:=f) (b:=b) h4 (λy hy=>bJ y (by simp[hy]));have hle:=h4.le;obtain⟨_,w2,w3,_⟩:=RY (nm:=nm) (ls:=ls) hE hl hx
  have ez:∀y∈mV (nm,(ls,es)) x,0<=x.2.2/\y.2.2=x.2.2/\y.1<y.2.1/\x.1<=y.1/\y.2.1<=x.2.1/\∀t,y.1<=t->t<y.2.1->iK es x.2.2 t=false:=λy hy=>by
   unfold mV at hy;split at hy
   .simp at hy
   .obtain⟨u,hu,rfl⟩:=jt.1 hy;have hm:=bP.mem w2 u hu;have e1:=(w3 (u.2-1)).1 ⟨u,hu,by omega,by omega⟩;exact⟨by omega,rfl,hm.2,by dsimp only;omega,by dsimp only;omega,λt t1 t2=>((w3 t).1 ⟨u,hu,t1,t2⟩).2⟩
  rw[qz];refine⟨?_,λy hy=>?_,λt t1 t2 t3 t4=>?_⟩
  .refine ib.app i1 ?_ h2 (λy hy=>(ez y hy).2.2.2.2.1);unfold mV;split
   .trivial
   .exact(jCd hE hl (p:=a) (c:=x.2.2) (e:=x.2.1) w2 (λu hu=>by
     have hm:=bP.mem w2 u hu;have e1:=(w3 (u.2-1)).1 ⟨u,hu,by omega,by omega⟩;omega)).2 (by omega)
  .rcases jn.1 hy with hy|hy
   .obtain⟨g1,g2,g3,g4,g5,g6⟩:=ez y hy;exact⟨by omega,λt t1 t2=>⟨by rw[g2];exact h3 t (by omega) (by omega),by omega,by rw[g2];exact g6 t t1 t2⟩⟩
   .exact i2 y hy
  .by_cases ak:t<x.2.1
   .have hf:=h3 t t1 ak;rw[hf]at t3 t4;obtain⟨u,hu,u1,u2⟩:=(w3 t).2 ⟨⟨by omega,ak⟩,t4⟩;refine⟨(u.1,(u.2,x.2.2)),jz _ ?_,u1,u2⟩;unfold mV;rw[if_neg (by omega)];exact jt.2 ⟨u,hu,rfl⟩
   .obtain⟨y,hy,y1,y2⟩:=i3 t (by omega) t2 t3 t4;exact⟨y,k7 _ hy,y1,y2⟩
end
def lg:Nat->bD->SL->bD
 |n+1,s::a,u::b=>(if (if u.1>s.1 then u.1 else s.1)<(if u.2<s.2.1 then u.2 else s.2.1) then [((if u.1>s.1 then u.1 else s.1),((if u.2<s.2.1 then u.2 else s.2.1),s.2.2))] else [])++
  (if s.2.1<u.2 then lg n a (u::b) else lg n (s::a) b)
 |_,_,_=>[]
theorem R0:∀(n:Nat)(a:bD)(b:SL)(p q:Int),a.length+b.length<=n->ib p a->bP q b->
  ib p (lg n a b)/\ib q (lg n a b)/\(∀x∈lg n a b,∃s∈a,s.1<=x.1/\x.2.1<=s.2.1/\x.2.2=s.2.2/\∀t,x.1<=t->t<x.2.1->bt t b)/\(∀t,nF t a->bt t b->nF t (lg n a b))/\(lg n a b).length<=a.length+b.length
 |0,a,b,p,q,hn,_,_=>by
  obtain rfl:a=[]:=qh.1 (by omega);exact⟨trivial,trivial,by simp[lg],λt h=>absurd h RX,by simp[lg]⟩
 |n+1,[],b,p,q,_,_,_=>⟨trivial,trivial,by simp[lg],λt h=>absurd h RX,by simp[lg]⟩
 |n+1,_::_,[],p,q,_,_,_=>⟨trivial,trivial,by simp[lg],λt _ h=>absurd h fU,by simp[lg]⟩
 |n+1,s::a,u::b,p,q,hn,ha,hb=>by
  obtain⟨a1,a2,a3⟩:=ha;obtain⟨b1,b2,b3⟩:=hb;simp only[jm]at hn ⊢
  have hx:∃f t:Int,f=(if u.1>s.1 then u.1 else s.1)/\t=(if u.2<s.2.1 then u.2 else s.2.1)/\(∀x,(f<=x/\x<t)↔(s.1<=x/\x<s.2.1)/\(u.1<=x/\x<u.2))/\p<=f/\q<=f/\t<=s.2.1/\t<=u.2/\s.1<=f:=by
   refine⟨_,_,rfl,rfl,λx=>?_,?_,?_,?_,?_,?_⟩
   .constructor
    .intro h;split at h<;>split at h<;>omega
    .intro h;split<;>split<;>omega
   all_goals split<;>omega
  obtain⟨f,t,ef,et,hi,f1,f2,t1,t2,f3⟩:=hx;simp only[lg,<-ef,<-et]
  have key:∀(a':bD)(b':SL)(r:bD),ib t r->ib p r->ib q r->(∀x∈r,∃s'∈(s::a),s'.1<=x.1/\x.2.1<=s'.2.1/\x.2.2=s'.2.2/\∀y,x.1<=y->y<x.2.1->bt y (u::b))->(∀y,nF y a'->bt y b'->nF y r)->
    r.length<=a'.length+b'.length->a'.length+b'.length+1=a.length+1+(b.length+1)->(∀y,nF y (s::a)->bt y (u::b)->(f<=y/\y<t)\/(nF y a'/\bt y b'))->
    ib p ((if f<t then [(f,(t,s.2.2))] else [])++r)/\ib q ((if f<t then [(f,(t,s.2.2))] else [])++r)/\(∀x∈((if f<t then [(f,(t,s.2.2))] else [])++r),∃s'∈(s::a),s'.1<=x.1/\x.2.1<=s'.2.1/\x.2.2=s'.2.2/\∀y,x.1<=y->y<x.2.1->bt y (u::b))/\
     (∀y,nF y (s::a)->bt y (u::b)->nF y ((if f<t then [(f,(t,s.2.2))] else [])++r))/\((if f<t then [(f,(t,s.2.2))] else [])++r).length<=a.length+1+(b.length+1):=by
   intro a' b' r xO JR Ru JS hr5 hl th sU;by_cases jB:f<t
   .rw[if_pos jB];refine⟨⟨f1,jB,xO⟩,⟨f2,jB,xO⟩,λx hx=>?_,λy y1 y2=>?_,by simp;omega⟩
    .rcases je.1 hx with rfl|hx
     .exact⟨s,by simp,f3,t1,rfl,λy y1 y2=>eU.2 (.inl ((hi y).1 ⟨y1,y2⟩).2)⟩
     .exact JS x hx
    .rcases sU y y1 y2 with h|h
     .exact Gv.2 (.inl h)
     .exact Gv.2 (.inr (hr5 y h.1 h.2))
   .rw[if_neg jB,jv];refine⟨JR,Ru,JS,λy y1 y2=>?_,by omega⟩;rcases sU y y1 y2 with h|h
    .omega
    .exact hr5 y h.1 h.2
  by_cases hc:s.2.1<u.2
  .rw[if_pos hc];obtain⟨i1,i2,i3,i4,i5⟩:=R0 n a (u::b) s.2.1 q (by simp;omega) a3 ⟨b1,b2,b3⟩;refine key a (u::b) _ (i1.weak t1) (i1.weak (by omega)) i2 (λx hx=>?_) i4 i5 (by simp;omega) (λy y1 y2=>?_)
   .obtain⟨s',dC,r⟩:=i3 x hx;exact⟨s',by simp[dC],r⟩
   .rcases Gv.1 y1 with h|h
    .rcases eU.1 y2 with h'|h'
     .exact .inl ((hi y).2 ⟨h,h'⟩)
     .have:=bP.low b3 h';omega
    .exact .inr ⟨h,y2⟩
  .rw[if_neg hc];obtain⟨i1,i2,i3,i4,i5⟩:=R0 n (s::a) b p u.2 (by simp;omega) ⟨a1,a2,a3⟩ b3;refine key (s::a) b _ (i2.weak t2) i1 (i2.weak (by omega)) (λx hx=>?_) i4 i5 (by simp;omega) (λy y1 y2=>?_)
   .obtain⟨s',dC,r1,r2,r3,r4⟩:=i3 x hx;exact⟨s',dC,r1,r2,r3,λy y1 y2=>eU.2 (.inr (r4 y y1 y2))⟩
   .rcases eU.1 y2 with h|h
    .rcases Gv.1 y1 with h'|h'
     .exact .inl ((hi y).2 ⟨h',h⟩)
     .have:=ib.low a3 h';omega
    .exact .inr ⟨y1,h⟩
theorem R1{A:bD}{B:SL}(hA:A.length<=10000000)(hB:B.length<=10000000):∀(n i k:Nat)(acc:bD),i<=A.length->k<=B.length->(A.length-i)+(B.length-k)=n->acc.length+n<=3000000->
  zQ A B (i:Int) (k:Int) acc=some (acc++lg n (A.drop i) (B.drop k))
 |n,i,k,acc,hi,hk,hn,dZ=>by
  rw[jjp];simp only[j5d,show Int.ofNat (List.length A)=(A.length:Int) from rfl,show Int.ofNat (List.length B)=(B.length:Int) from rfl];by_cases fp:i<A.length/\k<B.length
  .obtain⟨bj,bK⟩:=fp;obtain⟨n,rfl⟩:∃m,n=m+1:=⟨n-1,by omega⟩;have gA:A.getD i ((0:Int),((0:Int),(0:Int)))=A[i]:=by simp[List.getD,bj]
   have gB:B.getD k ((0:Int),(0:Int))=B[k]:=by simp[List.getD,bK]
   rw[ag (show (i:Int)<(A.length:Int) by omega),ag (show (k:Int)<(B.length:Int) by omega),cw (show (0:Int)<=(i:Int) by omega) (by omega),cw (show (0:Int)<=(k:Int) by omega) (by omega)];simp only[j6,j8,gA,gB];rw[ai (x:=(i:Int)+1),ai (x:=(k:Int)+1)];rw[jb bj,jb bK];simp only[lg];generalize (if B[k].1>A[i].1 then B[k].1 else A[i].1:Int)=f;generalize (if B[k].2<A[i].2.1 then B[k].2 else A[i].2.1:Int)=t
   have Gn:∀bA:bD,bA.length<=acc.length+1->zQ A B ((i:Int)+1) (k:Int) bA=some (bA++lg n (A.drop (i+1)) (B[k]::B.drop (k+1))):=λbA tK=>by
    have:=R1 hA hB n (i+1) k bA (by omega) (by omega) (by omega) (by omega);rw[<-jb bK];exact this
   have Gp:∀bA:bD,bA.length<=acc.length+1->zQ A B (i:Int) ((k:Int)+1) bA=some (bA++lg n (A[i]::A.drop (i+1)) (B.drop (k+1))):=λbA tK=>by
    have:=R1 hA hB n i (k+1) bA (by omega) (by omega) (by omega) (by omega);rw[<-jb bj];exact this
   by_cases jB:f<t
   .rw[ag jB,if_pos jB,ag (by simp[aN];omega)];simp only[j6];by_cases hc:A[i].2.1<B[k].2
    .rw[ag hc,if_pos hc];simp only[j6,aK];rw[Gn _ (by simp),jj]
    .rw[ah hc,if_neg hc];simp only[j7,aK];rw[Gp _ (by simp),jj]
   .rw[ah jB,if_neg jB];simp only[j7];by_cases hc:A[i].2.1<B[k].2
    .rw[ag hc,if_pos hc];simp only[j6,aK];rw[Gn _ (by omega),jv]
    .rw[ah hc,if_neg hc];simp only[j7,aK];rw[Gp _ (by omega),jv]
  .have hc:cond (decide ((i:Int)<(A.length:Int))) (decide ((k:Int)<(B.length:Int))) false=false:=by
    by_cases h1:i<A.length
    .rw[ag (by omega),j6];exact ah (by omega)
    .rw[ah (by omega),j7]
   rw[hc,j7,aW]
   have:lg n (A.drop i) (B.drop k)=[]:=by
    by_cases h1:i<A.length
    .rw[yp (show B.length<=k by omega)];cases n<;>cases A.drop i<;>rfl
    .rw[yp (show A.length<=i by omega)];cases n<;>rfl
   rw[this,qm]
theorem jF9{l:bD}(hl:l.length<=10000000):∀(n i:Nat)(acc:SL),i+n=l.length->acc.length<=i->EO l (l.length:Int) (i:Int) acc=some (acc++(l.drop i).map λx=>(x.1,x.2.1))
 |0,i,acc,hi,_=>by
  rw[Xd];simp only[j4b];rw[ah (by omega),j7,aW,jd (by omega)];simp
 |n+1,i,acc,hi,ha=>by
  have bj:i<l.length:=by omega
  have aR:l.getD i ((0:Int),((0:Int),(0:Int)))=l[i]:=by simp[List.getD,bj]
  rw[Xd];simp only[j4b];rw[ag (by omega),bz,ai (x:=(i:Int)+1)];simp only[j6,j8,aR];rw[ag (by simp[aN];omega),j6,aK,jb bj,ke];have:=jF9 hl n (i+1) (acc++[(l[i].1,l[i].2.1)]) (by omega) (by simp;omega);rw[jj]at this;exact this
theorem jB9{l:bD}(hl:l.length<=10000000){lo hi:Int}(h0:0<=lo)(h1:hi<=8589934592)(hb:∀x∈l,lo<=x.1/\x.1<x.2.1/\x.2.1<=hi) :
  ∃out,jc9 l=some out/\bP (lo-1) out/\(∀t,bt t out↔nF t l)/\out.length<=l.length:=by
 have lp:=jF9 hl l.length 0 [] (by omega) (by simp);rw[jv,jr]at lp
 have aT:∀s∈l.map (λx=>(x.1,x.2.1)),lo<=s.1/\s.1<s.2/\s.2<=hi:=λs h=>by
  obtain⟨x,hx,rfl⟩:=jt.1 h;exact hb x hx
 obtain⟨out,e,g1,g2,g3,g4⟩:=Gm (l:=l.map λx=>(x.1,x.2.1)) (by simpa using hl) (λs h=>by have:=aT s h;omega) (lo:=lo) (hi:=hi) (λs h _=>by have:=aT s h;omega);refine⟨out,?_,g1,λt=>(g2 t).trans ⟨?_,?_⟩,by simpa using g3⟩
 .simp only[jc9,show Int.ofNat l.length=(l.length:Int) from rfl];rw[show EO l (l.length:Int) 0 []=_ from lp];simp only[j4,e]
 .rintro⟨s,hs,h⟩
  obtain⟨x,hx,rfl⟩:=jt.1 hs;exact⟨x,hx,h⟩
 .rintro⟨x,hx,h⟩
  exact⟨_,jt.2 ⟨x,hx,rfl⟩,h⟩
section
variable{zs:List br}{ps:List cZ}{cs:List aX}(hs:cN zs ps cs)
include hs
end
end Go.Proofs.Pw
