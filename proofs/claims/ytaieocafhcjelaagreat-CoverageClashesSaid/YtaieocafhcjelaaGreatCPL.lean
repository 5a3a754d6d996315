/- The references of Em 11 to 14: N1 is on qO, N1 is on call. -/
import Derived.Test.YtaieocafhcjelaaGreatCPK
import Derived.Test.YtaieocafhcjelaaGreatCPI
import Derived.Test.YtaieocafhcjelaaGreatCPH
import Derived.Test.YtaieocafhcjelaaGreatCPJ
noncomputable section
open Go Go.Lft
namespace Go.Proofs.Pw
theorem OA{w:WL}(hl:w.length<=14)(s:Int):∀(n i:Nat),i+n=w.length->Dj w s (i:Int)=some (cond (hasB s (w.drop i)) (.inl true) (.inr ()))
 |0,i,hi=>by
  rw[T2];simp only[j68,show Int.ofNat w.length=(w.length:Int) from rfl];rw[ah (by omega),j6,aU,jf (by omega)];rfl
 |n+1,i,hi=>by
  have bd:i<w.length:=by omega
  have bj:w.getD i ((0:Int),(0:Int))=w[i]:=by simp[List.getD,bd]
  rw[T2];simp only[j68,show Int.ofNat w.length=(w.length:Int) from rfl];rw[ag (by omega),aR (by omega) (by omega)];simp only[j5,zr,j7,bj];rw[aj (x:=(i:Int)+1) (by omega) (by omega),jc bd];have hb:hasB s (w[i]::w.drop (i+1))=cond (cond (decide (w[i].1<=s)) (decide (s<w[i].2)) false) true (hasB s (w.drop (i+1))):=rfl;rw[hb];by_cases h1:w[i].1<=s
  .rw[ag (show s>=w[i].1 from h1)];simp only[j5];by_cases h2:s<w[i].2
   .rw[ag h2];rfl
   .rw[ah h2];simp only[j6,aJ];exact OA hl s n (i+1) (by omega)
  .rw[ah (show¬s>=w[i].1 from h1)];simp only[j6,aJ];exact OA hl s n (i+1) (by omega)
theorem jzq{w:WL}(hl:w.length<=14)(s:Int):jiB w s=some (hasB s w):=by
 have:=OA hl s w.length 0 (by omega);simp only[jiB,show Dj w s 0=_ from this,j3,kc];cases hasB s w<;>rfl
theorem Xm{z:bU}(hz:iu z){t:Int}(h0:0<=t)(h1:t<=8589934592):j4S z t=some (cT z t,0):=by
 have h4:=hz.zref.2.1;obtain⟨k,hk,k1,k2⟩:=xP h4.2 h0 h1;have e:=DP h4.2 hk k1 k2;have:cT z t=((t+bB z.2.1 (tb z).2 k)/86400,(t+bB z.2.1 (tb z).2 k)%86400):=by simp only[cT,show j1C (tb z) t=_ from e,zb]
 rw[this];exact VX h4 h0 h1 hk k1 k2
theorem jEa{z:bU}(hz:iu z){t:Int}(h0:0<=t)(h1:t<=8589934592){w:WL}(hw:gW 0 w)(hl:w.length<=14):jda z t=some (fV (cT z t),0)/\jsy z w t=some (hasB (fV (cT z t)) w):=by
 have e1:=Xm hz h0 h1;obtain⟨_,oO⟩:=WG hz h0 h1;have e2:jiA (cT z t)=some (fV (cT z t)):=oO;have e3:jda z t=some (fV (cT z t),0):=by simp only[jda,show j4S (z.1,(z.2.1,z.2.2)) t=_ from e1,j3,jj,j6,show jiA ((cT z t).1,(cT z t).2)=_ from e2]
 refine⟨e3,?_⟩;simp only[jsy,show jda (z.1,(z.2.1,z.2.2)) t=_ from e3,j3,qj,j5,ye hw hl,jzq hl]
section
variable{zs:List bU}{ps:List dH}{cs:List bt}(hs:fK zs ps cs)
include hs
theorem OB{k d e:Int}{x:bt}(hx:rE zs.length x){L:bP}:∀(n i:Nat)(b:Bool),i+n=x.2.2.length->b=decide (d∈x.2.2.take i)->
  xJ k b (i:Int) L.1 L.2.1 L.2.2.1.1 L.2.2.1.2 L.2.2.2.1 L.2.2.2.2.1 L.2.2.2.2.2.1 L.2.2.2.2.2.2.1 L.2.2.2.2.2.2.2.1 L.2.2.2.2.2.2.2.2 x.1 x.2.1 x.2.2 d e=
   some (k,decide (d∈x.2.2),L.1,L.2.1,L.2.2.1.1,L.2.2.1.2,L.2.2.2.1,L.2.2.2.2.1,L.2.2.2.2.2.1,L.2.2.2.2.2.2.1,L.2.2.2.2.2.2.2.1,L.2.2.2.2.2.2.2.2)
 |0,i,b,hi,hb=>by
  rw[T3];simp only[j7x,show Int.ofNat x.2.2.length=(x.2.2.length:Int) from rfl];rw[ah (by omega),j6,aU,hb,List.take_of_length_le (by omega)]
 |n+1,i,b,hi,hb=>by
  have _:=hs;have lZ:=hx.len;have bd:i<x.2.2.length:=by omega
  have bj:x.2.2.getD i (0:Int)=x.2.2[i]:=by simp[bd]
  rw[T3];simp only[j7x,show Int.ofNat x.2.2.length=(x.2.2.length:Int) from rfl];rw[ag (by omega),aj (x:=(i:Int)+1) (by omega) (by omega),j5];have ht:x.2.2.take (i+1)=x.2.2.take i++[x.2.2[i]]:=by rw[ko,jh bd];rfl
  cases Xn:b with
  |true=>simp only[j5,aJ];refine OB hx n (i+1) true (by omega) ?_;have:d∈x.2.2.take i:=q9 (by rw[<-hb,Xn]);rw[ht];exact(ag (k5 _ this)).symm
  |false=>
   have cd:d∉x.2.2.take i:=of_decide_eq_false (by rw[<-hb,Xn]);rw[aR (show (0:Int)<=(i:Int) by omega) (by omega)];simp only[j6,j5,j7,bj,aJ];refine OB hx n (i+1) _ (by omega) ?_;rw[ht];by_cases he:x.2.2[i]=d
   .rw[cP he];exact(ag (kj _ (by simp[he]))).symm
   .rw[bW he];refine(ah λhm=>?_).symm;rcases jn.1 hm with h|h
    .exact cd h
    .simp at h;exact he h.symm
theorem jCI{L:bP}(hL:eD zs.length ps.length cs.length L){ss:List cS}{t:Int}(h0:0<=t)(h1:t<=8589934592):∃k,jkM (zs,(ps,(cs,ss))) L t=some (k,fo zs cs L t)/\(fo zs cs L t=true->k=bO (aN zs L.2.1) L t):=by
 have u7:=hL.rt2;have hz:iu (aN zs L.2.1):=iw hs.so.ok hL.z0 hL.z1;have h4:=hz.zref.2.1;obtain⟨K,eK,hK⟩:=jET h4 u7 h0 h1;have hKs:K=bO (aN zs L.2.1) L t:=iQ.uniq h4.2 u7 hK (rF hz u7 h0 h1).2;subst hKs;have ek:jhL (aN zs L.2.1) L t=some (bO (aN zs L.2.1) L t,0):=by simp only[jhL,show jhH ((aN zs L.2.1).1,((aN zs L.2.1).2.1,(aN zs L.2.1).2.2)) (L.1,L.2.1,(L.2.2.1.1,L.2.2.1.2),L.2.2.2.1,L.2.2.2.2.1,L.2.2.2.2.2.1,L.2.2.2.2.2.2.1,L.2.2.2.2.2.2.2.1,L.2.2.2.2.2.2.2.2)=_ from juR h4 L,j3];rw[if_pos u7,ah (show¬t<0 by omega),ah (show¬t>8589934592 by omega)];simp only[jj,j6];rw[show jhK ((aN zs L.2.1).1,((aN zs L.2.1).2.1,(aN zs L.2.1).2.2)) (L.1,L.2.1,(L.2.2.1.1,L.2.2.1.2),L.2.2.2.1,L.2.2.2.2.1,L.2.2.2.2.2.1,L.2.2.2.2.2.2.1,L.2.2.2.2.2.2.2.1,L.2.2.2.2.2.2.2.2) t=_ from eK];rfl
 obtain⟨_,ein⟩:=jEa hz h0 h1 hL.w hL.wl
 have u9:(cond (L.2.2.2.2.2.2.2.2==(0:Int)) (some (bO (aN zs L.2.1) L t,true)) (cond (inR L.2.2.2.2.2.2.2.1 cs.length) (cond (inR (cs.getD L.2.2.2.2.2.2.2.1.toNat (ByteArray.empty,((0:Int),([]:List Int)))).2.1 zs.length)
   ((j4S ((zs.getD (cs.getD L.2.2.2.2.2.2.2.1.toNat (ByteArray.empty,((0:Int),([]:List Int)))).2.1.toNat (ByteArray.empty,((0:Int),([]:List aO)))).1,((zs.getD (cs.getD L.2.2.2.2.2.2.2.1.toNat (ByteArray.empty,((0:Int),([]:List Int)))).2.1.toNat (ByteArray.empty,((0:Int),([]:List aO)))).2.1,(zs.getD (cs.getD L.2.2.2.2.2.2.2.1.toNat (ByteArray.empty,((0:Int),([]:List Int)))).2.1.toNat (ByteArray.empty,((0:Int),([]:List aO)))).2.2)) t).bind λXo=>
     (xJ (bO (aN zs L.2.1) L t) false 0 L.1 L.2.1 L.2.2.1.1 L.2.2.1.2 L.2.2.2.1 L.2.2.2.2.1 L.2.2.2.2.2.1 L.2.2.2.2.2.2.1 L.2.2.2.2.2.2.2.1 L.2.2.2.2.2.2.2.2 (cs.getD L.2.2.2.2.2.2.2.1.toNat (ByteArray.empty,((0:Int),([]:List Int)))).1 (cs.getD L.2.2.2.2.2.2.2.1.toNat (ByteArray.empty,((0:Int),([]:List Int)))).2.1 (cs.getD L.2.2.2.2.2.2.2.1.toNat (ByteArray.empty,((0:Int),([]:List Int)))).2.2 Xo.1.1 Xo.1.2).bind λq0=>
      some (q0.1,(q0.2.1==(q0.2.2.2.2.2.2.2.2.2.2.2==(2:Int))))) none) none))=some (bO (aN zs L.2.1) L t,jO zs cs L t):=by
  by_cases hm:L.2.2.2.2.2.2.2.2=0
  .rw[cP hm,j5];unfold jO;rw[cP hm];rfl
  .have cL:=hL.cal hm;have hx:=th hs cL.1 cL.2;have yL:=iw hs.so.ok hx.z0 hx.z1;rw[bW hm,j6,aR cL.1 cL.2,aR hx.z0 hx.z1];simp only[j5];rw[show j4S ((zs.getD (cs.getD L.2.2.2.2.2.2.2.1.toNat (ByteArray.empty,((0:Int),([]:List Int)))).2.1.toNat (ByteArray.empty,((0:Int),([]:List aO)))).1,((zs.getD (cs.getD L.2.2.2.2.2.2.2.1.toNat (ByteArray.empty,((0:Int),([]:List Int)))).2.1.toNat (ByteArray.empty,((0:Int),([]:List aO)))).2.1,(zs.getD (cs.getD L.2.2.2.2.2.2.2.1.toNat (ByteArray.empty,((0:Int),([]:List Int)))).2.1.toNat (ByteArray.empty,((0:Int),([]:List aO)))).2.2)) t=_ from Xm yL h0 h1];simp only[j3];rw[show xJ (bO (aN zs L.2.1) L t) false 0 L.1 L.2.1 L.2.2.1.1 L.2.2.1.2 L.2.2.2.1 L.2.2.2.2.1 L.2.2.2.2.2.1 L.2.2.2.2.2.2.1 L.2.2.2.2.2.2.2.1 L.2.2.2.2.2.2.2.2 (cs.getD L.2.2.2.2.2.2.2.1.toNat (ByteArray.empty,((0:Int),([]:List Int)))).1 (cs.getD L.2.2.2.2.2.2.2.1.toNat (ByteArray.empty,((0:Int),([]:List Int)))).2.1 (cs.getD L.2.2.2.2.2.2.2.1.toNat (ByteArray.empty,((0:Int),([]:List Int)))).2.2 _ _=_ from OB hs hx (L:=L) (cs.getD L.2.2.2.2.2.2.2.1.toNat (ByteArray.empty,((0:Int),([]:List Int)))).2.2.length 0 false (by omega) (by simp)];unfold jO;rw[bW hm];rfl
 simp only[jkM];rw[aR hL.z0 hL.z1];simp only[j5];rw[show jhL ((zs.getD L.2.1.toNat (ByteArray.empty,((0:Int),([]:List aO)))).1,((zs.getD L.2.1.toNat (ByteArray.empty,((0:Int),([]:List aO)))).2.1,(zs.getD L.2.1.toNat (ByteArray.empty,((0:Int),([]:List aO)))).2.2)) (L.1,L.2.1,(L.2.2.1.1,L.2.2.1.2),L.2.2.2.1,L.2.2.2.2.1,L.2.2.2.2.2.1,L.2.2.2.2.2.2.1,L.2.2.2.2.2.2.2.1,L.2.2.2.2.2.2.2.2) t=_ from ek];simp only[j3,jj,j6];by_cases hk:0<=bO (aN zs L.2.1) L t
 .rw[ah (show¬bO (aN zs L.2.1) L t<0 by omega)];simp only[j6,show Int.ofNat L.2.2.2.2.2.2.1.length=(L.2.2.2.2.2.2.1.length:Int) from rfl];have lN:fo zs cs L t=cond (okW L.2.2.2.2.2.2.1 (fV (cT (aN zs L.2.1) t))) (jO zs cs L t) false:=by unfold fo;rw[ag hk];rfl
  rw[lN];by_cases hw:(L.2.2.2.2.2.2.1.length:Int)>0
  .rw[ag hw,j5,show jsy ((zs.getD L.2.1.toNat (ByteArray.empty,((0:Int),([]:List aO)))).1,((zs.getD L.2.1.toNat (ByteArray.empty,((0:Int),([]:List aO)))).2.1,(zs.getD L.2.1.toNat (ByteArray.empty,((0:Int),([]:List aO)))).2.2)) L.2.2.2.2.2.2.1 t=_ from ein];simp only[j3];unfold okW;rw[ag hw,j5];cases hasB (fV (cT (aN zs L.2.1) t)) L.2.2.2.2.2.2.1 with
   |false=>exact⟨0,rfl,λh=>by simp at h⟩
   |true=>simp only[ji,j6,j5];exact⟨_,u9,λ_=>rfl⟩
  .rw[ah hw,j6];unfold okW;rw[ah hw];simp only[j6,j5];exact⟨_,u9,λ_=>rfl⟩
 .rw[ag (show bO (aN zs L.2.1) L t<0 by omega)];have lN:fo zs cs L t=false:=by unfold fo;rw[ah hk];rfl
  rw[lN];simp only[j5,ji,jt,Bool.or_true];exact⟨0,rfl,λh=>by simp at h⟩
theorem jAM{L:bP}(hL:eD zs.length ps.length cs.length L){ss:List cS}{t:Int}(h0:0<=t)(h1:t<=8589934592):jo8 (zs,(ps,(cs,ss))) L t=some (cw zs cs L t):=by
 obtain⟨k,e,hk⟩:=jCI hs hL (ss:=ss) h0 h1;have lN:fo zs cs L t=true->0<=bO (aN zs L.2.1) L t:=G8;simp only[jo8];rw[show jkM (zs,ps,cs,ss) (L.1,L.2.1,(L.2.2.1.1,L.2.2.1.2),L.2.2.2.1,L.2.2.2.2.1,L.2.2.2.2.2.1,L.2.2.2.2.2.2.1,L.2.2.2.2.2.2.2.1,L.2.2.2.2.2.2.2.2) t=_ from e];simp only[j3,show Int.ofNat L.2.2.2.2.2.1.length=(L.2.2.2.2.2.1.length:Int) from rfl];unfold cw;cases hc:fo zs cs L t with
 |false=>rfl
 |true=>have mv:=hL.m0;have oE:=lN hc;have:=hk hc;subst this;have q1:0<=Int.tmod (bO (aN zs L.2.1) L t) (L.2.2.2.2.2.1.length:Int):=Int.tmod_nonneg _ oE;have q2:Int.tmod (bO (aN zs L.2.1) L t) (L.2.2.2.2.2.1.length:Int)<(L.2.2.2.2.2.1.length:Int):=vr _ (by omega);rw[bW (show¬(L.2.2.2.2.2.1.length:Int)=0 by omega),aR q1 q2];rfl
theorem jEW:∀z∈zs,j8e z=some 0:=λz hz=>Oz (hs.so.ok z hz)
end
def cU(zs:List bU)(cs:List bt)(ls:List bP)(t:Int)(i:Nat):Int:=cw zs cs (ls.getD i (ByteArray.empty,((0:Int),(((0:Int),(0:Int)),((0:Int),((0:Int),(([]:List Int),(([]:List (Int×Int)),((0:Int),(0:Int)))))))))) t
def mW(es:List dE)(p:Int):SL:=(es.filter λx=>x.1==0&&x.2.1==p).map λx=>(x.2.2.2.1,x.2.2.2.2)
theorem jEb{es:List dE}{p t:Int}:bN t (mW es p)↔ix es p t=true:=by
 unfold bN mW ix;rw[qw];constructor
 .rintro⟨s,hs,h1,h2⟩
  obtain⟨x,hx,rfl⟩:=ka.1 hs;obtain⟨h3,h4⟩:=vv.1 hx;dsimp only at h1 h2;refine⟨x,h3,?_⟩;simp only[jb,jq]at h4 ⊢;exact⟨h4.1,h4.2,h1,h2⟩
 .rintro⟨x,hx,h⟩
  simp only[jb,jq]at h;exact⟨_,ka.2 ⟨x,vv.2 ⟨hx,by simp only[jb];exact⟨h.1,h.2.1⟩⟩,rfl⟩,h.2.2.1,h.2.2.2⟩
theorem OC{es:List dE}(hl:es.length<=1000){p:Int}:∀(n i:Nat)(acc:SL),i+n=es.length->acc.length<=i->xA p es (es.length:Int) (i:Int) acc=some (acc++mW (es.drop i) p)
 |0,i,acc,hi,_=>by
  rw[Ta];simp only[j51];rw[ah (by omega),j6,aU,jf (by omega)];simp[mW]
 |n+1,i,acc,hi,ha=>by
  have bd:i<es.length:=by omega
  have bj:es.getD i ((0:Int),((0:Int),((0:Int),((0:Int),(0:Int)))))=es[i]:=by simp[List.getD,bd]
  rw[Ta];simp only[j51];rw[ag (by omega),aR (by omega) (by omega),aj (x:=(i:Int)+1) (by omega) (by omega)];simp only[j5,j7,bj];have hc:cond (es[i].1==(0:Int)) (es[i].2.1==p) false=(es[i].1==0&&es[i].2.1==p):=by cases es[i].1==(0:Int)<;>rfl
  rw[hc,jc bd];cases hx:(es[i].1==0&&es[i].2.1==p) with
  |true=>
   rw[j5,ag (by simp[aY];omega),j5,aJ];have:=OC hl (p:=p) n (i+1) (acc++[(es[i].2.2.2.1,es[i].2.2.2.2)]) (by omega) (by simp;omega);have e:mW (es[i]::es.drop (i+1)) p=(es[i].2.2.2.1,es[i].2.2.2.2)::mW (es.drop (i+1)) p:=by simp only[mW,List.filter_cons,hx,if_true,ku]
   rw[e];rw[jd]at this;exact this
  |false=>
   rw[j6,aJ];have:=OC hl (p:=p) n (i+1) acc (by omega) (by omega);have e:mW (es[i]::es.drop (i+1)) p=mW (es.drop (i+1)) p:=by unfold mW;rw[List.filter_cons_of_neg (by simp only[hx];simp)]
   rw[e];exact this
theorem jzr{es:List dE}{np:Nat}(hE:∀x∈es,nS np x)(hl:es.length<=48)(nm:ByteArray)(ls:List bP)(p:Int) :
  ∃out,j5h (nm,(ls,es)) p=some out/\ct (-1) out/\(∀t,bN t out↔ix es p t=true)/\out.length<=es.length:=by
 have lp:=OC (es:=es) (by omega) (p:=p) es.length 0 [] (by omega) (by simp);rw[jo,kc]at lp;have eV:(mW es p).length<=es.length:=by unfold mW;rw[qb];exact List.length_filter_le _ _
 have hb:∀s∈mW es p,0<=s.1/\s.1<s.2/\s.2<=1000000000000:=λs h=>by
  obtain⟨x,hx,rfl⟩:=ka.1 h;have:=hE x (vv.1 hx).1;exact⟨this.f0,this.ft,this.t1⟩
 obtain⟨out,e,h1,h2,h3,h4⟩:=G3 (l:=mW es p) (by omega) (λs h=>by have:=hb s h;omega) (lo:=0) (hi:=1000000000000) (λs h _=>by have:=hb s h;omega);refine⟨out,?_,h1,λt=>(h2 t).trans jEb,by omega⟩;simp only[j5h,show Int.ofNat es.length=(es.length:Int) from rfl];rw[show xA p es (es.length:Int) 0 []=_ from lp];simp only[j3,e]
theorem jwZ{β:Type}(l:List (Int×β))(k:Int)(v:β)(j:Int):ia (gX l k v) j=(j==k||ia l j):=by
 induction l with
 |nil=>simp[gX,ia]
 |cons x r ih=>
  simp only[gX];by_cases h:k=x.1
  .rw[cP h,j5];simp only[ia,List.any_cons];rw[<-h];cases j==k<;>simp
  .rw[bW h,j6];have:ia (x::gX r k v) j=(j==x.1||ia (gX r k v) j):=rfl;rw[this,ih];have:ia (x::r) j=(j==x.1||ia r j):=rfl;rw[this];cases j==x.1<;>cases j==k<;>simp
theorem Xp{β:Type}(d:β)(l:List (Int×β))(k:Int)(v:β)(j:Int):gy d (gX l k v) j=cond (j==k) v (gy d l j):=by
 induction l with
 |nil=>rfl
 |cons x r ih=>
  simp only[gX];by_cases h:k=x.1
  .rw[cP h,j5];show cond (j==k) v (gy d r j)=cond (j==k) v (cond (j==x.1) x.2 (gy d r j));rw[<-h];cases j==k<;>rfl
  .rw[bW h,j6];show cond (j==x.1) x.2 (gy d (gX r k v) j)=cond (j==k) v (cond (j==x.1) x.2 (gy d r j));rw[ih];by_cases hj:j=x.1
   .rw[cP hj,j5,bW (show¬j=k by omega)];rfl
   .rw[bW hj];rfl
def gf(p:Int):bQ->Prop
 |[]=>True
 |x::r=>p<=x.1/\x.1<x.2.1/\gf x.2.1 r
def lP(t:Int)(l:bQ):Prop:=∃x∈l,x.1<=t/\t<x.2.1
theorem En{t:Int}{s:jN}{l:bQ}:lP t (s::l)↔(s.1<=t/\t<s.2.1)\/lP t l:=by
 constructor
 .rintro⟨u,hu,h⟩
  rcases jg.1 hu with rfl|hu
  .exact .inl h
  .exact .inr ⟨u,hu,h⟩
 .rintro (h|⟨u,hu,h⟩)
  .exact⟨s,by simp,h⟩
  .exact⟨u,by simp[hu],h⟩
theorem OD{t:Int}:¬lP t []:=by rintro⟨s,hs,_⟩;simp at hs
theorem gf.weak{p q:Int}(hq:q<=p):∀{l:bQ},gf p l->gf q l
 |[],_=>trivial
 |_::_,h=>⟨by have:=h.1;omega,h.2⟩
theorem gf.low{p t:Int}:∀{l:bQ},gf p l->lP t l->p<=t
 |[],_,h=>absurd h OD
 |s::r,h,hx=>by
  rcases En.1 hx with hx|hx
  .have:=h.1;omega
  .have:=gf.low h.2.2 hx;have:=h.1;have:=h.2.1;omega
theorem gf.app{e:Int}{r:bQ}(hr:gf e r):∀{l:bQ}{p:Int},gf p l->p<=e->(∀x∈l,x.2.1<=e)->gf p (l++r)
 |[],_,_,hp,_=>hr.weak hp
 |x::l,p,h,_,hl=>⟨h.1,h.2.1,hr.app h.2.2 (hl x (by simp)) (λy hy=>hl y (by simp[hy]))⟩
theorem gf.apart{p:Int}:∀{l:bQ},gf p l->l.Pairwise (λx y=>x.2.1<=y.1)/\∀x∈l,p<=x.1
 |[],_=>⟨List.Pairwise.nil,by simp⟩
 |x::l,h=>by
  obtain⟨h1,h2⟩:=gf.apart h.2.2
  exact⟨kq.2 ⟨h2,h1⟩,λy hy=>by
   rcases jg.1 hy with rfl|hy
   .exact h.1
   .have:=h2 y hy;have:=h.1;have:=h.2.1;omega⟩
def oP(s:cS)(p:Int):SL:=(j5h s p).getD []
def oQ(s:cS)(x:jN):SL:=(j2O [(x.1,x.2.1)] (oP s x.2.2)).getD []
def lv(s:cS)(x:jN):bQ:=if x.2.2<0 then [] else (oQ s x).map λu=>(u.1,(u.2,x.2.2))
section
variable{nm:ByteArray}{ls:List bP}{es:List dE}{np:Nat}(hE:∀x∈es,nS np x)(hl:es.length<=48)
include hE hl
theorem Xq(p:Int):j5h (nm,(ls,es)) p=some (oP (nm,(ls,es)) p)/\ct (-1) (oP (nm,(ls,es)) p)/\(∀t,bN t (oP (nm,(ls,es)) p)↔ix es p t=true)/\(oP (nm,(ls,es)) p).length<=es.length:=by
 obtain⟨out,e,h⟩:=jzr hE hl nm ls p;have:oP (nm,(ls,es)) p=out:=by simp[oP,e]
 rw[this];exact⟨e,h⟩
theorem OE{x:jN}(hx:x.1<x.2.1):j2O [(x.1,x.2.1)] (oP (nm,(ls,es)) x.2.2)=some (oQ (nm,(ls,es)) x)/\ct (x.1-1) (oQ (nm,(ls,es)) x)/\
  (∀t,bN t (oQ (nm,(ls,es)) x)↔(x.1<=t/\t<x.2.1)/\ix es x.2.2 t=false)/\(oQ (nm,(ls,es)) x).length<=1+es.length:=by
 obtain⟨_,l1,l2,l3⟩:=Xq (nm:=nm) (ls:=ls) hE hl x.2.2;obtain⟨out,e,h1,h2,h3⟩:=jmp (B:=oP (nm,(ls,es)) x.2.2) (by omega) (A:=[(x.1,x.2.1)]) (p:=x.1-1) ⟨by dsimp only;omega,hx,trivial⟩ l1 (by simp);have:oQ (nm,(ls,es)) x=out:=by simp[oQ,e]
 rw[this];refine⟨e,h1,λt=>?_,by rw[kv]at h3;omega⟩;rw[h2 t,l2 t,eU];constructor
 .rintro⟨h|h,h'⟩
  .exact⟨h,by simpa using h'⟩
  .exact absurd h gJ
 .rintro⟨h,h'⟩
  exact⟨.inl h,by simp[h']⟩
omit hE hl in
theorem Xr{S:bQ}{m j f e p:Int}{mp:List (Int×SL)}{W:SL}(hW:W.length<=1000):∀(n i:Nat)(acc:bQ),i+n=W.length->acc.length+n<=1000000000->
  sS S m j (W.length:Int) (i:Int) nm ls es f e p mp acc W=some (S,m,j,nm,ls,es,mp,acc++(W.drop i).map λu=>(u.1,(u.2,p)))
 |0,i,acc,hi,_=>by
  rw[Tb];simp only[j4t];rw[ah (by omega),j6,aU,jf (by omega)];simp
 |n+1,i,acc,hi,ha=>by
  have bd:i<W.length:=by omega
  have bj:W.getD i ((0:Int),(0:Int))=W[i]:=by simp[List.getD,bd]
  rw[Tb];simp only[j4t];rw[ag (by omega),aR (by omega) (by omega),aj (x:=(i:Int)+1) (by omega) (by omega)];simp only[j5,j7,bj];rw[ag (by simp[aY];omega),j5,aJ,jc bd,ku];have:=Xr (S:=S) (m:=m) (j:=j) (f:=f) (e:=e) (p:=p) (mp:=mp) hW n (i+1) (acc++[(W[i].1,(W[i].2,p))]) (by omega) (by simp;omega);rw[jd]at this;exact this
theorem OG{S:bQ}(hS:S.length<=100000)(bV:∀x∈S,x.1<x.2.1):∀(n i:Nat)(mp:List (Int×SL))(acc:bQ),i+n=S.length->(∀p,ia mp p=true->gy [] mp p=oP (nm,(ls,es)) p)->acc.length<=49*i->
  uQ S (S.length:Int) (i:Int) nm ls es mp acc=some (acc++(S.drop i).flatMap (lv (nm,(ls,es))))
 |0,i,mp,acc,hi,_,_=>by
  rw[Tc];simp only[j2e];rw[ah (by omega),j6,aU,jf (by omega)];simp
 |n+1,i,mp,acc,hi,hm,ha=>by
  have bd:i<S.length:=by omega
  have bj:S.getD i ((0:Int),((0:Int),(0:Int)))=S[i]:=by simp[List.getD,bd]
  have hp:=bV _ (je bd);rw[Tc];simp only[j2e];rw[ag (show (i:Int)<(S.length:Int) by omega),aR (by omega) (by omega)];simp only[j5,j7,bj];rw[jc bd,z6];by_cases lh:S[i].2.2<0
  .rw[ag lh,j5,aj (x:=(i:Int)+1) (by omega) (by omega),aJ];have e:lv (nm,(ls,es)) S[i]=[]:=if_pos lh;rw[e,jo];exact OG hS bV n (i+1) mp acc (by omega) hm (by omega)
  .have e:lv (nm,(ls,es)) S[i]=(oQ (nm,(ls,es)) S[i]).map λu=>(u.1,(u.2,S[i].2.2)):=if_neg lh;obtain⟨w1,_,_,w4⟩:=OE (nm:=nm) (ls:=ls) hE hl hp;rw[ah lh,j6]
   have fin:∀tn:List (Int×SL),(∀p,ia tn p=true->gy [] tn p=oP (nm,(ls,es)) p)->gy [] tn S[i].2.2=oP (nm,(ls,es)) S[i].2.2->
     lpK ((j2O [(S[i].1,S[i].2.1)] (gy [] tn S[i].2.2)).bind λXs=>
      (sS S (S.length:Int) (i:Int) (Int.ofNat Xs.length) 0 nm ls es S[i].1 S[i].2.1 S[i].2.2 tn acc Xs).bind λq2=>
       (some (Sum.inl (q2.1,q2.2.1,w64 (q2.2.2.1+1),q2.2.2.2.1,q2.2.2.2.2.1,q2.2.2.2.2.2.1,q2.2.2.2.2.2.2.1,q2.2.2.2.2.2.2.2)):Option ((bQ×Int×Int×ByteArray×List bP×List dE×List (Int×SL)×bQ) ⊕ bQ)))
      (λh=>uQ h.1 h.2.1 h.2.2.1 h.2.2.2.1 h.2.2.2.2.1 h.2.2.2.2.2.1 h.2.2.2.2.2.2.1 h.2.2.2.2.2.2.2)=some (acc++(lv (nm,(ls,es)) S[i]++(S.drop (i+1)).flatMap (lv (nm,(ls,es))))):=λtn iL hg=>by
    have l2:=Xr (nm:=nm) (ls:=ls) (es:=es) (S:=S) (m:=(S.length:Int)) (j:=(i:Int)) (f:=S[i].1) (e:=S[i].2.1) (p:=S[i].2.2) (mp:=tn) (W:=oQ (nm,(ls,es)) S[i]) (by omega) (oQ (nm,(ls,es)) S[i]).length 0 acc (by omega) (by omega);rw[hg,w1];simp only[j3];rw[show sS S (S.length:Int) (i:Int) (Int.ofNat (oQ (nm,(ls,es)) S[i]).length) 0 nm ls es S[i].1 S[i].2.1 S[i].2.2 tn acc (oQ (nm,(ls,es)) S[i])=_ from l2];simp only[j3,kc];rw[aj (x:=(i:Int)+1) (by omega) (by omega),aJ,<-e,<-jd];exact OG hS bV n (i+1) tn _ (by omega) iL (by rw[ja,e,qb];omega)
   cases hh:ia mp S[i].2.2 with
   |true=>simp only[ji,j6];exact fin mp hm (hm _ hh)
   |false=>
    simp only[jt,j5];rw[show j5h (nm,(ls,es)) S[i].2.2=_ from (Xq (nm:=nm) (ls:=ls) hE hl S[i].2.2).1];simp only[j3];refine fin _ (λp vS=>?_) ?_
    .rw[Xp];by_cases Hb:p=S[i].2.2
     .rw[cP Hb,j5,Hb]
     .rw[jwZ,bW Hb,vc]at vS;rw[bW Hb,j6];exact hm p vS
    .rw[Xp];simp
theorem jx0{S:bQ}(hS:S.length<=100000)(bV:∀x∈S,x.1<x.2.1):j5X (nm,(ls,es)) S=some (S.flatMap (lv (nm,(ls,es)))):=by
 simp only[j5X,show Int.ofNat S.length=(S.length:Int) from rfl];rw[show uQ S (S.length:Int) 0 nm ls es [] []=_ from OG hE hl hS bV S.length 0 [] [] (by omega) (λp h=>by simp[ia]at h) (by simp)];rfl
theorem jCK{x:jN}(hx:x.1<x.2.1):(lv (nm,(ls,es)) x).length<=1+es.length:=by
 unfold lv;split
 .simp
 .rw[qb];exact(OE (nm:=nm) (ls:=ls) hE hl hx).2.2.2
theorem Xt:∀{S:bQ},(∀x∈S,x.1<x.2.1)->(S.flatMap (lv (nm,(ls,es)))).length<=S.length*(1+es.length)
 |[],_=>by simp
 |x::S,h=>by
  have h1:=jCK (nm:=nm) (ls:=ls) hE hl (h x (by simp));have h2:=Xt (S:=S) (λy hy=>h y (by simp[hy]));rw[z6,ja,jm,Nat.add_mul];omega
theorem Xu{p:Int}{c e:Int}:∀{W:SL}{q:Int},ct q W->(∀u∈W,u.2<=e)->gf (q+1) (W.map λu=>(u.1,(u.2,c)))/\(p<=q+1->gf p (W.map λu=>(u.1,(u.2,c))))
 |[],_,_,_=>⟨trivial,λ_=>trivial⟩
 |u::W,q,h,hb=>by
  have _:=hE;have _:=hl;have h3:=(Xu (p:=u.2) (c:=c) (e:=e) (W:=W) h.2.2 (λv hv=>hb v (by simp[hv]))).2 (by omega);exact⟨⟨by have:=h.1;dsimp only;omega,h.2.1,h3⟩,λhp=>⟨by have:=h.1;dsimp only;omega,h.2.1,h3⟩⟩
theorem Xv{f:Int->Int}{b:Int}:∀{S:bQ}{a:Int},Ch f b a S->(∀x∈S,x.1<x.2.1)->
  gf a (S.flatMap (lv (nm,(ls,es))))/\(∀x∈S.flatMap (lv (nm,(ls,es))),x.2.1<=b/\∀t,x.1<=t->t<x.2.1->f t=x.2.2/\0<=x.2.2/\ix es x.2.2 t=false)/\
   ∀t,a<=t->t<b->0<=f t->ix es (f t) t=false->lP t (S.flatMap (lv (nm,(ls,es))))
 |[],a,h,_=>⟨trivial,by simp,λt h1 h2=>by have h:a=b:=h;omega⟩
 |x::S,a,h,bV=>by
  obtain⟨h1,h2,h3,h4⟩:=h;have hx:=bV x (by simp);obtain⟨i1,i2,i3⟩:=Xv (f:=f) (b:=b) h4 (λy hy=>bV y (by simp[hy]));have hle:=h4.le;obtain⟨_,w2,w3,_⟩:=OE (nm:=nm) (ls:=ls) hE hl hx
  have er:∀y∈lv (nm,(ls,es)) x,0<=x.2.2/\y.2.2=x.2.2/\y.1<y.2.1/\x.1<=y.1/\y.2.1<=x.2.1/\∀t,y.1<=t->t<y.2.1->ix es x.2.2 t=false:=λy hy=>by
   unfold lv at hy;split at hy
   .simp at hy
   .obtain⟨u,hu,rfl⟩:=ka.1 hy;have hm:=ct.mem w2 u hu;have e1:=(w3 (u.2-1)).1 ⟨u,hu,by omega,by omega⟩;exact⟨by omega,rfl,hm.2,by dsimp only;omega,by dsimp only;omega,λt t1 t2=>((w3 t).1 ⟨u,hu,t1,t2⟩).2⟩
  rw[z6];refine⟨?_,λy hy=>?_,λt t1 t2 t3 t4=>?_⟩
  .refine gf.app i1 ?_ h2 (λy hy=>(er y hy).2.2.2.2.1);unfold lv;split
   .trivial
   .exact(Xu hE hl (p:=a) (c:=x.2.2) (e:=x.2.1) w2 (λu hu=>by
     have hm:=ct.mem w2 u hu;have e1:=(w3 (u.2-1)).1 ⟨u,hu,by omega,by omega⟩;omega)).2 (by omega)
  .rcases jn.1 hy with hy|hy
   .obtain⟨g1,g2,g3,g4,g5,g6⟩:=er y hy;exact⟨by omega,λt t1 t2=>⟨by rw[g2];exact h3 t (by omega) (by omega),by omega,by rw[g2];exact g6 t t1 t2⟩⟩
   .exact i2 y hy
  .by_cases aA:t<x.2.1
   .have hf:=h3 t t1 aA;rw[hf]at t3 t4;obtain⟨u,hu,u1,u2⟩:=(w3 t).2 ⟨⟨by omega,aA⟩,t4⟩;refine⟨(u.1,(u.2,x.2.2)),k5 _ ?_,u1,u2⟩;unfold lv;rw[if_neg (by omega)];exact ka.2 ⟨u,hu,rfl⟩
   .obtain⟨y,hy,y1,y2⟩:=i3 t (by omega) t2 t3 t4;exact⟨y,kj _ hy,y1,y2⟩
end
def iR:Nat->bQ->SL->bQ
 |n+1,s::a,u::b=>(if (if u.1>s.1 then u.1 else s.1)<(if u.2<s.2.1 then u.2 else s.2.1) then [((if u.1>s.1 then u.1 else s.1),((if u.2<s.2.1 then u.2 else s.2.1),s.2.2))] else [])++
  (if s.2.1<u.2 then iR n a (u::b) else iR n (s::a) b)
 |_,_,_=>[]
theorem OH:∀(n:Nat)(a:bQ)(b:SL)(p q:Int),a.length+b.length<=n->gf p a->ct q b->
  gf p (iR n a b)/\gf q (iR n a b)/\(∀x∈iR n a b,∃s∈a,s.1<=x.1/\x.2.1<=s.2.1/\x.2.2=s.2.2/\∀t,x.1<=t->t<x.2.1->bN t b)/\(∀t,lP t a->bN t b->lP t (iR n a b))/\(iR n a b).length<=a.length+b.length
 |0,a,b,p,q,hn,_,_=>by
  obtain rfl:a=[]:=kg.1 (by omega);exact⟨trivial,trivial,by simp[iR],λt h=>absurd h OD,by simp[iR]⟩
 |n+1,[],b,p,q,_,_,_=>⟨trivial,trivial,by simp[iR],λt h=>absurd h OD,by simp[iR]⟩
 |n+1,_::_,[],p,q,_,_,_=>⟨trivial,trivial,by simp[iR],λt _ h=>absurd h gJ,by simp[iR]⟩
 |n+1,s::a,u::b,p,q,hn,ha,hb=>by
  obtain⟨a1,a2,a3⟩:=ha;obtain⟨b1,b2,b3⟩:=hb;simp only[jm]at hn ⊢
  have hx:∃f t:Int,f=(if u.1>s.1 then u.1 else s.1)/\t=(if u.2<s.2.1 then u.2 else s.2.1)/\(∀x,(f<=x/\x<t)↔(s.1<=x/\x<s.2.1)/\(u.1<=x/\x<u.2))/\p<=f/\q<=f/\t<=s.2.1/\t<=u.2/\s.1<=f:=by
   refine⟨_,_,rfl,rfl,λx=>?_,?_,?_,?_,?_,?_⟩
   .constructor
    .intro h;split at h<;>split at h<;>omega
    .intro h;split<;>split<;>omega
   all_goals split<;>omega
  obtain⟨f,t,ef,et,hi,f1,f2,t1,t2,f3⟩:=hx;simp only[iR,<-ef,<-et]
  have key:∀(a':bQ)(b':SL)(r:bQ),gf t r->gf p r->gf q r->(∀x∈r,∃s'∈(s::a),s'.1<=x.1/\x.2.1<=s'.2.1/\x.2.2=s'.2.2/\∀y,x.1<=y->y<x.2.1->bN y (u::b))->(∀y,lP y a'->bN y b'->lP y r)->
    r.length<=a'.length+b'.length->a'.length+b'.length+1=a.length+1+(b.length+1)->(∀y,lP y (s::a)->bN y (u::b)->(f<=y/\y<t)\/(lP y a'/\bN y b'))->
    gf p ((if f<t then [(f,(t,s.2.2))] else [])++r)/\gf q ((if f<t then [(f,(t,s.2.2))] else [])++r)/\(∀x∈((if f<t then [(f,(t,s.2.2))] else [])++r),∃s'∈(s::a),s'.1<=x.1/\x.2.1<=s'.2.1/\x.2.2=s'.2.2/\∀y,x.1<=y->y<x.2.1->bN y (u::b))/\
     (∀y,lP y (s::a)->bN y (u::b)->lP y ((if f<t then [(f,(t,s.2.2))] else [])++r))/\((if f<t then [(f,(t,s.2.2))] else [])++r).length<=a.length+1+(b.length+1):=by
   intro a' b' r wb tg Oe G4 Xw hl rf qQ;by_cases h9:f<t
   .rw[if_pos h9];refine⟨⟨f1,h9,wb⟩,⟨f2,h9,wb⟩,λx hx=>?_,λy y1 y2=>?_,by simp;omega⟩
    .rcases jg.1 hx with rfl|hx
     .exact⟨s,by simp,f3,t1,rfl,λy y1 y2=>eU.2 (.inl ((hi y).1 ⟨y1,y2⟩).2)⟩
     .exact G4 x hx
    .rcases qQ y y1 y2 with h|h
     .exact En.2 (.inl h)
     .exact En.2 (.inr (Xw y h.1 h.2))
   .rw[if_neg h9,jo];refine⟨tg,Oe,G4,λy y1 y2=>?_,by omega⟩;rcases qQ y y1 y2 with h|h
    .omega
    .exact Xw y h.1 h.2
  by_cases hc:s.2.1<u.2
  .rw[if_pos hc];obtain⟨i1,i2,i3,i4,i5⟩:=OH n a (u::b) s.2.1 q (by simp;omega) a3 ⟨b1,b2,b3⟩;refine key a (u::b) _ (i1.weak t1) (i1.weak (by omega)) i2 (λx hx=>?_) i4 i5 (by simp;omega) (λy y1 y2=>?_)
   .obtain⟨s',dx,r⟩:=i3 x hx;exact⟨s',by simp[dx],r⟩
   .rcases En.1 y1 with h|h
    .rcases eU.1 y2 with h'|h'
     .exact .inl ((hi y).2 ⟨h,h'⟩)
     .have:=ct.low b3 h';omega
    .exact .inr ⟨h,y2⟩
  .rw[if_neg hc];obtain⟨i1,i2,i3,i4,i5⟩:=OH n (s::a) b p u.2 (by simp;omega) ⟨a1,a2,a3⟩ b3;refine key (s::a) b _ (i2.weak t2) i1 (i2.weak (by omega)) (λx hx=>?_) i4 i5 (by simp;omega) (λy y1 y2=>?_)
   .obtain⟨s',dx,r1,r2,r3,r4⟩:=i3 x hx;exact⟨s',dx,r1,r2,r3,λy y1 y2=>eU.2 (.inr (r4 y y1 y2))⟩
   .rcases eU.1 y2 with h|h
    .rcases En.1 y1 with h'|h'
     .exact .inl ((hi y).2 ⟨h',h⟩)
     .have:=gf.low a3 h';omega
    .exact .inr ⟨y1,h⟩
theorem OI{A:bQ}{B:SL}(hA:A.length<=10000000)(hB:B.length<=10000000):∀(n i k:Nat)(acc:bQ),i<=A.length->k<=B.length->(A.length-i)+(B.length-k)=n->acc.length+n<=3000000->
  sT A B (i:Int) (k:Int) acc=some (acc++iR n (A.drop i) (B.drop k))
 |n,i,k,acc,hi,hk,hn,ea=>by
  rw[jkC];simp only[j6u,show Int.ofNat (List.length A)=(A.length:Int) from rfl,show Int.ofNat (List.length B)=(B.length:Int) from rfl];by_cases eu:i<A.length/\k<B.length
  .obtain⟨bd,br⟩:=eu;obtain⟨n,rfl⟩:∃m,n=m+1:=⟨n-1,by omega⟩;have gA:A.getD i ((0:Int),((0:Int),(0:Int)))=A[i]:=by simp[List.getD,bd]
   have gB:B.getD k ((0:Int),(0:Int))=B[k]:=by simp[List.getD,br]
   rw[ag (show (i:Int)<(A.length:Int) by omega),ag (show (k:Int)<(B.length:Int) by omega),aR (show (0:Int)<=(i:Int) by omega) (by omega),aR (show (0:Int)<=(k:Int) by omega) (by omega)];simp only[j5,j7,gA,gB];rw[aj (x:=(i:Int)+1) (by omega) (by omega),aj (x:=(k:Int)+1) (by omega) (by omega)];rw[jc bd,jc br];simp only[iR];generalize (if B[k].1>A[i].1 then B[k].1 else A[i].1:Int)=f;generalize (if B[k].2<A[i].2.1 then B[k].2 else A[i].2.1:Int)=t
   have Ee:∀bm:bQ,bm.length<=acc.length+1->sT A B ((i:Int)+1) (k:Int) bm=some (bm++iR n (A.drop (i+1)) (B[k]::B.drop (k+1))):=λbm Bj=>by
    have:=OI hA hB n (i+1) k bm (by omega) (by omega) (by omega) (by omega);rw[<-jc br];exact this
   have Ef:∀bm:bQ,bm.length<=acc.length+1->sT A B (i:Int) ((k:Int)+1) bm=some (bm++iR n (A[i]::A.drop (i+1)) (B.drop (k+1))):=λbm Bj=>by
    have:=OI hA hB n i (k+1) bm (by omega) (by omega) (by omega) (by omega);rw[<-jc bd];exact this
   by_cases h9:f<t
   .rw[ag h9,if_pos h9,ag (by simp[aY];omega)];simp only[j5];by_cases hc:A[i].2.1<B[k].2
    .rw[ag hc,if_pos hc];simp only[j5,aJ];rw[Ee _ (by simp),jd]
    .rw[ah hc,if_neg hc];simp only[j6,aJ];rw[Ef _ (by simp),jd]
   .rw[ah h9,if_neg h9];simp only[j6];by_cases hc:A[i].2.1<B[k].2
    .rw[ag hc,if_pos hc];simp only[j5,aJ];rw[Ee _ (by omega),jo]
    .rw[ah hc,if_neg hc];simp only[j6,aJ];rw[Ef _ (by omega),jo]
  .have hc:cond (decide ((i:Int)<(A.length:Int))) (decide ((k:Int)<(B.length:Int))) false=false:=by
    by_cases h1:i<A.length
    .rw[ag (by omega),j5];exact ah (by omega)
    .rw[ah (by omega),j6]
   rw[hc,j6,aU]
   have:iR n (A.drop i) (B.drop k)=[]:=by
    by_cases h1:i<A.length
    .rw[vw (show B.length<=k by omega)];cases n<;>cases A.drop i<;>rfl
    .rw[vw (show A.length<=i by omega)];cases n<;>rfl
   rw[this,k7]
theorem Xx{l:bQ}(hl:l.length<=10000000):∀(n i:Nat)(acc:SL),i+n=l.length->acc.length<=i->xB l (l.length:Int) (i:Int) acc=some (acc++(l.drop i).map λx=>(x.1,x.2.1))
 |0,i,acc,hi,_=>by
  rw[Td];simp only[j5t];rw[ah (by omega),j6,aU,jf (by omega)];simp
 |n+1,i,acc,hi,ha=>by
  have bd:i<l.length:=by omega
  have bj:l.getD i ((0:Int),((0:Int),(0:Int)))=l[i]:=by simp[List.getD,bd]
  rw[Td];simp only[j5t];rw[ag (by omega),aR (by omega) (by omega),aj (x:=(i:Int)+1) (by omega) (by omega)];simp only[j5,j7,bj];rw[ag (by simp[aY];omega),j5,aJ,jc bd,ku];have:=Xx hl n (i+1) (acc++[(l[i].1,l[i].2.1)]) (by omega) (by simp;omega);rw[jd]at this;exact this
theorem jAN{l:bQ}(hl:l.length<=10000000){lo hi:Int}(h0:0<=lo)(h1:hi<=8589934592)(hb:∀x∈l,lo<=x.1/\x.1<x.2.1/\x.2.1<=hi) :
  ∃out,j87 l=some out/\ct (lo-1) out/\(∀t,bN t out↔lP t l)/\out.length<=l.length:=by
 have lp:=Xx hl l.length 0 [] (by omega) (by simp);rw[jo,kc]at lp
 have aW:∀s∈l.map (λx=>(x.1,x.2.1)),lo<=s.1/\s.1<s.2/\s.2<=hi:=λs h=>by
  obtain⟨x,hx,rfl⟩:=ka.1 h;exact hb x hx
 obtain⟨out,e,g1,g2,g3,g4⟩:=G3 (l:=l.map λx=>(x.1,x.2.1)) (by simpa using hl) (λs h=>by have:=aW s h;omega) (lo:=lo) (hi:=hi) (λs h _=>by have:=aW s h;omega);refine⟨out,?_,g1,λt=>(g2 t).trans ⟨?_,?_⟩,by simpa using g3⟩
 .simp only[j87,show Int.ofNat l.length=(l.length:Int) from rfl];rw[show xB l (l.length:Int) 0 []=_ from lp];simp only[j3,e]
 .rintro⟨s,hs,h⟩
  obtain⟨x,hx,rfl⟩:=ka.1 hs;exact⟨x,hx,h⟩
 .rintro⟨x,hx,h⟩
  exact⟨_,ka.2 ⟨x,hx,rfl⟩,h⟩
end Go.Proofs.Pw
