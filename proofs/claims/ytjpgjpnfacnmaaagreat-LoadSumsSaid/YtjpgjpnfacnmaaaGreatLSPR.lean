/- The references of sX 11 and 12: Kd the bX nothing changes. -/
import Derived.Test.YtjpgjpnfacnmaaaGreatLSPQ
import Derived.Test.YtjpgjpnfacnmaaaGreatLSPL
import Derived.Test.YtjpgjpnfacnmaaaGreatLSPN
open Go Go.Lft
namespace Go.Proofs.Pw
def oG(out:List Int)(x y:Int):Prop:=∀c∈out,¬(x<c/\c<=y)
theorem oG.left{A B:List Int}{x y:Int}(h:oG (A++B) x y):oG A x y:=λc hc=>h c (jz _ hc)
theorem oG.right{A B:List Int}{x y:Int}(h:oG (A++B) x y):oG B x y:=λc hc=>h c (k7 _ hc)
section
variable{zs:List br}{ps:List cZ}{cs:List aX}{ss:List cF}(hs:cN zs ps cs)
include hs
theorem jzS{L:bI}(hL:eD zs.length ps.length cs.length L){x y:Int}(h0:0<=x)(iw:x<=y)(h1:y<=8589934592)
  (cY:L.2.2.2.2.2.2.2.2≠0->oG ((tb (aH zs (fv cs L.2.2.2.2.2.2.2.1).2.1)).2.map (·.1)++(fv cs L.2.2.2.2.2.2.2.1).2.2.flatMap (tN (aH zs (fv cs L.2.2.2.2.2.2.2.1).2.1))) x y):iF zs cs L x=iF zs cs L y:=by
 unfold iF;by_cases hm:L.2.2.2.2.2.2.2.2=0
 .rw[di hm];rfl
 .have hn:=cY hm;have cD:=hL.cal hm;have hx:=oA hs cD.1 cD.2;have hz:gg (aH zs (fv cs L.2.2.2.2.2.2.2.1).2.1):=gv hs.so.ok hx.z0 hx.z1;rw[jBs hz h0 iw h1 (λi hi=>?_) (λd hd i i0 i1 t ht=>?_)]
  .refine hn.left _ (jt.2 ⟨(tb (aH zs (fv cs L.2.2.2.2.2.2.2.1).2.1)).2[i],jf hi,?_⟩);unfold fR;simp[List.getD,hi]
  .refine hn.right t (qo.2 ⟨d,hd,?_⟩);unfold tN;have:i=0\/i=1:=by omega
   rcases this with rfl|rfl
   .exact jz _ ht
   .exact k7 _ ht
theorem jzT{L:bI}(hL:eD zs.length ps.length cs.length L){a b:Int}(ha:0<=a)(bG:a<=b)(hb:b<=8589934592)(hlen:b-a<=1209600) :
  ∃out,jjA (zs,(ps,(cs,ss))) L a b=some out/\out.length<=2400000/\∀x y,a<=x->x<=y->y<b->oG out x y->bO zs cs L x=bO zs cs L y:=by
 have sV:=hL.rt2;have hz:gg (aH zs L.2.1):=gv hs.so.ok hL.z0 hL.z1;have h4:=hz.zref.2.1;have vE:(tb (aH zs L.2.1)).2.length<=4:=Al hz;obtain⟨H,eH,lH,mH⟩:=jBp h4 sV ha bG hb (by omega)
 have eH':j9h ((zs.getD L.2.1.toNat (ByteArray.empty,((0:Int),([]:List aD)))).1,((zs.getD L.2.1.toNat (ByteArray.empty,((0:Int),([]:List aD)))).2.1,(zs.getD L.2.1.toNat (ByteArray.empty,((0:Int),([]:List aD)))).2.2))
  (L.1,L.2.1,(L.2.2.1.1,L.2.2.1.2),L.2.2.2.1,L.2.2.2.2.1,L.2.2.2.2.2.1,L.2.2.2.2.2.2.1,L.2.2.2.2.2.2.2.1,L.2.2.2.2.2.2.2.2) a b=_:=eH
 have oJ:∀x y,a<=x->x<=y->y<b->oG H x y->bT (aH zs L.2.1) L x=bT (aH zs L.2.1) L y:=λx y h1 h2 h3 hn=>
  jBq hz sV (by omega) h2 (by omega) (λj v hj hv hc=>hn v (mH j v hj hv (by omega) (by omega)) hc)
 obtain⟨W,eW,lW,hW⟩:∃W:SL,((L.2.2.2.2.2.2.1.length:Int)>0->jer (aH zs L.2.1) L.2.2.2.2.2.2.1 a b=some (W,0))/\W.length<=100/\
   ((L.2.2.2.2.2.2.1.length:Int)>0->∀x y,a<=x->x<=y->y<b->oG (vN W) x y->hasB (eV (cm (aH zs L.2.1) x)) L.2.2.2.2.2.2.1=hasB (eV (cm (aH zs L.2.1) y)) L.2.2.2.2.2.2.1):=by
  by_cases hw:(L.2.2.2.2.2.2.1.length:Int)>0
  .obtain⟨W,e,s1,s2,s3,s4⟩:=jx1 h4 (q9 vE (by omega)) (vI hL.w hL.wl) hL.w hL.wl (M:=2) (by omega) ha bG hb (by omega) (by omega);have iD:W.length<=3*3*5:=q9 s3 (ql (ql hL.w3 (by omega)) (by omega));rw[if_neg (by omega)]at e;refine⟨W,λ_=>e,by omega,λ_ x y h1 h2 h3 hn=>?_⟩;have gM:=jBr (W:=W) h2 (λu hu=>⟨hn u.1 (qo.2 ⟨u,hu,by simp⟩),hn u.2 (qo.2 ⟨u,hu,by simp⟩)⟩);obtain⟨i,i0,i1,i2⟩:=pQ hz.ztab.2 (t:=x) (by omega) (by omega);obtain⟨j,j0,j1,j2⟩:=pQ hz.ztab.2 (t:=y) (by omega) (by omega);rw[s4 i i0 x h1 (by omega) i1 i2,s4 j j0 y (by omega) h3 j1 j2]at gM;rw[(Kb hz (by omega) (by omega) i0 i1 i2).2,(Kb hz (by omega) (by omega) j0 j1 j2).2];exact zr.2 gM
  .exact⟨[],λh=>absurd h hw,by simp,λh=>absurd h hw⟩
 have bH:∀x y,a<=x->x<=y->y<b->((L.2.2.2.2.2.2.1.length:Int)>0->oG (vN W) x y)->okW L.2.2.2.2.2.2.1 (eV (cm (aH zs L.2.1) x))=okW L.2.2.2.2.2.2.1 (eV (cm (aH zs L.2.1) y)):=λx y h1 h2 h3 hn=>by
  unfold okW;by_cases hw:(L.2.2.2.2.2.2.1.length:Int)>0
  .rw[ag hw,j6,j6];exact hW hw x y h1 h2 h3 (hn hw)
  .rw[ah hw,j7,j7]
 have au:∀out:List Int,(∀c∈H,c∈out)->((L.2.2.2.2.2.2.1.length:Int)>0->∀c∈vN W,c∈out)->
   (L.2.2.2.2.2.2.2.2≠0->∀c∈(tb (aH zs (fv cs L.2.2.2.2.2.2.2.1).2.1)).2.map (·.1)++(fv cs L.2.2.2.2.2.2.2.1).2.2.flatMap (tN (aH zs (fv cs L.2.2.2.2.2.2.2.1).2.1)),c∈out)->
   ∀x y,a<=x->x<=y->y<b->oG out x y->bO zs cs L x=bO zs cs L y:=λout m1 m2 m3 x y h1 h2 h3 hn=>by
  have e1:=oJ x y h1 h2 h3 (λc hc=>hn c (m1 c hc));have e2:=bH x y h1 h2 h3 (λhw c hc=>hn c (m2 hw c hc));have e3:=jzS hs hL (x:=x) (y:=y) (by omega) h2 (by omega) (λhm c hc=>hn c (m3 hm c hc));have eon:fN zs cs L x=fN zs cs L y:=by unfold fN;rw[e1,e2,e3]
  unfold bO;rw[eon,e1]
 have cD:∀acc:List Int,acc.length<=2390000->L.2.2.2.2.2.2.2.2≠0->∃out,(cond (inR L.2.2.2.2.2.2.2.1 cs.length) (cond (inR (cs.getD L.2.2.2.2.2.2.2.1.toNat (ByteArray.empty,((0:Int),([]:List Int)))).2.1 zs.length)
   ((
    j0h ((zs.getD (cs.getD L.2.2.2.2.2.2.2.1.toNat (ByteArray.empty,((0:Int),([]:List Int)))).2.1.toNat (ByteArray.empty,((0:Int),([]:List aD)))).1,((zs.getD (cs.getD L.2.2.2.2.2.2.2.1.toNat (ByteArray.empty,((0:Int),([]:List Int)))).2.1.toNat (ByteArray.empty,((0:Int),([]:List aD)))).2.1,(zs.getD (cs.getD L.2.2.2.2.2.2.2.1.toNat (ByteArray.empty,((0:Int),([]:List Int)))).2.1.toNat (ByteArray.empty,((0:Int),([]:List aD)))).2.2))).bind λr88=>
    (zU 0 zs ps cs ss (cs.getD L.2.2.2.2.2.2.2.1.toNat (ByteArray.empty,((0:Int),([]:List Int)))).1 (cs.getD L.2.2.2.2.2.2.2.1.toNat (ByteArray.empty,((0:Int),([]:List Int)))).2.1 (cs.getD L.2.2.2.2.2.2.2.1.toNat (ByteArray.empty,((0:Int),([]:List Int)))).2.2 acc r88.1).bind λq2=>
     (B1 0 q2.1 q2.2.1 q2.2.2.1 q2.2.2.2.1 q2.2.2.2.2.1 q2.2.2.2.2.2.1 q2.2.2.2.2.2.2.1 q2.2.2.2.2.2.2.2).bind λq4=>some q4) none) none)=some out/\out.length<=2400000/\(∀c∈acc,c∈out)/\
   ∀c∈(tb (aH zs (fv cs L.2.2.2.2.2.2.2.1).2.1)).2.map (·.1)++(fv cs L.2.2.2.2.2.2.2.1).2.2.flatMap (tN (aH zs (fv cs L.2.2.2.2.2.2.2.1).2.1)),c∈out:=λacc dZ hm=>by
  have hc:=hL.cal hm;have hx:pT zs.length (fv cs L.2.2.2.2.2.2.2.1):=oA hs hc.1 hc.2;have iV:gg (aH zs (fv cs L.2.2.2.2.2.2.2.1).2.1):=gv hs.so.ok hx.z0 hx.z1;have wi:(tb (aH zs (fv cs L.2.2.2.2.2.2.2.1).2.1)).2.length<=4:=Al iV;have ni:=hx.len;have e2:=jFp (zs:=zs) (ps:=ps) (cs:=cs) (ss:=ss) (x:=fv cs L.2.2.2.2.2.2.2.1) (T:=(tb (aH zs (fv cs L.2.2.2.2.2.2.2.1).2.1)).2) (by omega) (tb (aH zs (fv cs L.2.2.2.2.2.2.2.1).2.1)).2.length 0 acc (by omega) (by omega);have e4:=jFq (ps:=ps) (cs:=cs) (ss:=ss) hs.so.ok hx (fv cs L.2.2.2.2.2.2.2.1).2.2.length 0 (acc++(tb (aH zs (fv cs L.2.2.2.2.2.2.2.1).2.1)).2.map (·.1)) (by omega) (by rw[jg,k5];omega);rw[show ((0:Nat):Int)=0 from rfl,jr]at e2 e4
  have fk:∀ds:List Int,(ds.flatMap (tN (aH zs (fv cs L.2.2.2.2.2.2.2.1).2.1))).length<=10*ds.length:=λds=>by
   induction ds with
   |nil=>simp
   |cons d r ih=>have:=jzR iV d;rw[qz,jg,jm];omega
  have hf:=fk (fv cs L.2.2.2.2.2.2.2.1).2.2;rw[cw hc.1 hc.2,show inR (cs.getD L.2.2.2.2.2.2.2.1.toNat (ByteArray.empty,((0:Int),([]:List Int)))).2.1 zs.length=true from cw hx.z0 hx.z1];simp only[j6];rw[show j0h ((zs.getD (cs.getD L.2.2.2.2.2.2.2.1.toNat (ByteArray.empty,((0:Int),([]:List Int)))).2.1.toNat (ByteArray.empty,((0:Int),([]:List aD)))).1,((zs.getD (cs.getD L.2.2.2.2.2.2.2.1.toNat (ByteArray.empty,((0:Int),([]:List Int)))).2.1.toNat (ByteArray.empty,((0:Int),([]:List aD)))).2.1,(zs.getD (cs.getD L.2.2.2.2.2.2.2.1.toNat (ByteArray.empty,((0:Int),([]:List Int)))).2.1.toNat (ByteArray.empty,((0:Int),([]:List aD)))).2.2))=_ from iV.zref.2.1.1];simp only[j4];rw[show zU 0 zs ps cs ss (cs.getD L.2.2.2.2.2.2.2.1.toNat (ByteArray.empty,((0:Int),([]:List Int)))).1 (cs.getD L.2.2.2.2.2.2.2.1.toNat (ByteArray.empty,((0:Int),([]:List Int)))).2.1 (cs.getD L.2.2.2.2.2.2.2.1.toNat (ByteArray.empty,((0:Int),([]:List Int)))).2.2 acc _=_ from e2];simp only[j4];rw[e4];refine⟨_,rfl,?_,λc h=>?_,λc h=>?_⟩
  .rw[jg,jg,k5];omega
  .exact jz _ (jz _ h)
  .rcases jn.1 h with h|h
   .exact jz _ (k7 _ h)
   .exact k7 _ h
 simp only[jjA];rw[cw hL.z0 hL.z1,j6,eH'];simp only[j4,jv,qc,kg];rw[ag (show H.length<=aN by unfold aN;omega),j6];by_cases hw:(L.2.2.2.2.2.2.1.length:Int)>0
 .have e0:=jFo (zs:=zs) (ps:=ps) (cs:=cs) (ss:=ss) (L:=L) (W:=W) (by omega) W.length 0 H (by omega) (by omega);rw[show ((0:Nat):Int)=0 from rfl,jr]at e0;rw[ag (show Int.ofNat L.2.2.2.2.2.2.1.length>0 from hw),j6];rw[show jer ((zs.getD L.2.1.toNat (ByteArray.empty,((0:Int),([]:List aD)))).1,((zs.getD L.2.1.toNat (ByteArray.empty,((0:Int),([]:List aD)))).2.1,(zs.getD L.2.1.toNat (ByteArray.empty,((0:Int),([]:List aD)))).2.2)) L.2.2.2.2.2.2.1 a b=_ from eW hw];simp only[j4,e0];have uB:=jDU W;by_cases hm:L.2.2.2.2.2.2.2.2=0
  .rw[di hm,j6];refine⟨_,rfl,by rw[jg];omega,au _ (λc h=>jz _ h) (λ_ c h=>k7 _ h) (λh=>absurd hm h)⟩
  .rw[bW hm,j7];obtain⟨out,eo,lo,Ke,SK⟩:=cD (H++vN W) (by rw[jg];omega) hm;exact⟨out,eo,lo,au out (λc h=>Ke c (jz _ h)) (λ_ c h=>Ke c (k7 _ h)) (λ_=>SK)⟩
 .rw[ah (show¬Int.ofNat L.2.2.2.2.2.2.1.length>0 from hw),j7];by_cases hm:L.2.2.2.2.2.2.2.2=0
  .rw[di hm,j6];exact⟨H,rfl,by omega,au _ (λc h=>h) (λh=>absurd h hw) (λh=>absurd hm h)⟩
  .rw[bW hm,j7];obtain⟨out,eo,lo,Ke,SK⟩:=cD H (by omega) hm;exact⟨out,eo,lo,au out Ke (λh=>absurd h hw) (λ_=>SK)⟩
end
theorem jux{l:bD}(hl:l.length<=100000000)(x:jD):jhy l x=some (kD l x):=by
 simp only[jhy,kD];by_cases hx:x.2.1<=x.1
 .rw[ag hx,if_pos hx,j6]
 rw[ah hx,if_neg hx,j7,show Int.ofNat l.length=(l.length:Int) from rfl];rcases va l with rfl|⟨r,u,rfl⟩
 .rfl
 rw[vb]at hl ⊢;have hlen:(r++[u]).length=r.length+1:=by simp
 rw[hlen]at hl ⊢;have aR:(r++[u]).getD r.length ((0:Int),((0:Int),(0:Int)))=u:=by simp[List.getD]
 rw[ag (show ((r.length+1:Nat):Int)>0 by omega),ai (x:=((r.length+1:Nat):Int)-1),bz,show (((r.length+1:Nat):Int)-1).toNat=r.length by omega,aR];simp only[j6,y9,vf,Option.some_or,y8];rw[ag (show r.length+1+[(x.1,(x.2.1,x.2.2))].length<=aN by simp[aN];omega)];simp only[j6];by_cases h1:u.2.1=x.1
 .rw[di h1,j6];by_cases h2:u.2.2=x.2.2
  .rw[di h2,if_pos ⟨h1,h2⟩,j6];congr 1;simp
  .rw[bW h2,if_neg (λh=>h2 h.2),j7]
 .rw[bW h1,if_neg (λh=>h1 h.1),j7]
theorem jzU{x y p:Int}:∀es:List dA,(∀e∈es,(e.2.2.2.1<=x↔e.2.2.2.1<=y)/\(e.2.2.2.2<=x↔e.2.2.2.2<=y))->iK es p x=iK es p y
 |[],_=>rfl
 |e::r,h=>by
  have h1:=h e (by simp);have ih:=jzU (p:=p) r (λu hu=>h u (by simp[hu]));unfold iK at ih ⊢;have a1:decide (e.2.2.2.1<=x)=decide (e.2.2.2.1<=y):=decide_eq_decide.2 h1.1;have a2:decide (x<e.2.2.2.2)=decide (y<e.2.2.2.2):=decide_eq_decide.2 (by omega);simp only[List.any_cons];rw[a1,a2,ih]
theorem jzV{zs:List br}{cs:List aX}{s:cF}{x y:Int}(iw:x<=y)(hp:∀L∈s.2.1,bO zs cs L x=bO zs cs L y)(he:oG (iL s.2.2) x y):cR zs cs s x=cR zs cs s y:=by
 have hed:∀e∈s.2.2,(e.2.2.2.1<=x↔e.2.2.2.1<=y)/\(e.2.2.2.2<=x↔e.2.2.2.2<=y):=λe hm=>by
  have a:=he e.2.2.2.1 (qo.2 ⟨e,hm,by simp⟩);have b:=he e.2.2.2.2 (qo.2 ⟨e,hm,by simp⟩);exact⟨by omega,by omega⟩
 unfold cR;rw[J2 (u:=y) (pg:=cG zs cs s.2.1 y) (λi hi=>?_) (λp=>jzU s.2.2 hed)]
 .exact Gz s.2.2 _ (λe hm=>by have:=hed e hm;exact⟨this.1.symm,this.2.symm⟩)
 .unfold cG;have aR:s.2.1.getD i (ByteArray.empty,((0:Int),(((0:Int),(0:Int)),((0:Int),((0:Int),(([]:List Int),(([]:List (Int×Int)),((0:Int),(0:Int)))))))))=s.2.1[i]:=by simp[List.getD,hi]
  rw[aR];exact hp _ (jf hi)
section
variable{zs:List br}{ps:List cZ}{cs:List aX}(hs:cN zs ps cs)
include hs
theorem jBt{ss:List cF}(hc:ny (zs,(ps,(cs,ss)))){i:Nat}(hi:i<ss.length){t:Int}(h0:0<=t)(h1:t<=8589934592):jmB (zs,(ps,(cs,ss))) (i:Int) t=some (cR zs cs ss[i] t):=by
 have kW:=hc.sc _ (jf hi);have eE:=kW.ll;have eX:=kW.el;have wU:ss.getD i (ByteArray.empty,(([]:List bI),([]:List dA)))=ss[i]:=by simp[List.getD,hi]
 have lp:=jzv hs (ss:=ss) (nm:=ss[i].1) (es:=ss[i].2.2) (by omega) (by omega) kW.ly h0 h1 ss[i].2.1.length (js _)
 have et:∃k,jpB (zs,(ps,(cs,ss))) (i:Int) t=some (k,dB ss[i].2.2 t (cG zs cs ss[i].2.1 t) ss[i].2.1.length):=by
  simp only[jpB];rw[bz];simp only[j6,j8,wU,show Int.ofNat ss[i].2.1.length=(ss[i].2.1.length:Int) from rfl];rw[ai (x:=(ss[i].2.1.length:Int)-1),show Fp t ((ss[i].2.1.length:Int)-1) zs ps cs ss ss[i].1 ss[i].2.1 ss[i].2.2=_ from lp];simp only[j4,dB];cases dI (fZ ss[i].2.2 t (cG zs cs ss[i].2.1 t)) ss[i].2.1.length with
  |none=>exact⟨_,rfl⟩
  |some k=>exact⟨_,rfl⟩
 obtain⟨k,et⟩:=et;have ef:=jCf (es:=ss[i].2.2) (by omega) (t:=t) ss[i].2.2.length 0 (dB ss[i].2.2 t (cG zs cs ss[i].2.1 t) ss[i].2.1.length) (by omega);rw[jr]at ef;simp only[jmB,et,j4];rw[bz];simp only[j6,j8,wU,jpC];rw[show Fq ss[i].2.2 (dB ss[i].2.2 t (cG zs cs ss[i].2.1 t) ss[i].2.1.length) t 0=_ from ef];rfl
theorem jCu{ss:List cF}{nm:ByteArray}{ls:List bI}{es:List dA}(hl:ls.length<=6)(hL:∀L∈ls,eD zs.length ps.length cs.length L){a b:Int}(ha:0<=a)(bG:a<=b)(hb:b<=8589934592)(hlen:b-a<=1209600) :
  ∀(n i:Nat)(acc:List Int),i+n=ls.length->acc.length+2400000*n<=20000000->
  ∃out,I0 a b (i:Int) zs ps cs ss nm ls es acc=some (a,b,nm,ls,es,out)/\out.length<=acc.length+2400000*n/\(∀c∈acc,c∈out)/\∀L∈ls.drop i,∀x y,a<=x->x<=y->y<b->oG out x y->bO zs cs L x=bO zs cs L y
 |0,i,acc,hi,_=>by
  rw[XZ];simp only[j6q,show Int.ofNat ls.length=(ls.length:Int) from rfl];rw[ah (by omega),j7,aW,jd (by omega)];exact⟨acc,rfl,by omega,λc h=>h,λL h=>by simp at h⟩
 |n+1,i,acc,hi,dZ=>by
  have ak:i<ls.length:=by omega
  have aR:ls.getD i (ByteArray.empty,((0:Int),(((0:Int),(0:Int)),((0:Int),((0:Int),(([]:List Int),(([]:List (Int×Int)),((0:Int),(0:Int)))))))))=ls[i]:=by simp[List.getD,ak]
  obtain⟨C,eC,lC,pC⟩:=jzT hs (ss:=ss) (hL _ (jf ak)) ha bG hb hlen;obtain⟨out,e1,e2,e3,e4⟩:=jCu (ss:=ss) (nm:=nm) (es:=es) hl hL ha bG hb hlen n (i+1) (acc++C) (by omega) (by rw[jg];omega);rw[XZ,jb ak];simp only[j6q,show Int.ofNat ls.length=(ls.length:Int) from rfl];rw[ag (show (i:Int)<(ls.length:Int) by omega),bz,ai (x:=(i:Int)+1)];simp only[j6,j8,aR];rw[show jjA (zs,(ps,(cs,ss))) (ls[i].1,(ls[i].2.1,((ls[i].2.2.1.1,ls[i].2.2.1.2),(ls[i].2.2.2.1,(ls[i].2.2.2.2.1,(ls[i].2.2.2.2.2.1,(ls[i].2.2.2.2.2.2.1,(ls[i].2.2.2.2.2.2.2.1,ls[i].2.2.2.2.2.2.2.2)))))))) a b=_ from eC];simp only[j4];rw[ag (show acc.length+C.length<=aN by unfold aN;omega),j6,aK];refine⟨out,e1,by rw[jg]at e2;omega,λc h=>e3 c (jz _ h),λL hm x y h1 h2 h3 hn=>?_⟩;rcases je.1 hm with rfl|hm
  .exact pC x y h1 h2 h3 (λc hc=>hn c (e3 c (k7 _ hc)))
  .exact e4 L hm x y h1 h2 h3 hn
omit hs in
theorem jCv{nm:ByteArray}{ls:List bI}{es:List dA}(hl:es.length<=100){a b:Int}:∀(n i:Nat)(acc:List Int),i+n=es.length->acc.length+2*n<=40000000->
  I1 a b (i:Int) nm ls es acc=some (a,b,acc++iL (es.drop i))
 |0,i,acc,hi,_=>by
  rw[X0,jd (by omega)];simp only[j6r,show Int.ofNat es.length=(es.length:Int) from rfl];rw[ah (by omega),j7,aW];simp[iL]
 |n+1,i,acc,hi,ha=>by
  have ak:i<es.length:=by omega
  have aR:es.getD i ((0:Int),((0:Int),((0:Int),((0:Int),(0:Int)))))=es[i]:=by simp[List.getD,ak]
  have ih:=jCv (nm:=nm) (ls:=ls) hl (a:=a) (b:=b) n (i+1) (acc++[es[i].2.2.2.1,es[i].2.2.2.2]) (by omega) (by simp;omega);rw[jj]at ih;rw[X0,jb ak];simp only[j6r,show Int.ofNat es.length=(es.length:Int) from rfl];rw[ag (show (i:Int)<(es.length:Int) by omega),bz,ai (x:=(i:Int)+1)];simp only[j6,j8,aR];rw[ag (by simp[aN];omega),j6,aK];exact ih
theorem jzW{ss:List cF}(hc:ny (zs,(ps,(cs,ss)))){i:Nat}(hi:i<ss.length){a b:Int}(ha:0<=a)(bG:a<=b)(hb:b<=8589934592)(hlen:b-a<=1209600) :
  ∃B,jlK (zs,(ps,(cs,ss))) (i:Int) a b=some B/\B.Pairwise (· < ·)/\B.length<=40000000/\(∀x∈B,a<=x/\x<=b)/\(∃r,B=a::r)/\(B.getD (B.length-1) 0=b)/\
   ∀x y,x∈B->x<=y->y<b->(∀c∈B,¬(x<c/\c<=y))->cR zs cs ss[i] x=cR zs cs ss[i] y:=by
 have kW:=hc.sc _ (jf hi);have eE:=kW.ll;have eX:=kW.el;have wU:ss.getD i (ByteArray.empty,(([]:List bI),([]:List dA)))=ss[i]:=by simp[List.getD,hi]
 obtain⟨C,e1,e2,_,e4⟩:=jCu hs (ss:=ss) (nm:=ss[i].1) (es:=ss[i].2.2) eE kW.ly ha bG hb hlen ss[i].2.1.length 0 [] (by omega) (by simp;omega);have e5:=jCv (nm:=ss[i].1) (ls:=ss[i].2.1) (es:=ss[i].2.2) (by omega) (a:=a) (b:=b) ss[i].2.2.length 0 C (by omega) (by simp at e2;omega);rw[show ((0:Nat):Int)=0 from rfl,jr]at e5;rw[show ((0:Nat):Int)=0 from rfl]at e1;rw[jr]at e4;have hel2:=Aq ss[i].2.2;simp only[qc,kg]at e2;have eM:(C++iL ss[i].2.2).length<=39000000:=by rw[jg];omega
 obtain⟨b1,b2,b3,b4,b5,b6,b7⟩:=jDT (C++iL ss[i].2.2) bG;refine⟨jE (C++iL ss[i].2.2) a b,?_,b1,by omega,b3,b5,?_,λx y hx iw Lc hn=>?_⟩
 .simp only[jlK];rw[bz];simp only[j6,j8,wU,e1,e5,j4,jx2 (show (C++iL ss[i].2.2).length<=49000000 by omega) a b]
 .by_cases h:a<b
  .obtain⟨r,hr⟩:=b6 h;rw[hr];simp[List.getD]
  .rw[b7 (by omega)];show a=b;omega
 .have Ax:=b3 x hx;have cY:oG (C++iL ss[i].2.2) x y:=λc hc nM=>hn c (b4 c hc (by omega) (by omega)) nM;exact jzV iw (λL hm=>e4 L hm x y Ax.1 iw Lc cY.left) cY.right
omit hs in
theorem jzX{f:Int->Int}{ss:List cF}{i:Nat}{B:List Int}(hBl:B.length<=50000000)(hB:B.Pairwise (· < ·))(GM:∀t∈B,jmB (zs,(ps,(cs,ss))) (i:Int) t=some (f t)){a b:Int}(cU:B.getD (B.length-1) 0=b)
  (dS:∀x y,x∈B->x<=y->y<b->(∀c∈B,¬(x<c/\c<=y))->f x=f y):∀(n j:Nat)(acc:bD),j+1+n=B.length->acc.length<=j->dW f (B.getD j 0) none a acc->
  ∃out,I2 (i:Int) (j:Int) zs ps cs ss B acc=some out/\dW f b none a out
 |0,j,acc,hj,ha,hC=>by
  rw[X6];simp only[j4V,show Int.ofNat B.length=(B.length:Int) from rfl];rw[ai (x:=(j:Int)+1),ah (by omega),j7,aW];refine⟨acc,rfl,?_⟩;rw[<-cU,show B.length-1=j by omega];exact hC
 |n+1,j,acc,hj,ha,hC=>by
  have h1:j<B.length:=by omega
  have h2:j+1<B.length:=by omega
  have g1:B.getD j (0:Int)=B[j]:=by simp[List.getD,h1]
  have g2:B.getD (j+1) (0:Int)=B[j+1]:=by simp[List.getD,h2]
  have GG:=ko.1 hB;have ak:B[j]<B[j+1]:=GG j (j+1) h1 h2 (by omega)
  have hle:B[j+1]<=b:=by
   have gl:B.getD (B.length-1) (0:Int)=B[B.length-1]:=by simp[List.getD,show B.length-1<B.length by omega]
   rw[gl]at cU;by_cases he:j+1=B.length-1
   .have:B[j+1]=B[B.length-1]:=by congr 1
    omega
   .have:=GG (j+1) (B.length-1) h2 (by omega) (by omega);omega
  have hconst:∀t,B[j]<=t->t<B[j+1]->f t=f B[j]:=λt t1 t2=>(dS B[j] t (jf h1) t1 (by omega) (λc hc nM=>by
   obtain⟨m,hm,rfl⟩:=List.mem_iff_getElem.1 hc;by_cases hmj:m<=j
   .by_cases he:m=j
    .subst he;omega
    .have:=GG m j hm h1 (by omega);omega
   .by_cases he:m=j+1
    .subst he;omega
    .have:=GG (j+1) m h2 hm (by omega);omega)).symm
  rw[g1]at hC;have hC2:=jBZ hC (s:=(B[j],(B[j+1],f B[j]))) rfl (by show B[j]<=B[j+1];omega) (λt t1 t2=>hconst t t1 t2)
  have yw:(kD acc (B[j],(B[j+1],f B[j]))).length<=acc.length+1:=by
   unfold kD;split
   .omega
   .split
    .split
     .simp
     .simp
    .simp
  have ih:=jzX hBl hB GM cU dS n (j+1) (kD acc (B[j],(B[j+1],f B[j]))) (by omega) (by omega) (by rw[g2];exact hC2);rw[X6];simp only[j4V,show Int.ofNat B.length=(B.length:Int) from rfl];rw[ai (x:=(j:Int)+1),ag (show (j:Int)+1<(B.length:Int) by omega),cw (show (0:Int)<=(j:Int) by omega) (by omega),cw (show (0:Int)<=(j:Int)+1 by omega) (by omega),show ((j:Int)+1).toNat=j+1 by omega];simp only[j6,j8,g1,g2,GM _ (jf h1),j4,jux (show acc.length<=100000000 by omega),aK];exact ih
theorem juy{ss:List cF}(hc:ny (zs,(ps,(cs,ss)))){i:Nat}(hi:i<ss.length){a b:Int}(ha:0<=a)(bG:a<=b)(hb:b<=8589934592)(hlen:b-a<=1209600) :
  ∃S,jhz (zs,(ps,(cs,ss))) (i:Int) a b=some S/\dW (cR zs cs ss[i]) b none a S:=by
 obtain⟨B,e1,e2,e3,e4,⟨r,e5⟩,e6,e7⟩:=jzW hs hc hi ha bG hb hlen;have bJ:0<B.length:=by rw[e5];simp
 obtain⟨S,f1,f2⟩:=jzX (f:=cR zs cs ss[i]) (ss:=ss) (i:=i) (B:=B) (by omega) e2 (λt ht=>jBt hs hc hi (by have:=e4 t ht;omega) (by have:=e4 t ht;omega)) (a:=a) e6 e7 (B.length-1) 0 [] (by omega) (by simp) (by rw[e5];rfl);rw[show ((0:Nat):Int)=0 from rfl]at f1;refine⟨S,?_,f2⟩;simp only[jhz,e1,f1,j4]
theorem jx3{ss:List cF}(hc:ny (zs,(ps,(cs,ss)))){i:Nat}(hi:i<ss.length){a b:Int}(ha:0<=a)(bG:a<=b)(hb:b<=8589934592)(hlen:b-a<=34560000):jjy (zs,(ps,(cs,ss))) (i:Int) a b=some 0:=by
 have e8:=jFT hc (jFU hs);have er:j8d a b=some true:=by simp only[j8d];rw[ag (show a>=0 from ha),ag (show a<=8589934592 by omega),ag (show b>=a from bG),ag hb,ai (x:=b-a),ag hlen];rfl
 simp only[jjy,show jgH (zs,(ps,(cs,ss)))=_ from e8,j4,jh,j7,show Int.ofNat ss.length=(ss.length:Int) from rfl];rw[ah (show¬(i:Int)<0 by omega),ah (show¬(i:Int)>=(ss.length:Int) by omega)];simp only[j7,er,j4,jl]
theorem jzY{ss:List cF}(hc:ny (zs,(ps,(cs,ss)))){i:Nat}(hi:i<ss.length){a b:Int}(ha:0<=a)(bG:a<=b)(hb:b<=8589934592)(hlen:b-a<=1209600){S:bD}(hS:dW (cR zs cs ss[i]) b none a S)(hl:S.length<=16384) :
  jdh (zs,(ps,(cs,ss))) (i:Int) a b=some (S,0):=by
 obtain⟨S',e1,e2⟩:=juy hs hc hi ha bG hb hlen;have:=e2.uniq hS;subst this;simp only[jdh,jx3 hs hc hi ha bG hb (by omega),e1,j4,jh,j7,show Int.ofNat S'.length=(S'.length:Int) from rfl];rw[ah (by omega),j7]
omit hs in
theorem SM{p:Int}{S:bD}(hl:S.length<=16384):∀(n j:Nat)(acc:SL),j+n=S.length->acc.length<=j->Fs p (j:Int) S acc=some (acc++((S.drop j).filter (λx=>x.2.2==p)).map λx=>(x.1,x.2.1))
 |0,j,acc,hj,_=>by
  rw[X7,jd (by omega)];simp only[j5F,show Int.ofNat S.length=(S.length:Int) from rfl];rw[ah (by omega),j7,aW];simp
 |n+1,j,acc,hj,ha=>by
  have ak:j<S.length:=by omega
  have aR:S.getD j ((0:Int),((0:Int),(0:Int)))=S[j]:=by simp[List.getD,ak]
  rw[X7,jb ak];simp only[j5F,show Int.ofNat S.length=(S.length:Int) from rfl];rw[ag (show (j:Int)<(S.length:Int) by omega),bz,ai (x:=(j:Int)+1)];simp only[j6,j8,aR];cases hq:(S[j].2.2==p) with
  |true=>have ih:=SM (p:=p) hl n (j+1) (acc++[(S[j].1,S[j].2.1)]) (by omega) (by simp;omega);rw[jj]at ih;rw[List.filter_cons_of_pos (by simpa using hq),ag (by simp[aN];omega)];simp only[j6,aK];exact ih
  |false=>rw[List.filter_cons_of_neg (by simp[hq])];simp only[j7,aK];exact SM hl n (j+1) acc (by omega) (by omega)
def vO(p:Int)(S:bD):SL:=(S.filter (λx=>x.2.2==p)).map λx=>(x.1,x.2.1)
theorem jx4{ss:List cF}(hc:ny (zs,(ps,(cs,ss)))){i:Nat}(hi:i<ss.length){a b:Int}(ha:0<=a)(bG:a<=b)(hb:b<=8589934592)(hlen:b-a<=1209600){S:bD}(hS:dW (cR zs cs ss[i]) b none a S)(hl:S.length<=4096)(p:Int) :
  jeu (zs,(ps,(cs,ss))) (i:Int) p a b=some (vO p S,0):=by
 have e:=SM (p:=p) (S:=S) (by omega) S.length 0 [] (by omega) (by simp);rw[show ((0:Nat):Int)=0 from rfl,jr,jv]at e;have ak:(vO p S).length<=S.length:=by unfold vO;rw[k5];exact qt _ _
 simp only[jeu,jzY hs hc hi ha bG hb hlen hS (by omega),j4,jh,j7];rw[show Fs p 0 S []=some (vO p S) from e];simp only[j4,show Int.ofNat (vO p S).length=((vO p S).length:Int) from rfl];rw[ah (by omega),j7]
end
end Go.Proofs.Pw
