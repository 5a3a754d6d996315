/- The references of tX 11 and 12: LV the cC nothing changes. -/
import Derived.Test.YtgfoijaggkhgnaaGreatLXPP
import Derived.Test.YtgfoijaggkhgnaaGreatLXPL
import Derived.Test.YtgfoijaggkhgnaaGreatLXPM
import Derived.Test.YtgfoijaggkhgnaaGreatLXPO
import Derived.Test.YtgfoijaggkhgnaaGreatLXLD
import Derived.Test.YtgfoijaggkhgnaaGreatLXPB
open ByteArray renaming empty->o
open _root_ renaming Int->q,List->D,Nat->I,ByteArray->U
open Int renaming ofNat->E
open List renaming getD->F
open Option renaming some->G,none->O,some_or->Y
open Decidable renaming decide->J
open Bool renaming cond_true_left->N,true->R
open Go Go.Lft
namespace Go.Proofs.Pw
def py(out:D q)(x y:q):Prop:=∀c∈out,¬(x<c/\c<=y)
theorem py.left{A B:D q}{x y:q}(h:py (A++B) x y):py A x y:=λc hc=>h c (ju _ hc)
theorem py.right{A B:D q}{x y:q}(h:py (A++B) x y):py B x y:=λc hc=>h c (jq _ hc)
section
variable{zs:D bF}{ps:D cR}{cs:D aV}{ss:D cW}(hs:db zs ps cs)
include hs
theorem jBK{L:bZ}(hL:fh zs.length ps.length cs.length L){x y:q}(h0:0<=x)(iP:x<=y)(h1:y<=8589934592)
  (du:L.2.2.2.2.2.2.2.2≠0->py ((tb (aO zs (gf cs L.2.2.2.2.2.2.2.1).2.1)).2.map (·.1)++(gf cs L.2.2.2.2.2.2.2.1).2.2.flatMap (uM (aO zs (gf cs L.2.2.2.2.2.2.2.1).2.1))) x y):jD zs cs L x=jD zs cs L y:=by
 unfold jD;by_cases hm:L.2.2.2.2.2.2.2.2=0
 .rw[dC hm];rfl
 .have hn:=du hm;have cN:=hL.cal hm;have hx:=pt hs cN.1 cN.2;have hz:gx (aO zs (gf cs L.2.2.2.2.2.2.2.1).2.1):=gR hs.so.ok hx.z0 hx.z1;rw[jDs hz h0 iP h1 (λi hi=>?_) (λd hd i i0 i1 t ht=>?_)]
  .refine hn.left _ (jr.2 ⟨(tb (aO zs (gf cs L.2.2.2.2.2.2.2.1).2.1)).2[i],jg hi,?_⟩);unfold gm;simp[F,hi]
  .refine hn.right t (qv.2 ⟨d,hd,?_⟩);unfold uM;have:i=0\/i=1:=aa;rcases this with rfl|rfl
   .exact ju _ ht
   .exact jq _ ht
theorem jBL{L:bZ}(hL:fh zs.length ps.length cs.length L){a b:q}(ha:0<=a)(cb:a<=b)(hb:b<=8589934592)(hlen:b-a<=1209600) :
  ∃out,jkV (zs,(ps,(cs,ss))) L a b=G out/\out.length<=2400000/\∀x y,a<=x->x<=y->y<b->py out x y->cu zs cs L x=cu zs cs L y:=by
 have tU:=hL.rt2;have hz:gx (aO zs L.2.1):=gR hs.so.ok hL.z0 hL.z1;have h4:=hz.zref.2.1;have wF:(tb (aO zs L.2.1)).2.length<=4:=yE hz;obtain⟨H,eH,lH,mH⟩:=jDp h4 tU ha cb hb aa
 have eH':ja7 ((zs.getD L.2.1.toNat (o,((0:q),([]:D aL)))).1,((zs.getD L.2.1.toNat (o,((0:q),([]:D aL)))).2.1,(zs.getD L.2.1.toNat (o,((0:q),([]:D aL)))).2.2))
  (L.1,L.2.1,(L.2.2.1.1,L.2.2.1.2),L.2.2.2.1,L.2.2.2.2.1,L.2.2.2.2.2.1,L.2.2.2.2.2.2.1,L.2.2.2.2.2.2.2.1,L.2.2.2.2.2.2.2.2) a b=_:=eH
 have pF:∀x y,a<=x->x<=y->y<b->py H x y->ct (aO zs L.2.1) L x=ct (aO zs L.2.1) L y:=λx y h1 h2 h3 hn=>
  jDq hz tU aa h2 aa (λj v hj hv hc=>hn v (mH j v hj hv aa aa) hc)
 obtain⟨W,eW,lW,hW⟩:∃W:SL,((L.2.2.2.2.2.2.1.length:q)>0->j5d (aO zs L.2.1) L.2.2.2.2.2.2.1 a b=G (W,0))/\W.length<=100/\
   ((L.2.2.2.2.2.2.1.length:q)>0->∀x y,a<=x->x<=y->y<b->py (wL W) x y->hasB (fi (cL (aO zs L.2.1) x)) L.2.2.2.2.2.2.1=hasB (fi (cL (aO zs L.2.1) y)) L.2.2.2.2.2.2.1):=by
  by_cases hw:(L.2.2.2.2.2.2.1.length:q)>0
  .obtain⟨W,e,s1,s2,s3,s4⟩:=Ŋ h4 (kr wF aa) (tW hL.w hL.wl) hL.w hL.wl (M:=2) aa ha cb hb aa aa;have iG:W.length<=3*3*5:=kr s3 (qi (qi hL.w3 aa) aa);rw[if_neg aa]at e;refine⟨W,λ_=>e,aa,λ_ x y h1 h2 h3 hn=>?_⟩;have gC:=jDr (W:=W) h2 (λu hu=>⟨hn u.1 (qv.2 ⟨u,hu,ae⟩),hn u.2 (qv.2 ⟨u,hu,ae⟩)⟩);obtain⟨i,i0,i1,i2⟩:=pX hz.ztab.2 (t:=x) aa aa;obtain⟨j,j0,j1,j2⟩:=pX hz.ztab.2 (t:=y) aa aa;rw[s4 i i0 x h1 aa i1 i2,s4 j j0 y aa h3 j1 j2]at gC;rw[(LU hz aa aa i0 i1 i2).2,(LU hz aa aa j0 j1 j2).2];exact ya.2 gC
  .exact⟨[],λh=>absurd h hw,ae,λh=>absurd h hw⟩
 have bP:∀x y,a<=x->x<=y->y<b->((L.2.2.2.2.2.2.1.length:q)>0->py (wL W) x y)->okW L.2.2.2.2.2.2.1 (fi (cL (aO zs L.2.1) x))=okW L.2.2.2.2.2.2.1 (fi (cL (aO zs L.2.1) y)):=λx y h1 h2 h3 hn=>by
  unfold okW;by_cases hw:(L.2.2.2.2.2.2.1.length:q)>0
  .rw[ah hw,j6,j6];exact hW hw x y h1 h2 h3 (hn hw)
  .rw[aj hw,j7,j7]
 have aC:∀out:D q,(∀c∈H,c∈out)->((L.2.2.2.2.2.2.1.length:q)>0->∀c∈wL W,c∈out)->
   (L.2.2.2.2.2.2.2.2≠0->∀c∈(tb (aO zs (gf cs L.2.2.2.2.2.2.2.1).2.1)).2.map (·.1)++(gf cs L.2.2.2.2.2.2.2.1).2.2.flatMap (uM (aO zs (gf cs L.2.2.2.2.2.2.2.1).2.1)),c∈out)->
   ∀x y,a<=x->x<=y->y<b->py out x y->cu zs cs L x=cu zs cs L y:=λout m1 m2 m3 x y h1 h2 h3 hn=>by
  have e1:=pF x y h1 h2 h3 (λc hc=>hn c (m1 c hc));have e2:=bP x y h1 h2 h3 (λhw c hc=>hn c (m2 hw c hc));have e3:=jBK hs hL (x:=x) (y:=y) aa h2 aa (λhm c hc=>hn c (m3 hm c hc));have eon:gg zs cs L x=gg zs cs L y:=by unfold gg;rw[e1,e2,e3]
  unfold cu;rw[eon,e1]
 have cN:∀acc:D q,acc.length<=2390000->L.2.2.2.2.2.2.2.2≠0->∃out,(cond (inR L.2.2.2.2.2.2.2.1 cs.length) (cond (inR (cs.getD L.2.2.2.2.2.2.2.1.toNat (o,((0:q),([]:D q)))).2.1 zs.length)
   ((
    j0j ((zs.getD (cs.getD L.2.2.2.2.2.2.2.1.toNat (o,((0:q),([]:D q)))).2.1.toNat (o,((0:q),([]:D aL)))).1,((zs.getD (cs.getD L.2.2.2.2.2.2.2.1.toNat (o,((0:q),([]:D q)))).2.1.toNat (o,((0:q),([]:D aL)))).2.1,(zs.getD (cs.getD L.2.2.2.2.2.2.2.1.toNat (o,((0:q),([]:D q)))).2.1.toNat (o,((0:q),([]:D aL)))).2.2))).bind λr88=>
    (AU 0 zs ps cs ss (cs.getD L.2.2.2.2.2.2.2.1.toNat (o,((0:q),([]:D q)))).1 (cs.getD L.2.2.2.2.2.2.2.1.toNat (o,((0:q),([]:D q)))).2.1 (cs.getD L.2.2.2.2.2.2.2.1.toNat (o,((0:q),([]:D q)))).2.2 acc r88.1).bind λq2=>
     (CZ 0 q2.1 q2.2.1 q2.2.2.1 q2.2.2.2.1 q2.2.2.2.2.1 q2.2.2.2.2.2.1 q2.2.2.2.2.2.2.1 q2.2.2.2.2.2.2.2).bind λq4=>G q4) O) O)=G out/\out.length<=2400000/\(∀c∈acc,c∈out)/\
   ∀c∈(tb (aO zs (gf cs L.2.2.2.2.2.2.2.1).2.1)).2.map (·.1)++(gf cs L.2.2.2.2.2.2.2.1).2.2.flatMap (uM (aO zs (gf cs L.2.2.2.2.2.2.2.1).2.1)),c∈out:=λacc eM hm=>by
  have hc:=hL.cal hm;have hx:ra zs.length (gf cs L.2.2.2.2.2.2.2.1):=pt hs hc.1 hc.2;have ie:gx (aO zs (gf cs L.2.2.2.2.2.2.2.1).2.1):=gR hs.so.ok hx.z0 hx.z1;have u7:(tb (aO zs (gf cs L.2.2.2.2.2.2.2.1).2.1)).2.length<=4:=yE ie;have nV:=hx.len;have e2:=ŏ (zs:=zs) (ps:=ps) (cs:=cs) (ss:=ss) (x:=gf cs L.2.2.2.2.2.2.2.1) (T:=(tb (aO zs (gf cs L.2.2.2.2.2.2.2.1).2.1)).2) aa (tb (aO zs (gf cs L.2.2.2.2.2.2.2.1).2.1)).2.length 0 acc aa aa;have e4:=ő (ps:=ps) (cs:=cs) (ss:=ss) hs.so.ok hx (gf cs L.2.2.2.2.2.2.2.1).2.2.length 0 (acc++(tb (aO zs (gf cs L.2.2.2.2.2.2.2.1).2.1)).2.map (·.1)) aa (by rw[jf,kj];omega);rw[show ((0:I):q)=0 from rfl,jm]at e2 e4
  have fm:∀ds:D q,(ds.flatMap (uM (aO zs (gf cs L.2.2.2.2.2.2.2.1).2.1))).length<=10*ds.length:=λds=>by
   induction ds with
   |nil=>simp
   |cons d r ih=>have:=Ő ie d;rw[zr,jf,jk];omega
  have hf:=fm (gf cs L.2.2.2.2.2.2.2.1).2.2;rw[bY hc.1 hc.2,show inR (cs.getD L.2.2.2.2.2.2.2.1.toNat (o,((0:q),([]:D q)))).2.1 zs.length=R from bY hx.z0 hx.z1];simp only[j6];rw[show j0j ((zs.getD (cs.getD L.2.2.2.2.2.2.2.1.toNat (o,((0:q),([]:D q)))).2.1.toNat (o,((0:q),([]:D aL)))).1,((zs.getD (cs.getD L.2.2.2.2.2.2.2.1.toNat (o,((0:q),([]:D q)))).2.1.toNat (o,((0:q),([]:D aL)))).2.1,(zs.getD (cs.getD L.2.2.2.2.2.2.2.1.toNat (o,((0:q),([]:D q)))).2.1.toNat (o,((0:q),([]:D aL)))).2.2))=_ from ie.zref.2.1.1];simp only[j4];rw[show AU 0 zs ps cs ss (cs.getD L.2.2.2.2.2.2.2.1.toNat (o,((0:q),([]:D q)))).1 (cs.getD L.2.2.2.2.2.2.2.1.toNat (o,((0:q),([]:D q)))).2.1 (cs.getD L.2.2.2.2.2.2.2.1.toNat (o,((0:q),([]:D q)))).2.2 acc _=_ from e2];simp only[j4];rw[e4];refine⟨_,rfl,?_,λc h=>?_,λc h=>?_⟩
  .rw[jf,jf,kj];omega
  .exact ju _ (ju _ h)
  .rcases jn.1 h with h|h
   .exact ju _ (jq _ h)
   .exact jq _ h
 simp only[jkV];rw[bY hL.z0 hL.z1,j6,eH'];simp only[j4,jw,kx,ki];rw[ah (show H.length<=aM by unfold aM;omega),j6];by_cases hw:(L.2.2.2.2.2.2.1.length:q)>0
 .have e0:=Ŏ (zs:=zs) (ps:=ps) (cs:=cs) (ss:=ss) (L:=L) (W:=W) aa W.length 0 H aa aa;rw[show ((0:I):q)=0 from rfl,jm]at e0;rw[ah (show E L.2.2.2.2.2.2.1.length>0 from hw),j6];rw[show j5d ((zs.getD L.2.1.toNat (o,((0:q),([]:D aL)))).1,((zs.getD L.2.1.toNat (o,((0:q),([]:D aL)))).2.1,(zs.getD L.2.1.toNat (o,((0:q),([]:D aL)))).2.2)) L.2.2.2.2.2.2.1 a b=_ from eW hw];simp only[j4,e0];have xj:=jG7 W;by_cases hm:L.2.2.2.2.2.2.2.2=0
  .rw[dC hm,j6];refine⟨_,rfl,by rw[jf];omega,aC _ (λc h=>ju _ h) (λ_ c h=>jq _ h) (λh=>absurd hm h)⟩
  .rw[cj hm,j7];obtain⟨out,eo,lo,LW,UB⟩:=cN (H++wL W) (by rw[jf];omega) hm;exact⟨out,eo,lo,aC out (λc h=>LW c (ju _ h)) (λ_ c h=>LW c (jq _ h)) (λ_=>UB)⟩
 .rw[aj (show¬E L.2.2.2.2.2.2.1.length>0 from hw),j7];by_cases hm:L.2.2.2.2.2.2.2.2=0
  .rw[dC hm,j6];exact⟨H,rfl,aa,aC _ (λc h=>h) (λh=>absurd h hw) (λh=>absurd hm h)⟩
  .rw[cj hm,j7];obtain⟨out,eo,lo,LW,UB⟩:=cN H aa hm;exact⟨out,eo,lo,aC out LW (λh=>absurd h hw) (λ_=>UB)⟩
end
theorem jwb{l:bE}(hl:l.length<=100000000)(x:kK):jiK l x=G (la l x):=by
 simp only[jiK,la];by_cases hx:x.2.1<=x.1
 .rw[ah hx,if_pos hx,j6]
 rw[aj hx,if_neg hx,j7,mV l];rcases vw l with rfl|⟨r,u,rfl⟩
 .rfl
 rw[vz]at hl ⊢;have hlen:(r++[u]).length=r.length+1:=ae;rw[hlen]at hl ⊢;have aR:(r++[u]).getD r.length ((0:q),((0:q),(0:q)))=u:=by simp[F]
 rw[ah (show ((r.length+1:I):q)>0 by omega),al (x:=((r.length+1:I):q)-1),bD,show (((r.length+1:I):q)-1).toNat=r.length by omega,aR];simp only[j6,yj,yd,Y,yi];rw[ah (show r.length+1+[(x.1,(x.2.1,x.2.2))].length<=aM by simp[aM];omega)];simp only[j6];by_cases h1:u.2.1=x.1
 .rw[dC h1,j6];by_cases h2:u.2.2=x.2.2
  .rw[dC h2,if_pos ⟨h1,h2⟩,j6];congr 1;simp
  .rw[cj h2,if_neg (λh=>h2 h.2),j7]
 .rw[cj h1,if_neg (λh=>h1 h.1),j7]
theorem Œ{x y p:q}:∀es:D dV,(∀e∈es,(e.2.2.2.1<=x↔e.2.2.2.1<=y)/\(e.2.2.2.2<=x↔e.2.2.2.2<=y))->jJ es p x=jJ es p y
 |[],_=>rfl
 |e::r,h=>by
  have h1:=h e ae;have ih:=Œ (p:=p) r (λu hu=>h u (by simp[hu]));unfold jJ at ih ⊢;have a1:J (e.2.2.2.1<=x)=J (e.2.2.2.1<=y):=decide_eq_decide.2 h1.1;have a2:J (x<e.2.2.2.2)=J (y<e.2.2.2.2):=decide_eq_decide.2 aa;simp only[yc];rw[a1,a2,ih]
theorem jBN{zs:D bF}{cs:D aV}{s:cW}{x y:q}(iP:x<=y)(hp:∀L∈s.2.1,cu zs cs L x=cu zs cs L y)(he:py (kL s.2.2) x y):gy zs cs s x=gy zs cs s y:=by
 have œ:∀e∈s.2.2,(e.2.2.2.1<=x↔e.2.2.2.1<=y)/\(e.2.2.2.2<=x↔e.2.2.2.2<=y):=λe hm=>by
  have a:=he e.2.2.2.1 (qv.2 ⟨e,hm,ae⟩);have b:=he e.2.2.2.2 (qv.2 ⟨e,hm,ae⟩);exact⟨aa,aa⟩
 unfold gy;rw[Uc (u:=y) (pg:=dv zs cs s.2.1 y) (λi hi=>?_) (λp=>Œ s.2.2 œ)]
 .exact LG s.2.2 _ (λe hm=>by have:=œ e hm;exact⟨this.1.symm,this.2.symm⟩)
 .unfold dv;have aR:s.2.1.getD i (o,((0:q),(((0:q),(0:q)),((0:q),((0:q),(([]:D q),(([]:D (q×q)),((0:q),(0:q)))))))))=s.2.1[i]:=by simp[F,hi]
  rw[aR];exact hp _ (jg hi)
section
variable{zs:D bF}{ps:D cR}{cs:D aV}(hs:db zs ps cs)
include hs
theorem jDt{ss:D cW}(hc:oe (zs,(ps,(cs,ss)))){i:I}(hi:i<ss.length){t:q}(h0:0<=t)(h1:t<=8589934592):jod (zs,(ps,(cs,ss))) (i:q) t=G (gy zs cs ss[i] t):=by
 have lR:=hc.sc _ (jg hi);have fw:=lR.ll;have fE:=lR.el;have xG:ss.getD i (o,(([]:D bZ),([]:D dV)))=ss[i]:=by simp[F,hi]
 have lp:=Ė hs (ss:=ss) (nm:=ss[i].1) (es:=ss[i].2.2) aa aa lR.ly h0 h1 ss[i].2.1.length (jv _)
 have et:∃k,jrd (zs,(ps,(cs,ss))) (i:q) t=G (k,eB ss[i].2.2 t (dv zs cs ss[i].2.1 t) ss[i].2.1.length):=by
  simp only[jrd];rw[bD];simp only[j6,j8,xG,show E ss[i].2.1.length=(ss[i].2.1.length:q) from rfl];rw[al (x:=(ss[i].2.1.length:q)-1),show GG t ((ss[i].2.1.length:q)-1) zs ps cs ss ss[i].1 ss[i].2.1 ss[i].2.2=_ from lp];simp only[j4,eB];cases ei (gE ss[i].2.2 t (dv zs cs ss[i].2.1 t)) ss[i].2.1.length with
  |none=>exact⟨_,rfl⟩
  |some k=>exact⟨_,rfl⟩
 obtain⟨k,et⟩:=et;have ef:=ē (es:=ss[i].2.2) aa (t:=t) ss[i].2.2.length 0 (eB ss[i].2.2 t (dv zs cs ss[i].2.1 t) ss[i].2.1.length) aa;rw[jm]at ef;simp only[jod,et,j4];rw[bD];simp only[j6,j8,xG,jre];rw[show GH ss[i].2.2 (eB ss[i].2.2 t (dv zs cs ss[i].2.1 t) ss[i].2.1.length) t 0=_ from ef];rfl
theorem Ŕ{ss:D cW}{nm:U}{ls:D bZ}{es:D dV}(hl:ls.length<=6)(hL:∀L∈ls,fh zs.length ps.length cs.length L){a b:q}(ha:0<=a)(cb:a<=b)(hb:b<=8589934592)(hlen:b-a<=1209600) :
  ∀(n i:I)(acc:D q),i+n=ls.length->acc.length+2400000*n<=20000000->
  ∃out,Kv a b (i:q) zs ps cs ss nm ls es acc=G (a,b,nm,ls,es,out)/\out.length<=acc.length+2400000*n/\(∀c∈acc,c∈out)/\∀L∈ls.drop i,∀x y,a<=x->x<=y->y<b->py out x y->cu zs cs L x=cu zs cs L y
 |0,i,acc,hi,_=>by
  rw[Z2];simp only[j6S,show E ls.length=(ls.length:q) from rfl];rw[aj aa,j7,aS,jc aa];exact⟨acc,rfl,aa,λc h=>h,λL h=>by simp at h⟩
 |n+1,i,acc,hi,eM=>by
  have an:i<ls.length:=aa;have aR:ls.getD i (o,((0:q),(((0:q),(0:q)),((0:q),((0:q),(([]:D q),(([]:D (q×q)),((0:q),(0:q)))))))))=ls[i]:=by simp[F,an]
  obtain⟨C,eC,lC,pC⟩:=jBL hs (ss:=ss) (hL _ (jg an)) ha cb hb hlen;obtain⟨out,e1,e2,e3,e4⟩:=Ŕ (ss:=ss) (nm:=nm) (es:=es) hl hL ha cb hb hlen n (i+1) (acc++C) aa (by rw[jf];omega);rw[Z2,jb an];simp only[j6S,show E ls.length=(ls.length:q) from rfl];rw[ah (show (i:q)<(ls.length:q) by omega),bD,al (x:=(i:q)+1)];simp only[j6,j8,aR];rw[show jkV (zs,(ps,(cs,ss))) (ls[i].1,(ls[i].2.1,((ls[i].2.2.1.1,ls[i].2.2.1.2),(ls[i].2.2.2.1,(ls[i].2.2.2.2.1,(ls[i].2.2.2.2.2.1,(ls[i].2.2.2.2.2.2.1,(ls[i].2.2.2.2.2.2.2.1,ls[i].2.2.2.2.2.2.2.2)))))))) a b=_ from eC];simp only[j4];rw[ah (show acc.length+C.length<=aM by unfold aM;omega),j6,aH];refine⟨out,e1,by rw[jf]at e2;omega,λc h=>e3 c (ju _ h),λL hm x y h1 h2 h3 hn=>?_⟩;rcases je.1 hm with rfl|hm
  .exact pC x y h1 h2 h3 (λc hc=>hn c (e3 c (jq _ hc)))
  .exact e4 L hm x y h1 h2 h3 hn
omit hs in
theorem ŕ{nm:U}{ls:D bZ}{es:D dV}(hl:es.length<=100){a b:q}:∀(n i:I)(acc:D q),i+n=es.length->acc.length+2*n<=40000000->
  Kw a b (i:q) nm ls es acc=G (a,b,acc++kL (es.drop i))
 |0,i,acc,hi,_=>by
  rw[Z3,jc aa];simp only[j6T,show E es.length=(es.length:q) from rfl];rw[aj aa,j7,aS];simp[kL]
 |n+1,i,acc,hi,ha=>by
  have an:i<es.length:=aa;have aR:es.getD i ((0:q),((0:q),((0:q),((0:q),(0:q)))))=es[i]:=by simp[F,an]
  have ih:=ŕ (nm:=nm) (ls:=ls) hl (a:=a) (b:=b) n (i+1) (acc++[es[i].2.2.2.1,es[i].2.2.2.2]) aa ax;rw[jj]at ih;rw[Z3,jb an];simp only[j6T,show E es.length=(es.length:q) from rfl];rw[ah (show (i:q)<(es.length:q) by omega),bD,al (x:=(i:q)+1)];simp only[j6,j8,aR];rw[ah (by simp[aM];omega),j6,aH];exact ih
theorem jBO{ss:D cW}(hc:oe (zs,(ps,(cs,ss)))){i:I}(hi:i<ss.length){a b:q}(ha:0<=a)(cb:a<=b)(hb:b<=8589934592)(hlen:b-a<=1209600) :
  ∃B,jnf (zs,(ps,(cs,ss))) (i:q) a b=G B/\B.Pairwise (· < ·)/\B.length<=40000000/\(∀x∈B,a<=x/\x<=b)/\(∃r,B=a::r)/\(B.getD (B.length-1) 0=b)/\
   ∀x y,x∈B->x<=y->y<b->(∀c∈B,¬(x<c/\c<=y))->gy zs cs ss[i] x=gy zs cs ss[i] y:=by
 have lR:=hc.sc _ (jg hi);have fw:=lR.ll;have fE:=lR.el;have xG:ss.getD i (o,(([]:D bZ),([]:D dV)))=ss[i]:=by simp[F,hi]
 obtain⟨C,e1,e2,_,e4⟩:=Ŕ hs (ss:=ss) (nm:=ss[i].1) (es:=ss[i].2.2) fw lR.ly ha cb hb hlen ss[i].2.1.length 0 [] aa ax;have e5:=ŕ (nm:=ss[i].1) (ls:=ss[i].2.1) (es:=ss[i].2.2) aa (a:=a) (b:=b) ss[i].2.2.length 0 C aa (by simp at e2;omega);rw[show ((0:I):q)=0 from rfl,jm]at e5;rw[show ((0:I):q)=0 from rfl]at e1;rw[jm]at e4;have hel2:=HW ss[i].2.2;simp only[kx,ki]at e2;have fk:(C++kL ss[i].2.2).length<=39000000:=by rw[jf];omega
 obtain⟨b1,b2,b3,b4,b5,b6,b7⟩:=jG6 (C++kL ss[i].2.2) cb;refine⟨jX (C++kL ss[i].2.2) a b,?_,b1,aa,b3,b5,?_,λx y hx iP M5 hn=>?_⟩
 .simp only[jnf];rw[bD];simp only[j6,j8,xG,e1,e5,j4,jyQ (show (C++kL ss[i].2.2).length<=49000000 by omega) a b]
 .by_cases h:a<b
  .obtain⟨r,hr⟩:=b6 h;rw[hr];simp[F]
  .rw[b7 aa];show a=b;omega
 .have BI:=b3 x hx;have du:py (C++kL ss[i].2.2) x y:=λc hc oz=>hn c (b4 c hc aa aa) oz;exact jBN iP (λL hm=>e4 L hm x y BI.1 iP M5 du.left) du.right
omit hs in
theorem Ŗ{f:q->q}{ss:D cW}{i:I}{B:D q}(hBl:B.length<=50000000)(hB:B.Pairwise (· < ·))(H5:∀t∈B,jod (zs,(ps,(cs,ss))) (i:q) t=G (f t)){a b:q}(dm:B.getD (B.length-1) 0=b)
  (dZ:∀x y,x∈B->x<=y->y<b->(∀c∈B,¬(x<c/\c<=y))->f x=f y):∀(n j:I)(acc:bE),j+1+n=B.length->acc.length<=j->fy f (B.getD j 0) O a acc->
  ∃out,Kx (i:q) (j:q) zs ps cs ss B acc=G out/\fy f b O a out
 |0,j,acc,hj,ha,hC=>by
  rw[_a];simp only[j5g,show E B.length=(B.length:q) from rfl];rw[al (x:=(j:q)+1),aj aa,j7,aS];refine⟨acc,rfl,?_⟩;rw[<-dm,show B.length-1=j by omega];exact hC
 |n+1,j,acc,hj,ha,hC=>by
  have h1:j<B.length:=aa;have h2:j+1<B.length:=aa;have g1:B.getD j (0:q)=B[j]:=by simp[F,h1]
  have g2:B.getD (j+1) (0:q)=B[j+1]:=by simp[F,h2]
  have LX:=q9.1 hB;have an:B[j]<B[j+1]:=LX j (j+1) h1 h2 aa
  have hle:B[j+1]<=b:=by
   have gl:B.getD (B.length-1) (0:q)=B[B.length-1]:=by simp[F,show B.length-1<B.length by omega]
   rw[gl]at dm;by_cases he:j+1=B.length-1
   .have:B[j+1]=B[B.length-1]:=by congr 1
    omega
   .have:=LX (j+1) (B.length-1) h2 aa aa;omega
  have hconst:∀t,B[j]<=t->t<B[j+1]->f t=f B[j]:=λt t1 t2=>(dZ B[j] t (jg h1) t1 aa (λc hc oz=>by
   obtain⟨m,hm,rfl⟩:=List.mem_iff_getElem.1 hc;by_cases hmj:m<=j
   .by_cases he:m=j
    .subst he;omega
    .have:=LX m j hm h1 aa;omega
   .by_cases he:m=j+1
    .subst he;omega
    .have:=LX (j+1) m h2 hm aa;omega)).symm
  rw[g1]at hC;have hC2:=Ϗ hC (s:=(B[j],(B[j+1],f B[j]))) rfl (by show B[j]<=B[j+1];omega) (λt t1 t2=>hconst t t1 t2)
  have zX:(la acc (B[j],(B[j+1],f B[j]))).length<=acc.length+1:=by
   unfold la;split
   .omega
   .split
    .split
     .simp
     .simp
    .simp
  have ih:=Ŗ hBl hB H5 dm dZ n (j+1) (la acc (B[j],(B[j+1],f B[j]))) aa aa (by rw[g2];exact hC2);rw[_a];simp only[j5g,show E B.length=(B.length:q) from rfl];rw[al (x:=(j:q)+1),ah (show (j:q)+1<(B.length:q) by omega),bY (show (0:q)<=(j:q) by omega) aa,bY (show (0:q)<=(j:q)+1 by omega) aa,show ((j:q)+1).toNat=j+1 by omega];simp only[j6,j8,g1,g2,H5 _ (jg h1),j4,jwb (show acc.length<=100000000 by omega),aH];exact ih
theorem jwc{ss:D cW}(hc:oe (zs,(ps,(cs,ss)))){i:I}(hi:i<ss.length){a b:q}(ha:0<=a)(cb:a<=b)(hb:b<=8589934592)(hlen:b-a<=1209600) :
  ∃S,jiL (zs,(ps,(cs,ss))) (i:q) a b=G S/\fy (gy zs cs ss[i]) b O a S:=by
 obtain⟨B,e1,e2,e3,e4,⟨r,e5⟩,e6,e7⟩:=jBO hs hc hi ha cb hb hlen;have bK:0<B.length:=by rw[e5];simp
 obtain⟨S,f1,f2⟩:=Ŗ (f:=gy zs cs ss[i]) (ss:=ss) (i:=i) (B:=B) aa e2 (λt ht=>jDt hs hc hi (by have:=e4 t ht;omega) (by have:=e4 t ht;omega)) (a:=a) e6 e7 (B.length-1) 0 [] aa ae (by rw[e5];rfl);rw[show ((0:I):q)=0 from rfl]at f1;refine⟨S,?_,f2⟩;simp only[jiL,e1,f1,j4]
theorem jyR{ss:D cW}(hc:oe (zs,(ps,(cs,ss)))){i:I}(hi:i<ss.length){a b:q}(ha:0<=a)(cb:a<=b)(hb:b<=8589934592)(hlen:b-a<=34560000):jhO (zs,(ps,(cs,ss))) (i:q) a b=G 0:=by
 have e8:=Ϻ hc (ā hs);have er:j8P a b=G true:=by simp only[j8P];rw[ah (show a>=0 from ha),ah (show a<=8589934592 by omega),ah (show b>=a from cb),ah hb,al (x:=b-a),ah hlen];rfl
 simp only[jhO,show jfx (zs,(ps,(cs,ss)))=_ from e8,j4,jh,j7,show E ss.length=(ss.length:q) from rfl];rw[aj (show¬(i:q)<0 by omega),aj (show¬(i:q)>=(ss.length:q) by omega)];simp only[j7,er,j4,jl]
theorem jBQ{ss:D cW}(hc:oe (zs,(ps,(cs,ss)))){i:I}(hi:i<ss.length){a b:q}(ha:0<=a)(cb:a<=b)(hb:b<=8589934592)(hlen:b-a<=1209600){S:bE}(hS:fy (gy zs cs ss[i]) b O a S)(hl:S.length<=16384) :
  j6i (zs,(ps,(cs,ss))) (i:q) a b=G (S,0):=by
 obtain⟨S',e1,e2⟩:=jwc hs hc hi ha cb hb hlen;have:=e2.uniq hS;subst this;simp only[j6i,jyR hs hc hi ha cb hb aa,e1,j4,jh,j7,show E S'.length=(S'.length:q) from rfl];rw[aj aa,j7]
end
def kM:D bB->q
 |[]=>0
 |x::r=>x.2.1+kM r
def h9:D bB->q
 |[]=>0
 |x::r=>x.2.2+h9 r
theorem ŗ{l:D bB}(hl:l.length<=1000)(h0:∀x∈l,0<=x.2.1/\0<=x.2.2){b2 b3 b4:q}:∀(n i:I)(s1 s2:q),i+n=l.length->0<=s1->0<=s2->s1+kM (l.drop i)<=4000000000000->s2+h9 (l.drop i)<=4000000000000->
  FB l (l.length:q) (i:q) b2 b3 b4 (-1) s1 s2=G (b2,b3,b4, -1,s1+kM (l.drop i),s2+h9 (l.drop i))
 |0,i,s1,s2,hi,_,_,_,_=>by
  rw[Yt,jc aa];simp only[j6z];rw[aj aa,j7,aS];simp[kM,h9]
 |n+1,i,s1,s2,hi,p1,p2,q1,q2=>by
  have an:i<l.length:=aa;have aR:l.getD i ((0:q),((0:q),(0:q)))=l[i]:=by simp[F,an]
  obtain⟨x1,x2⟩:=h0 _ (jg an)
  have Uw:∀r:D bB,(∀x∈r,0<=x.2.1/\0<=x.2.2)->0<=kM r/\0<=h9 r:=λr=>by
   induction r with
   |nil=>intro _;exact⟨k7 _,k7 _⟩
   |cons y r ih=>intro hr;have a1:=hr y ae;have a2:=ih (λx hx=>hr x (by simp[hx]));simp only[kM,h9];omega
  have hn:=Uw (l.drop (i+1)) (λx hx=>h0 x (z6 hx));rw[jb an]at q1 q2 ⊢;simp only[kM,h9]at q1 q2 ⊢;rw[Yt];simp only[j6z];rw[ah (show (i:q)<(l.length:q) by omega),bD];simp only[j6,j8,aR];rw[al (x:=(i:q)+1),al (x:=s1+l[i].2.1),al (x:=s2+l[i].2.2),aH];have:=ŗ hl h0 (b2:=b2) (b3:=b3) (b4:=b4) n (i+1) (s1+l[i].2.1) (s2+l[i].2.2) aa aa aa aa aa;rw[show s1+(l[i].2.1+kM (l.drop (i+1)))=s1+l[i].2.1+kM (l.drop (i+1)) by omega,show s2+(l[i].2.2+h9 (l.drop (i+1)))=s2+l[i].2.2+h9 (l.drop (i+1)) by omega];exact this
section
variable{zs:D bF}{ps:D cR}{cs:D aV}{s:cW}
end
def cw(p:q):WL->q
 |[]=>0
 |v::r=>if v.1<0\/v.1>=v.2\/v.2>604800 then 1 else if v.1<p then 6 else cw v.2 r
def yL(w:WL)(i:I):Int:=if i=0 then 0 else (w.getD (i-1) (0,0)).2
theorem LY(w:WL)(i:I):yL w (i+1)=(w.getD i (0,0)).2:=by simp[yL]
theorem Ř:∀{w:WL}{p:q},p<=604800->cw p w=0->eN p w
 |[],p,hp,_=>hp
 |v::r,p,hp,h=>by
  simp only[cw]at h;split at h
  .simp at h
  split at h
  .simp at h
  exact⟨aa,aa,aa,Ř aa h⟩
def LZ(c:q):q ⊕ Unit:=if c=0 then .inr () else .inl c
theorem ř{w:WL}(hl:w.length<=14):∀(n i:I),i+n=w.length->FI w w (w.length:q) (i:q)=G (LZ (cw (yL w i) (w.drop i)))
 |0,i,hi=>by
  rw[JR,jc aa];simp only[j2z];rw[aj aa,j7,aS];rfl
 |n+1,i,hi=>by
  have ih:=ř hl n (i+1) aa;have an:i<w.length:=aa;have aR:w.getD i ((0:q),(0:q))=w[i]:=by simp[an]
  rw[JR,jb an];simp only[j2z];rw[ah (show (i:q)<(w.length:q) by omega),bD,al (x:=(i:q)+1)];simp only[j6,j8,aR,cw];rw[LY,aR]at ih;by_cases c1:w[i].1<0\/w[i].1>=w[i].2\/w[i].2>604800
  .rw[if_pos c1,show (cond (cond (J (w[i].1<0)) R (J (w[i].1>=w[i].2))) R (J (w[i].2>604800)))=R by simp only[N,zv,jo];omega];simp only[j6,aS];rfl
  .rw[if_neg c1,show (cond (cond (J (w[i].1<0)) R (J (w[i].1>=w[i].2))) R (J (w[i].2>604800)))=false by rw[z8];simp only[ne_eq,N,zv,jo];omega];simp only[j7];by_cases h0:i=0
   .subst h0;rw[aj aa,if_neg (by simp[yL];omega)];simp only[j7,aH];exact ih
   .obtain⟨j,rfl⟩:∃j,i=j+1:=⟨i-1,aa⟩;rw[ah aa,al (x:=((j+1:I):q)-1),bD,show (((j+1:I):q)-1).toNat=j by omega,LY];simp only[j6];by_cases c2:w[j+1].1<(w.getD j (0,0)).2
    .rw[ah c2,if_pos c2,j6,aS];rfl
    .rw[aj c2,if_neg c2,j7,aH];exact ih
theorem Ś{w:WL}(hl:w.length<=14):∀(n i:I),i+n=w.length->CR w (i:q)=G (LZ (cw (yL w i) (w.drop i)))
 |0,i,hi=>by
  rw[JS,jc aa];simp only[j32,show E w.length=(w.length:q) from rfl];rw[aj aa,j7,aS];rfl
 |n+1,i,hi=>by
  have ih:=Ś hl n (i+1) aa;have an:i<w.length:=aa;have aR:w.getD i ((0:q),(0:q))=w[i]:=by simp[an]
  rw[JS,jb an];simp only[j32,show E w.length=(w.length:q) from rfl];rw[ah (show (i:q)<(w.length:q) by omega),bD,al (x:=(i:q)+1)];simp only[j6,j8,aR,cw];rw[LY,aR]at ih;by_cases a1:w[i].1<0
  .rw[ah a1,if_pos (Or.inl a1),j6,aS];rfl
  by_cases a2:w[i].1>=w[i].2
  .rw[aj a1,ah a2,if_pos (Or.inr (Or.inl a2)),j6,j7,aS];rfl
  by_cases a3:w[i].2>604800
  .rw[aj a1,aj a2,ah a3,if_pos (Or.inr (Or.inr a3)),j6,j7,j7,aS];rfl
  rw[aj a1,aj a2,aj a3,if_neg aa];simp only[j7];by_cases h0:i=0
  .subst h0;rw[aj aa,if_neg (by simp[yL];omega)];simp only[j7,aH];exact ih
  .obtain⟨j,rfl⟩:∃j,i=j+1:=⟨i-1,aa⟩;rw[ah aa,al (x:=((j+1:I):q)-1),bY (show (0:q)<=((j+1:I):q)-1 by omega) aa,show (((j+1:I):q)-1).toNat=j by omega,LY];simp only[j6];by_cases c2:w[j+1].1<(w.getD j (0,0)).2
   .rw[ah c2,if_pos c2,j6,aS];rfl
   .rw[aj c2,if_neg c2,j7,aH];exact ih
theorem jBR(w:WL):∃c,j86 w=G c/\j3g w=G c/\(c=0->eN 0 w/\w.length<=14):=by
 by_cases hl:w.length>14
 .refine⟨5,?_,?_,aa⟩
  .simp only[j86,show E w.length=(w.length:q) from rfl];rw[ah aa,j6]
  .simp only[j3g,show E w.length=(w.length:q) from rfl];rw[ah aa,j6]
 .refine⟨cw 0 w,?_,?_,λh=>⟨Ř aa h,aa⟩⟩
  .have:=ř (w:=w) aa w.length 0 aa;rw[show ((0:I):q)=0 from rfl,jm,show yL w 0=0 from rfl]at this;simp only[j86,show E w.length=(w.length:q) from rfl];rw[aj aa,j7,this];simp only[LZ];split
   .next h=>simp[h,sumC]
   .rfl
  .have:=Ś (w:=w) aa w.length 0 aa;rw[show ((0:I):q)=0 from rfl,jm,show yL w 0=0 from rfl]at this;simp only[j3g,show E w.length=(w.length:q) from rfl];rw[aj aa,j7,this];simp only[LZ];split
   .next h=>simp[h,sumC]
   .rfl
theorem UC{z:bF}(hz:gx z){w:WL}(hw:eN 0 w)(hl:w.length<=14){a b:q}(ha:0<=a)(cb:a<=b)(hb:b<=8589934592)(hlen:b-a<=1209600) :
  ∃W,j2j (tb z) w a b=G W/\j5d z w a b=G (W,0)/\ca (a-1) W/\(∀u∈W,a<=u.1/\u.2<=b)/\W.length<=210:=by
 have fw:(tb z).2.length<=4:=yE hz;obtain⟨out,e1,s1,s2,s3,s4⟩:=HN hz.ztab.2 (kr fw aa) hw hl (M:=2) aa ha cb hb aa;obtain⟨BK,f1,t1,t2,_,t4⟩:=Ŋ hz.zref.2.1 (kr fw aa) (tW hw hl) hw hl (M:=2) aa ha cb hb aa aa
 have:BK=out:=Ľ t1 s1 λx=>by
  by_cases hx:a<=x/\x<b
  .obtain⟨k,hk,k1,k2⟩:=pX hz.ztab.2 (t:=x) aa aa;rw[s4 k hk x hx.1 hx.2 k1 k2,t4 k hk x hx.1 hx.2 k1 k2]
  .constructor
   .intro h;have:=t1.low h;obtain⟨u,hu,u1,u2⟩:=h;have:=t2 u hu;omega
   .intro h;have:=s1.low h;obtain⟨u,hu,u1,u2⟩:=h;have:=(s2 u hu).2;omega
 subst this;have UD:BK.length<=210:=by have:w.length*(2+1)*((tb z).2.length+1)<=14*(2+1)*(4+1):=qi (k9 _ hl) aa;omega
 rw[if_neg aa]at f1;exact⟨BK,e1,f1,s1,s2,UD⟩
end Go.Proofs.Pw
