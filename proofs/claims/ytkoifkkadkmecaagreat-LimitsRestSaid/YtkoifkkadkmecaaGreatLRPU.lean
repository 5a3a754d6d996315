/- The references of um 11 and 12: LB the cg nothing changes. -/
import Derived.Test.YtkoifkkadkmecaaGreatLRPT
import Derived.Test.YtkoifkkadkmecaaGreatLRPL
import Derived.Test.YtkoifkkadkmecaaGreatLRPM
import Derived.Test.YtkoifkkadkmecaaGreatLRPP
open ByteArray renaming empty->o
open _root_ renaming Int->D,List->E,Nat->J,ByteArray->X
open List renaming getD->G
open Int renaming ofNat->I,lt_trichotomy->R
open Option renaming some->K,none->U,some_or->Y
open List.Pairwise renaming nil->N
open Go Go.Lft
namespace Go.Proofs.Pw
def pE(out:E D)(x y:D):Prop:=∀c∈out,¬(x<c/\c<=y)
theorem pE.left{A B:E D}{x y:D}(h:pE (A++B) x y):pE A x y:=λc hc=>h c (jx _ hc)
theorem pE.right{A B:E D}{x y:D}(h:pE (A++B) x y):pE B x y:=λc hc=>h c (k5 _ hc)
section
variable{zs:E bF}{ps:E cI}{cs:E aU}{ss:E cu}(hs:cC zs ps cs)
include hs
theorem jBg{L:bP}(hL:ez zs.length ps.length cs.length L){x y:D}(h0:0<=x)(iJ:x<=y)(h1:y<=8589934592)
  (df:L.2.2.2.2.2.2.2.2≠0->pE ((tb (aF zs (fM cs L.2.2.2.2.2.2.2.1).2.1)).2.map (·.1)++(fM cs L.2.2.2.2.2.2.2.1).2.2.flatMap (uZ (aF zs (fM cs L.2.2.2.2.2.2.2.1).2.1))) x y):iV zs cs L x=iV zs cs L y:=by
 unfold iV;by_cases hm:L.2.2.2.2.2.2.2.2=0
 .rw[cR hm];rfl
 .have hn:=df hm;have cH:=hL.cal hm;have hx:=rz hs cH.1 cH.2;have hz:fY (aF zs (fM cs L.2.2.2.2.2.2.2.1).2.1):=fH hs.so.ok hx.z0 hx.z1;rw[jCY hz h0 iJ h1 (λi hi=>?_) (λd hd i i0 i1 t ht=>?_)]
  .refine hn.left _ (jz.2 ⟨(tb (aF zs (fM cs L.2.2.2.2.2.2.2.1).2.1)).2[i],jf hi,?_⟩);unfold gg;simp[G,hi]
  .refine hn.right t (qg.2 ⟨d,hd,?_⟩);unfold uZ;have:i=0\/i=1:=omg_;rcases this with rfl|rfl
   .exact jx _ ht
   .exact k5 _ ht
theorem jBh{L:bP}(hL:ez zs.length ps.length cs.length L){a b:D}(ha:0<=a)(bt:a<=b)(hb:b<=8589934592)(hlen:b-a<=1209600) :
  ∃out,jld (zs,(ps,(cs,ss))) L a b=K out/\out.length<=2400000/\∀x y,a<=x->x<=y->y<b->pE out x y->cb zs cs L x=cb zs cs L y:=by
 have uh:=hL.rt2;have hz:fY (aF zs L.2.1):=fH hs.so.ok hL.z0 hL.z1;have h4:=hz.zref.2.1;have wT:(tb (aF zs L.2.1)).2.length<=4:=wY hz;obtain⟨H,eH,lH,mH⟩:=jCV h4 uh ha bt hb omg_
 have eH':jaX ((zs.getD L.2.1.toNat (o,((0:D),([]:E aN)))).1,((zs.getD L.2.1.toNat (o,((0:D),([]:E aN)))).2.1,(zs.getD L.2.1.toNat (o,((0:D),([]:E aN)))).2.2))
  (L.1,L.2.1,(L.2.2.1.1,L.2.2.1.2),L.2.2.2.1,L.2.2.2.2.1,L.2.2.2.2.2.1,L.2.2.2.2.2.2.1,L.2.2.2.2.2.2.2.1,L.2.2.2.2.2.2.2.2) a b=_:=eH
 have pH:∀x y,a<=x->x<=y->y<b->pE H x y->bQ (aF zs L.2.1) L x=bQ (aF zs L.2.1) L y:=λx y h1 h2 h3 hn=>
  jCW hz uh omg_ h2 omg_ (λj v hj hv hc=>hn v (mH j v hj hv omg_ omg_) hc)
 obtain⟨W,eW,lW,hW⟩:∃W:SL,((L.2.2.2.2.2.2.1.length:D)>0->jaY (aF zs L.2.1) L.2.2.2.2.2.2.1 a b=K (W,0))/\W.length<=100/\
   ((L.2.2.2.2.2.2.1.length:D)>0->∀x y,a<=x->x<=y->y<b->pE (xg W) x y->hasB (fe (cA (aF zs L.2.1) x)) L.2.2.2.2.2.2.1=hasB (fe (cA (aF zs L.2.1) y)) L.2.2.2.2.2.2.1):=by
  by_cases hw:(L.2.2.2.2.2.2.1.length:D)>0
  .obtain⟨W,e,s1,s2,s3,s4⟩:=ķ h4 (qi wT omg_) (uj hL.w hL.wl) hL.w hL.wl (M:=2) omg_ ha bt hb omg_ omg_;have kT:W.length<=3*3*5:=qi s3 (ql (ql hL.w3 omg_) omg_);rw[if_neg omg_]at e;refine⟨W,λ_=>e,omg_,λ_ x y h1 h2 h3 hn=>?_⟩;have iE:=jCX (W:=W) h2 (λu hu=>⟨hn u.1 (qg.2 ⟨u,hu,smp_⟩),hn u.2 (qg.2 ⟨u,hu,smp_⟩)⟩);obtain⟨i,i0,i1,i2⟩:=tT hz.ztab.2 (t:=x) omg_ omg_;obtain⟨j,j0,j1,j2⟩:=tT hz.ztab.2 (t:=y) omg_ omg_;rw[s4 i i0 x h1 omg_ i1 i2,s4 j j0 y omg_ h3 j1 j2]at iE;rw[(LA hz omg_ omg_ i0 i1 i2).2,(LA hz omg_ omg_ j0 j1 j2).2];exact vg.2 iE
  .exact⟨[],λh=>absurd h hw,smp_,λh=>absurd h hw⟩
 have bX:∀x y,a<=x->x<=y->y<b->((L.2.2.2.2.2.2.1.length:D)>0->pE (xg W) x y)->okW L.2.2.2.2.2.2.1 (fe (cA (aF zs L.2.1) x))=okW L.2.2.2.2.2.2.1 (fe (cA (aF zs L.2.1) y)):=λx y h1 h2 h3 hn=>by
  unfold okW;by_cases hw:(L.2.2.2.2.2.2.1.length:D)>0
  .rw[ah hw,j6,j6];exact hW hw x y h1 h2 h3 (hn hw)
  .rw[ai hw,j7,j7]
 have aA:∀out:E D,(∀c∈H,c∈out)->((L.2.2.2.2.2.2.1.length:D)>0->∀c∈xg W,c∈out)->
   (L.2.2.2.2.2.2.2.2≠0->∀c∈(tb (aF zs (fM cs L.2.2.2.2.2.2.2.1).2.1)).2.map (·.1)++(fM cs L.2.2.2.2.2.2.2.1).2.2.flatMap (uZ (aF zs (fM cs L.2.2.2.2.2.2.2.1).2.1)),c∈out)->
   ∀x y,a<=x->x<=y->y<b->pE out x y->cb zs cs L x=cb zs cs L y:=λout m1 m2 m3 x y h1 h2 h3 hn=>by
  have e1:=pH x y h1 h2 h3 (λc hc=>hn c (m1 c hc));have e2:=bX x y h1 h2 h3 (λhw c hc=>hn c (m2 hw c hc));have e3:=jBg hs hL (x:=x) (y:=y) omg_ h2 omg_ (λhm c hc=>hn c (m3 hm c hc));have eon:fN zs cs L x=fN zs cs L y:=by unfold fN;rw[e1,e2,e3]
  unfold cb;rw[eon,e1]
 have cH:∀acc:E D,acc.length<=2390000->L.2.2.2.2.2.2.2.2≠0->∃out,(cond (inR L.2.2.2.2.2.2.2.1 cs.length) (cond (inR (cs.getD L.2.2.2.2.2.2.2.1.toNat (o,((0:D),([]:E D)))).2.1 zs.length)
   ((
    j0q ((zs.getD (cs.getD L.2.2.2.2.2.2.2.1.toNat (o,((0:D),([]:E D)))).2.1.toNat (o,((0:D),([]:E aN)))).1,((zs.getD (cs.getD L.2.2.2.2.2.2.2.1.toNat (o,((0:D),([]:E D)))).2.1.toNat (o,((0:D),([]:E aN)))).2.1,(zs.getD (cs.getD L.2.2.2.2.2.2.2.1.toNat (o,((0:D),([]:E D)))).2.1.toNat (o,((0:D),([]:E aN)))).2.2))).bind λr88=>
    (Bd 0 zs ps cs ss (cs.getD L.2.2.2.2.2.2.2.1.toNat (o,((0:D),([]:E D)))).1 (cs.getD L.2.2.2.2.2.2.2.1.toNat (o,((0:D),([]:E D)))).2.1 (cs.getD L.2.2.2.2.2.2.2.1.toNat (o,((0:D),([]:E D)))).2.2 acc r88.1).bind λq2=>
     (CL 0 q2.1 q2.2.1 q2.2.2.1 q2.2.2.2.1 q2.2.2.2.2.1 q2.2.2.2.2.2.1 q2.2.2.2.2.2.2.1 q2.2.2.2.2.2.2.2).bind λq4=>K q4) U) U)=K out/\out.length<=2400000/\(∀c∈acc,c∈out)/\
   ∀c∈(tb (aF zs (fM cs L.2.2.2.2.2.2.2.1).2.1)).2.map (·.1)++(fM cs L.2.2.2.2.2.2.2.1).2.2.flatMap (uZ (aF zs (fM cs L.2.2.2.2.2.2.2.1).2.1)),c∈out:=λacc dQ hm=>by
  have hc:=hL.cal hm;have hx:rk zs.length (fM cs L.2.2.2.2.2.2.2.1):=rz hs hc.1 hc.2;have hQ:fY (aF zs (fM cs L.2.2.2.2.2.2.2.1).2.1):=fH hs.so.ok hx.z0 hx.z1;have vI:(tb (aF zs (fM cs L.2.2.2.2.2.2.2.1).2.1)).2.length<=4:=wY hQ;have om:=hx.len;have e2:=Ľ (zs:=zs) (ps:=ps) (cs:=cs) (ss:=ss) (x:=fM cs L.2.2.2.2.2.2.2.1) (T:=(tb (aF zs (fM cs L.2.2.2.2.2.2.2.1).2.1)).2) omg_ (tb (aF zs (fM cs L.2.2.2.2.2.2.2.1).2.1)).2.length 0 acc omg_ omg_;have e4:=Ŀ (ps:=ps) (cs:=cs) (ss:=ss) hs.so.ok hx (fM cs L.2.2.2.2.2.2.2.1).2.2.length 0 (acc++(tb (aF zs (fM cs L.2.2.2.2.2.2.2.1).2.1)).2.map (·.1)) omg_ (by rw[jc,ke];omega);rw[show ((0:J):D)=0 from rfl,jr]at e2 e4
  have fh:∀ds:E D,(ds.flatMap (uZ (aF zs (fM cs L.2.2.2.2.2.2.2.1).2.1))).length<=10*ds.length:=λds=>by
   induction ds with
   |nil=>simp
   |cons d r ih=>have:=ľ hQ d;rw[z7,jc,ji];omega
  have hf:=fh (fM cs L.2.2.2.2.2.2.2.1).2.2;rw[bA hc.1 hc.2,show inR (cs.getD L.2.2.2.2.2.2.2.1.toNat (o,((0:D),([]:E D)))).2.1 zs.length=true from bA hx.z0 hx.z1];simp only[j6];rw[show j0q ((zs.getD (cs.getD L.2.2.2.2.2.2.2.1.toNat (o,((0:D),([]:E D)))).2.1.toNat (o,((0:D),([]:E aN)))).1,((zs.getD (cs.getD L.2.2.2.2.2.2.2.1.toNat (o,((0:D),([]:E D)))).2.1.toNat (o,((0:D),([]:E aN)))).2.1,(zs.getD (cs.getD L.2.2.2.2.2.2.2.1.toNat (o,((0:D),([]:E D)))).2.1.toNat (o,((0:D),([]:E aN)))).2.2))=_ from hQ.zref.2.1.1];simp only[j4];rw[show Bd 0 zs ps cs ss (cs.getD L.2.2.2.2.2.2.2.1.toNat (o,((0:D),([]:E D)))).1 (cs.getD L.2.2.2.2.2.2.2.1.toNat (o,((0:D),([]:E D)))).2.1 (cs.getD L.2.2.2.2.2.2.2.1.toNat (o,((0:D),([]:E D)))).2.2 acc _=_ from e2];simp only[j4];rw[e4];refine⟨_,rfl,?_,λc h=>?_,λc h=>?_⟩
  .rw[jc,jc,ke];omega
  .exact jx _ (jx _ h)
  .rcases jj.1 h with h|h
   .exact jx _ (k5 _ h)
   .exact k5 _ h
 simp only[jld];rw[bA hL.z0 hL.z1,j6,eH'];simp only[j4,jp,jw,ki];rw[ah (show H.length<=aG by unfold aG;omega),j6];by_cases hw:(L.2.2.2.2.2.2.1.length:D)>0
 .have e0:=ļ (zs:=zs) (ps:=ps) (cs:=cs) (ss:=ss) (L:=L) (W:=W) omg_ W.length 0 H omg_ omg_;rw[show ((0:J):D)=0 from rfl,jr]at e0;rw[ah (show I L.2.2.2.2.2.2.1.length>0 from hw),j6];rw[show jaY ((zs.getD L.2.1.toNat (o,((0:D),([]:E aN)))).1,((zs.getD L.2.1.toNat (o,((0:D),([]:E aN)))).2.1,(zs.getD L.2.1.toNat (o,((0:D),([]:E aN)))).2.2)) L.2.2.2.2.2.2.1 a b=_ from eW hw];simp only[j4,e0];have rZ:=jFx W;by_cases hm:L.2.2.2.2.2.2.2.2=0
  .rw[cR hm,j6];refine⟨_,rfl,by rw[jc];omega,aA _ (λc h=>jx _ h) (λ_ c h=>k5 _ h) (λh=>absurd hm h)⟩
  .rw[ca hm,j7];obtain⟨out,eo,lo,LC,Ud⟩:=cH (H++xg W) (by rw[jc];omega) hm;exact⟨out,eo,lo,aA out (λc h=>LC c (jx _ h)) (λ_ c h=>LC c (k5 _ h)) (λ_=>Ud)⟩
 .rw[ai (show¬I L.2.2.2.2.2.2.1.length>0 from hw),j7];by_cases hm:L.2.2.2.2.2.2.2.2=0
  .rw[cR hm,j6];exact⟨H,rfl,omg_,aA _ (λc h=>h) (λh=>absurd h hw) (λh=>absurd hm h)⟩
  .rw[ca hm,j7];obtain⟨out,eo,lo,LC,Ud⟩:=cH H omg_ hm;exact⟨out,eo,lo,aA out LC (λh=>absurd h hw) (λ_=>Ud)⟩
end
theorem jvW{l:bm}(hl:l.length<=100000000)(x:fI):jjd l x=K (lh l x):=by
 simp only[jjd,lh];by_cases hx:x.2.1<=x.1
 .rw[ah hx,if_pos hx,j6]
 rw[ai hx,if_neg hx,j7,oLn_ l];rcases vc l with rfl|⟨r,u,rfl⟩
 .rfl
 rw[vd]at hl ⊢;have hlen:(r++[u]).length=r.length+1:=smp_;rw[hlen]at hl ⊢;have aT:(r++[u]).getD r.length ((0:D),((0:D),(0:D)))=u:=by simp[G]
 rw[ah (show ((r.length+1:J):D)>0 by omega),aj (x:=((r.length+1:J):D)-1),bJ,show (((r.length+1:J):D)-1).toNat=r.length by omega,aT];simp only[j6,List.getLast?_append,yl,Y,List.dropLast_concat];rw[ah (show r.length+1+[(x.1,(x.2.1,x.2.2))].length<=aG by simp[aG];omega)];simp only[j6];by_cases h1:u.2.1=x.1
 .rw[cR h1,j6];by_cases h2:u.2.2=x.2.2
  .rw[cR h2,if_pos ⟨h1,h2⟩,j6];congr 1;simp
  .rw[ca h2,if_neg (λh=>h2 h.2),j7]
 .rw[ca h1,if_neg (λh=>h1 h.1),j7]
theorem ŀ{x y p:D}:∀es:E dN,(∀e∈es,(e.2.2.2.1<=x↔e.2.2.2.1<=y)/\(e.2.2.2.2<=x↔e.2.2.2.2<=y))->jF es p x=jF es p y
 |[],_=>rfl
 |e::r,h=>by
  have h1:=h e smp_;have ih:=ŀ (p:=p) r (λu hu=>h u (by simp[hu]));unfold jF at ih ⊢;have a1:decide (e.2.2.2.1<=x)=decide (e.2.2.2.1<=y):=yg.2 h1.1;have a2:decide (x<e.2.2.2.2)=decide (y<e.2.2.2.2):=yg.2 omg_;simp only[yn];rw[a1,a2,ih]
theorem jBj{zs:E bF}{cs:E aU}{s:cu}{x y:D}(iJ:x<=y)(hp:∀L∈s.2.1,cb zs cs L x=cb zs cs L y)(he:pE (lu s.2.2) x y):cN zs cs s x=cN zs cs s y:=by
 have Ł:∀e∈s.2.2,(e.2.2.2.1<=x↔e.2.2.2.1<=y)/\(e.2.2.2.2<=x↔e.2.2.2.2<=y):=λe hm=>by
  have a:=he e.2.2.2.1 (qg.2 ⟨e,hm,smp_⟩);have b:=he e.2.2.2.2 (qg.2 ⟨e,hm,smp_⟩);exact⟨omg_,omg_⟩
 unfold cN;rw[Tp (u:=y) (pg:=dx zs cs s.2.1 y) (λi hi=>?_) (λp=>ŀ s.2.2 Ł)]
 .exact Lh s.2.2 _ (λe hm=>by have:=Ł e hm;exact⟨this.1.symm,this.2.symm⟩)
 .unfold dx;have aT:s.2.1.getD i (o,((0:D),(((0:D),(0:D)),((0:D),((0:D),(([]:E D),(([]:E (D×D)),((0:D),(0:D)))))))))=s.2.1[i]:=by simp[G,hi]
  rw[aT];exact hp _ (jf hi)
section
variable{zs:E bF}{ps:E cI}{cs:E aU}(hs:cC zs ps cs)
include hs
theorem jCZ{ss:E cu}(hc:nT (zs,(ps,(cs,ss)))){i:J}(hi:i<ss.length){t:D}(h0:0<=t)(h1:t<=8589934592):joo (zs,(ps,(cs,ss))) (i:D) t=K (cN zs cs ss[i] t):=by
 have gG:=hc.sc _ (jf hi);have fm:=gG.ll;have gV:=gG.el;have Cv:ss.getD i (o,(([]:E bP),([]:E dN)))=ss[i]:=by simp[G,hi]
 have lp:=Ϫ hs (ss:=ss) (nm:=ss[i].1) (es:=ss[i].2.2) omg_ omg_ gG.ly h0 h1 ss[i].2.1.length (jn _)
 have et:∃k,jrh (zs,(ps,(cs,ss))) (i:D) t=K (k,fc ss[i].2.2 t (dx zs cs ss[i].2.1 t) ss[i].2.1.length):=by
  simp only[jrh];rw[bJ];simp only[j6,j8,Cv,show I ss[i].2.1.length=(ss[i].2.1.length:D) from rfl];rw[aj (x:=(ss[i].2.1.length:D)-1),show F9 t ((ss[i].2.1.length:D)-1) zs ps cs ss ss[i].1 ss[i].2.1 ss[i].2.2=_ from lp];simp only[j4,fc];cases fa (gR ss[i].2.2 t (dx zs cs ss[i].2.1 t)) ss[i].2.1.length with
  |none=>exact⟨_,rfl⟩
  |some k=>exact⟨_,rfl⟩
 obtain⟨k,et⟩:=et;have ef:=ϧ (es:=ss[i].2.2) omg_ (t:=t) ss[i].2.2.length 0 (fc ss[i].2.2 t (dx zs cs ss[i].2.1 t) ss[i].2.1.length) omg_;rw[jr]at ef;simp only[joo,et,j4];rw[bJ];simp only[j6,j8,Cv,jri];rw[show Ga ss[i].2.2 (fc ss[i].2.2 t (dx zs cs ss[i].2.1 t) ss[i].2.1.length) t 0=_ from ef];rfl
theorem ł{ss:E cu}{nm:X}{ls:E bP}{es:E dN}(hl:ls.length<=6)(hL:∀L∈ls,ez zs.length ps.length cs.length L){a b:D}(ha:0<=a)(bt:a<=b)(hb:b<=8589934592)(hlen:b-a<=1209600) :
  ∀(n i:J)(acc:E D),i+n=ls.length->acc.length+2400000*n<=20000000->
  ∃out,JX a b (i:D) zs ps cs ss nm ls es acc=K (a,b,nm,ls,es,out)/\out.length<=acc.length+2400000*n/\(∀c∈acc,c∈out)/\∀L∈ls.drop i,∀x y,a<=x->x<=y->y<b->pE out x y->cb zs cs L x=cb zs cs L y
 |0,i,acc,hi,_=>by
  rw[Zm];simp only[j7R,show I ls.length=(ls.length:D) from rfl];rw[ai omg_,j7,aP,jd omg_];exact⟨acc,rfl,omg_,λc h=>h,λL h=>by simp at h⟩
 |n+1,i,acc,hi,dQ=>by
  have aq:i<ls.length:=omg_;have aT:ls.getD i (o,((0:D),(((0:D),(0:D)),((0:D),((0:D),(([]:E D),(([]:E (D×D)),((0:D),(0:D)))))))))=ls[i]:=by simp[G,aq]
  obtain⟨C,eC,lC,pC⟩:=jBh hs (ss:=ss) (hL _ (jf aq)) ha bt hb hlen;obtain⟨out,e1,e2,e3,e4⟩:=ł (ss:=ss) (nm:=nm) (es:=es) hl hL ha bt hb hlen n (i+1) (acc++C) omg_ (by rw[jc];omega);rw[Zm,jb aq];simp only[j7R,show I ls.length=(ls.length:D) from rfl];rw[ah (show (i:D)<(ls.length:D) by omega),bJ,aj (x:=(i:D)+1)];simp only[j6,j8,aT];rw[show jld (zs,(ps,(cs,ss))) (ls[i].1,(ls[i].2.1,((ls[i].2.2.1.1,ls[i].2.2.1.2),(ls[i].2.2.2.1,(ls[i].2.2.2.2.1,(ls[i].2.2.2.2.2.1,(ls[i].2.2.2.2.2.2.1,(ls[i].2.2.2.2.2.2.2.1,ls[i].2.2.2.2.2.2.2.2)))))))) a b=_ from eC];simp only[j4];rw[ah (show acc.length+C.length<=aG by unfold aG;omega),j6,aB];refine⟨out,e1,by rw[jc]at e2;omega,λc h=>e3 c (jx _ h),λL hm x y h1 h2 h3 hn=>?_⟩;rcases je.1 hm with rfl|hm
  .exact pC x y h1 h2 h3 (λc hc=>hn c (e3 c (k5 _ hc)))
  .exact e4 L hm x y h1 h2 h3 hn
omit hs in
theorem Ń{nm:X}{ls:E bP}{es:E dN}(hl:es.length<=100){a b:D}:∀(n i:J)(acc:E D),i+n=es.length->acc.length+2*n<=40000000->
  JY a b (i:D) nm ls es acc=K (a,b,acc++lu (es.drop i))
 |0,i,acc,hi,_=>by
  rw[Zn,jd omg_];simp only[j7S,show I es.length=(es.length:D) from rfl];rw[ai omg_,j7,aP];simp[lu]
 |n+1,i,acc,hi,ha=>by
  have aq:i<es.length:=omg_;have aT:es.getD i ((0:D),((0:D),((0:D),((0:D),(0:D)))))=es[i]:=by simp[G,aq]
  have ih:=Ń (nm:=nm) (ls:=ls) hl (a:=a) (b:=b) n (i+1) (acc++[es[i].2.2.2.1,es[i].2.2.2.2]) omg_ sqo_;rw[jh]at ih;rw[Zn,jb aq];simp only[j7S,show I es.length=(es.length:D) from rfl];rw[ah (show (i:D)<(es.length:D) by omega),bJ,aj (x:=(i:D)+1)];simp only[j6,j8,aT];rw[ah (by simp[aG];omega),j6,aB];exact ih
theorem jBk{ss:E cu}(hc:nT (zs,(ps,(cs,ss)))){i:J}(hi:i<ss.length){a b:D}(ha:0<=a)(bt:a<=b)(hb:b<=8589934592)(hlen:b-a<=1209600) :
  ∃B,jnq (zs,(ps,(cs,ss))) (i:D) a b=K B/\B.Pairwise (· < ·)/\B.length<=40000000/\(∀x∈B,a<=x/\x<=b)/\(∃r,B=a::r)/\(B.getD (B.length-1) 0=b)/\
   ∀x y,x∈B->x<=y->y<b->(∀c∈B,¬(x<c/\c<=y))->cN zs cs ss[i] x=cN zs cs ss[i] y:=by
 have gG:=hc.sc _ (jf hi);have fm:=gG.ll;have gV:=gG.el;have Cv:ss.getD i (o,(([]:E bP),([]:E dN)))=ss[i]:=by simp[G,hi]
 obtain⟨C,e1,e2,_,e4⟩:=ł hs (ss:=ss) (nm:=ss[i].1) (es:=ss[i].2.2) fm gG.ly ha bt hb hlen ss[i].2.1.length 0 [] omg_ sqo_;have e5:=Ń (nm:=ss[i].1) (ls:=ss[i].2.1) (es:=ss[i].2.2) omg_ (a:=a) (b:=b) ss[i].2.2.length 0 C omg_ (by simp at e2;omega);rw[show ((0:J):D)=0 from rfl,jr]at e5;rw[show ((0:J):D)=0 from rfl]at e1;rw[jr]at e4;have hel2:=Hg ss[i].2.2;simp only[jw,ki]at e2;have ej:(C++lu ss[i].2.2).length<=39000000:=by rw[jc];omega
 obtain⟨b1,b2,b3,b4,b5,b6,b7⟩:=jFw (C++lu ss[i].2.2) bt;refine⟨jU (C++lu ss[i].2.2) a b,?_,b1,omg_,b3,b5,?_,λx y hx iJ nD hn=>?_⟩
 .simp only[jnq];rw[bJ];simp only[j6,j8,Cv,e1,e5,j4,jyt (show (C++lu ss[i].2.2).length<=49000000 by omega) a b]
 .by_cases h:a<b
  .obtain⟨r,hr⟩:=b6 h;rw[hr];simp[G]
  .rw[b7 omg_];show a=b;omega
 .have lx:=b3 x hx;have df:pE (C++lu ss[i].2.2) x y:=λc hc qM=>hn c (b4 c hc omg_ omg_) qM;exact jBj iJ (λL hm=>e4 L hm x y lx.1 iJ nD df.left) df.right
omit hs in
theorem ń{f:D->D}{ss:E cu}{i:J}{B:E D}(Ă:B.length<=50000000)(hB:B.Pairwise (· < ·))(Ht:∀t∈B,joo (zs,(ps,(cs,ss))) (i:D) t=K (f t)){a b:D}(cG:B.getD (B.length-1) 0=b)
  (dG:∀x y,x∈B->x<=y->y<b->(∀c∈B,¬(x<c/\c<=y))->f x=f y):∀(n j:J)(acc:bm),j+1+n=B.length->acc.length<=j->dg f (B.getD j 0) U a acc->
  ∃out,JZ (i:D) (j:D) zs ps cs ss B acc=K out/\dg f b U a out
 |0,j,acc,hj,ha,hC=>by
  rw[Zt];simp only[j6f,show I B.length=(B.length:D) from rfl];rw[aj (x:=(j:D)+1),ai omg_,j7,aP];refine⟨acc,rfl,?_⟩;rw[<-cG,show B.length-1=j by omega];exact hC
 |n+1,j,acc,hj,ha,hC=>by
  have h1:j<B.length:=omg_;have h2:j+1<B.length:=omg_;have g1:B.getD j (0:D)=B[j]:=by simp[G,h1]
  have g2:B.getD (j+1) (0:D)=B[j+1]:=by simp[G,h2]
  have uB:=kg.1 hB;have aq:B[j]<B[j+1]:=uB j (j+1) h1 h2 omg_
  have hle:B[j+1]<=b:=by
   have gl:B.getD (B.length-1) (0:D)=B[B.length-1]:=by simp[G,show B.length-1<B.length by omega]
   rw[gl]at cG;by_cases he:j+1=B.length-1
   .have:B[j+1]=B[B.length-1]:=by congr 1
    omega
   .have:=uB (j+1) (B.length-1) h2 omg_ omg_;omega
  have hconst:∀t,B[j]<=t->t<B[j+1]->f t=f B[j]:=λt t1 t2=>(dG B[j] t (jf h1) t1 omg_ (λc hc qM=>by
   obtain⟨m,hm,rfl⟩:=List.mem_iff_getElem.1 hc;by_cases hmj:m<=j
   .by_cases he:m=j
    .subst he;omega
    .have:=uB m j hm h1 omg_;omega
   .by_cases he:m=j+1
    .subst he;omega
    .have:=uB (j+1) m h2 hm omg_;omega)).symm
  rw[g1]at hC;have hC2:=Ζ hC (s:=(B[j],(B[j+1],f B[j]))) rfl (by show B[j]<=B[j+1];omega) (λt t1 t2=>hconst t t1 t2)
  have Cg:(lh acc (B[j],(B[j+1],f B[j]))).length<=acc.length+1:=by
   unfold lh;split
   .omega
   .split
    .split
     .simp
     .simp
    .simp
  have ih:=ń Ă hB Ht cG dG n (j+1) (lh acc (B[j],(B[j+1],f B[j]))) omg_ omg_ (by rw[g2];exact hC2);rw[Zt];simp only[j6f,show I B.length=(B.length:D) from rfl];rw[aj (x:=(j:D)+1),ah (show (j:D)+1<(B.length:D) by omega),bA (show (0:D)<=(j:D) by omega) omg_,bA (show (0:D)<=(j:D)+1 by omega) omg_,show ((j:D)+1).toNat=j+1 by omega];simp only[j6,j8,g1,g2,Ht _ (jf h1),j4,jvW (show acc.length<=100000000 by omega),aB];exact ih
theorem jvX{ss:E cu}(hc:nT (zs,(ps,(cs,ss)))){i:J}(hi:i<ss.length){a b:D}(ha:0<=a)(bt:a<=b)(hb:b<=8589934592)(hlen:b-a<=1209600) :
  ∃S,jje (zs,(ps,(cs,ss))) (i:D) a b=K S/\dg (cN zs cs ss[i]) b U a S:=by
 obtain⟨B,e1,e2,e3,e4,⟨r,e5⟩,e6,e7⟩:=jBk hs hc hi ha bt hb hlen;have cq:0<B.length:=by rw[e5];simp
 obtain⟨S,f1,f2⟩:=ń (f:=cN zs cs ss[i]) (ss:=ss) (i:=i) (B:=B) omg_ e2 (λt ht=>jCZ hs hc hi (by have:=e4 t ht;omega) (by have:=e4 t ht;omega)) (a:=a) e6 e7 (B.length-1) 0 [] omg_ smp_ (by rw[e5];rfl);rw[show ((0:J):D)=0 from rfl]at f1;refine⟨S,?_,f2⟩;simp only[jje,e1,f1,j4]
theorem jyu{ss:E cu}(hc:nT (zs,(ps,(cs,ss)))){i:J}(hi:i<ss.length){a b:D}(ha:0<=a)(bt:a<=b)(hb:b<=8589934592)(hlen:b-a<=34560000):jlb (zs,(ps,(cs,ss))) (i:D) a b=K 0:=by
 have e8:=ϒ hc (ϖ hs);have er:j6V a b=K true:=by simp only[j6V];rw[ah (show a>=0 from ha),ah (show a<=8589934592 by omega),ah (show b>=a from bt),ah hb,aj (x:=b-a),ah hlen];rfl
 simp only[jlb,show jeh (zs,(ps,(cs,ss)))=_ from e8,j4,jk,j7,show I ss.length=(ss.length:D) from rfl];rw[ai (show¬(i:D)<0 by omega),ai (show¬(i:D)>=(ss.length:D) by omega)];simp only[j7,er,j4,jl]
theorem jBm{ss:E cu}(hc:nT (zs,(ps,(cs,ss)))){i:J}(hi:i<ss.length){a b:D}(ha:0<=a)(bt:a<=b)(hb:b<=8589934592)(hlen:b-a<=1209600){S:bm}(hS:dg (cN zs cs ss[i]) b U a S)(hl:S.length<=16384) :
  jcI (zs,(ps,(cs,ss))) (i:D) a b=K (S,0):=by
 obtain⟨S',e1,e2⟩:=jvX hs hc hi ha bt hb hlen;have:=e2.uniq hS;subst this;simp only[jcI,jyu hs hc hi ha bt hb omg_,e1,j4,jk,j7,show I S'.length=(S'.length:D) from rfl];rw[ai omg_,j7]
end
theorem jBn{f g:D->D}{a b i k:D}{z z':iK}(h:ClOk f g a b i k z)(h':ClOk f g a b i k z')(hp:z.1=z'.1){t:D}(h1:z.2.2.2.1<=t)(h2:t<z.2.2.2.2)(h3:z'.2.2.2.1<=t)(h4:t<z'.2.2.2.2):z=z':=by
 obtain⟨p,i1,k1,f1,t1⟩:=z;obtain⟨p',i2,k2,f2,t2⟩:=z';obtain⟨a1,a2,a3,a4,a5,a6,a7,a8,a9⟩:=h;obtain⟨b1,b2,b3,b4,b5,b6,b7,b8,b9⟩:=h';dsimp only at *;subst a1;subst a2;subst b1;subst b2;subst hp
 have e1:f1=f2:=by
  rcases R f1 f2 with q|q|q
  .rcases b8 with e|e
   .omega
   .exact absurd (a7 (f2-1) omg_ omg_) e
  .exact q
  .rcases a8 with e|e
   .omega
   .exact absurd (b7 (f1-1) omg_ omg_) e
 have e2:t1=t2:=by
  rcases R t1 t2 with q|q|q
  .rcases a9 with e|e
   .omega
   .exact absurd (b7 t1 omg_ omg_) e
  .exact q
  .rcases b9 with e|e
   .omega
   .exact absurd (a7 t2 omg_ omg_) e
 rw[e1,e2]
theorem me.sub{F:J->D->D}{m:J}{a b:D}{L L':bG}(h:me F m a b m (m+1) L)(h':me F m a b m (m+1) L'):∀z∈L,z∈L':=by
 intro z hz;obtain⟨i,k,h1,h2,_,h4⟩:=h.ok z hz;have hl:=h4.lt;have ir:=h4.hi;obtain⟨e1,e2⟩:=h4.mid z.2.2.2.1 (jy _) hl;obtain⟨z',m',g1,g2,g3,g4,g5⟩:=h'.all i k h1 h2 omg_ z.2.2.2.1 h4.lo omg_ (by rw[e1,e2]) (by rw[e1];exact h4.p);obtain⟨i',k',r1,r2,_,r4⟩:=h'.ok z' m';have ei:i'=i:=by have:=r4.i;omega
 have ek:k'=k:=by have:=r4.k;omega
 subst ei;subst ek;rw[jBn h4 r4 (by rw[g3,e1]) (jy _) hl g4 g5];exact m'
def iX(x y:iK):Bool:=cond (x.2.2.2.1 != y.2.2.2.1) (decide (x.2.2.2.1<y.2.2.2.1)) (cond (x.2.1 != y.2.1) (decide (x.2.1<y.2.1)) (decide (x.2.2.1<y.2.2.1)))
theorem jHd{x y:iK}(h:iX x y=true):x.2.2.2.1<=y.2.2.2.1:=by
 unfold iX at h;by_cases e:x.2.2.2.1=y.2.2.2.1
 .omega
 .rw[show (x.2.2.2.1 != y.2.2.2.1)=true by simpa using e,j6]at h;have:=q8 h;omega
theorem jHe{x y:iK}(h:iX x y=false):y.2.2.2.1<=x.2.2.2.1:=by
 unfold iX at h;by_cases e:x.2.2.2.1=y.2.2.2.1
 .omega
 .rw[show (x.2.2.2.1 != y.2.2.2.1)=true by simpa using e,j6]at h;have:=vv h;omega
def jG:J->bG->bG->bG->bG
 |0,out,_,_=>out
 |n+1,out,x::a,y::b=>cond (!(iX y x)) (jG n (out++[x]) a (y::b)) (jG n (out++[y]) (x::a) b)
 |n+1,out,x::a,[]=>jG n (out++[x]) a []
 |n+1,out,[],y::b=>jG n (out++[y]) [] b
 |_+1,out,[],[]=>out
def mf:J->bG->bG
 |0,l=>l
 |n+1,l=>if l.length<2 then l else jG l.length [] (mf n (l.take (l.length/2))) (mf n (l.drop (l.length/2)))
def qC(x y:iK):Prop:=x.2.2.2.1<=y.2.2.2.1
theorem Hu:∀(n:J)(out a b:bG),n=a.length+b.length->(jG n out a b).Perm (out++(a++b))
 |0,out,a,b,hn=>by
  have h1:a=[]:=k9.1 omg_;have h2:b=[]:=k9.1 omg_;subst h1;subst h2;simp[jG]
 |n+1,out,x::a,y::b,hn=>by
  simp only[ji]at hn;unfold jG;cases !(iX y x) with
  |true=>have:=Hu n (out++[x]) a (y::b) sqo_;rw[j6];simpa using this
  |false=>have:=Hu n (out++[y]) (x::a) b sqo_;rw[j7];refine this.trans ?_;rw[jh];have h:(y::((x::a)++b)).Perm ((x::a)++y::b):=List.perm_middle.symm;exact h.append_left out
 |n+1,out,x::a,[],hn=>by
  simp only[ji,jw]at hn;have:=Hu n (out++[x]) a [] sqo_;show (jG n (out++[x]) a []).Perm _;simpa using this
 |n+1,out,[],y::b,hn=>by
  simp only[ji,jw]at hn;have:=Hu n (out++[y]) [] b sqo_;show (jG n (out++[y]) [] b).Perm _;simpa using this
 |n+1,out,[],[],hn=>by simp at hn
theorem LD{out:bG}{x:iK}(h:out.Pairwise qC)(hx:∀y∈out,qC y x):(out++[x]).Pairwise qC:=
 qh.2 ⟨h,qw _ _,λy hy z hz=>by
  have:z=x:=by simpa using hz
  subst this;exact hx y hy⟩
theorem Hv:∀(n:J)(out a b:bG),n=a.length+b.length->out.Pairwise qC->a.Pairwise qC->b.Pairwise qC->(∀x∈out,(∀y∈a,qC x y)/\∀y∈b,qC x y)->(jG n out a b).Pairwise qC
 |0,out,a,b,hn,ho,_,_,_=>ho
 |n+1,out,x::a,y::b,hn,ho,ha,hb,hle=>by
  have mm:=jt.1 ha;have aW:=jt.1 hb;simp only[ji]at hn;unfold jG;cases hc:iX y x with
  |false=>
   have iJ:qC x y:=jHe hc;refine Hv n (out++[x]) a (y::b) sqo_ (LD ho λz hz=>(hle z hz).1 x smp_) mm.2 hb λz hz=>?_;rcases jj.1 hz with hz|hz
   .exact⟨λu hu=>(hle z hz).1 u (by simp[hu]),(hle z hz).2⟩
   .have:z=x:=by simpa using hz
    subst this;refine⟨mm.1,λu hu=>?_⟩;rcases je.1 hu with rfl|hu
    .exact iJ
    .exact qb iJ (aW.1 u hu)
  |true=>
   have Ņ:qC y x:=jHd hc;refine Hv n (out++[y]) (x::a) b sqo_ (LD ho λz hz=>(hle z hz).2 y smp_) ha aW.2 λz hz=>?_;rcases jj.1 hz with hz|hz
   .exact⟨(hle z hz).1,λu hu=>(hle z hz).2 u (by simp[hu])⟩
   .have:z=y:=by simpa using hz
    subst this;refine⟨λu hu=>?_,aW.1⟩;rcases je.1 hu with rfl|hu
    .exact Ņ
    .exact qb Ņ (mm.1 u hu)
 |n+1,out,x::a,[],hn,ho,ha,hb,hle=>by
  have mm:=jt.1 ha;simp only[ji,jw]at hn;refine Hv n (out++[x]) a [] sqo_ (LD ho λz hz=>(hle z hz).1 x smp_) mm.2 hb λz hz=>?_;rcases jj.1 hz with hz|hz
  .exact⟨λu hu=>(hle z hz).1 u (by simp[hu]),(hle z hz).2⟩
  .have:z=x:=by simpa using hz
   subst this;exact⟨mm.1,λu hu=>by simp at hu⟩
 |n+1,out,[],y::b,hn,ho,ha,hb,hle=>by
  have aW:=jt.1 hb;simp only[ji,jw]at hn;refine Hv n (out++[y]) [] b sqo_ (LD ho λz hz=>(hle z hz).2 y smp_) ha aW.2 λz hz=>?_;rcases jj.1 hz with hz|hz
  .exact⟨(hle z hz).1,λu hu=>(hle z hz).2 u (by simp[hu])⟩
  .have:z=y:=by simpa using hz
   subst this;exact⟨λu hu=>by simp at hu,aW.1⟩
 |n+1,out,[],[],hn,ho,_,_,_=>ho
theorem ņ:∀(n:J)(out a b:bG),a.length+b.length<=n->jG n out a b=jG (a.length+b.length) out a b:=by
 intro n;induction n with
 |zero=>intro out a b h;have:a.length+b.length=0:=omg_;rw[this]
 |succ n ih=>
  intro out a b h;match a,b,h with
  |[],[],_=>rfl
  |x::a,[],h=>simp only[ji,jw,vr]at h ⊢;show jG n (out++[x]) a []=jG a.length (out++[x]) a [];have:=ih (out++[x]) a [] sqo_;simpa using this
  |[],y::b,h=>simp only[ji,jw,ki]at h ⊢;show jG n (out++[y]) [] b=jG b.length (out++[y]) [] b;have:=ih (out++[y]) [] b sqo_;simpa using this
  |x::a,y::b,h=>simp only[ji]at h ⊢;rw[show a.length+1+(b.length+1)=(a.length+b.length+1)+1 by omega];show cond _ (jG n (out++[x]) a (y::b)) (jG n (out++[y]) (x::a) b)=cond _ (jG (a.length+b.length+1) (out++[x]) a (y::b)) (jG (a.length+b.length+1) (out++[y]) (x::a) b);have h1:=ih (out++[x]) a (y::b) sqo_;have h2:=ih (out++[y]) (x::a) b sqo_;simp only[ji]at h1 h2;rw[h1,h2,show a.length+(b.length+1)=a.length+b.length+1 by omega,show a.length+1+b.length=a.length+b.length+1 by omega]
theorem Hw:∀(n:J)(l:bG),l.length<=n+1->(mf n l).Pairwise qC/\(mf n l).Perm l
 |0,l,hl=>by
  refine⟨?_,.refl _⟩;match l,hl with
  |[],_=>exact N
  |[x],_=>exact qw _ _
 |n+1,l,hl=>by
  unfold mf;by_cases h2:l.length<2
  .rw[if_pos h2];refine⟨?_,.refl _⟩;match l,h2 with
   |[],_=>exact N
   |[x],_=>exact qw _ _
  .rw[if_neg h2];obtain⟨a1,a2⟩:=Hw n (l.take (l.length/2)) sqo_;obtain⟨b1,b2⟩:=Hw n (l.drop (l.length/2)) sqo_;have la:=a2.length_eq;have lb:=b2.length_eq;simp only[qk,zj]at la lb;rw[ņ l.length [] _ _ omg_];refine⟨Hv _ [] _ _ rfl N a1 b1 (λx hx=>by simp at hx),?_⟩;have:=Hu _ [] (mf n (l.take (l.length/2))) (mf n (l.drop (l.length/2))) rfl;refine this.trans ?_;rw[jp];have h3:=a2.append b2;rwa[kq]at h3
theorem LF:∀(n m:J)(l:bG),l.length<=n+1->l.length<=m+1->mf n l=mf m l
 |0,0,_,_,_=>rfl
 |0,m+1,l,h,_=>by unfold mf;rw[if_pos omg_]
 |n+1,0,l,_,h=>by unfold mf;rw[if_pos omg_]
 |n+1,m+1,l,h1,h2=>by
  unfold mf;by_cases h:l.length<2
  .rw[if_pos h,if_pos h]
  .rw[if_neg h,if_neg h,LF n m _ sqo_ sqo_,LF n m _ sqo_ sqo_]
end Go.Proofs.Pw
