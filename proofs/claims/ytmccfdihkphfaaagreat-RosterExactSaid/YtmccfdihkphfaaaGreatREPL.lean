/- The references of GF 11 and 12: K4 the cd nothing changes. -/
import Derived.Test.YtmccfdihkphfaaaGreatREPK
import Derived.Test.YtmccfdihkphfaaaGreatREPB
import Derived.Test.YtmccfdihkphfaaaGreatREPD
open ByteArray renaming empty->m
open _root_ renaming Int->D,List->E,Option->N,Nat->O,ByteArray->X
open Int renaming ofNat->F
open List renaming length->G,length_append->J,drop_of_length_le->K
open Option renaming some->I,none->S,map_none->Z
open Bool renaming true->U,false->Y
open Go Go.Lft
namespace Go.Proofs.Pw
def oz(out:E D)(x y:D):Prop:=∀c∈out,¬(x<c/\c<=y)
theorem oz.left{A B:E D}{x y:D}(h:oz (A++B) x y):oz A x y:=λc hc=>h c (jr _ hc)
theorem oz.right{A B:E D}{x y:D}(h:oz (A++B) x y):oz B x y:=λc hc=>h c (jn _ hc)
section
variable{zs:E bH}{ps:E dr}{cs:E bd}{ss:E cN}(hs:lz zs ps cs)
include hs
theorem jAu{L:bA}(hL:iw zs.length ps.length cs.length L){x y:D}(h0:0<=x)(jE:x<=y)(h1:y<=8589934592)
  (cY:L.2.2.2.2.2.2.2.2≠0->oz ((tb (aP zs (gn cs L.2.2.2.2.2.2.2.1).2.1)).2.map (·.1)++(gn cs L.2.2.2.2.2.2.2.1).2.2.flatMap (tL (aP zs (gn cs L.2.2.2.2.2.2.2.1).2.1))) x y):gK zs cs L x=gK zs cs L y:=by
 unfold gK;by_cases hm:L.2.2.2.2.2.2.2.2=0
 .rw[dI hm];rfl
 .have hn:=cY hm;have cH:=hL.cal hm;have hx:=ml hs cH.1 cH.2;have hz:gj (aP zs (gn cs L.2.2.2.2.2.2.2.1).2.1):=gm hs.ok hx.z0 hx.z1;rw[jCb hz h0 jE h1 (λi hi=>?_) (λd hd i i0 i1 t ht=>?_)]
  .refine hn.left _ (jx.2 ⟨(tb (aP zs (gn cs L.2.2.2.2.2.2.2.1).2.1)).2[i],jl hi,?_⟩);unfold eD;simp[List.getD,hi]
  .refine hn.right t (q8.2 ⟨d,hd,?_⟩);unfold tL;have:i=0\/i=1:=aa;rcases this with rfl|rfl
   .exact jr _ ht
   .exact jn _ ht
theorem jAv{L:bA}(hL:iw zs.length ps.length cs.length L){a b:D}(ha:0<=a)(cF:a<=b)(hb:b<=8589934592)(hlen:b-a<=34560000) :
  ∃out,jkm (zs,(ps,(cs,ss))) L a b=I out/\out.length<=2400000/\∀x y,a<=x->x<=y->y<b->oz out x y->cA zs cs L x=cA zs cs L y:=by
 have nH:=hL.rt2;have hz:gj (aP zs L.2.1):=gm hs.ok hL.z0 hL.z1;have h4:=hz.zref.2.1;have vG:(tb (aP zs L.2.1)).2.length<=4:=AG hz;obtain⟨H,eH,lH,mH⟩:=jC8 h4 nH ha cF hb aa
 have eH':j9V ((zs.getD L.2.1.toNat (m,((0:D),([]:E aL)))).1,((zs.getD L.2.1.toNat (m,((0:D),([]:E aL)))).2.1,(zs.getD L.2.1.toNat (m,((0:D),([]:E aL)))).2.2))
  (L.1,L.2.1,(L.2.2.1.1,L.2.2.1.2),L.2.2.2.1,L.2.2.2.2.1,L.2.2.2.2.2.1,L.2.2.2.2.2.2.1,L.2.2.2.2.2.2.2.1,L.2.2.2.2.2.2.2.2) a b=_:=eH
 have oH:∀x y,a<=x->x<=y->y<b->oz H x y->bV (aP zs L.2.1) L x=bV (aP zs L.2.1) L y:=λx y h1 h2 h3 hn=>
  jC9 hz nH aa h2 aa (λj v hj hv hc=>hn v (mH j v hj hv aa aa) hc)
 obtain⟨W,eW,lW,hW⟩:∃W:SL,((L.2.2.2.2.2.2.1.length:D)>0->jfh (aP zs L.2.1) L.2.2.2.2.2.2.1 a b=I (W,0))/\W.length<=1000/\
   ((L.2.2.2.2.2.2.1.length:D)>0->∀x y,a<=x->x<=y->y<b->oz (vK W) x y->hasB (fo (cD (aP zs L.2.1) x)) L.2.2.2.2.2.2.1=hasB (fo (cD (aP zs L.2.1) y)) L.2.2.2.2.2.2.1):=by
  by_cases hw:(L.2.2.2.2.2.2.1.length:D)>0
  .obtain⟨W,e,s1,s2,s3,s4⟩:=jxM h4 (ko vG aa) (GA hL.w hL.wl) hL.w hL.wl (M:=58) aa ha cF hb aa aa;have uQ:W.length<=3*59*5:=ko s3 (qm (qm hL.w3 aa) aa);rw[if_neg aa]at e;refine⟨W,λ_=>e,aa,λ_ x y h1 h2 h3 hn=>?_⟩;have fY:=jCa (W:=W) h2 (λu hu=>⟨hn u.1 (q8.2 ⟨u,hu,ae⟩),hn u.2 (q8.2 ⟨u,hu,ae⟩)⟩);obtain⟨i,i0,i1,i2⟩:=tI hz.ztab.2 (t:=x) aa aa;obtain⟨j,j0,j1,j2⟩:=tI hz.ztab.2 (t:=y) aa aa;rw[s4 i i0 x h1 aa i1 i2,s4 j j0 y aa h3 j1 j2]at fY;rw[(K3 hz aa aa i0 i1 i2).2,(K3 hz aa aa j0 j1 j2).2];exact Bool.eq_iff_iff.2 fY
  .exact⟨[],λh=>absurd h hw,ae,λh=>absurd h hw⟩
 have bT:∀x y,a<=x->x<=y->y<b->((L.2.2.2.2.2.2.1.length:D)>0->oz (vK W) x y)->okW L.2.2.2.2.2.2.1 (fo (cD (aP zs L.2.1) x))=okW L.2.2.2.2.2.2.1 (fo (cD (aP zs L.2.1) y)):=λx y h1 h2 h3 hn=>by
  unfold okW;by_cases hw:(L.2.2.2.2.2.2.1.length:D)>0
  .rw[ag hw,j6,j6];exact hW hw x y h1 h2 h3 (hn hw)
  .rw[an hw,j7,j7]
 have ay:∀out:E D,(∀c∈H,c∈out)->((L.2.2.2.2.2.2.1.length:D)>0->∀c∈vK W,c∈out)->
   (L.2.2.2.2.2.2.2.2≠0->∀c∈(tb (aP zs (gn cs L.2.2.2.2.2.2.2.1).2.1)).2.map (·.1)++(gn cs L.2.2.2.2.2.2.2.1).2.2.flatMap (tL (aP zs (gn cs L.2.2.2.2.2.2.2.1).2.1)),c∈out)->
   ∀x y,a<=x->x<=y->y<b->oz out x y->cA zs cs L x=cA zs cs L y:=λout m1 m2 m3 x y h1 h2 h3 hn=>by
  have e1:=oH x y h1 h2 h3 (λc hc=>hn c (m1 c hc));have e2:=bT x y h1 h2 h3 (λhw c hc=>hn c (m2 hw c hc));have e3:=jAu hs hL (x:=x) (y:=y) aa h2 aa (λhm c hc=>hn c (m3 hm c hc));have eon:fy zs cs L x=fy zs cs L y:=by unfold fy;rw[e1,e2,e3]
  unfold cA;rw[eon,e1]
 have cH:∀acc:E D,acc.length<=2390000->L.2.2.2.2.2.2.2.2≠0->∃out,(cond (inR L.2.2.2.2.2.2.2.1 cs.length) (cond (inR (cs.getD L.2.2.2.2.2.2.2.1.toNat (m,((0:D),([]:E D)))).2.1 zs.length)
   ((
    j0e ((zs.getD (cs.getD L.2.2.2.2.2.2.2.1.toNat (m,((0:D),([]:E D)))).2.1.toNat (m,((0:D),([]:E aL)))).1,((zs.getD (cs.getD L.2.2.2.2.2.2.2.1.toNat (m,((0:D),([]:E D)))).2.1.toNat (m,((0:D),([]:E aL)))).2.1,(zs.getD (cs.getD L.2.2.2.2.2.2.2.1.toNat (m,((0:D),([]:E D)))).2.1.toNat (m,((0:D),([]:E aL)))).2.2))).bind λr88=>
    (Al 0 zs ps cs ss (cs.getD L.2.2.2.2.2.2.2.1.toNat (m,((0:D),([]:E D)))).1 (cs.getD L.2.2.2.2.2.2.2.1.toNat (m,((0:D),([]:E D)))).2.1 (cs.getD L.2.2.2.2.2.2.2.1.toNat (m,((0:D),([]:E D)))).2.2 acc r88.1).bind λq2=>
     (Cv 0 q2.1 q2.2.1 q2.2.2.1 q2.2.2.2.1 q2.2.2.2.2.1 q2.2.2.2.2.2.1 q2.2.2.2.2.2.2.1 q2.2.2.2.2.2.2.2).bind λq4=>I q4) S) S)=I out/\out.length<=2400000/\(∀c∈acc,c∈out)/\
   ∀c∈(tb (aP zs (gn cs L.2.2.2.2.2.2.2.1).2.1)).2.map (·.1)++(gn cs L.2.2.2.2.2.2.2.1).2.2.flatMap (tL (aP zs (gn cs L.2.2.2.2.2.2.2.1).2.1)),c∈out:=λacc dJ hm=>by
  have hc:=hL.cal hm;have hx:qP zs.length (gn cs L.2.2.2.2.2.2.2.1):=ml hs hc.1 hc.2;have ia:gj (aP zs (gn cs L.2.2.2.2.2.2.2.1).2.1):=gm hs.ok hx.z0 hx.z1;have ug:(tb (aP zs (gn cs L.2.2.2.2.2.2.2.1).2.1)).2.length<=4:=AG ia;have oJ:=hx.len;have e2:=ι (zs:=zs) (ps:=ps) (cs:=cs) (ss:=ss) (x:=gn cs L.2.2.2.2.2.2.2.1) (T:=(tb (aP zs (gn cs L.2.2.2.2.2.2.2.1).2.1)).2) aa (tb (aP zs (gn cs L.2.2.2.2.2.2.2.1).2.1)).2.length 0 acc aa aa;have e4:=ξ (ps:=ps) (cs:=cs) (ss:=ss) hs.ok hx (gn cs L.2.2.2.2.2.2.2.1).2.2.length 0 (acc++(tb (aP zs (gn cs L.2.2.2.2.2.2.2.1).2.1)).2.map (·.1)) aa (by rw[J,kc];omega);rw[show ((0:O):D)=0 from rfl,jk]at e2 e4
  have fB:∀ds:E D,(ds.flatMap (tL (aP zs (gn cs L.2.2.2.2.2.2.2.1).2.1))).length<=10*ds.length:=λds=>by
   induction ds with
   |nil=>simp
   |cons d r ih=>have:=ν ia d;rw[qu,J,ji];omega
  have hf:=fB (gn cs L.2.2.2.2.2.2.2.1).2.2;rw[bU hc.1 hc.2,show inR (cs.getD L.2.2.2.2.2.2.2.1.toNat (m,((0:D),([]:E D)))).2.1 zs.length=U from bU hx.z0 hx.z1];simp only[j6];rw[show j0e ((zs.getD (cs.getD L.2.2.2.2.2.2.2.1.toNat (m,((0:D),([]:E D)))).2.1.toNat (m,((0:D),([]:E aL)))).1,((zs.getD (cs.getD L.2.2.2.2.2.2.2.1.toNat (m,((0:D),([]:E D)))).2.1.toNat (m,((0:D),([]:E aL)))).2.1,(zs.getD (cs.getD L.2.2.2.2.2.2.2.1.toNat (m,((0:D),([]:E D)))).2.1.toNat (m,((0:D),([]:E aL)))).2.2))=_ from ia.zref.2.1.1];simp only[j4];rw[show Al 0 zs ps cs ss (cs.getD L.2.2.2.2.2.2.2.1.toNat (m,((0:D),([]:E D)))).1 (cs.getD L.2.2.2.2.2.2.2.1.toNat (m,((0:D),([]:E D)))).2.1 (cs.getD L.2.2.2.2.2.2.2.1.toNat (m,((0:D),([]:E D)))).2.2 acc _=_ from e2];simp only[j4];rw[e4];refine⟨_,rfl,?_,λc h=>?_,λc h=>?_⟩
  .rw[J,J,kc];omega
  .exact jr _ (jr _ h)
  .rcases jm.1 h with h|h
   .exact jr _ (jn _ h)
   .exact jn _ h
 simp only[jkm];rw[bU hL.z0 hL.z1,j6,eH'];simp only[j4,jw,jz,kb];rw[ag (show H.length<=aG by unfold aG;omega),j6];by_cases hw:(L.2.2.2.2.2.2.1.length:D)>0
 .have e0:=θ (zs:=zs) (ps:=ps) (cs:=cs) (ss:=ss) (L:=L) (W:=W) aa W.length 0 H aa aa;rw[show ((0:O):D)=0 from rfl,jk]at e0;rw[ag (show F L.2.2.2.2.2.2.1.length>0 from hw),j6];rw[show jfh ((zs.getD L.2.1.toNat (m,((0:D),([]:E aL)))).1,((zs.getD L.2.1.toNat (m,((0:D),([]:E aL)))).2.1,(zs.getD L.2.1.toNat (m,((0:D),([]:E aL)))).2.2)) L.2.2.2.2.2.2.1 a b=_ from eW hw];simp only[j4,e0];have wG:=jEs W;by_cases hm:L.2.2.2.2.2.2.2.2=0
  .rw[dI hm,j6];refine⟨_,rfl,by rw[J];omega,ay _ (λc h=>jr _ h) (λ_ c h=>jn _ h) (λh=>absurd hm h)⟩
  .rw[cG hm,j7];obtain⟨out,eo,lo,K5,SI⟩:=cH (H++vK W) (by rw[J];omega) hm;exact⟨out,eo,lo,ay out (λc h=>K5 c (jr _ h)) (λ_ c h=>K5 c (jn _ h)) (λ_=>SI)⟩
 .rw[an (show¬F L.2.2.2.2.2.2.1.length>0 from hw),j7];by_cases hm:L.2.2.2.2.2.2.2.2=0
  .rw[dI hm,j6];exact⟨H,rfl,aa,ay _ (λc h=>h) (λh=>absurd h hw) (λh=>absurd hm h)⟩
  .rw[cG hm,j7];obtain⟨out,eo,lo,K5,SI⟩:=cH H aa hm;exact⟨out,eo,lo,ay out K5 (λh=>absurd h hw) (λ_=>SI)⟩
end
structure TG(o:D)(l:bh):Prop where
 len:l.length<=1000
 gap:∀i,i+1<l.length->eD l i+604800<=eD l (i+1)
 pos:∀i,i<l.length->0<=eD l i
 max:∀i,i<l.length->eD l i<=8589934592
 of0:∀i,i<=l.length -> -64800<=bm o l i
 of1:∀i,i<=l.length->bm o l i<=64800
section
variable{o:D}{l:bh}(h:TG o l)
include h
theorem TG.at_lt:∀(k i:O),i+k+1<l.length->eD l i+604800<=eD l (i+k+1)
 |0,i,hk=>h.gap i hk
 |k+1,i,hk=>by
  have h1:=TG.at_lt k i aa;have h2:=h.gap (i+k+1) aa;rw[show i+(k+1)+1=i+k+1+1 by omega];omega
theorem TG.at_le{i j:O}(eh:i<j)(hj:j<l.length):eD l i+604800<=eD l j:=by
 have:=h.at_lt (j-i-1) i aa;rwa[show i+(j-i-1)+1=j by omega]at this
theorem TG.frm_le1{i:O}(hi:i<=l.length):aX l i<=aX l (i+1):=by
 rcases qa i l.length with hl|hl
 .rw[gN hl];cases i with
  |zero=>rw[mi];exact h.pos 0 hl
  |succ i=>rw[gN aa];have:=h.gap i hl;omega
 .have:i=l.length:=aa;subst this;rw[mj];cases hq:l.length with
  |zero=>rw[mi];omega
  |succ n=>rw[gN aa];have:=h.max n aa;omega
theorem TG.frm_gap{i j:O}(hi:1<=i)(eh:i<j)(hj:j<=l.length):aX l i+604800<=aX l j:=by
 obtain⟨i,rfl⟩:∃i',i=i'+1:=⟨i-1,aa⟩;obtain⟨j,rfl⟩:∃j',j=j'+1:=⟨j-1,aa⟩;rw[gN aa,gN aa];exact h.at_le aa aa
theorem TG.frm_le{i j:O}(eh:i<=j)(hj:j<=l.length+1):aX l i<=aX l j:=by
 induction j with
 |zero=>have:i=0:=aa;subst this;omega
 |succ j ih=>
  by_cases he:i=j+1
  .subst he;omega
  .have h1:=ih aa aa;have h2:=h.frm_le1 (i:=j) aa;omega
theorem TG.frm_lt{i:O}(hi:i<=l.length)(h0:0<i):aX l i<aX l (i+1):=by
 rcases qa i l.length with hl|hl
 .have:=h.frm_gap (i:=i) (j:=i+1) h0 aa aa;omega
 .have:i=l.length:=aa;subst this;obtain⟨n,hn⟩:∃n,l.length=n+1:=⟨l.length-1,aa⟩;rw[mj,show aX l l.length=eD l n by rw[hn];exact gN aa];have:=h.max n aa;omega
end
theorem xB(n lo hi:D):(j87 n lo hi=I U/\j8x n lo hi=I U/\lo<=n/\n<=hi)\/(j87 n lo hi=I Y/\j8x n lo hi=I Y):=by
 by_cases h:lo<=n/\n<=hi
 .exact .inl ⟨iS h.1 h.2,iS h.1 h.2,h.1,h.2⟩
 .exact .inr ⟨Ax h,Ax h⟩
theorem jCc(r:aL):(jbj r=I 0/\jbu r=I U/\iU r)\/(jbj r=I 1/\jbu r=I Y):=by
 simp only[jbj,jbu];rcases xB r.1 1970 2240 with⟨a,b,c1,c2⟩|⟨a,b⟩
 case inr=>simp only[a,b,j4,jp,j6,j7];exact .inr ⟨trivial,trivial⟩
 rw[a,b];simp only[j4,jc,j6,j7];clear a b;rcases xB r.2.1 r.1 2240 with⟨a,b,d1,d2⟩|⟨a,b⟩
 case inr=>simp only[a,b,j4,jp,j6,j7];exact .inr ⟨trivial,trivial⟩
 rw[a,b];simp only[j4,jc,j6,j7];clear a b;rcases xB r.2.2.1 1 12 with⟨a,b,e1,e2⟩|⟨a,b⟩
 case inr=>simp only[a,b,j4,jp,j6,j7];exact .inr ⟨trivial,trivial⟩
 rw[a,b];simp only[j4,jc,j6,j7];clear a b;rcases xB r.2.2.2.1 1 5 with⟨a,b,f1,f2⟩|⟨a,b⟩
 case inr=>simp only[a,b,j4,jp,j6,j7];exact .inr ⟨trivial,trivial⟩
 rw[a,b];simp only[j4,jc,j6,j7];clear a b;rcases xB r.2.2.2.2.1 0 6 with⟨a,b,g1,g2⟩|⟨a,b⟩
 case inr=>simp only[a,b,j4,jp,j6,j7];exact .inr ⟨trivial,trivial⟩
 rw[a,b];simp only[j4,jc,j6,j7];clear a b;rcases xB r.2.2.2.2.2.1 0 86399 with⟨a,b,i1,i2⟩|⟨a,b⟩
 case inr=>simp only[a,b,j4,jp,j6,j7];exact .inr ⟨trivial,trivial⟩
 rw[a,b];simp only[j4,jc,j6,j7];clear a b;rcases xB r.2.2.2.2.2.2 (-64800) 64800 with⟨a,b,j1,j2⟩|⟨a,b⟩
 case inr=>simp only[a,b,j4,jp,j6];exact .inr ⟨trivial,trivial⟩
 rw[a,b];simp only[j4,jc,j7];exact .inl ⟨trivial,trivial,c1,d1,d2,e1,e2,f1,f2,g1,g2,i1,i2,j1,j2⟩
theorem ο{rs:E aL}(hlen:rs.length<=100)(nm:X)(o:D):∀(n i:O)(s:D),i+n=rs.length->0<=s->s<=300*i->¬(∀r∈rs.drop i,iU r)->
  Ce s rs (rs.length:D) (i:D) nm o rs=I (.inl 1)/\Cq s (i:D) nm o rs=I (.inl 1)
 |0,i,s,hi,_,_,hb=>by
  rw[K aa]at hb;exact absurd (λr hr=>by simp at hr) hb
 |n+1,i,s,hi,jD,lb,hb=>by
  have aq:i<rs.length:=aa;have hg:rs.getD i ((0:D),((0:D),((0:D),((0:D),((0:D),((0:D),(0:D)))))))=rs[i]:=by simp[aq]
  rw[Ow,OG];simp only[j1M,j1Y,show F (G rs)=(rs.length:D) from rfl];rw[ag (show (i:D)<(rs.length:D) by omega),bE];simp only[j6,j8,hg];rcases jCc rs[i]with⟨a,b,hr⟩|⟨a,b⟩
  .have h0:=hr.y0;have h1:=hr.y1;have h2:=hr.y2
   have ih:=ο hlen nm o n (i+1) (s+(rs[i].2.1-rs[i].1+1)) aa aa aa (λh=>hb λr K6=>by
    rw[jb aq]at K6;rcases je.1 K6 with rfl|K6
    .exact hr
    .exact h r K6)
   simp only[a,b,j4,jf,jc,j7,aS];rw[ar (x:=rs[i].2.1-rs[i].1),ar (x:=rs[i].2.1-rs[i].1+1),ar (x:=s+(rs[i].2.1-rs[i].1+1)),ar (x:=(i:D)+1)];exact ih
  .simp only[a,b,j4,jp,j6,aW];exact⟨rfl,trivial⟩
def nk(now:D)(p:N D):bh->N bh
 |[]=>I []
 |x::r=>if x.2=now then nk now p r else
  if -86400<x.2-now/\x.2-now<86400/\0<=x.1-now/\x.1-now<=8589934592/\(p.all λq=>decide (q+604800<=x.1-now))=U then (nk x.2 (I (x.1-now)) r).map ((x.1-now,x.2):: ·) else S
def sQ(acc:bh):N bh->D ⊕ bh
 |none=> .inl 6
 |some l=> .inr (acc++l)
theorem π(acc:bh)(y:D×D)(q:N bh):sQ acc (q.map (y :: ·))=sQ (acc++[y]) q:=by
 cases q with
 |none=>rfl
 |some l=>simp[sQ]
def OB(L:bh):Prop:=∀x∈L,(-1000000000000<=x.1/\x.1<=1000000000000) /\ -64800<=x.2/\x.2<=64800
theorem jEt{acc:bh}(h:acc≠[]):acc.getLast? = I (acc.getD (acc.length-1) (0,0)):=by
 have bK:0<acc.length:=List.length_pos_iff.2 h;rw[List.getLast?_eq_getElem?,List.getD_eq_getElem?_getD,jo (show acc.length-1<acc.length by omega)];rfl
theorem ς{L:bh}(hL:L.length<=1000)(hO:OB L):∀(n i:O)(now:D)(acc:bh),i+n=L.length -> -64800<=now->now<=64800->acc.length<=i->(∀x∈acc,0<=x.1/\x.1<=8589934592)->
  Cf now (L.length:D) (i:D) acc L=I (sQ acc (nk now (acc.getLast?.map (·.1)) (L.drop i)))/\Cr now (i:D) acc L=I (sQ acc (nk now (acc.getLast?.map (·.1)) (L.drop i)))
 |0,i,now,acc,hi,_,_,_,_=>by
  rw[Iz,Jh,K aa];simp only[j1o,j1D,show F (G L)=(L.length:D) from rfl];rw[an (show¬(i:D)<(L.length:D) by omega)];simp only[j7,aW,nk,sQ,kx];exact⟨trivial,trivial⟩
 |n+1,i,now,acc,hi,iE,om,uK,dJ=>by
  have aq:i<L.length:=aa;obtain⟨⟨x0,x1⟩,o0,o1⟩:=hO _ (jl aq);have bc:L.getD i ((0:D),(0:D))=L[i]:=by simp[aq]
  have υ:=λnow acc=>ς hL hO n (i+1) now acc;rw[jb aq,Iz,Jh];simp only[j1o,j1D,show F (G L)=(L.length:D) from rfl];rw[ag (show (i:D)<(L.length:D) by omega),bE];simp only[j6,j8,bc];generalize L[i]=x at *;rw[ar (x:=(i:D)+1)];simp only[nk,show F (G acc)=(acc.length:D) from rfl];by_cases hx:x.2=now
  .rw[if_pos hx,dI hx];simp only[j6,aS];exact υ now acc aa iE om aa dJ
  rw[if_neg hx,cG hx,ar (x:=x.1-now),ar (x:=x.2-now),ar (x:=(acc.length:D)-1)];simp only[j7]
  have SJ:∀b:Bool,(b=U->0<acc.length)->(inR ((acc.length:D)-1) acc.length || !b)=true:=λb hb=>by
   cases b with
   |false=>simp
   |true=>have:=hb rfl;rw[bE];rfl
  by_cases hd : -86400<x.2-now/\x.2-now<86400
  case neg=>rw[if_neg (λh=>hd ⟨h.1,h.2.1⟩),RX (λh=>hd ⟨aa,aa⟩)];rw[show (cond (decide (x.2-now>=86400)) U (decide (x.2-now <= -86400)))=U by simp only[vd,qk,jj];omega];rw[SJ _ ae];simp only[j6,aW,j4,jp,sQ];exact⟨trivial,trivial⟩
  rw[show (cond (decide (x.2-now>=86400)) U (decide (x.2-now <= -86400)))=Y by rw[ky];simp only[ne_eq,vd,qk,jj];omega,
   mA (show (-86399:D)<=x.2-now by omega) (show x.2-now<=86399 by omega)]
  simp only[j7,j4,jc];by_cases ha:0<=x.1-now/\x.1-now<=8589934592
  case neg=>rw[if_neg (λh=>ha ⟨h.2.2.1,h.2.2.2.1⟩),Ax ha,RX ha];simp only[j4];rw[SJ _ ae];simp only[jp,j6,aW,sQ];exact⟨trivial,trivial⟩
  rw[iS ha.1 ha.2,mA ha.1 ha.2];simp only[j4,jc,j7,jp,qr]
  have eA:=υ x.2 (acc++[(x.1-now,x.2)]) aa o0 o1 az (λy hy=>by
   rcases jm.1 hy with hy|hy
   .exact dJ y hy
   .simp at hy;subst hy;exact ha)
  rw[show (acc++[(x.1-now,x.2)]).getLast? = I (x.1-now,x.2) by simp,kn]at eA;by_cases he:acc=[]
  .subst he;simp only[jz,List.getLast?_nil,Z,Option.all_none];rw[show decide (((0:O):D)>0)=Y from rfl,if_pos ⟨hd.1,hd.2,ha.1,ha.2,trivial⟩,π];simp only[jp,yb,j6,j7];rw[ag (by simp[aG])];simp only[j6,aS];exact eA
  .have bK:0<acc.length:=List.length_pos_iff.2 he;have cX:=jEt he;have hb:=dJ (acc.getD (acc.length-1) (0,0)) (List.mem_of_getLast? cX);rw[SJ _ (λ_=>bK),bE,ag (show (acc.length:D)>0 by omega),show ((acc.length:D)-1).toNat=acc.length-1 by omega,cX];simp only[j6,kn,Option.all_some];generalize acc.getD (acc.length-1) ((0:D),(0:D))=y at *;rw[ar (x:=y.1+604800),ar (x:=x.1-now-y.1)];by_cases hg:y.1+604800<=x.1-now
   .rw[if_pos ⟨hd.1,hd.2,ha.1,ha.2,ag hg⟩,π,an (show¬x.1-now<y.1+604800 by omega),an (show¬x.1-now-y.1<604800 by omega),ag (by simp[aG];omega)];simp only[j6,j7,aS];exact eA
   .rw[if_neg (λh=>hg (kr h.2.2.2.2)),ag (show x.1-now<y.1+604800 by omega),ag (show x.1-now-y.1<604800 by omega)];simp only[j6,aW,sQ];exact⟨trivial,trivial⟩
def SK(p:N D):bh->Prop
 |[]=>True
 |x::r=>(0<=x.1/\x.1<=8589934592/\(∀q,p=I q->q+604800<=x.1) /\ -64800<=x.2/\x.2<=64800)/\SK (I x.1) r
theorem SM:∀(L l:bh)(now:D)(p:N D),OB L->nk now p L=I l->SK p l/\l.length<=L.length
 |[],l,now,p,_,h=>by
  simp only[nk,j5]at h;subst h;exact⟨trivial,jq _⟩
 |x::r,l,now,p,hO,h=>by
  have hx:=(hO x ae).2;have hr:OB r:=λy hy=>hO y (by simp[hy]);simp only[nk]at h;split at h
  .obtain⟨a,b⟩:=SM r l now p hr h;exact⟨a,az⟩
  split at h
  .next hc=>
   cases hq:nk x.2 (I (x.1-now)) r with
   |none=>rw[hq]at h;simp at h
   |some l'=>rw[hq]at h;simp only[kn,j5]at h;subst h;obtain⟨a,b⟩:=SM r l' _ _ hr hq;obtain⟨c1,c2,c3,c4,c5⟩:=hc;exact⟨⟨⟨c3,c4,λq hq=>by subst hq;simpa using c5,hx⟩,a⟩,az⟩
  .simp at h
theorem φ:∀(l:bh)(p:N D),SK p l->(∀i,i+1<l.length->eD l i+604800<=eD l (i+1))/\(∀i,i<l.length->0<=eD l i/\eD l i<=8589934592)/\
  (∀o i, -64800<=o->o<=64800->i<=l.length -> -64800<=bm o l i/\bm o l i<=64800)
 |[],_,_=>⟨λi h=>by simp at h,λi h=>by simp at h,λo i h1 h2 h3=>by
  have:i=0:=by simpa using h3
  subst this;exact⟨h1,h2⟩⟩
 |x::r,p,h=>by
  obtain⟨⟨g3,g4,g5,g6,g7⟩,g8⟩:=h;obtain⟨h1,h2,h3⟩:=φ r _ g8;refine⟨λi hi=>?_,λi hi=>?_,λo i jF lu hi=>?_⟩
  .cases i with
   |zero=>
    cases r with
    |nil=>simp at hi
    |cons y ys=>have:=g8.1.2.2.1 _ rfl;exact this
   |succ i=>exact h1 i (by simp at hi ⊢;omega)
  .cases i with
   |zero=>exact⟨g3,g4⟩
   |succ i=>exact h2 i (by simp at hi ⊢;omega)
  .cases i with
   |zero=>exact⟨jF,lu⟩
   |succ i=>
    cases i with
    |zero=>exact⟨g6,g7⟩
    |succ i=>exact h3 x.2 (i+1) g6 g7 (by simp at hi ⊢;omega)
theorem jEu{rs:E aL}(h:∀r∈rs,iU r):OB (dM (occs rs)):=λx hx=>by
 have hx:=_O hx;obtain⟨r,hr,j,_,rfl⟩:=_P hx;exact⟨RE h _ hx,(h r hr).o0,(h r hr).o1⟩
def ZF(z:X×(D×E aL)):Prop:=z.2.2.length<=100000/\(occs z.2.2).length<20
theorem χ(z:X×(D×E aL))(hf:(occs z.2.2).length<20):∃l e,j0U z=I (l,e)/\j0e z=I (l,e)/\l.length<=1000/\(e=0->TG z.2.1 l/\(-64800<=z.2.1/\z.2.1<=64800)/\nk z.2.1 S (dM (occs z.2.2))=I l):=by
 obtain⟨nm,o,rs⟩:=z;rcases xB o (-64800) 64800 with⟨a,b,o0,o1⟩|⟨a,b⟩
 case inr=>
  refine⟨[],1,?_,?_,ae,ae⟩
  .simp only[j0U,j2n,a,j4,jp,j6];rfl
  .simp only[j0e,b,j4,jp,j6]
 by_cases Ib:rs.length>16
 .refine⟨[],5,?_,?_,ae,ae⟩
  .simp only[j0U,j2n,a,j4,jc,j7,show F (G rs)=(rs.length:D) from rfl];rw[ag (show (rs.length:D)>16 by omega)];rfl
  .simp only[j0e,b,j4,jc,j7,show F (G rs)=(rs.length:D) from rfl];rw[ag (show (rs.length:D)>16 by omega)];rfl
 by_cases ay:∀r∈rs,iU r
 case neg=>
  have hb:=ο (rs:=rs) aa nm o rs.length 0 0 aa aa aa (by rwa[jk]);rw[show ((0:O):D)=0 from rfl]at hb;refine⟨[],1,?_,?_,ae,ae⟩
  .simp only[j0U,j2n,a,j4,jc,j7,show F (G rs)=(rs.length:D) from rfl];rw[an (show¬(rs.length:D)>16 by omega),j7,hb.1];rfl
  .simp only[j0e,b,j4,jc,j7,show F (G rs)=(rs.length:D) from rfl];rw[an (show¬(rs.length:D)>16 by omega),j7,hb.2];rfl
 have e0:=RG ay aa nm o rs.length 0 0 aa aa aa;have e2:=RF ay aa rs.length 0 [] aa ae;have e3:=RY ay aa nm o rs.length 0 0 aa aa aa;rw[jk]at e0 e2 e3;rw[show ((0:O):D)=0 from rfl,Int.zero_add]at e0 e3;rw[show ((0:O):D)=0 from rfl,jw]at e2;by_cases hn:(occs rs).length>640
 .refine⟨[],5,?_,?_,ae,ae⟩
  .simp only[j0U,j2n,a,j4,jc,j7,show F (G rs)=(rs.length:D) from rfl];rw[an (show¬(rs.length:D)>16 by omega),j7,e0];simp only[j4,me];rw[ag (show ((occs rs).length:D)>640 by omega)];rfl
  .simp only[j0e,b,j4,jc,j7,show F (G rs)=(rs.length:D) from rfl];rw[an (show¬(rs.length:D)>16 by omega),j7,e3];simp only[j4,me];rw[ag (show ((occs rs).length:D)>640 by omega)];rfl
 have M9:j0g (occs rs)=I (dM (occs rs)):=_e (RE ay) hf;have hl:(dM (occs rs)).length<=640:=by simp[dM,CF];omega
 have ψ:=jEu ay;obtain⟨t1,t2⟩:=ς (L:=dM (occs rs)) aa ψ (dM (occs rs)).length 0 o [] aa o0 o1 ae ae;rw[show ((0:O):D)=0 from rfl,jk,show (([]:bh).getLast?.map (·.1))=(S:N D) from rfl]at t1 t2;have f1:j0U (nm,(o,rs))=(I (sQ [] (nk o S (dM (occs rs))))).bind λq0=>sumC q0 (λa=>I (([]:bh),a)) (λb=>I (b,(0:D))):=by simp only[j0U,j2n,a,j4,jc,j7,show F (G rs)=(rs.length:D) from rfl];rw[an (show¬(rs.length:D)>16 by omega),j7,e0];simp only[j4,me];rw[an (show¬((occs rs).length:D)>640 by omega),j7,lG rs,e2];simp only[j4,M9,jf,j7,show F (dM (occs rs)).length=((dM (occs rs)).length:D) from rfl,t1]
 have f2:j0e (nm,(o,rs))=(I (sQ [] (nk o S (dM (occs rs))))).bind λq0=>sumC q0 (λa=>I (([]:bh),a)) (λb=>I (b,(0:D))):=by simp only[j0e,b,j4,jc,j7,show F (G rs)=(rs.length:D) from rfl];rw[an (show¬(rs.length:D)>16 by omega),j7,e3];simp only[j4,me];rw[an (show¬((occs rs).length:D)>640 by omega),j7,_W ay aa];simp only[j4,t2]
 cases hq:nk o S (dM (occs rs)) with
 |none=>rw[hq]at f1 f2;exact⟨[],6,f1,f2,ae,ae⟩
 |some l=>rw[hq]at f1 f2;obtain⟨hc,hlen⟩:=SM _ _ _ _ ψ hq;obtain⟨c1,c2,c3⟩:=φ l S hc;exact⟨l,0,f1,f2,aa,λ_=>⟨⟨aa,c1,λi hi=>(c2 i hi).1,λi hi=>(c2 i hi).2,λi hi=>(c3 o i o0 o1 hi).1,λi hi=>(c3 o i o0 o1 hi).2⟩,⟨o0,o1⟩,rfl⟩⟩
end Go.Proofs.Pw
