/- The references of FJ 11 and 12: JL the ca nothing changes. -/
import Derived.Test.YtllkgjaoejhneaaGreatSEPK
import Derived.Test.YtllkgjaoejhneaaGreatSEPB
import Derived.Test.YtllkgjaoejhneaaGreatSEPD
open ByteArray renaming empty->m
open _root_ renaming Int->D,List->E,Option->J,Nat->K,ByteArray->S
open Int renaming ofNat->F
open List renaming length->G
open Option renaming some->I,none->O,map_none->X,all_none->Y,all_some->Z
open Bool renaming true->R,false->U
open Go Go.Lft
namespace Go.Proofs.Pw
def og(out:E D)(x y:D):Prop:=∀c∈out,¬(x<c/\c<=y)
theorem og.left{A B:E D}{x y:D}(h:og (A++B) x y):og A x y:=λc hc=>h c (jx _ hc)
theorem og.right{A B:E D}{x y:D}(h:og (A++B) x y):og B x y:=λc hc=>h c (jw _ hc)
section
variable{zs:E bS}{ps:E eu}{cs:E bq}{ss:E dC}(hs:nI zs ps cs)
include hs
theorem jxb{L:bC}(hL:iR zs.length ps.length cs.length L){x y:D}(h0:0<=x)(jJ:x<=y)(h1:y<=8589934592)
  (cY:L.2.2.2.2.2.2.2.2≠0->og ((tb (aJ zs (fV cs L.2.2.2.2.2.2.2.1).2.1)).2.map (·.1)++(fV cs L.2.2.2.2.2.2.2.1).2.2.flatMap (sW (aJ zs (fV cs L.2.2.2.2.2.2.2.1).2.1))) x y):gy zs cs L x=gy zs cs L y:=by
 unfold gy;by_cases hm:L.2.2.2.2.2.2.2.2=0
 .rw[fh hm];rfl
 .have hn:=cY hm;have cA:=hL.cal hm;have hx:=lF hs cA.1 cA.2;have hz:fR (aJ zs (fV cs L.2.2.2.2.2.2.2.1).2.1):=fT hs.ok hx.z0 hx.z1;rw[jyI hz h0 jJ h1 (λi hi=>?_) (λd hd i i0 i1 t ht=>?_)]
  .refine hn.left _ (ki.2 ⟨(tb (aJ zs (fV cs L.2.2.2.2.2.2.2.1).2.1)).2[i],ju hi,?_⟩);unfold dW;simp[List.getD,hi]
  .refine hn.right t (qy.2 ⟨d,hd,?_⟩);unfold sW;have:i=0\/i=1:=aa;rcases this with rfl|rfl
   .exact jx _ ht
   .exact jw _ ht
theorem jxc{L:bC}(hL:iR zs.length ps.length cs.length L){a b:D}(ha:0<=a)(cX:a<=b)(hb:b<=8589934592)(hlen:b-a<=34560000) :
  ∃out,jid (zs,(ps,(cs,ss))) L a b=I out/\out.length<=2400000/\∀x y,a<=x->x<=y->y<b->og out x y->cK zs cs L x=cK zs cs L y:=by
 have mR:=hL.rt2;have hz:fR (aJ zs L.2.1):=fT hs.ok hL.z0 hL.z1;have h4:=hz.zref.2.1;have wM:(tb (aJ zs L.2.1)).2.length<=4:=zZ hz;obtain⟨H,eH,lH,mH⟩:=jyF h4 mR ha cX hb aa
 have eH':j8Q ((zs.getD L.2.1.toNat (m,((0:D),([]:E aH)))).1,((zs.getD L.2.1.toNat (m,((0:D),([]:E aH)))).2.1,(zs.getD L.2.1.toNat (m,((0:D),([]:E aH)))).2.2))
  (L.1,L.2.1,(L.2.2.1.1,L.2.2.1.2),L.2.2.2.1,L.2.2.2.2.1,L.2.2.2.2.2.1,L.2.2.2.2.2.2.1,L.2.2.2.2.2.2.2.1,L.2.2.2.2.2.2.2.2) a b=_:=eH
 have nO:∀x y,a<=x->x<=y->y<b->og H x y->bQ (aJ zs L.2.1) L x=bQ (aJ zs L.2.1) L y:=λx y h1 h2 h3 hn=>
  jyG hz mR aa h2 aa (λj v hj hv hc=>hn v (mH j v hj hv aa aa) hc)
 obtain⟨W,eW,lW,hW⟩:∃W:SL,((L.2.2.2.2.2.2.1.length:D)>0->jdH (aJ zs L.2.1) L.2.2.2.2.2.2.1 a b=I (W,0))/\W.length<=1000/\
   ((L.2.2.2.2.2.2.1.length:D)>0->∀x y,a<=x->x<=y->y<b->og (uI W) x y->hasB (fj (cm (aJ zs L.2.1) x)) L.2.2.2.2.2.2.1=hasB (fj (cm (aJ zs L.2.1) y)) L.2.2.2.2.2.2.1):=by
  by_cases hw:(L.2.2.2.2.2.2.1.length:D)>0
  .obtain⟨W,e,s1,s2,s3,s4⟩:=jux h4 (qc wM aa) (FF hL.w hL.wl) hL.w hL.wl (M:=58) aa ha cX hb aa aa;have ub:W.length<=3*59*5:=qc s3 (z7 (z7 hL.w3 aa) aa);rw[if_neg aa]at e;refine⟨W,λ_=>e,aa,λ_ x y h1 h2 h3 hn=>?_⟩;have gK:=jyH (W:=W) h2 (λu hu=>⟨hn u.1 (qy.2 ⟨u,hu,af⟩),hn u.2 (qy.2 ⟨u,hu,af⟩)⟩);obtain⟨i,i0,i1,i2⟩:=sT hz.ztab.2 (t:=x) aa aa;obtain⟨j,j0,j1,j2⟩:=sT hz.ztab.2 (t:=y) aa aa;rw[s4 i i0 x h1 aa i1 i2,s4 j j0 y aa h3 j1 j2]at gK;rw[(JK hz aa aa i0 i1 i2).2,(JK hz aa aa j0 j1 j2).2];exact Bool.eq_iff_iff.2 gK
  .exact⟨[],λh=>absurd h hw,af,λh=>absurd h hw⟩
 have bJ:∀x y,a<=x->x<=y->y<b->((L.2.2.2.2.2.2.1.length:D)>0->og (uI W) x y)->okW L.2.2.2.2.2.2.1 (fj (cm (aJ zs L.2.1) x))=okW L.2.2.2.2.2.2.1 (fj (cm (aJ zs L.2.1) y)):=λx y h1 h2 h3 hn=>by
  unfold okW;by_cases hw:(L.2.2.2.2.2.2.1.length:D)>0
  .rw[ah hw,jc,jc];exact hW hw x y h1 h2 h3 (hn hw)
  .rw[ak hw,jd,jd]
 have aw:∀out:E D,(∀c∈H,c∈out)->((L.2.2.2.2.2.2.1.length:D)>0->∀c∈uI W,c∈out)->
   (L.2.2.2.2.2.2.2.2≠0->∀c∈(tb (aJ zs (fV cs L.2.2.2.2.2.2.2.1).2.1)).2.map (·.1)++(fV cs L.2.2.2.2.2.2.2.1).2.2.flatMap (sW (aJ zs (fV cs L.2.2.2.2.2.2.2.1).2.1)),c∈out)->
   ∀x y,a<=x->x<=y->y<b->og out x y->cK zs cs L x=cK zs cs L y:=λout m1 m2 m3 x y h1 h2 h3 hn=>by
  have e1:=nO x y h1 h2 h3 (λc hc=>hn c (m1 c hc));have e2:=bJ x y h1 h2 h3 (λhw c hc=>hn c (m2 hw c hc));have e3:=jxb hs hL (x:=x) (y:=y) aa h2 aa (λhm c hc=>hn c (m3 hm c hc));have eon:fq zs cs L x=fq zs cs L y:=by unfold fq;rw[e1,e2,e3]
  unfold cK;rw[eon,e1]
 have cA:∀acc:E D,acc.length<=2390000->L.2.2.2.2.2.2.2.2≠0->∃out,(cond (inR L.2.2.2.2.2.2.2.1 cs.length) (cond (inR (cs.getD L.2.2.2.2.2.2.2.1.toNat (m,((0:D),([]:E D)))).2.1 zs.length)
   ((
    j0d ((zs.getD (cs.getD L.2.2.2.2.2.2.2.1.toNat (m,((0:D),([]:E D)))).2.1.toNat (m,((0:D),([]:E aH)))).1,((zs.getD (cs.getD L.2.2.2.2.2.2.2.1.toNat (m,((0:D),([]:E D)))).2.1.toNat (m,((0:D),([]:E aH)))).2.1,(zs.getD (cs.getD L.2.2.2.2.2.2.2.1.toNat (m,((0:D),([]:E D)))).2.1.toNat (m,((0:D),([]:E aH)))).2.2))).bind λr88=>
    (zH 0 zs ps cs ss (cs.getD L.2.2.2.2.2.2.2.1.toNat (m,((0:D),([]:E D)))).1 (cs.getD L.2.2.2.2.2.2.2.1.toNat (m,((0:D),([]:E D)))).2.1 (cs.getD L.2.2.2.2.2.2.2.1.toNat (m,((0:D),([]:E D)))).2.2 acc r88.1).bind λq2=>
     (BW 0 q2.1 q2.2.1 q2.2.2.1 q2.2.2.2.1 q2.2.2.2.2.1 q2.2.2.2.2.2.1 q2.2.2.2.2.2.2.1 q2.2.2.2.2.2.2.2).bind λq4=>I q4) O) O)=I out/\out.length<=2400000/\(∀c∈acc,c∈out)/\
   ∀c∈(tb (aJ zs (fV cs L.2.2.2.2.2.2.2.1).2.1)).2.map (·.1)++(fV cs L.2.2.2.2.2.2.2.1).2.2.flatMap (sW (aJ zs (fV cs L.2.2.2.2.2.2.2.1).2.1)),c∈out:=λacc dI hm=>by
  have hc:=hL.cal hm;have hx:pV zs.length (fV cs L.2.2.2.2.2.2.2.1):=lF hs hc.1 hc.2;have gm:fR (aJ zs (fV cs L.2.2.2.2.2.2.2.1).2.1):=fT hs.ok hx.z0 hx.z1;have tD:(tb (aJ zs (fV cs L.2.2.2.2.2.2.2.1).2.1)).2.length<=4:=zZ gm;have nS:=hx.len;have e2:=ZT (zs:=zs) (ps:=ps) (cs:=cs) (ss:=ss) (x:=fV cs L.2.2.2.2.2.2.2.1) (T:=(tb (aJ zs (fV cs L.2.2.2.2.2.2.2.1).2.1)).2) aa (tb (aJ zs (fV cs L.2.2.2.2.2.2.2.1).2.1)).2.length 0 acc aa aa;have e4:=ZV (ps:=ps) (cs:=cs) (ss:=ss) hs.ok hx (fV cs L.2.2.2.2.2.2.2.1).2.2.length 0 (acc++(tb (aJ zs (fV cs L.2.2.2.2.2.2.2.1).2.1)).2.map (·.1)) aa (by rw[jn,ky];omega);rw[show ((0:K):D)=0 from rfl,jt]at e2 e4
  have fD:∀ds:E D,(ds.flatMap (sW (aJ zs (fV cs L.2.2.2.2.2.2.2.1).2.1))).length<=10*ds.length:=λds=>by
   induction ds with
   |nil=>simp
   |cons d r ih=>have:=ZU gm d;rw[zf,jn,jq];omega
  have hf:=fD (fV cs L.2.2.2.2.2.2.2.1).2.2;rw[cb hc.1 hc.2,show inR (cs.getD L.2.2.2.2.2.2.2.1.toNat (m,((0:D),([]:E D)))).2.1 zs.length=R from cb hx.z0 hx.z1];simp only[jc];rw[show j0d ((zs.getD (cs.getD L.2.2.2.2.2.2.2.1.toNat (m,((0:D),([]:E D)))).2.1.toNat (m,((0:D),([]:E aH)))).1,((zs.getD (cs.getD L.2.2.2.2.2.2.2.1.toNat (m,((0:D),([]:E D)))).2.1.toNat (m,((0:D),([]:E aH)))).2.1,(zs.getD (cs.getD L.2.2.2.2.2.2.2.1.toNat (m,((0:D),([]:E D)))).2.1.toNat (m,((0:D),([]:E aH)))).2.2))=_ from gm.zref.2.1.1];simp only[ja];rw[show zH 0 zs ps cs ss (cs.getD L.2.2.2.2.2.2.2.1.toNat (m,((0:D),([]:E D)))).1 (cs.getD L.2.2.2.2.2.2.2.1.toNat (m,((0:D),([]:E D)))).2.1 (cs.getD L.2.2.2.2.2.2.2.1.toNat (m,((0:D),([]:E D)))).2.2 acc _=_ from e2];simp only[ja];rw[e4];refine⟨_,rfl,?_,λc h=>?_,λc h=>?_⟩
  .rw[jn,jn,ky];omega
  .exact jx _ (jx _ h)
  .rcases js.1 h with h|h
   .exact jx _ (jw _ h)
   .exact jw _ h
 simp only[jid];rw[cb hL.z0 hL.z1,jc,eH'];simp only[ja,kc,kr,ko];rw[ah (show H.length<=aF by unfold aF;omega),jc];by_cases hw:(L.2.2.2.2.2.2.1.length:D)>0
 .have e0:=ZS (zs:=zs) (ps:=ps) (cs:=cs) (ss:=ss) (L:=L) (W:=W) aa W.length 0 H aa aa;rw[show ((0:K):D)=0 from rfl,jt]at e0;rw[ah (show F L.2.2.2.2.2.2.1.length>0 from hw),jc];rw[show jdH ((zs.getD L.2.1.toNat (m,((0:D),([]:E aH)))).1,((zs.getD L.2.1.toNat (m,((0:D),([]:E aH)))).2.1,(zs.getD L.2.1.toNat (m,((0:D),([]:E aH)))).2.2)) L.2.2.2.2.2.2.1 a b=_ from eW hw];simp only[ja,e0];have xI:=jAW W;by_cases hm:L.2.2.2.2.2.2.2.2=0
  .rw[fh hm,jc];refine⟨_,rfl,by rw[jn];omega,aw _ (λc h=>jx _ h) (λ_ c h=>jw _ h) (λh=>absurd hm h)⟩
  .rw[cU hm,jd];obtain⟨out,eo,lo,JM,Q0⟩:=cA (H++uI W) (by rw[jn];omega) hm;exact⟨out,eo,lo,aw out (λc h=>JM c (jx _ h)) (λ_ c h=>JM c (jw _ h)) (λ_=>Q0)⟩
 .rw[ak (show¬F L.2.2.2.2.2.2.1.length>0 from hw),jd];by_cases hm:L.2.2.2.2.2.2.2.2=0
  .rw[fh hm,jc];exact⟨H,rfl,aa,aw _ (λc h=>h) (λh=>absurd h hw) (λh=>absurd hm h)⟩
  .rw[cU hm,jd];obtain⟨out,eo,lo,JM,Q0⟩:=cA H aa hm;exact⟨out,eo,lo,aw out JM (λh=>absurd h hw) (λ_=>Q0)⟩
end
structure TG(o:D)(l:bg):Prop where
 len:l.length<=1000
 gap:∀i,i+1<l.length->dW l i+604800<=dW l (i+1)
 pos:∀i,i<l.length->0<=dW l i
 max:∀i,i<l.length->dW l i<=8589934592
 of0:∀i,i<=l.length -> -64800<=bj o l i
 of1:∀i,i<=l.length->bj o l i<=64800
section
variable{o:D}{l:bg}(h:TG o l)
include h
theorem TG.at_lt:∀(k i:K),i+k+1<l.length->dW l i+604800<=dW l (i+k+1)
 |0,i,hk=>h.gap i hk
 |k+1,i,hk=>by
  have h1:=TG.at_lt k i aa;have h2:=h.gap (i+k+1) aa;rw[show i+(k+1)+1=i+k+1+1 by omega];omega
theorem TG.at_le{i j:K}(ee:i<j)(hj:j<l.length):dW l i+604800<=dW l j:=by
 have:=h.at_lt (j-i-1) i aa;rwa[show i+(j-i-1)+1=j by omega]at this
theorem TG.frm_le1{i:K}(hi:i<=l.length):aS l i<=aS l (i+1):=by
 rcases qx i l.length with hl|hl
 .rw[gE hl];cases i with
  |zero=>rw[lD];exact h.pos 0 hl
  |succ i=>rw[gE aa];have:=h.gap i hl;omega
 .have:i=l.length:=aa;subst this;rw[lE];cases hq:l.length with
  |zero=>rw[lD];omega
  |succ n=>rw[gE aa];have:=h.max n aa;omega
theorem TG.frm_gap{i j:K}(hi:1<=i)(ee:i<j)(hj:j<=l.length):aS l i+604800<=aS l j:=by
 obtain⟨i,rfl⟩:∃i',i=i'+1:=⟨i-1,aa⟩;obtain⟨j,rfl⟩:∃j',j=j'+1:=⟨j-1,aa⟩;rw[gE aa,gE aa];exact h.at_le aa aa
theorem TG.frm_le{i j:K}(ee:i<=j)(hj:j<=l.length+1):aS l i<=aS l j:=by
 induction j with
 |zero=>have:i=0:=aa;subst this;omega
 |succ j ih=>
  by_cases he:i=j+1
  .subst he;omega
  .have h1:=ih aa aa;have h2:=h.frm_le1 (i:=j) aa;omega
theorem TG.frm_lt{i:K}(hi:i<=l.length)(h0:0<i):aS l i<aS l (i+1):=by
 rcases qx i l.length with hl|hl
 .have:=h.frm_gap (i:=i) (j:=i+1) h0 aa aa;omega
 .have:i=l.length:=aa;subst this;obtain⟨n,hn⟩:∃n,l.length=n+1:=⟨l.length-1,aa⟩;rw[lE,show aS l l.length=dW l n by rw[hn];exact gE aa];have:=h.max n aa;omega
end
theorem wX(n lo hi:D):(j7b n lo hi=I R/\j7z n lo hi=I R/\lo<=n/\n<=hi)\/(j7b n lo hi=I U/\j7z n lo hi=I U):=by
 by_cases h:lo<=n/\n<=hi
 .exact .inl ⟨iE h.1 h.2,iE h.1 h.2,h.1,h.2⟩
 .exact .inr ⟨zR h,zR h⟩
theorem jyJ(r:aH):(ja4 r=I 0/\jaa r=I R/\iF r)\/(ja4 r=I 1/\jaa r=I U):=by
 simp only[ja4,jaa];rcases wX r.1 1970 2240 with⟨a,b,c1,c2⟩|⟨a,b⟩
 case inr=>simp only[a,b,ja,jv,jc,jd];exact .inr ⟨trivial,trivial⟩
 rw[a,b];simp only[ja,jk,jc,jd];clear a b;rcases wX r.2.1 r.1 2240 with⟨a,b,d1,d2⟩|⟨a,b⟩
 case inr=>simp only[a,b,ja,jv,jc,jd];exact .inr ⟨trivial,trivial⟩
 rw[a,b];simp only[ja,jk,jc,jd];clear a b;rcases wX r.2.2.1 1 12 with⟨a,b,e1,e2⟩|⟨a,b⟩
 case inr=>simp only[a,b,ja,jv,jc,jd];exact .inr ⟨trivial,trivial⟩
 rw[a,b];simp only[ja,jk,jc,jd];clear a b;rcases wX r.2.2.2.1 1 5 with⟨a,b,f1,f2⟩|⟨a,b⟩
 case inr=>simp only[a,b,ja,jv,jc,jd];exact .inr ⟨trivial,trivial⟩
 rw[a,b];simp only[ja,jk,jc,jd];clear a b;rcases wX r.2.2.2.2.1 0 6 with⟨a,b,g1,g2⟩|⟨a,b⟩
 case inr=>simp only[a,b,ja,jv,jc,jd];exact .inr ⟨trivial,trivial⟩
 rw[a,b];simp only[ja,jk,jc,jd];clear a b;rcases wX r.2.2.2.2.2.1 0 86399 with⟨a,b,i1,i2⟩|⟨a,b⟩
 case inr=>simp only[a,b,ja,jv,jc,jd];exact .inr ⟨trivial,trivial⟩
 rw[a,b];simp only[ja,jk,jc,jd];clear a b;rcases wX r.2.2.2.2.2.2 (-64800) 64800 with⟨a,b,j1,j2⟩|⟨a,b⟩
 case inr=>simp only[a,b,ja,jv,jc];exact .inr ⟨trivial,trivial⟩
 rw[a,b];simp only[ja,jk,jd];exact .inl ⟨trivial,trivial,c1,d1,d2,e1,e2,f1,f2,g1,g2,i1,i2,j1,j2⟩
theorem ZX{rs:E aH}(hlen:rs.length<=100)(nm:S)(o:D):∀(n i:K)(s:D),i+n=rs.length->0<=s->s<=300*i->¬(∀r∈rs.drop i,iF r)->
  BI s rs (rs.length:D) (i:D) nm o rs=I (.inl 1)/\BT s (i:D) nm o rs=I (.inl 1)
 |0,i,s,hi,_,_,hb=>by
  rw[jj aa]at hb;exact absurd (λr hr=>by simp at hr) hb
 |n+1,i,s,hi,iN,kJ,hb=>by
  have au:i<rs.length:=aa;have hg:rs.getD i ((0:D),((0:D),((0:D),((0:D),((0:D),((0:D),(0:D)))))))=rs[i]:=by simp[au]
  rw[Nb,Nj];simp only[j1F,j1P,show F (G rs)=(rs.length:D) from rfl];rw[ah (show (i:D)<(rs.length:D) by omega),bP];simp only[jc,je,hg];rcases jyJ rs[i]with⟨a,b,hr⟩|⟨a,b⟩
  .have h0:=hr.y0;have h1:=hr.y1;have h2:=hr.y2
   have ih:=ZX hlen nm o n (i+1) (s+(rs[i].2.1-rs[i].1+1)) aa aa aa (λh=>hb λr JN=>by
    rw[jh au]at JN;rcases jl.1 JN with rfl|JN
    .exact hr
    .exact h r JN)
   simp only[a,b,ja,jm,jk,jd,aV];rw[ar (x:=rs[i].2.1-rs[i].1),ar (x:=rs[i].2.1-rs[i].1+1),ar (x:=s+(rs[i].2.1-rs[i].1+1)),ar (x:=(i:D)+1)];exact ih
  .simp only[a,b,ja,jv,jc,ba];exact⟨rfl,trivial⟩
def mE(now:D)(p:J D):bg->J bg
 |[]=>I []
 |x::r=>if x.2=now then mE now p r else
  if -86400<x.2-now/\x.2-now<86400/\0<=x.1-now/\x.1-now<=8589934592/\(p.all λq=>decide (q+604800<=x.1-now))=R then (mE x.2 (I (x.1-now)) r).map ((x.1-now,x.2):: ·) else O
def sf(acc:bg):J bg->D ⊕ bg
 |none=> .inl 6
 |some l=> .inr (acc++l)
theorem ZY(acc:bg)(y:D×D)(q:J bg):sf acc (q.map (y :: ·))=sf (acc++[y]) q:=by
 cases q with
 |none=>rfl
 |some l=>simp[sf]
def OB(L:bg):Prop:=∀x∈L,(-1000000000000<=x.1/\x.1<=1000000000000) /\ -64800<=x.2/\x.2<=64800
theorem jAX{acc:bg}(h:acc≠[]):acc.getLast? = I (acc.getD (acc.length-1) (0,0)):=by
 have bU:0<acc.length:=List.length_pos_iff.2 h;rw[List.getLast?_eq_getElem?,List.getD_eq_getElem?_getD,kb (show acc.length-1<acc.length by omega)];rfl
theorem ZZ{L:bg}(hL:L.length<=1000)(hO:OB L):∀(n i:K)(now:D)(acc:bg),i+n=L.length -> -64800<=now->now<=64800->acc.length<=i->(∀x∈acc,0<=x.1/\x.1<=8589934592)->
  BJ now (L.length:D) (i:D) acc L=I (sf acc (mE now (acc.getLast?.map (·.1)) (L.drop i)))/\BU now (i:D) acc L=I (sf acc (mE now (acc.getLast?.map (·.1)) (L.drop i)))
 |0,i,now,acc,hi,_,_,_,_=>by
  rw[Hp,HW,jj aa];simp only[j1j,j1x,show F (G L)=(L.length:D) from rfl];rw[ak (show¬(i:D)<(L.length:D) by omega)];simp only[jd,ba,mE,sf,qh];exact⟨trivial,trivial⟩
 |n+1,i,now,acc,hi,kK,nA,Be,dI=>by
  have au:i<L.length:=aa;obtain⟨⟨x0,x1⟩,o0,o1⟩:=hO _ (ju au);have bm:L.getD i ((0:D),(0:D))=L[i]:=by simp[au]
  have Z0:=λnow acc=>ZZ hL hO n (i+1) now acc;rw[jh au,Hp,HW];simp only[j1j,j1x,show F (G L)=(L.length:D) from rfl];rw[ah (show (i:D)<(L.length:D) by omega),bP];simp only[jc,je,bm];generalize L[i]=x at *;rw[ar (x:=(i:D)+1)];simp only[mE,show F (G acc)=(acc.length:D) from rfl];by_cases hx:x.2=now
  .rw[if_pos hx,fh hx];simp only[jc,aV];exact Z0 now acc aa kK nA aa dI
  rw[if_neg hx,cU hx,ar (x:=x.1-now),ar (x:=x.2-now),ar (x:=(acc.length:D)-1)];simp only[jd]
  have Q1:∀b:Bool,(b=R->0<acc.length)->(inR ((acc.length:D)-1) acc.length || !b)=true:=λb hb=>by
   cases b with
   |false=>simp
   |true=>have:=hb rfl;rw[bP];rfl
  by_cases hd : -86400<x.2-now/\x.2-now<86400
  case neg=>rw[if_neg (λh=>hd ⟨h.1,h.2.1⟩),Qn (λh=>hd ⟨aa,aa⟩)];rw[show (cond (decide (x.2-now>=86400)) R (decide (x.2-now <= -86400)))=R by simp only[vu,qw,jr];omega];rw[Q1 _ af];simp only[jc,ba,ja,jv,sf];exact⟨trivial,trivial⟩
  rw[show (cond (decide (x.2-now>=86400)) R (decide (x.2-now <= -86400)))=U by rw[qj];simp only[ne_eq,vu,qw,jr];omega,
   lP (show (-86399:D)<=x.2-now by omega) (show x.2-now<=86399 by omega)]
  simp only[jd,ja,jk];by_cases ha:0<=x.1-now/\x.1-now<=8589934592
  case neg=>rw[if_neg (λh=>ha ⟨h.2.2.1,h.2.2.2.1⟩),zR ha,Qn ha];simp only[ja];rw[Q1 _ af];simp only[jv,jc,ba,sf];exact⟨trivial,trivial⟩
  rw[iE ha.1 ha.2,lP ha.1 ha.2];simp only[ja,jk,jd,jv,zw]
  have ff:=Z0 x.2 (acc++[(x.1-now,x.2)]) aa o0 o1 ay (λy hy=>by
   rcases js.1 hy with hy|hy
   .exact dI y hy
   .simp at hy;subst hy;exact ha)
  rw[show (acc++[(x.1-now,x.2)]).getLast? = I (x.1-now,x.2) by simp,qa]at ff;by_cases he:acc=[]
  .subst he;simp only[kr,List.getLast?_nil,X,Y];rw[show decide (((0:K):D)>0)=U from rfl,if_pos ⟨hd.1,hd.2,ha.1,ha.2,trivial⟩,ZY];simp only[jv,Bool.or_true,jc,jd];rw[ah (by simp[aF])];simp only[jc,aV];exact ff
  .have bU:0<acc.length:=List.length_pos_iff.2 he;have cG:=jAX he;have hb:=dI (acc.getD (acc.length-1) (0,0)) (List.mem_of_getLast? cG);rw[Q1 _ (λ_=>bU),bP,ah (show (acc.length:D)>0 by omega),show ((acc.length:D)-1).toNat=acc.length-1 by omega,cG];simp only[jc,qa,Z];generalize acc.getD (acc.length-1) ((0:D),(0:D))=y at *;rw[ar (x:=y.1+604800),ar (x:=x.1-now-y.1)];by_cases hg:y.1+604800<=x.1-now
   .rw[if_pos ⟨hd.1,hd.2,ha.1,ha.2,ah hg⟩,ZY,ak (show¬x.1-now<y.1+604800 by omega),ak (show¬x.1-now-y.1<604800 by omega),ah (by simp[aF];omega)];simp only[jc,jd,aV];exact ff
   .rw[if_neg (λh=>hg (qb h.2.2.2.2)),ah (show x.1-now<y.1+604800 by omega),ah (show x.1-now-y.1<604800 by omega)];simp only[jc,ba,sf];exact⟨trivial,trivial⟩
def Q2(p:J D):bg->Prop
 |[]=>True
 |x::r=>(0<=x.1/\x.1<=8589934592/\(∀q,p=I q->q+604800<=x.1) /\ -64800<=x.2/\x.2<=64800)/\Q2 (I x.1) r
theorem Q3:∀(L l:bg)(now:D)(p:J D),OB L->mE now p L=I l->Q2 p l/\l.length<=L.length
 |[],l,now,p,_,h=>by
  simp only[mE,jb]at h;subst h;exact⟨trivial,jy _⟩
 |x::r,l,now,p,hO,h=>by
  have hx:=(hO x af).2;have hr:OB r:=λy hy=>hO y (by simp[hy]);simp only[mE]at h;split at h
  .obtain⟨a,b⟩:=Q3 r l now p hr h;exact⟨a,ay⟩
  split at h
  .next hc=>
   cases hq:mE x.2 (I (x.1-now)) r with
   |none=>rw[hq]at h;simp at h
   |some l'=>rw[hq]at h;simp only[qa,jb]at h;subst h;obtain⟨a,b⟩:=Q3 r l' _ _ hr hq;obtain⟨c1,c2,c3,c4,c5⟩:=hc;exact⟨⟨⟨c3,c4,λq hq=>by subst hq;simpa using c5,hx⟩,a⟩,ay⟩
  .simp at h
theorem Z1:∀(l:bg)(p:J D),Q2 p l->(∀i,i+1<l.length->dW l i+604800<=dW l (i+1))/\(∀i,i<l.length->0<=dW l i/\dW l i<=8589934592)/\
  (∀o i, -64800<=o->o<=64800->i<=l.length -> -64800<=bj o l i/\bj o l i<=64800)
 |[],_,_=>⟨λi h=>by simp at h,λi h=>by simp at h,λo i h1 h2 h3=>by
  have:i=0:=by simpa using h3
  subst this;exact⟨h1,h2⟩⟩
 |x::r,p,h=>by
  obtain⟨⟨g3,g4,g5,g6,g7⟩,g8⟩:=h;obtain⟨h1,h2,h3⟩:=Z1 r _ g8;refine⟨λi hi=>?_,λi hi=>?_,λo i lO kP hi=>?_⟩
  .cases i with
   |zero=>
    cases r with
    |nil=>simp at hi
    |cons y ys=>have:=g8.1.2.2.1 _ rfl;exact this
   |succ i=>exact h1 i (by simp at hi ⊢;omega)
  .cases i with
   |zero=>exact⟨g3,g4⟩
   |succ i=>exact h2 i (by simp at hi ⊢;omega)
  .cases i with
   |zero=>exact⟨lO,kP⟩
   |succ i=>
    cases i with
    |zero=>exact⟨g6,g7⟩
    |succ i=>exact h3 x.2 (i+1) g6 g7 (by simp at hi ⊢;omega)
theorem jAY{rs:E aH}(h:∀r∈rs,iF r):OB (dE (occs rs)):=λx hx=>by
 have hx:=Yg hx;obtain⟨r,hr,j,_,rfl⟩:=Yh hx;exact⟨P6 h _ hx,(h r hr).o0,(h r hr).o1⟩
def ZF(z:S×(D×E aH)):Prop:=z.2.2.length<=100000/\(occs z.2.2).length<20
theorem Z2(z:S×(D×E aH))(hf:(occs z.2.2).length<20):∃l e,j0P z=I (l,e)/\j0d z=I (l,e)/\l.length<=1000/\(e=0->TG z.2.1 l/\(-64800<=z.2.1/\z.2.1<=64800)/\mE z.2.1 O (dE (occs z.2.2))=I l):=by
 obtain⟨nm,o,rs⟩:=z;rcases wX o (-64800) 64800 with⟨a,b,o0,o1⟩|⟨a,b⟩
 case inr=>
  refine⟨[],1,?_,?_,af,af⟩
  .simp only[j0P,j25,a,ja,jv,jc];rfl
  .simp only[j0d,b,ja,jv,jc]
 by_cases G6:rs.length>16
 .refine⟨[],5,?_,?_,af,af⟩
  .simp only[j0P,j25,a,ja,jk,jd,show F (G rs)=(rs.length:D) from rfl];rw[ah (show (rs.length:D)>16 by omega)];rfl
  .simp only[j0d,b,ja,jk,jd,show F (G rs)=(rs.length:D) from rfl];rw[ah (show (rs.length:D)>16 by omega)];rfl
 by_cases aw:∀r∈rs,iF r
 case neg=>
  have hb:=ZX (rs:=rs) aa nm o rs.length 0 0 aa aa aa (by rwa[jt]);rw[show ((0:K):D)=0 from rfl]at hb;refine⟨[],1,?_,?_,af,af⟩
  .simp only[j0P,j25,a,ja,jk,jd,show F (G rs)=(rs.length:D) from rfl];rw[ak (show¬(rs.length:D)>16 by omega),jd,hb.1];rfl
  .simp only[j0d,b,ja,jk,jd,show F (G rs)=(rs.length:D) from rfl];rw[ak (show¬(rs.length:D)>16 by omega),jd,hb.2];rfl
 have e0:=P8 aw aa nm o rs.length 0 0 aa aa aa;have e2:=P7 aw aa rs.length 0 [] aa af;have e3:=Qo aw aa nm o rs.length 0 0 aa aa aa;rw[jt]at e0 e2 e3;rw[show ((0:K):D)=0 from rfl,Int.zero_add]at e0 e3;rw[show ((0:K):D)=0 from rfl,kc]at e2;by_cases hn:(occs rs).length>640
 .refine⟨[],5,?_,?_,af,af⟩
  .simp only[j0P,j25,a,ja,jk,jd,show F (G rs)=(rs.length:D) from rfl];rw[ak (show¬(rs.length:D)>16 by omega),jd,e0];simp only[ja,lN];rw[ah (show ((occs rs).length:D)>640 by omega)];rfl
  .simp only[j0d,b,ja,jk,jd,show F (G rs)=(rs.length:D) from rfl];rw[ak (show¬(rs.length:D)>16 by omega),jd,e3];simp only[ja,lN];rw[ah (show ((occs rs).length:D)>640 by omega)];rfl
 have L3:j0g (occs rs)=I (dE (occs rs)):=XJ (P6 aw) hf;have hl:(dE (occs rs)).length<=640:=by simp[dE,B7];omega
 have Z3:=jAY aw;obtain⟨t1,t2⟩:=ZZ (L:=dE (occs rs)) aa Z3 (dE (occs rs)).length 0 o [] aa o0 o1 af af;rw[show ((0:K):D)=0 from rfl,jt,show (([]:bg).getLast?.map (·.1))=(O:J D) from rfl]at t1 t2;have f1:j0P (nm,(o,rs))=(I (sf [] (mE o O (dE (occs rs))))).bind λq0=>sumC q0 (λa=>I (([]:bg),a)) (λb=>I (b,(0:D))):=by simp only[j0P,j25,a,ja,jk,jd,show F (G rs)=(rs.length:D) from rfl];rw[ak (show¬(rs.length:D)>16 by omega),jd,e0];simp only[ja,lN];rw[ak (show¬((occs rs).length:D)>640 by omega),jd,kT rs,e2];simp only[ja,L3,jm,jd,show F (dE (occs rs)).length=((dE (occs rs)).length:D) from rfl,t1]
 have f2:j0d (nm,(o,rs))=(I (sf [] (mE o O (dE (occs rs))))).bind λq0=>sumC q0 (λa=>I (([]:bg),a)) (λb=>I (b,(0:D))):=by simp only[j0d,b,ja,jk,jd,show F (G rs)=(rs.length:D) from rfl];rw[ak (show¬(rs.length:D)>16 by omega),jd,e3];simp only[ja,lN];rw[ak (show¬((occs rs).length:D)>640 by omega),jd,Yo aw aa];simp only[ja,t2]
 cases hq:mE o O (dE (occs rs)) with
 |none=>rw[hq]at f1 f2;exact⟨[],6,f1,f2,af,af⟩
 |some l=>rw[hq]at f1 f2;obtain⟨hc,hlen⟩:=Q3 _ _ _ _ Z3 hq;obtain⟨c1,c2,c3⟩:=Z1 l O hc;exact⟨l,0,f1,f2,aa,λ_=>⟨⟨aa,c1,λi hi=>(c2 i hi).1,λi hi=>(c2 i hi).2,λi hi=>(c3 o i o0 o1 hi).1,λi hi=>(c3 o i o0 o1 hi).2⟩,⟨o0,o1⟩,rfl⟩⟩
end Go.Proofs.Pw
