/- zI. -/
import Derived.Test.YtkoifkkadkmecaaGreatLRPQ
import Derived.Test.YtkoifkkadkmecaaGreatLRPM
import Derived.Test.YtkoifkkadkmecaaGreatLRPI
open _root_ renaming List->d,Int->o,Nat->I
open ByteArray renaming empty->q
open Option renaming some->G,none->O
open Go Go.Lft
namespace Go.Proofs.Pw
theorem Lu{k:o}:∀{l:SL}{p x:o},x∈iM k p l->∃s∈l,s.1=x
 |s::r,p,x,h=>by
  simp only[iM]at h;split at h
  .rcases je.1 h with rfl|h
   .exact⟨s,smp_,rfl⟩
   .obtain⟨u,hu,e⟩:=Lu h;exact⟨u,by simp[hu],e⟩
  .obtain⟨u,hu,e⟩:=Lu h;exact⟨u,by simp[hu],e⟩
theorem jCN{k:o}{l:SL}{x:o}(h:x∈pD k l):∃s∈l,s.1=x:=by
 match l,h with
 |s::r,h=>obtain⟨u,hu,e⟩:=Lu h;exact⟨u,by simp[hu],e⟩
theorem jCO{k:o}{l:SL}:(pD k l).length<=l.length:=by
 match l with
 |[]=>simp[pD]
 |s::r=>have:=ĝ k r s.2;simp only[pD,ji];omega
section
variable{zs:d bF}{ps:d cI}{cs:d aU}(hs:cC zs ps cs)
include hs
end
def zJ(F:cu->bm)(p:o):d cu->I
 |[]=>0
 |s::r=>(mS p (F s)).length+zJ F p r
theorem jyr{f:o->o}{a b:o}{S:bm}(hS:dg f b O a S)(ha:0<=a)(hb:b<=8589934592)(hl:S.length<=1000000)(v:o) :
  ∃out,jc6 S v=G out/\bB (a-1) out/\(∀x,bq x out↔a<=x/\x<b/\f x=v)/\out.length<=(mS v S).length/\∀u∈out,a<=u.1/\u.2<=b:=by
 have dS:(mS v S).length<=S.length:=by unfold mS;rw[ke];exact qo _ _
 have tl:=TB (v:=v) (S:=S) omg_ S.length 0 [] omg_ smp_;rw[jp,jr]at tl
 have T4:∀u∈mS v S,a<=u.1/\u.2<=b/\u.1<u.2:=λu hu=>by
  obtain⟨s,hm,rfl⟩:=jz.1 hu;have hm:=(kz.1 hm).1;have hc:=hS.ch.mem _ hm;exact⟨hc.1,hc.2.2.1,hS.pos _ hm⟩
 obtain⟨out,e3,h1,h2,h3,h4⟩:=C4 (l:=mS v S) omg_ (λu hu=>by have:=T4 u hu;omega) (lo:=a) (hi:=b) (λu hu _=>⟨(T4 u hu).1,(T4 u hu).2.1⟩);refine⟨out,?_,h1,λx=>(h2 x).trans (jGS hS),h3,h4⟩;simp only[jc6,show Int.ofNat S.length=(S.length:o) from rfl];rw[show Fv v S (S.length:o) 0 []=_ from tl];simp only[j4,e3]
section
variable{zs:d bF}{ps:d cI}{cs:d aU}{rr:d cu}{p a b:o}{F:cu->bm}{K:I}(hK:K<=2500)(ha:0<=a)(hb:b<=8589934592)
include hK ha hb
theorem Ħ{ss:d cu}(Cs:∀s∈ss,j0G ((zs,(ps,(cs,rr))),zs.map tb) s a b=G (F s)/\dg (cN zs cs s) b O a (F s)/\(F s).length<=K)(hl:ss.length<=100):∀(n i:I)(acc:SL),i+n=ss.length->acc.length<=2500*i->
  ∃L,Fw p a b ss (ss.length:o) (i:o) zs ps cs rr (zs.map tb) acc=G (.inr (acc++L))/\L.length<=zJ F p (ss.drop i)/\L.length<=2500*n/\(∀u∈L,a<=u.1/\u.2<=b/\u.1<u.2)/\∀x,bq x L↔∃s∈ss.drop i,a<=x/\x<b/\cN zs cs s x=p
 |0,i,acc,hi,BE=>by
  rw[Yn];simp only[j49];rw[ai omg_,j7,aP,jd omg_];exact⟨[],smp_,smp_,smp_,smp_,λx=>by simp[bq]⟩
 |n+1,i,acc,hi,BE=>by
  have bh:i<ss.length:=omg_;have aT:ss.getD i (q,(([]:d bP),([]:d dN)))=ss[i]:=by simp[List.getD,bh]
  obtain⟨e,hS,lS⟩:=Cs _ (jf bh);obtain⟨T,e2,t1,t2,t3,t4⟩:=jyr hS ha hb omg_ p;have dS:(mS p (F ss[i])).length<=(F ss[i]).length:=by unfold mS;rw[ke];exact qo _ _
  obtain⟨L,e3,l0,l1,l2,l3⟩:=Ħ Cs hl n (i+1) (acc++T) omg_ (by rw[jc];omega);rw[Yn,jb bh];simp only[j49,zJ];rw[ah (show (i:o)<(ss.length:o) by omega),bA (show (0:o)<=(i:o) by omega) omg_];simp only[j6,j8,aT];rw[show j0G ((zs,(ps,(cs,rr))),zs.map tb) (ss[i].1,(ss[i].2.1,ss[i].2.2)) a b=_ from e];simp only[j4,show Int.ofNat (F ss[i]).length=((F ss[i]).length:o) from rfl];rw[ai (show¬((F ss[i]).length:o)>16384 by omega),j7,e2];simp only[j4];rw[ah (show acc.length+T.length<=aG by simp[aG];omega),j6,aj (x:=(i:o)+1),aB];rw[show ((i+1:I):o)=(i:o)+1 by omega]at e3;refine⟨T++L,by rw[e3,jh],by rw[jc];omega,by rw[jc];omega,λu hu=>?_,λx=>?_⟩
  .rcases jj.1 hu with hu|hu
   .exact⟨(t4 u hu).1,(t4 u hu).2,(t1.mem u hu).2⟩
   .exact l2 u hu
  .rw[wX,t2 x,l3 x];simp only[je,exists_eq_or_imp]
theorem jFt{ss:d cu}(Cs:∀s∈ss,j0G ((zs,(ps,(cs,rr))),zs.map tb) s a b=G (F s)/\dg (cN zs cs s) b O a (F s)/\(F s).length<=K)(hl:ss.length<=3)(hrr:rr=ss)(hd:zJ F p ss<=3800) :
  ∃D,j7e ((zs,(ps,(cs,rr))),zs.map tb) p a b=G (D,0)/\bB (a-1) D/\(∀x,bq x D↔a<=x/\x<b/\ğ zs cs ss p x)/\D.length<=zJ F p ss/\∀u∈D,a<=u.1/\u.2<=b:=by
 subst hrr;obtain⟨L,e,l0,l1,l2,l3⟩:=Ħ (rr:=rr) (p:=p) hK ha hb Cs omg_ rr.length 0 [] omg_ smp_;rw[jp]at e;rw[jr]at l0;obtain⟨D,e3,h1,h2,h3,h4⟩:=C4 (l:=L) omg_ (λu hu=>by have:=l2 u hu;omega) (lo:=a) (hi:=b) (λu hu _=>⟨(l2 u hu).1,(l2 u hu).2.1⟩);refine⟨D,?_,h1,λx=>?_,omg_,h4⟩
 .simp only[j7e,show Int.ofNat rr.length=(rr.length:o) from rfl];rw[show Fw p a b rr (rr.length:o) 0 zs ps cs rr (zs.map tb) []=_ from e];simp only[j4,kV,e3,show Int.ofNat D.length=(D.length:o) from rfl];rw[ai (show¬(D.length:o)>4096 by omega),j7]
 .rw[h2 x,l3 x,jr];constructor
  .rintro⟨s,g1,g2,g3,g4⟩;exact⟨g2,g3,s,g1,g4⟩
  .rintro⟨g2,g3,s,g1,g4⟩;exact⟨s,g1,g2,g3,g4⟩
end
section
variable{zs:d bF}{ps:d cI}{cs:d aU}(hs:cC zs ps cs)
include hs
end
def BI(f:I->bm):I->bm
 |0=>[]
 |n+1=>BI f n++f n
theorem ħ(F:cu->bm){K:I}(p:o):∀ss:d cu,(∀s∈ss,(F s).length<=K)->zJ F p ss<=K*ss.length
 |[],_=>by simp[zJ]
 |s::r,h=>by
  have ih:=ħ F p r (λu hu=>h u (by simp[hu]));have h1:=h s smp_;have dS:(mS p (F s)).length<=(F s).length:=by unfold mS;rw[ke];exact qo _ _
  simp only[zJ];rw[ji,yi];omega
section
variable{zs:d bF}{ps:d cI}{cs:d aU}{ss:d cu}{a b:o}{f:I->bm}
 (hf:∀i,i<ps.length->j24 (zs,(ps,(cs,ss))) (i:o) a b=G (f i,0)/\(f i).Pairwise kI/\∀y∈f i,y.2.1=(i:o)/\zH y)(hp:ps.length<=100)(ht:(BI f ps.length).length<=16384)
include hf hp ht
end
section
variable{zs:d bF}{ps:d cI}{cs:d aU}{ss:d cu}{a b:o}{f:I->bm}
 (hf:∀i,i<ps.length->j24 (zs,(ps,(cs,ss))) (i:o) a b=G (f i,0)/\(f i).Pairwise kI/\∀y∈f i,y.2.1=(i:o)/\zH y)(hp:ps.length<=100)(ht:(BI f ps.length).length<=16384)
include hf hp ht
end
section
variable{zs:d bF}{ps:d cI}{cs:d aU}(hs:cC zs ps cs)
include hs
theorem jCP{L:bP}(hL:ez zs.length ps.length cs.length L){t u:o}(h0:0<=t)(zA:t<=u)(h1:u<=8589934592):bQ (aF zs L.2.1) L u<=bQ (aF zs L.2.1) L t+(u-t)/21600+8:=by
 have hz:=fH hs.so.ok hL.z0 hL.z1;have aQ:=hL.rt2.step;have tL:=hL.rt2.e0;have jB:=hL.c0;have hd:=hL.d0;have a':jR (aF zs L.2.1).2.1 (tb (aF zs L.2.1)).2 L t (bQ (aF zs L.2.1) L t):=(pZ hz hL.rt2 (t:=t) h0 omg_).2;have b':jR (aF zs L.2.1).2.1 (tb (aF zs L.2.1)).2 L u (bQ (aF zs L.2.1) L u):=(pZ hz hL.rt2 (t:=u) omg_ h1).2;generalize bQ (aF zs L.2.1) L t=K at *;generalize bQ (aF zs L.2.1) L u=K' at *;have hK : -1<=K:=by rcases a' with⟨h,_⟩|⟨h,_⟩<;>omega
 have hn:¬QO (aF zs L.2.1).2.1 (tb (aF zs L.2.1)).2 L t (K+1):=by
  rcases a' with⟨h,h2⟩|⟨_,_,h2⟩
  .rw[h];exact h2
  .exact h2
 by_cases hKK:K'<=K+1
 .omega
 .rcases b' with⟨h,_⟩|⟨hK0,⟨v,hv,S7⟩,_⟩
  .omega
  .obtain⟨w,hw,hwu⟩:QO (aF zs L.2.1).2.1 (tb (aF zs L.2.1)).2 L u (K+1):=QO.le hz.ztab.2 hL.rt2 (show K+1<=K' by omega) ⟨v,hv,S7⟩;have Χ:t<w:=by apply ju;intro hx;exact hn ⟨w,hw,omg_⟩
   by_cases hu:L.2.2.2.1=0
   .have h6:=hL.h6 hu;have hm:21600*(K'-(K+1))<=3600*L.2.2.2.2.1*(K'-(K+1)):=Int.mul_le_mul_of_nonneg_right omg_ omg_;unfold hO at hv hw;rw[if_pos hu]at hv hw;cases hf:fO (aF zs L.2.1).2.1 (tb (aF zs L.2.1)).2 (cM L 0) with
    |none=>rw[hf]at hv;simp at hv
    |some x=>
     rw[hf]at hv hw;simp only[j4]at hv hw;split at hv
     .split at hw
      .simp only[j5]at hv hw;have e:3600*L.2.2.2.2.1*(K'-(K+1))=3600*L.2.2.2.2.1*K'-3600*L.2.2.2.2.1*(K+1):=Int.mul_sub ..;omega
      .simp at hw
     .simp at hv
   .unfold hO at hv hw;rw[if_neg hu]at hv hw;obtain⟨k1,f1⟩:=C1 hv;obtain⟨k2,f2⟩:=C1 hw;have e:(K'-(K+1))*di L=K'*di L-(K+1)*di L:=Int.sub_mul ..;have iQ:(K'-(K+1))*1<=(K'-(K+1))*di L:=Int.mul_le_mul_of_nonneg_left aQ.1 omg_;have y_:0<=(K+1)*di L:=yy omg_ omg_;have g1:=f1.near hz.ztab.2 (by unfold cM;omega);have g2:=f2.near hz.ztab.2 (by unfold cM;omega);unfold cM at g1 g2;omega
theorem jys{L:bP}(hL:ez zs.length ps.length cs.length L){a b:o}(ha:0<=a)(hb:b<=8589934592):∀t,a<=t->t<b->fN zs cs L t=true->bQ (aF zs L.2.1) L a<=bQ (aF zs L.2.1) L t/\bQ (aF zs L.2.1) L t<=bQ (aF zs L.2.1) L a+(((b-a)/21600+8).toNat:o):=λt h1 h2 _=>by
 have e1:=Ha hs hL (t:=a) (u:=t) ha h1 omg_;have e2:=jCP hs hL (t:=a) (u:=t) ha h1 omg_;omega
theorem jCQ{L:bP}(hL:ez zs.length ps.length cs.length L){ss:d cu}{a b:o}(ha:0<=a)(bt:a<=b)(hb:b<=8589934592){M:I}(hM:M<=60)(hlen:b-a<=604800*M) :
  ∃out,j2u ((zs,(ps,(cs,ss))),zs.map tb) L a b=G out/\dg (cb zs cs L) b O a out/\out.length<=58*M+81:=by
 obtain⟨out,e,h1,h2⟩:=θ hs hL (ss:=ss) ha bt hb hM hlen (N:=((b-a)/21600+8).toNat) omg_ (κ hs hL ha omg_) (jys hs hL ha hb);refine⟨out,e,h1,?_⟩;have hw:L.2.2.2.2.2.2.1.length*(M+1)*5<=3*(M+1)*5:=k7 _ (k7 _ hL.w3)
 have hc:(if L.2.2.2.2.2.2.2.2=0 then 0 else (fM cs L.2.2.2.2.2.2.2.1).2.2.length*5)<=4*5:=by
  by_cases hm:L.2.2.2.2.2.2.2.2=0
  .rw[if_pos hm];omega
  .rw[if_neg hm];refine k7 _ (hs.c.dl _ ?_);have hq:=hL.cal hm;have hi:(L.2.2.2.2.2.2.2.1).toNat<cs.length:=omg_;unfold fM;rw[show cs.getD (L.2.2.2.2.2.2.2.1).toNat (q,((0:o),([]:d o)))=cs[(L.2.2.2.2.2.2.2.1).toNat] by simp[List.getD,hi]];exact jf hi
 omega
theorem Ĩ{a b:o}(ha:0<=a)(bt:a<=b)(hb:b<=8589934592){M K:I}(hM:M<=60)(hlen:b-a<=604800*M)(hK:K=58*M+81):∀ls:d bP,(∀L∈ls,ez zs.length ps.length cs.length L)->
  ∃E:d o,E.length<=K*ls.length/\∀L∈ls,∀x,a<x->x<b->cb zs cs L (x-1)≠cb zs cs L x->x∈E
 |[],_=>⟨[],smp_,smp_⟩
 |L::ls,hL=>by
  obtain⟨E,e1,e2⟩:=Ĩ ha bt hb hM hlen hK ls (λM hM=>hL M (by simp[hM]));obtain⟨S,_,c1,l1⟩:=jCQ hs (hL L smp_) (ss:=[]) ha bt hb hM hlen;refine⟨p9 S++E,?_,λM hM x x1 x2 x3=>?_⟩
  .have:(p9 S).length<=S.length:=by simp[p9]
   rw[jc,ji,yi];omega
  .rcases je.1 hM with rfl|hM
   .exact jx _ (((Lg c1).1 x).2 ⟨x1,x2,x3⟩)
   .exact k5 _ (e2 M hM x x1 x2 x3)
theorem ĩ{s:cu}(hk:tZ zs.length ps.length cs.length s){a b:o}(ha:0<=a)(bt:a<=b)(hb:b<=8589934592){M K:I}(hM:M<=60)(hlen:b-a<=604800*M)(hK:K=58*M+81) :
  ∃E:d o,E.length<=K*s.2.1.length+2*s.2.2.length/\∀x,a<x->x<b->cN zs cs s (x-1)≠cN zs cs s x->x∈E:=by
 obtain⟨E,e1,e2⟩:=Ĩ hs ha bt hb hM hlen hK s.2.1 hk.ly;refine⟨E++lu s.2.2,by rw[jc,Hg];omega,λx x1 x2 x3=>?_⟩;apply ju;intro hn;simp only[jj,not_or]at hn;refine x3 ?_
 have hT:fc s.2.2 (x-1) (dx zs cs s.2.1 (x-1)) s.2.1.length=fc s.2.2 x (dx zs cs s.2.1 x) s.2.1.length:=by
  refine Tp (λi hi=>?_) (λp=>Ϧ hn.2 p);apply ju;intro bz;have e:∀t,dx zs cs s.2.1 t i=cb zs cs s.2.1[i] t:=λt=>by simp[dx,List.getD,hi]
  rw[e,e]at bz;exact hn.1 (e2 _ (jf hi) x x1 x2 bz)
 unfold cN;rw[hT];refine(Lh _ _ λy hy=>?_).symm;obtain⟨m1,m2⟩:=To hy;have n1:x≠y.2.2.2.1:=λe=>hn.2 (e▸m1);have n2:x≠y.2.2.2.2:=λe=>hn.2 (e▸m2);omega
end
section
variable{zs:d bF}{ps:d cI}{cs:d aU}(hs:cC zs ps cs)
include hs
theorem jCR{ss:d cu}(hc:nT (zs,(ps,(cs,ss))))(gG:∀s∈ss,s.2.1.length<=3/\s.2.2.length<=3)(hl:ss.length<=3)(gr:ps.length<=1000){p:I}(hp:p<ps.length){a b:o}(ha:0<=a)(bt:a<b)(hb:b<=8589934592)(hlen:b-a<=1209600) :
  ∃V D A B C L,j24 (zs,(ps,(cs,ss))) (p:o) a b=G (V,0)/\j7g (zs,(ps,(cs,ss))) (p:o) a b=G (D,0)/\bB (a-1) D/\(∀x,bq x D↔a<=x/\x<b/\ğ zs cs ss p x)/\D.length<=1800/\(∀u∈D,a<=u.1/\u.2<=b)/\
   fA ps[p].2.2.2.1 D a b A/\fB ps[p].2.2.2.2.1 D B/\fC ps[p].2.2.2.2.2 (tb (aF zs ps[p].2.1)) ps[p].2.2.1 D a b C/\
   j4C (zs,(ps,(cs,ss))) a b=G (cd aw L,0)/\me (λj=>cN zs cs (ss.getD j (q,([],[])))) ss.length a b ss.length (ss.length+1) L/\L.length<=3600/\
   V.Pairwise kI/\(∀x,x∈V↔x∈jT p A B C (jS p (cd aw L)))/\V.length<=16384/\0<=ps[p].2.2.2.1/\ps[p].2.2.2.1<=604800:=by
 have pt:∀s∈ss,∃out,j0G ((zs,(ps,(cs,ss))),zs.map tb) s a b=G out/\dg (cN zs cs s) b O a out/\out.length<=600:=λs h=>by
  have hk:=hc.sc s h;have fm:=(gG s h).1;have gV:=(gG s h).2;obtain⟨S,e,hS,_⟩:=ϱ hs hk fm omg_ (ss:=ss) ha bt hb omg_;obtain⟨E,q1,q2⟩:=ĩ hs hk ha (vi bt) hb (M:=2) (K:=197) omg_ omg_ rfl;have:=Tn hS q2;exact⟨S,e,hS,omg_⟩
 have hF:∀s∈ss,j0G ((zs,(ps,(cs,ss))),zs.map tb) s a b=G ((j0G ((zs,(ps,(cs,ss))),zs.map tb) s a b).getD [])/\dg (cN zs cs s) b O a ((j0G ((zs,(ps,(cs,ss))),zs.map tb) s a b).getD [])/\((j0G ((zs,(ps,(cs,ss))),zs.map tb) s a b).getD []).length<=600:=λs h=>by
  obtain⟨out,e,h1,h2⟩:=pt s h;rw[e,qd];exact⟨rfl,h1,h2⟩
 have pM:=ħ (λs:cu=>(j0G ((zs,(ps,(cs,ss))),zs.map tb) s a b).getD []) (K:=600) (p:o) ss λs h=>(hF s h).2.2;obtain⟨D,eD,d1,d2,d3,d4⟩:=jFt (F:=λs:cu=>(j0G ((zs,(ps,(cs,ss))),zs.map tb) s a b).getD []) (p:=(p:o)) (K:=600) omg_ ha hb hF hl rfl omg_;obtain⟨L,eL,hI,lL1,lL⟩:=jvO hs (K:=600) omg_ hc hl ha bt hb hlen pt;have mb:=hc.pc ps[p] (jf hp);have hm:=T3 mb.m;have xb:oA ss.length<=3:=by have:ss.length=0\/ss.length=1\/ss.length=2\/ss.length=3:=omg_;rcases this with h|h|h|h<;>rw[h]<;>decide
 have Ī:=w9 (key:=aw) L;have Ho:=sv (key:=aw) L;obtain⟨A,B,C,eV,hA,hB,hC⟩:=jFs hs hc hp ha bt hb hlen eD d1 omg_ d4 eL
 have lA:A.length<=3601/\∀t∈A,a<t/\t<=b:=by
  rcases hA with⟨_,rfl⟩|⟨_,h⟩
  .simp
  .have:=h.len;refine⟨by split at this<;>omega,λt ht=>⟨(h.ok t ht).1,(h.ok t ht).2.1⟩⟩
 have lB:B.length<=1800/\∀t∈B,a<=t/\t<=b:=by
  rcases hB with⟨_,rfl⟩|⟨_,rfl⟩
  .simp
  .have:=jCO (k:=ps[p].2.2.2.2.1) (l:=D);refine⟨omg_,λt ht=>?_⟩;obtain⟨s,iH,rfl⟩:=jCN ht;have h1:=d4 s iH;have h2:=(d1.mem s iH).2;omega
 have lC:C.length<=2010/\∀t∈C,a<=t/\t<=b:=by
  rcases hC with⟨_,rfl⟩|⟨_,W,Q,_,_,_,_,q1,q2,q3,rfl⟩
  .simp
  .refine⟨by rw[ke];omega,λt ht=>?_⟩;obtain⟨s,iH,rfl⟩:=jz.1 ht;have h2:=(q1.mem s iH);have:=(d2 s.1).1 ((q2 s.1).1 ⟨s,iH,omg_,omg_⟩).1;omega
 have lE:=jFq (p:o) (cd aw L)
 have bE:∀t∈jS (p:o) (cd aw L),a<=t/\t<=b:=λt ht=>by
  obtain⟨z,hz,rfl⟩:=jz.1 ht;obtain⟨i',k',g1,g2,g3,g4⟩:=hI.ok z (Ho.mem_iff.1 (kz.1 hz).1);have:=g4.lo;have:=g4.lt;have:=g4.hi;omega
 obtain⟨V,e,v1,v2,v3⟩:=jHT (p:=(p:o)) omg_ (cl:=cd aw L) (A:=A) (B:=B) (C:=C) omg_ omg_ (λt ht=>by
  rcases ht with h|h|h|h
  .have:=lA.2 t h;omega
  .have:=lB.2 t h;omega
  .have:=lC.2 t h;omega
  .have:=bE t h;omega)
 exact⟨V,D,A,B,C,L,eV.trans e,jBa hs hc (λs h=>⟨hc.sc s h,(gG s h).1,by have:=(gG s h).2;omega⟩) omg_ hp ha bt hb eD hlen,d1,d2,omg_,d4,hA,hB,hC,eL,hI,omg_,v1,v2,by have:=lA.1;have:=lB.1;have:=lC.1;omega,hm.1,hm.2⟩
end
end Go.Proofs.Pw
