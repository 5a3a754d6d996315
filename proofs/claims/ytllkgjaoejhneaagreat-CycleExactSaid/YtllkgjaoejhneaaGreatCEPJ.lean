/- stack.SegmentsOf: its Bz form. -/
import Derived.Test.YtllkgjaoejhneaaGreatCEPI
import Derived.Test.YtllkgjaoejhneaaGreatCEPG
import Derived.Test.YtllkgjaoejhneaaGreatCEPF
open _root_ renaming Int->j,List->q,Nat->B,ByteArray->G,Option->K,Bool->Ä
open Option renaming some->A,none->Å
open Decidable renaming decide->D
open ByteArray renaming empty->E
open Nat renaming lcm->H,gcd->S,mul_le_mul->X,lcm_pos->À,div_le_self->Â,mul_pos->Ã
open List renaming getD->I,getD_eq_getElem?_getD->M,mem_or_eq_of_mem_set->N,getD_cons_zero->Y
open Int renaming ofNat->J,natCast_mul->W,natCast_ediv->Á
open Bool renaming false->U,true->Z
open Go Go.Lft
namespace Go.Proofs.Pw
def Gi(gd:B->Ä)(len:B):B->K B
 |0=>Å
 |m+1=>match Gi gd len m with
  |some i=>A i
  |none=>cond (gd (len-m-1)) (A (len-m-1)) Å
def Wv(gd:B->Ä)(pf:B->j)(len m:B):K Int:=(Gi gd len m).map pf
def apart(x y:Dr):Prop:=x.2.1<=y.1\/y.2.1<=x.1
section
variable{zs:q bz}{ps:q cZ}{cs:q aT}(hs:lG zs ps cs)
 {nm:G}{ls:q bh}{es:q cO}(hL:∀L∈ls,ig zs.length ps.length cs.length L)(oo:ls.length<=4)(hE:∀x∈es,Nn x)(fq:es.length<=9)
 {ss:q cL}{a b:j}(ha:0<=a)(oK:a<=b)(hb:b<=8589934592)(hlen:b-a<=35078400)
include hs hL oo hE fq ha oK hb hlen
structure jyQ(zs:q bz)(cs:q aT)(ls:q bh)(es:q cO)(a b:j)(m:B)(F:SL)(O:fU):Prop where
 st:sx (a-1) F
 fb:∀t,UF t F->t<b
 fr:∀t,a<=t->t<b->(UF t F↔Wv (om es t (ij zs cs ls t)) (ij zs cs ls t) ls.length m=Å)
 seg:∀x∈O,a<=x.1/\x.1<x.2.1/\x.2.1<=b/\∀t,x.1<=t->t<x.2.1->Wv (om es t (ij zs cs ls t)) (ij zs cs ls t) ls.length m=A x.2.2
 ap:O.Pairwise apart
 cov:∀t,a<=t->t<b->Wv (om es t (ij zs cs ls t)) (ij zs cs ls t) ls.length m≠Å->inG t O
 fl:F.length+300000<=2^m*300001
 ol:O.length<=m*4000000
end
section
variable{zs:q bz}{ps:q cZ}{cs:q aT}
theorem Vr{nm:G}{ls:q bh}{es:q cO}{p t:j}(hl:es.length<=1000):∀(n i:B),i+n=es.length->Cy p t (i:j) nm ls es=A (cond (nI (es.drop i) p t) (.inl Z) (.inr ()))
 |0,i,hi=>by
  rw[SE];simp only[j5a,show J es.length=(es.length:j) from rfl];rw[al aa,jd,bd,jk aa];rfl
 |n+1,i,hi=>by
  have ay:i<es.length:=aa;have bG:es.getD i ((0:j),((0:j),((0:j),((0:j),(0:j)))))=es[i]:=by simp[I,ay]
  have ih:=Vr (nm:=nm) (ls:=ls) (p:=p) (t:=t) hl n (i+1) aa;rw[SE];simp only[j5a,show J es.length=(es.length:j) from rfl];rw[ai aa,bR,au (x:=(i:j)+1),jj ay];simp only[jc,je,bG];have ha:nI (es[i]::es.drop (i+1)) p t=((es[i].1==0&&(es[i].2.1==p&&(D (es[i].2.2.2.1<=t)&&D (t<es[i].2.2.2.2))))||nI (es.drop (i+1)) p t):=rfl;have e:(cond (cond (cond (es[i].1==(0:j)) (es[i].2.1==p) U) (D (es[i].2.2.2.1<=t)) U) (D (t<es[i].2.2.2.2)) U)=(es[i].1==0&&(es[i].2.1==p&&(D (es[i].2.2.2.1<=t)&&D (t<es[i].2.2.2.2)))):=by cases es[i].1==(0:j)<;>cases es[i].2.1==p<;>cases D (es[i].2.2.2.1<=t)<;>rfl
  rw[e,ha];cases (es[i].1==0&&(es[i].2.1==p&&(D (es[i].2.2.2.1<=t)&&D (t<es[i].2.2.2.2)))) with
  |true=>rfl
  |false=>rw[jd,aZ,Bool.false_or];exact ih
theorem jrx{nm:G}{ls:q bh}{es:q cO}{p t:j}(hl:es.length<=1000):jib (nm,(ls,es)) p t=A (nI es p t):=by
 have:=Vr (nm:=nm) (ls:=ls) (p:=p) (t:=t) hl es.length 0 aa;simp only[jib,show Cy p t 0 nm ls es=_ from this,ja,jw];cases nI es p t<;>rfl
theorem Vs(hs:lG zs ps cs){ss:q cL}{nm:G}{ls:q bh}{es:q cO}(fq:es.length<=1000)(oo:ls.length<=1000)(hL:∀L∈ls,ig zs.length ps.length cs.length L){t:j}(h0:0<=t)(h1:t<=8589934592):∀n:B,n<=ls.length->
  Cz t ((n:j)-1) zs ps cs ss nm ls es=A (match iD (om es t (ij zs cs ls t)) n with|some i=> .inl ((i:j),ij zs cs ls t i)|none=> .inr ())
 |0,hn=>by
  rw[SF];simp only[j5G];rw[al aa,jd,bd];rfl
 |n+1,hn=>by
  have ay:n<ls.length:=aa;have bG:ls.getD n (E,((0:j),(((0:j),(0:j)),((0:j),((0:j),(([]:q j),(([]:q (j×j)),((0:j),(0:j)))))))))=ls[n]:=by simp[I,ay]
  have ih:=Vs hs (ss:=ss) (nm:=nm) fq oo hL h0 h1 n aa;have hp:=jv9 hs (hL _ (jq ay)) (ss:=ss) h0 h1;have e:ij zs cs ls t n=iF zs cs ls[n] t:=by simp[ij,I,ay]
  rw[show ((n+1:B):j)-1=(n:j) by omega,SF];simp only[j5G];rw[ai (show (n:j)>=0 by omega),bR,au (x:=(n:j)-1)];simp only[jc,je,bG];rw[show jiY (zs,(ps,(cs,ss))) (ls[n].1,(ls[n].2.1,((ls[n].2.2.1.1,ls[n].2.2.1.2),(ls[n].2.2.2.1,(ls[n].2.2.2.2.1,(ls[n].2.2.2.2.2.1,(ls[n].2.2.2.2.2.2.1,(ls[n].2.2.2.2.2.2.2.1,ls[n].2.2.2.2.2.2.2.2)))))))) t=_ from hp];simp only[ja,iD,om,e];by_cases mK:0<=iF zs cs ls[n] t
  .rw[ai (show iF zs cs ls[n] t>=0 from mK)];simp only[jc,jrx fq,ja,zk];cases nI es (iF zs cs ls[n] t) t with
   |true=>simp only[jl,jd,aZ];exact ih
   |false=>simp only[jo,jc,e];exact bd ..
  .rw[al (show¬iF zs cs ls[n] t>=0 from mK)];simp only[jd,Bool.false_and,aZ];exact ih
end
structure SV(s:cL):Prop where
 ll:s.2.1.length<=3
 ly:lI s.2.1
 el:s.2.2.length<=4
 ed:uA s.2.2
structure CV(c:eA):Prop where
 z:∀z∈c.1,ZW z
 s:∀s∈c.2.2.2,SV s
 one:1<=c.2.2.2.length
theorem CV.w{c:eA}(h:CV c):CW c:=
 ⟨h.z,λs hs x hx=>by have:=(h.s s hs).ed x hx;omega,λs hs=>(h.s s hs).ly⟩
def my(L:q j)(r:K (eA×q j×j)):Prop:=∃k a',r=A (k,L,a')/\CV k/\cD L a'
section
variable{L:q j}
theorem GW{a n:j}{f:j×q j×j->K (eA×q j×j)}(hd:cD L a)(h1:1<=n)(h2:n<=1000000000000)(h:∀x a',0<=x->x<n->cD L a'->my L (f (x,L,a'))):my L ((j02 L a n).bind f):=by
 obtain⟨x,a',e,x0,x1,d⟩:=di hd h1 h2;rw[e];exact h x a' x0 x1 d
theorem Vt{a:j}{xs:q j}{f:j×q j×j->K (eA×q j×j)}(hd:cD L a)(h1:0<xs.length)(h2:xs.length<=1000000)(h:∀x a',x∈xs->cD L a'->my L (f (x,L,a'))):my L ((j03 L a xs).bind f):=by
 obtain⟨x,a',e,x0,d⟩:=mq hd h1 h2;rw[e];exact h x a' x0 d
theorem Vu{a:j}{u0 u1 u2 u3:q Unit}{f:cO×q j×j->K (eA×q j×j)}(hd:cD L a)(h1:1<=u1.length)(h2:u1.length<=100)(h:∀(x:cO) a',x.2.2.2.1<=1000000000000->x.2.2.2.2<=1000000000000->cD L a'->my L (f (x,L,a'))) :
  my L ((j3x L a (u0,(u1,(u2,u3)))).bind f):=by
 obtain⟨x,a',e,x0,d⟩:=Vn hd (u0:=u0) (u2:=u2) (u3:=u3) h1 h2;rw[e];exact h x a' x0.1 x0.2 d
theorem Vv{x y:j}{a b:K (eA×q j×j)}(h1:x=y->my L a)(h2:x≠y->my L b):my L (cond (x==y) a b):=by
 by_cases h:x=y
 .rw[fi h];exact h1 h
 .rw[cN h];exact h2 h
theorem xl{b:Ä}{x:K (eA×q j×j)}(h:b=Z)(hx:my L x):my L (cond b x Å):=by rw[h];exact hx
theorem GX{a:j}{k:eA}(hd:cD L a)(h:CV k):my L (A (k,L,a)):=⟨k,a,rfl,h,hd⟩
theorem ovX{r:K (eA×q j×j)}(h:False):my L r:=h.elim
end
theorem Vw{zs:q bz}(h:∀z∈zs,ZW z)(i:B)(nm:G)(o:j):∀z∈zs.set i (nm,(o,(zs.getD i (E,((0:j),([]:q aP)))).2.2)),ZW z:=λz hz=>by
 by_cases hi:i<zs.length
 .rcases N hz with hz|rfl
  .exact h z hz
  .have:=h zs[i] (jq hi);rw[show zs.getD i (E,((0:j),([]:q aP)))=zs[i] by simp[I,hi]];exact⟨this.ok,this.len,this.yr,this.few⟩
 .rw[List.set_eq_of_length_le aa]at hz;exact h z hz
theorem GY{ls:q bh}(h:lI ls)(i:B){x:bh}(hx:x.2.2.2.2.2.2.1.length<=3):lI (ls.set i x):=λy hy=>by
 rcases N hy with hy|rfl
 .exact h y hy
 .exact hx
theorem yZ{ls:q bh}(h:lI ls)(i:B):(ls.getD i (E,((0:j),(((0:j),(0:j)),((0:j),((0:j),(([]:q j),(([]:WL),((0:j),(0:j)))))))))).2.2.2.2.2.2.1.length<=3:=by
 by_cases hi:i<ls.length
 .rw[M,ka hi];exact h _ (jq hi)
 .rw[M,zu aa];simp
theorem zA:∀s∈([]:q cL),SV s:=λs hs=>by simp at hs
theorem uB{s:cL}{l:q cL}(h:SV s)(h':∀x∈l,SV x):∀x∈s::l,SV x:=λx hx=>by
 rcases jm.1 hx with rfl|hx
 .exact h
 .exact h' x hx
theorem Vx(nm:G):SV (nm,(([]:q bh),([]:q cO))):=⟨af,λx hx=>by simp at hx,af,λx hx=>by simp at hx⟩
theorem NP{nm Dx:G}{ls:q bh}{es:q cO}(h:SV (nm,(ls,es)))(i:B){x:bh}(hx:x.2.2.2.2.2.2.1.length<=3):SV (Dx,(ls.set i x,es)):=
 ⟨by rw[qo];exact h.ll,GY h.ly i hx,h.el,h.ed⟩
theorem NQ{nm Dx:G}{ls:q bh}{es:q cO}(h:SV (nm,(ls,es)))(h3:es.length<=3){x:cO}(hx:x.2.2.2.2<=1000000000000):SV (Dx,(ls,es++[x])):=
 ⟨h.ll,h.ly,aN,uA.snoc h.ed hx⟩
theorem NR{ss:q cL}(h:GV ss):∀s∈ss,SV s:=λs hs=>by
 obtain⟨h1,h2,h3⟩:=h s hs;exact⟨h1.1,h1.2,aa,h3⟩
set_option maxHeartbeats 4000000 in
theorem Vy{L:q j}{a:j}(h:cD L a){zs:q bz}{ps:q cZ}{cs:q aT}{nm:G}{ls:q bh}{es:q cO}(hs:og zs ps cs)(h0:SV (nm,(ls,es)))(fq:es.length<=3) :
  my L (j6r L a (zs,(ps,(cs,[(nm,(ls,es))])))):=by
 have oO:=hs.z0;have sr:=hs.z1;have mK:=hs.p0;have pZ:=hs.p1;have eg:=hs.c1;have oo:ls.length<=3:=h0.ll;have hl:lI ls:=h0.ly;have pW:∀z∈zs,ZW z:=λz hz=>(hs.ok z hz).w;have cp:j5Y (zs,(ps,(cs,[(nm,(ls,es))])))=A (zs,ps,cs,nm,ls,es):=by simp only[j5Y,ku,ke,qj,List.length_singleton,z7];rw[ai (show zs.length<=aR by unfold aR;omega),ai (show ps.length<=aR by unfold aR;omega),ai (show cs.length<=aR by unfold aR;omega),ai (show (0:j)<((1:B):j) by omega),cG (show (0:j)<=0 by omega) (show (0:j)<((1:B):j) by omega)];simp only[jc,Y];rw[ai (show ls.length<=aR by unfold aR;omega),ai (show es.length<=aR by unfold aR;omega),al (show¬(1:j)<((1:B):j) by omega)];rfl
 unfold j6r;simp only[cp,ja,z7];refine GW h aa aa (λx a1 x0 x1 hd=>?_)
 repeat' ((try dsimp only);first
  |refine Vv (λhq=>?_) (λhq=>?_)
  |refine GW (by assumption) aa aa (λ_ _ _ _ _=>?_)
  |refine Vt (by assumption) af af (λ_ _ _ _=>?_)
  |refine Vu (by assumption) (by rw[qn];omega) (by rw[qn];omega) (λ_ _ _ _ _=>?_)
  |refine xl (bR) ?_
  |refine xl (cG aa (by simp only[ju,ku];omega)) ?_
  |refine xl (ai (by simp only[aR,ju,ku];omega)) ?_
  |refine GX (by assumption) ⟨pW,?_,af⟩
  |refine GX (by assumption) ⟨Vw pW _ _ _,?_,af⟩
  |refine uB ?_ ?_
  |exact zA
  |exact h0
  |exact Vx _
  |exact NP h0 _ (yZ hl _)
  |exact NQ h0 fq (by dsimp only;first|assumption|omega|(simp only[jm,vc,or_false]at *;omega)))
set_option maxHeartbeats 4000000 in
theorem Vz{L:q j}{a:j}(h:cD L a){zs:q bz}{ps:q cZ}{cs:q aT}{nm nm1:G}{ls jN:q bh}{es jO:q cO}(hs:og zs ps cs)(h0:SV (nm,(ls,es)))(fq:es.length<=3)(h1:SV (nm1,(jN,jO)))(nK:jO.length<=3) :
  my L (j6v L a (zs,(ps,(cs,[(nm,(ls,es)),(nm1,(jN,jO))])))):=by
 have oO:=hs.z0;have sr:=hs.z1;have mK:=hs.p0;have pZ:=hs.p1;have eg:=hs.c1;have oo:ls.length<=3:=h0.ll;have hl:lI ls:=h0.ly;have hll1:jN.length<=3:=h1.ll;have kD:lI jN:=h1.ly;have pW:∀z∈zs,ZW z:=λz hz=>(hs.ok z hz).w;have cp:j8f (zs,(ps,(cs,[(nm,(ls,es)),(nm1,(jN,jO))])))=A (zs,ps,cs,nm,nm1,ls,es,jN,jO):=by simp only[j8f,ku,ke,qj,ju,z7];rw[ai (show zs.length<=aR by unfold aR;omega),ai (show ps.length<=aR by unfold aR;omega),ai (show cs.length<=aR by unfold aR;omega),ai (show (0:j)<((1+1:B):j) by omega),cG (show (0:j)<=0 by omega) (show (0:j)<((1+1:B):j) by omega)];simp only[jc,Y,List.getD_cons_succ];rw[ai (show ls.length<=aR by unfold aR;omega),ai (show es.length<=aR by unfold aR;omega),ai (show (1:j)<((1+1:B):j) by omega),cG (show (0:j)<=1 by omega) (show (1:j)<((1+1:B):j) by omega),ai (show jN.length<=aR by unfold aR;omega),ai (show jO.length<=aR by unfold aR;omega),al (show¬(2:j)<((1+1:B):j) by omega)];rfl
 unfold j6v;simp only[cp,ja,z7];refine GW h aa aa (λx a1 x0 x1 hd=>?_)
 repeat' ((try dsimp only);first
  |refine Vv (λhq=>?_) (λhq=>?_)
  |refine GW (by assumption) aa aa (λ_ _ _ _ _=>?_)
  |refine Vt (by assumption) af af (λ_ _ _ _=>?_)
  |refine Vu (by assumption) (by rw[qn];omega) (by rw[qn];omega) (λ_ _ _ _ _=>?_)
  |refine xl (bR) ?_
  |refine xl (cG aa (by simp only[ju,ku];omega)) ?_
  |refine xl (ai (by simp only[aR,ju,ku];omega)) ?_
  |refine xl (fi aa) ?_
  |refine GX (by assumption) ⟨pW,?_,af⟩
  |refine GX (by assumption) ⟨Vw pW _ _ _,?_,af⟩
  |refine uB ?_ ?_
  |exact zA
  |exact h0
  |exact h1
  |exact Vx _
  |exact NP h0 _ (yZ hl _)
  |exact NP h1 _ (yZ kD _)
  |exact NQ h0 fq (by dsimp only;first|assumption|omega|(simp only[jm,vc,or_false]at *;omega))
  |exact NQ h1 nK (by dsimp only;first|assumption|omega|(simp only[jm,vc,or_false]at *;omega))
  |refine ovX aa)
theorem oq{b:Ä}{k:j}{r:K j}(hk:k≠0)(h:cond b (A k) r=A 0):b=U/\r=A 0:=by
 cases b with
 |true=>simp at h;exact absurd h hk
 |false=>exact⟨rfl,h⟩
theorem VA{b:Ä}{r s:K j}(h:cond b r s=A 0):r=A 0\/s=A 0:=by
 cases b with
 |true=>exact .inl h
 |false=>exact .inr h
theorem ce0{c:eA}{x:cO}(h:j0U c x=A 0):0<=x.2.2.2.1/\x.2.2.2.1<x.2.2.2.2:=by
 have T:∀(t:j),cond (cond (D (x.2.2.2.1<(0:j))) Z (D (x.2.2.2.2<(0:j)))) (A (1:j)) ((j1o t).bind λr=>cond (!r) (A (1:j)) (cond (D (x.2.2.2.1>=x.2.2.2.2)) (A (6:j)) (A (0:j))))=A 0->0<=x.2.2.2.1/\x.2.2.2.1<x.2.2.2.2:=by
  intro t h;obtain⟨h1,h⟩:=oq (by decide) h;have h0:¬x.2.2.2.1<0:=by intro hh;rw[ai hh]at h1;simp at h1
  cases hd:j1o t with
  |none=>rw[hd]at h;simp at h
  |some b=>rw[hd]at h;obtain⟨_,h⟩:=oq (by decide) h;obtain⟨h2,_⟩:=oq (by decide) h;simp only[kg]at h2;exact⟨aa,aa⟩
 simp only[j0U,j2B,j16,ja]at h;obtain⟨_,h⟩:=oq (by decide) h;rcases VA h with h|h
 .obtain⟨_,h⟩:=oq (by decide) h;obtain⟨_,h⟩:=oq (by decide) h;obtain⟨_,h⟩:=oq (by decide) h;exact T _ h
 .rcases VA h with h|h
  .obtain⟨_,h⟩:=oq (by decide) h;obtain⟨_,h⟩:=oq (by decide) h;obtain⟨_,h⟩:=oq (by decide) h;exact T _ h
  .obtain⟨_,h⟩:=oq (by decide) h;obtain⟨_,h⟩:=oq (by decide) h;exact T _ h
structure SG(zs:q bz)(ps:q cZ)(cs:q aT)(s:cL):Prop where
 ly:∀L∈s.2.1,ig zs.length ps.length cs.length L
 ll:s.2.1.length<=4
 ed:∀x∈s.2.2,Nn x
 el:s.2.2.length<=9
theorem jyG{zs:q bz}{ps:q cZ}{cs:q aT}{ss:q cL}(hv:CV (zs,(ps,(cs,ss))))(hC:xk zs ps cs ss):∀s∈ss,SG zs ps cs s:=λs hs=>by
 have h:=hC.s s hs;have v:=hv.s s hs;have oo:=v.ll;have fq:=v.el
 exact⟨λL hL=>⟨h.ly L hL,v.ly L hL⟩,aa,λx hx=>by
  have:=ce0 (h.ed x hx);exact⟨this.1,this.2,v.ed x hx⟩,aa⟩
section
variable{zs:q bz}{ps:q cZ}{cs:q aT}{ss:q cL}
theorem jy8(hv:CV (zs,(ps,(cs,ss)))):∃e v b,jeU (zs,(ps,(cs,ss)))=A (v,b)/\j6s (zs,(ps,(cs,ss)))=A e/\(e≠0->b=U)/\
  (e=0->b=Z/\v=((zs,(ps,(cs,ss))),zs.map tb)/\lG zs ps cs/\∀s∈ss,SG zs ps cs s):=by
 obtain⟨e,e1,e2,e3⟩:=hv.w.chk;by_cases he:e=0
 .subst he;obtain⟨hC,hg⟩:=e3 rfl;refine⟨0,_,_,?_,e2,λh=>absurd rfl h,λ_=>⟨rfl,rfl,hg,jyG hv hC⟩⟩;have hv:=jwS (ps:=ps) (cs:=cs) (ss:=ss) hg.ok (by have:=hg.zl;omega);simp only[jeU,e1,ja,ji,jd];rw[hv];rfl
 .refine⟨e,((([]:q bz),(([]:q cZ),(([]:q aT),([]:q cL)))),([]:q (j×aW))),U,?_,e2,λ_=>rfl,λh=>absurd h he⟩;simp only[jeU,e1,ja];rw[show (e != 0)=Z by simpa using he,jc]
end
structure CG(c:eA):Prop where
 g:lG c.1 c.2.1 c.2.2.1
 chk:j2g c=A 0
 r8:j6s c=A 0
 sc:∀s∈c.2.2.2,SG c.1 c.2.1 c.2.2.1 s
 of:jeU c=A ((c,c.1.map tb),Z)
def jP(u:j):Nat:=if u=0 then 3600 else if u=1 then 86400 else 604800
def bD(L:bh):Nat:=L.2.2.2.2.2.1.length*L.2.2.2.2.1.toNat*jP L.2.2.2.1
theorem jy9(u:j):3600<=jP u/\jP u<=604800:=by
 unfold jP;split
 .omega
 .split<;>omega
theorem zB{nz np nc:B}{L:bh}(h:ig nz np nc L):1<=bD L/\bD L<=2903040000:=by
 have:=h.m0;have:=h.m1;have:=h.e0;have:=h.e1;obtain⟨u0,u1⟩:=jy9 L.2.2.2.1;unfold bD;have h1:1<=L.2.2.2.2.2.1.length*L.2.2.2.2.1.toNat:=Ã aa aa;have h2:L.2.2.2.2.2.1.length*L.2.2.2.2.1.toNat<=12*400:=X aa aa;have h3:1<=L.2.2.2.2.2.1.length*L.2.2.2.2.1.toNat*jP L.2.2.2.1:=Ã h1 aa;have h4:L.2.2.2.2.2.1.length*L.2.2.2.2.1.toNat*jP L.2.2.2.1<=12*400*604800:=X h2 u1;omega
theorem VC{nz np nc:B}{L:bh}(h:ig nz np nc L):j2y L=A ((bD L:j),0):=by
 have pT:=h.m0;have gq:=h.m1;have qQ:=h.e0;have tF:=h.e1;have Uz:=h.u0;have vJ:=h.u1;obtain⟨p0,p1⟩:=zB h;have h2:L.2.2.2.2.2.1.length*L.2.2.2.2.1.toNat<=12*400:=X aa aa;have e1:(L.2.2.2.2.2.1.length:j)*L.2.2.2.2.1=((L.2.2.2.2.2.1.length*L.2.2.2.2.1.toNat:B):j):=by rw[W,Int.toNat_of_nonneg aa]
 have e2:([(3600:j),(86400:j),(604800:j)]).getD L.2.2.2.1.toNat (0:j)=(jP L.2.2.2.1:j):=by have:L.2.2.2.1=0\/L.2.2.2.1=1\/L.2.2.2.1=2:=aa;rcases this with h|h|h<;>rw[h]<;>rfl
 simp only[j2y,show J L.2.2.2.2.2.1.length=(L.2.2.2.2.2.1.length:j) from rfl];rw[al (show¬L.2.2.2.1<0 by omega),al (show¬L.2.2.2.1>=3 by omega),al (show¬L.2.2.2.2.1<1 by omega),al (show¬L.2.2.2.2.1>400 by omega),al (show¬(L.2.2.2.2.2.1.length:j)<1 by omega),al (show¬(L.2.2.2.2.2.1.length:j)>12 by omega),cG Uz aa,e1,au (x:=((L.2.2.2.2.2.1.length*L.2.2.2.2.1.toNat:B):j)),e2,<-W];simp only[jd,jc];rw[show L.2.2.2.2.2.1.length*L.2.2.2.2.1.toNat*jP L.2.2.2.1=bD L from rfl,au (x:=(bD L:j))]
theorem jya:∀(b a:B),Fg (a:j) (b:j)=A ((S b a:B):j):=by
 intro b;induction b using Nat.strongRecOn with
 |_ b ih=>
  intro a;rw[_6];simp only[j5U];by_cases hb:b=0
  .subst hb;simp only[Int.natCast_zero,ji,jd,Nat.gcd_zero_left];exact bd ..
  .rw[show ((b:j) != 0)=Z by simp;omega,show ((b:j)==0)=U from cN aa,yR aa,<-Int.natCast_emod];simp only[jc,jo,aZ];rw[ih (a%b) (Nat.mod_lt _ aa) b,Nat.gcd_rec b a]
theorem jyb(a b:B):jfS (a:j) (b:j)=A ((S a b:B):j):=by
 simp only[jfS,jya,ja,Nat.gcd_comm]
def gz(x:B):Nat:=if x>4294967296 then 4294967297 else x
theorem VD(n p:B):n*(p/S n p)=H n p:=by
 rw[H,Nat.mul_div_assoc _ (Nat.gcd_dvd_right n p)]
theorem VE{n p:B}(hn:1<=n)(hp:1<=p):n<=H n p:=Nat.le_of_dvd (À hn hp) (Nat.dvd_lcm_left n p)
theorem jyH{nz np nc:B}{L:bh}(h:ig nz np nc L){n:B}(hn:1<=n)(lD:n<=4294967297):j5v (n:j) L=A ((gz (H n (bD L)):B):j):=by
 obtain⟨p0,p1⟩:=zB h;have hg:1<=S n (bD L):=Nat.gcd_pos_of_pos_left _ aa;have hq:bD L/S n (bD L)<=bD L:=Â _ _;have hM:(4294967296:j)/(n:j)=((4294967296/n:B):j):=by rw[Á];rfl
 have hM2:4294967296/n<=4294967296:=Â _ _;have ay:4294967296/n<bD L/S n (bD L)↔4294967296<H n (bD L):=by rw[<-VD,Nat.div_lt_iff_lt_mul aa,Nat.mul_comm n]
 have hle:=VE hn p0;have mD:=VD n (bD L);simp only[j5v];rw[show j2y (L.1,(L.2.1,((L.2.2.1.1,L.2.2.1.2),(L.2.2.2.1,(L.2.2.2.2.1,(L.2.2.2.2.2.1,(L.2.2.2.2.2.2.1,(L.2.2.2.2.2.2.2.1,L.2.2.2.2.2.2.2.2))))))))=_ from VC h];simp only[ja,jyb];rw[show (((S n (bD L):B):j)==0)=U from cN aa,show ((n:j)==0)=U from cN aa,qS aa,qS aa,hM,<-Á];generalize bD L/S n (bD L)=Q at *;generalize 4294967296/n=R at *;rw[au (x:=(Q:j)),au (x:=(R:j))];simp only[jo,jc,zj];unfold gz;by_cases hb:4294967296<H n (bD L)
 .rw[if_pos hb,ai (show (Q:j)>(R:j) by have:=ay.2 hb;omega)];cases D ((n:j)>4294967296)<;>rfl
 .rw[if_neg hb,al (show¬(Q:j)>(R:j) by
   intro h;exact hb (ay.1 aa)),al (show¬(n:j)>4294967296 by omega),<-W,mD,au (x:=((H n (bD L):B):j))]
  rfl
def qT(n:B):q bh->B
 |[]=>n
 |L::r=>qT (gz (H n (bD L))) r
theorem VF(x:B)(h:1<=x):1<=gz x/\gz x<=4294967297:=by
 unfold gz;split<;>omega
theorem VG{nz np nc:B}:∀(l:q bh),(∀L∈l,ig nz np nc L)->qT 4294967297 l=4294967297
 |[],_=>rfl
 |L::r,h=>by
  have:=VE (n:=4294967297) aa (zB (h L af)).1;simp only[qT];rw[show gz (H 4294967297 (bD L))=4294967297 by unfold gz;rw[if_pos aa]];exact VG r (λL hL=>h L (by simp[hL]))
theorem VH{nz np nc:B}:∀(l:q bh)(n:B),(∀L∈l,ig nz np nc L)->1<=n->n<=4294967297->1<=qT n l/\qT n l<=4294967297
 |[],n,_,h0,h1=>⟨h0,h1⟩
 |L::r,n,h,h0,h1=>by
  have:=VF _ (show 1<=H n (bD L) from À h0 (zB (h L af)).1);exact VH r _ (λL hL=>h L (by simp[hL])) this.1 this.2
theorem VI{nz np nc:B}{ls:q bh}(h:∀L∈ls,ig nz np nc L)(hl:ls.length<=100):∀(n i s:B),i+n=ls.length->1<=s->s<=4294967297->
  Cg (s:j) ls (ls.length:j) (i:j)=A ((qT s (ls.drop i):B):j)
 |0,i,s,hi,_,_=>by
  rw[RO];simp only[j13];rw[al aa,jd,bd,jk aa];rfl
 |n+1,i,s,hi,s0,s1=>by
  have cH:i<ls.length:=aa;have hL:=h _ (jq cH);have hb:=VF _ (show 1<=H s (bD ls[i]) from À s0 (zB hL).1);have bG:ls.getD i (E,((0:j),(((0:j),(0:j)),((0:j),((0:j),(([]:q j),(([]:q (j×j)),((0:j),(0:j)))))))))=ls[i]:=by simp[I,cH]
  have ih:=VI h hl n (i+1) _ aa hb.1 hb.2;rw[RO];simp only[j13];rw[ai aa,bR];simp only[jc,je,bG];rw[show j5v (s:j) (ls[i].1,(ls[i].2.1,((ls[i].2.2.1.1,ls[i].2.2.1.2),(ls[i].2.2.2.1,(ls[i].2.2.2.2.1,(ls[i].2.2.2.2.2.1,(ls[i].2.2.2.2.2.2.1,(ls[i].2.2.2.2.2.2.2.1,ls[i].2.2.2.2.2.2.2.2))))))))=_ from jyH hL s0 s1];simp only[ja];rw[au (x:=(i:j)+1),aZ,jj cH];exact ih
def pN(s:cL):Nat:=qT 604800 s.2.1
theorem jtZ{c:eA}(hc:CG c){i:B}(hi:i<c.2.2.2.length):j3v c (i:j)=A (if pN c.2.2.2[i]>4294967296 then (0,5) else ((pN c.2.2.2[i]:j),0)):=by
 have fN:=hc.sc _ (jq hi);have oo:=fN.ll;have bG:c.2.2.2.getD i (E,(([]:q bh),([]:q cO)))=c.2.2.2[i]:=by simp[I,hi]
 have lp:=VI fN.ly aa c.2.2.2[i].2.1.length 0 604800 aa aa aa;rw[jw]at lp;simp only[j3v,show j2g (c.1,(c.2.1,(c.2.2.1,c.2.2.2)))=_ from hc.chk,ja,ji,jd,j5u,show J c.2.2.2.length=(c.2.2.2.length:j) from rfl];rw[ai (show (i:j)>=0 by omega),ai (show (i:j)<(c.2.2.2.length:j) by omega),bR];simp only[jc,jl,jd,je,bG,j4B,show J c.2.2.2[i].2.1.length=(c.2.2.2[i].2.1.length:j) from rfl];rw[show Cg 604800 c.2.2.2[i].2.1 (c.2.2.2[i].2.1.length:j) 0=A ((pN c.2.2.2[i]:B):j) from lp];simp only[ja];by_cases hb:pN c.2.2.2[i]>4294967296
 .rw[if_pos hb,ai aa];rfl
 .rw[if_neg hb,al aa];rfl
def zH(l:aW):Int:=if l.length=0 then 0 else ba l l.length+86400
section
variable{o:j}{l:aW}(h:gv o l)
include h
theorem VJ{s:j}(hs:s<=8551958400):∃v,fO o l s=A v:=by
 rcases Dl o l s with⟨v,k,f⟩|cX
 .exact⟨v,pQ f⟩
 .have kQ:ba l (l.length+1)=8589934593:=mo;have:=cX l.length (jz _);have:=h.of0 l.length (jz _);omega
end
theorem jxd{d:j}(h:j1o d=A Z):d<=98980:=by
 apply zg;intro hd;simp only[j1o,j5t,jtI,jtH,ja]at h;rw[al (show¬d<0 by omega),ai (show d>=98981 by omega)]at h;simp at h
def lj(x:aT):Int:=(x.2.2.getD (x.2.2.length-1) 0+1)*86400
noncomputable def ga(zs:q bz)(x:aT):Int:=max (zH (tb (aX zs x.2.1)).2) (if x.2.2.length=0 then 0 else (fO (aX zs x.2.1).2.1 (tb (aX zs x.2.1)).2 (lj x)).getD 0)
noncomputable def fh(zs:q bz)(cs:q aT)(L:bh):Int:=
 max (max (zH (tb (aX zs L.2.1)).2) ((hO (aX zs L.2.1).2.1 (tb (aX zs L.2.1)).2 L 0).getD 0)) (if L.2.2.2.2.2.2.2.2=0 then 0 else ga zs (nJ cs L.2.2.2.2.2.2.2.1))
section
variable{zs:q bz}{ps:q cZ}{cs:q aT}(hs:lG zs ps cs)
include hs
end
def NS(t p:j)(x:cO):Int:=
 if t<x.2.2.2.1\/x.2.2.2.2<=t then p else if x.1=1 then x.2.1 else if x.1=2/\p=x.2.1 then x.2.2.1 else if x.1=2/\p=x.2.2.1 then x.2.1 else p
def zC(t:j):j->q cO->j
 |p,[]=>p
 |p,x::r=>zC t (NS t p x) r
theorem VK{es:q cO}(hl:es.length<=100){t:j}:∀(n i:B)(p:j),i+n=es.length->CA es p t (i:j)=A (zC t p (es.drop i))
 |0,i,p,hi=>by
  rw[SH];simp only[j5b,show J es.length=(es.length:j) from rfl];rw[al aa,jd,bd,jk aa];rfl
 |n+1,i,p,hi=>by
  have cH:i<es.length:=aa;have bG:es.getD i ((0:j),((0:j),((0:j),((0:j),(0:j)))))=es[i]:=by simp[I,cH]
  have ih:=λp=>VK hl (t:=t) n (i+1) p aa;rw[SH];simp only[j5b,show J es.length=(es.length:j) from rfl];rw[ai aa,bR,au (x:=(i:j)+1),jj cH];simp only[jc,je,bG,zC];generalize es[i]=x;unfold NS;by_cases ha:t<x.2.2.2.1\/x.2.2.2.2<=t
  .rw[if_pos ha]
   have:cond (D (t<x.2.2.2.1)) Z (D (t>=x.2.2.2.2))=true:=by
    rcases ha with ha|ha
    .rw[ai ha];rfl
    .rw[ai (show t>=x.2.2.2.2 from ha)];cases D (t<x.2.2.2.1)<;>rfl
   rw[this,jc,aZ];exact ih p
  .rw[if_neg ha,al (show¬t<x.2.2.2.1 by omega),al (show¬t>=x.2.2.2.2 by omega)];simp only[jd];by_cases h1:x.1=1
   .rw[if_pos h1,fi h1,jc,aZ];exact ih _
   .rw[if_neg h1,cN h1,jd];by_cases h2:x.1=2
    .rw[fi h2];simp only[jc];by_cases h3:p=x.2.1
     .rw[if_pos ⟨h2,h3⟩,fi h3,jc,aZ];exact ih _
     .rw[if_neg (λh=>h3 h.2),cN h3,jd];by_cases h4:p=x.2.2.1
      .rw[if_pos ⟨h2,h4⟩,fi h4,jc,aZ];exact ih _
      .rw[if_neg (λh=>h4 h.2),cN h4,jd,aZ];exact ih _
    .rw[if_neg (λh=>h2 h.1),if_neg (λh=>h2 h.1),cN h2];simp only[jd,aZ];exact ih _
theorem VL{es:q cO}(hl:es.length<=100){t:j}:∀(n i:B)(p:j),i+n=es.length->Cp p t es (es.length:j) (i:j)=A (zC t p (es.drop i))
 |0,i,p,hi=>by
  rw[RZ];simp only[j4C];rw[al aa,jd,bd,jk aa];rfl
 |n+1,i,p,hi=>by
  have cH:i<es.length:=aa;have bG:es.getD i ((0:j),((0:j),((0:j),((0:j),(0:j)))))=es[i]:=by simp[I,cH]
  have ih:=λp=>VL hl (t:=t) n (i+1) p aa;rw[RZ];simp only[j4C,jeX,ja];rw[ai aa,bR,au (x:=(i:j)+1),jj cH];simp only[jc,je,bG,zC];generalize es[i]=x;unfold NS;by_cases ha:t<x.2.2.2.1\/x.2.2.2.2<=t
  .rw[if_pos ha]
   have:cond (D (x.2.2.2.1<=t)) (D (t<x.2.2.2.2)) U=false:=by
    rcases ha with ha|ha
    .rw[al (show¬x.2.2.2.1<=t by omega)];rfl
    .rw[al (show¬t<x.2.2.2.2 by omega)];cases D (x.2.2.2.1<=t)<;>rfl
   rw[this];simp only[jo,jc,aZ];exact ih p
  .rw[if_neg ha,ai (show x.2.2.2.1<=t by omega),ai (show t<x.2.2.2.2 by omega)];simp only[jc,jl,jd];by_cases h0:x.1=0
   .rw[fi h0,if_neg aa,if_neg aa,if_neg aa,jc,aZ];exact ih p
   rw[cN h0,jd];by_cases h1:x.1=1
   .rw[if_pos h1,fi h1,jc,aZ];exact ih _
   .rw[if_neg h1,cN h1,jd];by_cases h2:x.1=2
    .rw[show (x.1 != 2)=U by simp[h2],jd];by_cases h3:p=x.2.1
     .rw[if_pos ⟨h2,h3⟩,fi h3,jc,aZ];exact ih _
     .rw[if_neg (λh=>h3 h.2),cN h3,jd];by_cases h4:p=x.2.2.1
      .rw[if_pos ⟨h2,h4⟩,fi h4,jc,aZ];exact ih _
      .rw[if_neg (λh=>h4 h.2),cN h4,jd,aZ];exact ih _
    .rw[if_neg (λh=>h2 h.1),if_neg (λh=>h2 h.1),show (x.1 != 2)=Z by simp[h2],jc,aZ];exact ih _
end Go.Proofs.Pw
