/- edit.SegmentsOf: who is on call in a range, with edits. -/
import Derived.Test.YtmccfdihkphfaaaGreatLIPI
import Derived.Test.YtmccfdihkphfaaaGreatLILD
import Derived.Test.YtmccfdihkphfaaaGreatLIPA
open _root_ renaming Int->o,List->G,Nat->J,ByteArray->Î,Option->Ô
open List renaming nil_append->H,getElem_of_mem->O,cons_append->W,getD->X,getElem_mem->Y,drop_eq_getElem_cons->Z,length_append->À,drop_zero->Á,append_assoc->Â,drop_of_length_le->Ã,pairwise_iff_getElem->Ä,length_cons->Å,pairwise_singleton->Æ,filter_cons_of_pos->Ç,filter_cons_of_neg->È,length_nil->Ê,foldl_cons->Ë,append_nil->Ì,take_append_drop->Í,map_cons->Ñ
open Nat renaming le_refl->I
open Option renaming some->N,none->Ò
open Go Go.Lft
namespace Go.Proofs.Pw
theorem jEs{ds:G o}(hs:ds.Pairwise (· < ·))(hl:ds.length<=64)(x:o):∃(k:J)(b:Bool),j3p ds x=N ((k:o),b)/\k<=ds.length/\(∀i,(hi:i<ds.length)->i<k->ds[i]<x)/\∀i,(hi:i<ds.length)->k<=i->x<=ds[i]:=by
 obtain⟨k,e,hk,h1,h2⟩:=jCd hs hl (x:=x) ds.length 0 ds.length omg_ omg_ (I _) (λi _ h=>omg_) (λi hi h=>omg_);rw[show ((0:J):o)=0 from rfl]at e;simp(disch:=omega)only[j3p,e,S0];by_cases hkl:k<ds.length
 .have hgd:ds.getD k (0:o)=ds[k]:=by simp[hkl]
  rw[j2j,j00 (show (k:o)<(ds.length:o) by omega),hgd];simp only[Bool.true_or,j6];by_cases hx:ds[k]=x
  .rw[j8T hx];grind
  .rw[j3Z hx];simp only[j7,j9r,j4,bne_self_eq_false];grind
 .rw[j01 (show¬(k:o)<(ds.length:o) by omega)];simp only[Bool.not_false,Bool.or_true,j6,j7,Bool.false_and];grind
theorem jkC{a t:o}:∀(es:G j3b)(p:o),(∀x∈es,(x.2.2.2.1<=a↔x.2.2.2.1<=t)/\(x.2.2.2.2<=a↔x.2.2.2.2<=t))->jgc t p es=jgc a p es
 |[],_,_=>rfl
 |x::r,p,h=>by
  have hx:=h x smp_;simp only[jgc]
  have e:jvl t p x=jvl a p x:=by
   unfold jvl;have:(t<x.2.2.2.1\/x.2.2.2.2<=t)↔(a<x.2.2.2.1\/x.2.2.2.2<=a):=omg_;by_cases hc:a<x.2.2.2.1\/x.2.2.2.2<=a
   .rw[if_pos hc,if_pos (this.2 hc)]
   .rw[if_neg hc,if_neg (λh=>hc (this.1 h))]
  rw[e];exact jkC r _ (λy hy=>h y (by simp[hy]))
theorem jEt{es:G j3b}(hl:es.length<=1000){f t:o}{zs:G j0K}{ps:G j0k}{cs:G CalT}{ss:G j0R}{tbs:G (o×TrL)}{nm:Î}{ls:G j0f}:∀(n i:J)(acc:G o),i+n=es.length->acc.length<=2*i->
  ja6 f t es (es.length:o) (i:o) zs ps cs ss tbs nm ls es acc=N (f,t,zs,ps,cs,ss,tbs,nm,ls,es,acc++edB (es.drop i))
 |0,i,acc,hi,_=>by
  rw[jbv];simp(disch:=omega)only[j3q,Ã,S0];simp[edB]
 |n+1,i,acc,hi,hacc=>by
  have hi':i<es.length:=omg_;have hgd:es.getD i (0,0,0,0,0)=es[i]:=by simp[X,hi']
  have ih:=jEt hl (f:=f) (t:=t) (zs:=zs) (ps:=ps) (cs:=cs) (ss:=ss) (tbs:=tbs) (nm:=nm) (ls:=ls) n (i+1) (acc++[es[i].2.2.2.1,es[i].2.2.2.2]) omg_ sqo_;rw[jbv];simp(disch:=omega)only[j3q,Z hi',S0];rw[Â]at ih;exact ih
theorem jzV{es:G j3b}(hl:es.length<=100){p t:o}:jj2 es p t=N (jgc t p es):=by
 have ef:=jy7 hl (t:=t) es.length 0 p omg_;grind[jj2]
section
variable{es:G j3b}(hel:es.length<=100){K:G o}(hK:K.Pairwise (· < ·))(hKl:K.length<=64){a0 b:o}(hb:b∈K)(hin:∀x∈edB es,a0<x->x<b->x∈K)
include hel hK hKl hb hin
theorem jFu{g:o->o}{p u:o}(hu:u<=b){m q w:o}{nm:Î}{ls:G j0f}{R:SgL}{x:o}:∀(n i:J)(a:o)(acc:SgL),K.length-i<=n->a0<=a->a<=u->(a<u->i<K.length)->(∀k,(hk:k<K.length)->(a<u->(k<i->K[k]<=a)/\(i<=k->a<K[k])))->(∀t,a<=t->t<u->g t=p)->
  acc.length+(K.length-i)<=1000000000->Ch (λt=>jgc t (g t) es) a x acc->
  ∃out,j7Y (i:o) a m q nm ls es w u p K acc R=N (m,q,nm,ls,es,K,out,R)/\Ch (λt=>jgc t (g t) es) u x out/\out.length<=acc.length+(K.length-i):=by
 intro n;induction n with
 |zero=>grind[jbw,j3r,j0e]
 |succ n ih=>
  intro i a acc hn ha hau hi hsp hg hal hch;rw[jbw];simp only[j3r];by_cases hlt:a<u
  .have hil:=hi hlt;have hgd:K.getD i (0:o)=K[i]:=by simp[hil]
   have h1:=((hsp i hil) hlt).2 (I _);simp(disch:=omega)only[jzV hel,S0];have hend:(if K[i]<u then K[i] else u)=min K[i] u:=by split<;>omega
   rw[hend];have hm1:a<min K[i] u:=omg_
   have hseg:∀t,a<=t->t<min K[i] u->jgc t (g t) es=jgc a p es:=λt t1 t2=>by
    rw[hg t t1 omg_];refine jkC es p (λy hy=>?_);obtain⟨y1,y2⟩:=jy8 hy
    have key:∀c,c∈edB es->(c<=a↔c<=t):=λc hc=>by
     refine⟨λh=>omg_,λh=>?_⟩;apply Classical.byContradiction;intro hca;have hcK:=hin c hc omg_ omg_;obtain⟨k,hk,rfl⟩:=O hcK;grind[Ä]
    exact⟨key _ y1,key _ y2⟩
   have hch':=hch.snoc (b:=a) (c:=min K[i] u) (p:=jgc a p es) omg_ hseg
   obtain⟨out,e,hc,hl⟩:=ih (i+1) (min K[i] u) (acc++[(a,min K[i] u,jgc a p es)]) omg_ omg_ omg_ (λh=>by
    grind[O]) (λk hk h=>⟨λhki=>by
    grind,λhki=>by
    grind[Ä]⟩) (λt t1 t2=>hg t omg_ t2) sqo_ hch'
   exact⟨out,e,hc,by simp at hl;omega⟩
  grind[j0e]
theorem jEu{g:o->o}{S:SgL}(hSl:S.length<=10000000){nm:Î}{ls:G j0f}(ha0 : -1000000000000<=a0)(hb1:b<=1000000000000){x:o}:∀(n i:J)(a:o)(acc:SgL),i+n=S.length->a0<=a->Ch g b a (S.drop i)->Ch (λt=>jgc t (g t) es) a x acc->acc.length<=64*i->
  ∃out,ja7 (S.length:o) (i:o) nm ls es K acc S=N out/\Ch (λt=>jgc t (g t) es) b x out/\out.length<=64*S.length
 |0,i,a,acc,hi,_,hc,hch,hal=>by
  rw[Ã omg_]at hc;have hc:a=b:=hc;subst hc;rw[jbx];simp(disch:=omega)only[j3s,S0]
  simp_all
 |n+1,i,a,acc,hi,ha,hc,hch,hal=>by
  have hi':i<S.length:=omg_;rw[Z hi']at hc;obtain⟨c1,c2,c3,c4⟩:=hc;have hle:=c4.le;have hgd:S.getD i (0,0,0)=S[i]:=by simp[X,hi']
  obtain⟨k,bb,ek,hk,k1,k2⟩:=jEs hK hKl (a+1)
  obtain⟨out,e4,hc4,hl4⟩:=jFu hel hK hKl hb hin (g:=g) (p:=S[i].2.2) (u:=S[i].2.1) hle (m:=(S.length:o)) (q:=(i:o)) (w:=S[i].1) (nm:=nm) (ls:=ls) (R:=S) (x:=x) K.length k a acc omg_ ha c2 (λh=>by
   grind[O]) (λj hj _=>⟨λh=>by grind,λh=>by grind⟩) c3 omg_ hch
  have ih:=jEu hSl (nm:=nm) (ls:=ls) ha0 hb1 (g:=g) (x:=x) n (i+1) S[i].2.1 out omg_ omg_ c4 hc4 omg_;rw[jbx];simp(disch:=omega)only[j3s,c1,ek,S0];grind[j24,j04]
end
section
variable{zs:G j0K}{ps:G j0k}{cs:G CalT}(hs:GOk zs ps cs)
include hs
theorem jtY{a b:o}(ha:0<=a)(hab:a<=b)(hb:b<=8589934592)(hlen:b-a<=35078400):∀ls:G j0f,(∀L∈ls,LC1 zs.length ps.length cs.length L)->
  ∃E:G o,E.length<=30000*ls.length/\∀L∈ls,∀x,a<x->x<b->perX zs cs L (x-1)≠perX zs cs L x->x∈E
 |[],_=>⟨[],smp_,smp_⟩
 |L::ls,hL=>by
  obtain⟨E,e1,e2⟩:=jtY ha hab hb hlen ls (λM hM=>hL M (by simp[hM]));obtain⟨S,_,c1,l1⟩:=jtP hs (hL L smp_) (ss:=[]) ha hab hb hlen;refine⟨brd S++E,?_,λM hM x x1 x2 x3=>?_⟩;all_goals grind[brd,jsF]
theorem jzW{ls:G j0f}{es:G j3b}(hL:∀L∈ls,LC1 zs.length ps.length cs.length L){a b:o}(ha:0<=a)(hab:a<=b)(hb:b<=8589934592)(hlen:b-a<=35078400) :
  ∃E:G o,E.length<=30000*ls.length+2*es.length/\(∀x,a<x->x<b->topP es (x-1) (pfX zs cs ls (x-1)) ls.length≠topP es x (pfX zs cs ls x) ls.length->x∈E)/\∀x∈edB es,x∈E:=by
 obtain⟨E,e1,e2⟩:=jtY hs ha hab hb hlen ls hL;refine⟨E++edB es,by grind[jpp],λx x1 x2 x3=>?_,λx hx=>List.mem_append_right _ hx⟩;grind[jo8,jy9,pfX]
theorem jvn{nm:Î}{ls:G j0f}{es:G j3b}(hL:∀L∈ls,LC1 zs.length ps.length cs.length L)(hll:ls.length<=4)(hE:∀x∈es,EC0 x)(hel:es.length<=9)
  {ss:G j0R}{a b:o}(ha:0<=a)(hab:a<=b)(hb:b<=8589934592)(hlen:b-a<=35078400) :
  ∃out,j7r ((zs,ps,cs,ss),zs.map tb) (nm,ls,es) a b=N out/\Cov (λt=>topP es t (pfX zs cs ls t) ls.length) b Ò a out/\out.length<=30000*ls.length+2*es.length+1:=by
 obtain⟨out,e,h,_⟩:=jzS hs hL hll hE hel ha hab hb omg_ (nm:=nm) (ss:=ss);obtain⟨E,e1,e2,_⟩:=jzW hs (es:=es) hL ha hab hb hlen;have:=jCP h e2;grind
theorem jCT{s:j0R}(hk:SG zs ps cs s)(hll:s.2.1.length<=3)(hel:s.2.2.length<=6){ss:G j0R}{a b:o}(ha:0<=a)(hab:a<=b)(hb:b<=8589934592)(hlen:b-a<=34560000) :
  ∃out,j4m ((zs,ps,cs,ss),zs.map tb) s a b=N out/\Cov (whoS zs cs s) b Ò a out/\out.length<=10000000:=by
 obtain⟨S,eS,hS,lS⟩:=jvn hs (nm:=s.1) hk.ly omg_ hk.ed omg_ (ss:=ss) ha omg_ hb omg_;have l0:=jEt (es:=s.2.2) omg_ (f:=a) (t:=b) (zs:=zs) (ps:=ps) (cs:=cs) (ss:=ss) (tbs:=zs.map tb) (nm:=s.1) (ls:=s.2.1) s.2.2.length 0 [] omg_ smp_;rw[H,Á]at l0;have hbl:=jpp s.2.2;obtain⟨C,eC,c1,c2,c3⟩:=jyc (l:=edB s.2.2) omg_ (f:=a) (t:=b)
 have hKp:(C++[b]).Pairwise (· < ·):=List.pairwise_append.2 ⟨c1,Æ _ _,λx hx y hy=>by
  simp_all⟩
 obtain⟨M,e2,hM,lM⟩:=jEu (es:=s.2.2) omg_ hKp sqo_ (a0:=a) (b:=b) smp_ (λx hx x1 x2=>List.mem_append_left _ ((c3 x).2 ⟨hx,x1,x2⟩)) (g:=λt=>topP s.2.2 t (pfX zs cs s.2.1 t) s.2.1.length) (S:=S) omg_ (nm:=s.1) (ls:=s.2.1) omg_ omg_ (x:=a) S.length 0 a [] omg_ omg_ (by grind[Cov.ch]) rfl smp_;obtain⟨out,e3,h3,l3⟩:=jn3 (l:=M) omg_ hM;refine⟨out,?_,h3,omg_⟩;grind[j4m]
end
theorem jyd{zs:G j0K}{cs:G CalT}{s:j0R}{x y:o}(hxy:x<=y)(hp:∀L∈s.2.1,perX zs cs L x=perX zs cs L y)(he:NoC (edB s.2.2) x y):whoS zs cs s x=whoS zs cs s y:=by
 have hed:∀e∈s.2.2,(e.2.2.2.1<=x↔e.2.2.2.1<=y)/\(e.2.2.2.2<=x↔e.2.2.2.2<=y):=λe hm=>by
  have a:=he e.2.2.2.1 (List.mem_flatMap.2 ⟨e,hm,smp_⟩);have b:=he e.2.2.2.2 (List.mem_flatMap.2 ⟨e,hm,smp_⟩);exact⟨omg_,omg_⟩
 unfold whoS;rw[jo8 (u:=y) (pg:=pfX zs cs s.2.1 y) (λi hi=>?_) (λp=>jy4 s.2.2 hed)]
 .exact jkC s.2.2 _ (λe hm=>by have:=hed e hm;exact⟨this.1.symm,this.2.symm⟩)
 .unfold pfX;have hgd:s.2.1.getD i (ByteArray.empty,0,(0,0),0,0,[],[],0,0)=s.2.1[i]:=by simp[X,hi]
  rw[hgd];exact hp _ (Y hi)
section
variable{zs:G j0K}{ps:G j0k}{cs:G CalT}(hs:GOk zs ps cs)
include hs
theorem jzX{ss:G j0R}(hc:CG (zs,ps,cs,ss)){i:J}(hi:i<ss.length){t:o}(h0:0<=t)(h1:t<=8589934592):jml (zs,ps,cs,ss) (i:o) t=N (whoS zs cs ss[i] t):=by
 have hsc:=hc.sc _ (Y hi);have hll:=hsc.ll;have hel:=hsc.el;have hgs:ss.getD i (ByteArray.empty,[],[])=ss[i]:=by simp[X,hi]
 have lp:=jy5 hs (ss:=ss) (nm:=ss[i].1) (es:=ss[i].2.2) omg_ omg_ hsc.ly h0 h1 ss[i].2.1.length (I _)
 have et:∃k,joX (zs,ps,cs,ss) (i:o) t=N (k,topP ss[i].2.2 t (pfX zs cs ss[i].2.1 t) ss[i].2.1.length):=by
  simp(disch:=omega)only[joX,show jhn t ((ss[i].2.1.length:o)-1) zs ps cs ss ss[i].1 ss[i].2.1 ss[i].2.2=_ from lp,topP,S0];cases topI (jb8 ss[i].2.2 t (pfX zs cs ss[i].2.1 t)) ss[i].2.1.length with
  |none=>exact⟨_,rfl⟩
  |some k=>exact⟨_,rfl⟩
 obtain⟨k,et⟩:=et;have ef:=jB8 (es:=ss[i].2.2) omg_ (t:=t) ss[i].2.2.length 0 (topP ss[i].2.2 t (pfX zs cs ss[i].2.1 t) ss[i].2.1.length) omg_;rw[Á]at ef;simp(disch:=omega)only[jml,et,joY,show jfs ss[i].2.2 (topP ss[i].2.2 t (pfX zs cs ss[i].2.1 t) ss[i].2.1.length) t 0=_ from ef,S0];rfl
theorem jye{ss:G j0R}(hc:CG (zs,ps,cs,ss)){i:J}(hi:i<ss.length){a b:o}(ha:0<=a)(hab:a<=b)(hb:b<=8589934592)(hlen:b-a<=34560000) :
  ∃B,jlp (zs,ps,cs,ss) (i:o) a b=N B/\B.Pairwise (· < ·)/\B.length<=40000000/\(∀x∈B,a<=x/\x<=b)/\(∃r,B=a::r)/\(B.getD (B.length-1) 0=b)/\
   ∀x y,x∈B->x<=y->y<b->(∀c∈B,¬(x<c/\c<=y))->whoS zs cs ss[i] x=whoS zs cs ss[i] y:=by
 have hsc:=hc.sc _ (Y hi);have hll:=hsc.ll;have hel:=hsc.el;have hgs:ss.getD i (ByteArray.empty,[],[])=ss[i]:=by simp[X,hi]
 obtain⟨C,e1,e2,_,e4⟩:=jB6 hs (ss:=ss) (nm:=ss[i].1) (es:=ss[i].2.2) omg_ hsc.ly ha hab hb hlen ss[i].2.1.length 0 [] omg_ sqo_;have e5:=jB7 (nm:=ss[i].1) (ls:=ss[i].2.1) (es:=ss[i].2.2) omg_ (a:=a) (b:=b) ss[i].2.2.length 0 C omg_ (by simp at e2;omega);rw[show ((0:J):o)=0 from rfl,Á]at e5;rw[show ((0:J):o)=0 from rfl]at e1;rw[Á]at e4;have hel2:=jpp ss[i].2.2;simp only[Ê,Nat.zero_add]at e2;have hcl:(C++edB ss[i].2.2).length<=39000000:=by rw[À];omega
 obtain⟨b1,b2,b3,b4,b5,b6,b7⟩:=jxL (C++edB ss[i].2.2) hab;refine⟨bord (C++edB ss[i].2.2) a b,?_,b1,omg_,b3,b5,?_,λx y hx hxy hyb hn=>?_⟩
 .simp(disch:=omega)only[jlp,e1,e5,jo7 (show (C++edB ss[i].2.2).length<=49000000 by omega) a b,S0]
 .by_cases h:a<b
  .obtain⟨r,hr⟩:=b6 h;rw[hr];simp[X]
  .rw[b7 omg_];show a=b;omega
 .have hxa:=b3 x hx;have hno:NoC (C++edB ss[i].2.2) x y:=λc hc hcc=>hn c (b4 c hc omg_ omg_) hcc;exact jyd hxy (λL hm=>e4 L hm x y hxa.1 hxy hyb hno.left) hno.right
omit hs in
theorem jyf{f:o->o}{ss:G j0R}{i:J}{B:G o}(hBl:B.length<=50000000)(hB:B.Pairwise (· < ·))(hraw:∀t∈B,jml (zs,ps,cs,ss) (i:o) t=N (f t)){a b:o}(hlast:B.getD (B.length-1) 0=b)
  (hsame:∀x y,x∈B->x<=y->y<b->(∀c∈B,¬(x<c/\c<=y))->f x=f y):∀(n j:J)(acc:SgL),j+1+n=B.length->acc.length<=j->Cov f (B.getD j 0) Ò a acc->
  ∃out,jft (i:o) (j:o) zs ps cs ss B acc=N out/\Cov f b Ò a out
 |0,j,acc,hj,ha,hC=>by
  rw[jfV];simp(disch:=omega)only[j6d,S0];refine⟨acc,rfl,?_⟩;rw[<-hlast,show B.length-1=j by omega];exact hC
 |n+1,j,acc,hj,ha,hC=>by
  have h1:j<B.length:=omg_;have h2:j+1<B.length:=omg_;have g1:B.getD j (0:o)=B[j]:=by simp[X,h1]
  have g2:B.getD (j+1) (0:o)=B[j+1]:=by simp[X,h2]
  have hpw:=List.pairwise_iff_getElem.1 hB;have hlt:B[j]<B[j+1]:=hpw j (j+1) h1 h2 omg_
  have hle:B[j+1]<=b:=by
   have gl:B.getD (B.length-1) (0:o)=B[B.length-1]:=by simp[X,show B.length-1<B.length by omega]
   rw[gl]at hlast;by_cases he:j+1=B.length-1
   .have:B[j+1]=B[B.length-1]:=by congr 1
    omega
   .have:=hpw (j+1) (B.length-1) h2 omg_ omg_;omega
  have hconst:∀t,B[j]<=t->t<B[j+1]->f t=f B[j]:=λt t1 t2=>(hsame B[j] t (Y h1) t1 omg_ (λc hc hcc=>by
   obtain⟨m,hm,rfl⟩:=List.mem_iff_getElem.1 hc;by_cases hmj:m<=j
   .by_cases he:m=j
    .subst he;omega
    .have:=hpw m j hm h1 omg_;omega
   .by_cases he:m=j+1
    .subst he;omega
    .have:=hpw (j+1) m h2 hm omg_;omega)).symm
  rw[g1]at hC;have hC2:=jAA hC (s:=(B[j],B[j+1],f B[j])) rfl (by show B[j]<=B[j+1];omega) (λt t1 t2=>hconst t t1 t2)
  have hml:(mgA acc (B[j],B[j+1],f B[j])).length<=acc.length+1:=by
   unfold mgA;split
   .omega
   .split
    .split
     .simp
     .simp
    .simp
  have ih:=jyf hBl hB hraw hlast hsame n (j+1) (mgA acc (B[j],B[j+1],f B[j])) omg_ omg_ (by rw[g2];exact hC2);rw[jfV];simp(disch:=omega)only[j6d,hraw _ (Y h1),jsE,S0];exact ih
theorem jsL{ss:G j0R}(hc:CG (zs,ps,cs,ss)){i:J}(hi:i<ss.length){a b:o}(ha:0<=a)(hab:a<=b)(hb:b<=8589934592)(hlen:b-a<=34560000) :
  ∃S,jhp (zs,ps,cs,ss) (i:o) a b=N S/\Cov (whoS zs cs ss[i]) b Ò a S:=by
 obtain⟨B,e1,e2,e3,e4,⟨r,e5⟩,e6,e7⟩:=jye hs hc hi ha hab hb hlen;have hpos:0<B.length:=by rw[e5];simp
 obtain⟨S,f1,f2⟩:=jyf (f:=whoS zs cs ss[i]) (ss:=ss) (i:=i) (B:=B) omg_ e2 (λt ht=>jzX hs hc hi (by have:=e4 t ht;omega) (by have:=e4 t ht;omega)) (a:=a) e6 e7 (B.length-1) 0 [] omg_ smp_ (by rw[e5];rfl);rw[show ((0:J):o)=0 from rfl]at f1;refine⟨S,?_,f2⟩;simp only[jhp,e1,f1,j4]
def tmP(p:o)(S:SgL):SL:=(S.filter (λx=>x.2.2==p)).map λx=>(x.1,x.2.1)
end
section
variable{zs:G j0K}{ps:G j0k}{cs:G CalT}{ss:G j0R}
theorem jEv(hv:CV (zs,ps,cs,ss)):∃e,j48 (zs,ps,cs,ss)=N e/\j8q (zs,ps,cs,ss)=N e/\(e=0->CG (zs,ps,cs,ss))/\∃v b,jfk (zs,ps,cs,ss)=N (v,b)/\(e≠0->b=false):=by
 obtain⟨e,e1,e2,e3⟩:=hv.w.chk;obtain⟨e',v,b,eO,eC,f1,f2⟩:=jEq hv;have h0:e'=e:=by rw[e2]at eC;simp at eC;exact eC.symm
 subst h0;refine⟨e',e1,e2,λhe=>?_,v,b,eO,f1⟩;subst he;obtain⟨hC,hg⟩:=e3 rfl;obtain⟨rfl,rfl,_,hS⟩:=f2 rfl;exact⟨hg,e1,e2,hS,eO⟩
end
theorem jBa{f:o->o}{b v:o}:∀{S:SgL}{q:Ô o}{a:o},Cov f b q a S->StS (if q=N v then a else a-1) (tmP v S)
 |[],q,a,_=>trivial
 |s::r,q,a,h=>by
  obtain⟨h1,h2,h3,_,h5⟩:=h;have ih:=jBa (v:=v) h5;by_cases hv:s.2.2=v
  .have e:tmP v (s::r)=(s.1,s.2.1)::tmP v r:=by unfold tmP;rw[Ç (by simp[hv]),Ñ]
   rw[e,if_neg (λhq=>h3 (by rw[hq,hv]))];rw[if_pos (by rw[hv])]at ih;exact⟨by dsimp only;omega,by dsimp only;omega,ih⟩
  .have e:tmP v (s::r)=tmP v r:=by unfold tmP;rw[È (by simp[hv])]
   rw[e];rw[if_neg (by simp[hv])]at ih
   have hw:∀{l:SL}{p q:o},q<=p->StS p l->StS q l:=λ{l p q} hpq hl=>by
    match l,hl with
    |[],_=>trivial
    |u::l,hl=>exact⟨by have:=hl.1;omega,hl.2⟩
   refine hw ?_ ih;split<;>omega
section
variable{zs:G j0K}{ps:G j0k}{cs:G CalT}{ss:G j0R}
end
theorem jsM{p:o}{S:SgL}(hl:S.length<=16384):∀(n j:J)(acc:SL),j+n=S.length->acc.length<=j->jaZ p S (S.length:o) (j:o) acc=N (acc++tmP p (S.drop j))
 |0,j,acc,hj,_=>by
  rw[jca];simp(disch:=omega)only[j3T,Ã,S0];simp[tmP]
 |n+1,j,acc,hj,ha=>by
  have hlt:j<S.length:=omg_;have hgd:S.getD j (0,0,0)=S[j]:=by simp[X,hlt]
  rw[jca,Z hlt];simp only[j3T];rw[j00 omg_,j2j,j07 (x:=(j:o)+1)];simp only[j6,j8,hgd];by_cases hv:S[j].2.2=p
  .have e:tmP p (S[j]::S.drop (j+1))=(S[j].1,S[j].2.1)::tmP p (S.drop (j+1)):=by unfold tmP;rw[Ç (by simp[hv]),Ñ]
   simp(disch:=omega)only[e,S0];have ih:=jsM (p:=p) hl n (j+1) (acc++[(S[j].1,S[j].2.1)]) omg_ sqo_;rw[Â]at ih;exact ih
  .have e:tmP p (S[j]::S.drop (j+1))=tmP p (S.drop (j+1)):=by unfold tmP;rw[È (by simp[hv])]
   rw[j3Z hv,j7,j04,e];exact jsM hl n (j+1) acc omg_ omg_
theorem jyg(p:o)(S:SgL):(tmP p S).length<=S.length:=by
 unfold tmP;rw[List.length_map];exact List.length_filter_le _ _
theorem jFv{f:o->o}{a b:o}{S:SgL}(h:Cov f b Ò a S)(hl:S.length<=16384)(ha:0<=a)(hb:b<=8589934592)(p:o):jbf S p=N (tmP p S):=by
 have l0:=jsM (p:=p) hl S.length 0 [] omg_ smp_;rw[show ((0:J):o)=0 from rfl,H,Á]at l0
 have hm:∀s∈tmP p S,a<=s.1/\s.1<s.2/\s.2<=b:=λs hs=>by
  obtain⟨x,hx,rfl⟩:=List.mem_map.1 hs;have hx:=(List.mem_filter.1 hx).1;have h1:=h.ch.mem x hx;have h2:=h.pos x hx;exact⟨h1.1,h2,h1.2.2.1⟩
 have hlen:=jyg p S;obtain⟨out,e,h1,h2,_⟩:=jhA (l:=tmP p S) omg_ (λs hs=>by have:=hm s hs;omega) (lo:=a) (hi:=b) (λs hs _=>by have:=hm s hs;omega);have hst:=jBa (v:=p) h;rw[if_neg smp_]at hst;have:out=tmP p S:=jjH h1 hst h2;simp(disch:=omega)only[jbf,l0,e,this,S0]
section
variable{zs:G j0K}{ps:G j0k}{cs:G CalT}{ss:G j0R}
end
section
variable{α:Type}(key:α->o)
def insK(x:α):G α->G α
 |[]=>[x]
 |y::ys=>if key x<key y then x::y::ys else y::insK x ys
def srtK(l:G α):G α:=l.foldl (λacc x=>insK key x acc) []
def mrg:G α->G α->G α
 |[],bs=>bs
 |a::us',bs=>go a (mrg us') us' bs
where go (a:α) (f:G α->G α) (us':G α):G α->G α
 |[]=>a::us'
 |b::bs=>if key b<key a then b::go a f us' bs else a::f (b::bs)
theorem jb9:∀us':G α,mrg key us' []=us'
 |[]=>rfl
 |_::_=>rfl
theorem j7l(a b:α)(us' bs:G α):mrg key (a::us') (b::bs)=if key b<key a then b::mrg key (a::us') bs else a::mrg key us' (b::bs):=rfl
variable{key}
theorem jpq(x:α):∀(A B:G α),insK key x (mrg key A B)=mrg key A (insK key x B)
 |[],_=>rfl
 |[a],[]=>by
  simp only[jb9,insK,j7l];split<;>rfl
 |a::a'::us',[]=>by
  have ih:=jpq x (a'::us') [];rw[jb9]at ih ⊢;rw[show insK key x ([]:G α)=[x] from rfl]at ih ⊢;rw[j7l];rw[insK];split
  .rw[jb9]
  .rw[ih]
 |a::us',b::bs=>by
  have i1:=jpq x (a::us') bs;have i2:=jpq x us' (b::bs);rw[j7l];by_cases h1:key b<key a
  .rw[if_pos h1];simp only[insK];by_cases h2:key x<key b
   .rw[if_pos h2,if_pos h2,j7l,if_pos (show key x<key a by omega),j7l,if_pos h1]
   .rw[if_neg h2,if_neg h2,j7l,if_pos h1,i1]
  .rw[if_neg h1];rw[show insK key x (a::mrg key us' (b::bs))=if key x<key a then x::a::mrg key us' (b::bs) else a::insK key x (mrg key us' (b::bs)) from rfl,i2];rw[show insK key x (b::bs)=if key x<key b then x::b::bs else b::insK key x bs from rfl];by_cases h2:key x<key b
   .rw[if_pos h2];by_cases h3:key x<key a
    .rw[if_pos h3,j7l,if_pos h3,j7l,if_neg h1]
    .rw[if_neg h3,j7l,if_neg h3]
   .rw[if_neg h2];rw[if_neg (show¬key x<key a by omega),j7l,if_neg h1]
termination_by A B=>A.length+B.length
theorem jn8:∀(ys A B:G α),ys.foldl (λacc x=>insK key x acc) (mrg key A B)=mrg key A (ys.foldl (λacc x=>insK key x acc) B)
 |[],_,_=>rfl
 |y::ys,A,B=>by
  simp only[Ë];rw[jpq,jn8 ys A]
theorem jyh(xs ys:G α):srtK key (xs++ys)=mrg key (srtK key xs) (srtK key ys):=by
 have h:=jn8 (key:=key) ys (srtK key xs) [];grind[jb9,srtK]
theorem jaw:∀(A1 B1 A2 B2:G α),(∀x∈A2,∀y∈B1,key y<key x)->(∀x∈A1,∀y∈B2,¬key y<key x)->
  mrg key (A1++A2) (B1++B2)=mrg key A1 B1++mrg key A2 B2
 |[],[],_,_,_,_=>rfl
 |[],b::bs,[],B2,_,_=>rfl
 |[],b::bs,a::us',B2,h1,h2=>by
  have ih:=jaw [] bs (a::us') B2 (λx hx y hy=>h1 x hx y (by simp[hy])) h2;rw[H]at ih;rw[H,W,j7l,if_pos (h1 a smp_ b smp_),ih];rfl
 |a::us',[],A2,[],_,_=>by simp only[Ì,jb9]
 |a::us',[],A2,b::bs,h1,h2=>by
  have ih:=jaw us' [] A2 (b::bs) h1 (λx hx y hy=>h2 x (by simp[hx]) y hy);rw[H,jb9]at ih;rw[H,W,j7l,if_neg (h2 a smp_ b smp_),ih,jb9];rfl
 |a::us',b::bs,A2,B2,h1,h2=>by
  have i1:=jaw (a::us') bs A2 B2 (λx hx y hy=>h1 x hx y (by simp[hy])) h2;have i2:=jaw us' (b::bs) A2 B2 h1 (λx hx y hy=>h2 x (by simp[hx]) y hy);rw[W,W,j7l,j7l];split
  .rw[<-W,i1];rfl
  .rw[<-W,i2];rfl
termination_by A1 B1=>A1.length+B1.length
theorem jCU(x:α)(B1 B2:G α)(h1:∀y∈B1,key y<key x)(h2:∀y∈B2,¬key y<key x):mrg key [x] (B1++B2)=B1++x::B2:=by
 have e1:=jaw (key:=key) [] B1 [x] B2 (by simpa using h1) smp_;have e2:=jaw (key:=key) [x] [] [] B2 smp_ (by simpa using h2);rw[H]at e1;rw[Ì,H,jb9]at e2;rw[e1,e2];rfl
theorem jzY(y:α)(A1 A2:G α)(h1:∀x∈A1,¬key y<key x)(h2:∀x∈A2,key y<key x):mrg key (A1++A2) [y]=A1++y::A2:=by
 have e1:=jaw (key:=key) A1 [] A2 [y] smp_ (by simpa using h1);have e2:=jaw (key:=key) [] [y] A2 [] (by simpa using h2) smp_;rw[H,jb9]at e1;rw[H,Ì,jb9]at e2;rw[e1,e2];rfl
theorem jh5(x:α):∀l:G α,(insK key x l).Perm (x::l)
 |[]=>List.Perm.refl _
 |y::ys=>by
  unfold insK;split
  .exact List.Perm.refl _
  .exact((jh5 x ys).cons y).trans (List.Perm.swap x y ys)
theorem jjK:∀(l acc:G α),(l.foldl (λacc x=>insK key x acc) acc).Perm (acc++l)
 |[],acc=>smp_
 |x::xs,acc=>by
  simp only[Ë];refine(jjK xs (insK key x acc)).trans ?_;refine((jh5 x acc).append_right xs).trans ?_
  simp_all[List.Perm.symm]
theorem jax(l:G α):(srtK key l).Perm l:=by
 have:=jjK (key:=key) l [];rwa[H]at this
theorem jcB(l:G α):(srtK key l).length=l.length:=(jax l).length_eq
theorem jsN{R:α->α->Prop}(x:α):∀l:G α,l.Pairwise (λy z=>key y<key z\/key y=key z/\R y z)->(∀y∈l,R y x)->(insK key x l).Pairwise (λy z=>key y<key z\/key y=key z/\R y z)
 |[],_,_=>Æ _ _
 |y::ys,h,hr=>by
  have hc:=List.pairwise_cons.1 h;unfold insK;split
  .grind[List.pairwise_cons]
  .rename_i hge;refine List.pairwise_cons.2 ⟨λz hz=>?_,jsN x ys hc.2 (λw hw=>hr w (by simp[hw]))⟩;grind[jh5]
theorem jn9{R:α->α->Prop}:∀(l acc:G α),acc.Pairwise (λy z=>key y<key z\/key y=key z/\R y z)->(∀y∈acc,∀z∈l,R y z)->l.Pairwise R->
  (l.foldl (λacc x=>insK key x acc) acc).Pairwise (λy z=>key y<key z\/key y=key z/\R y z)
 |[],_,h,_,_=>h
 |x::xs,acc,h,hr,hl=>by
  simp only[Ë];have hc:=List.pairwise_cons.1 hl;refine jn9 xs _ (jsN x acc h (λy hy=>hr y hy x smp_)) (λy hy z hz=>?_) hc.2;grind[jh5]
theorem jyi{R:α->α->Prop}{l:G α}(h:l.Pairwise R):(srtK key l).Pairwise (λy z=>key y<key z\/key y=key z/\R y z):=
 jn9 l [] List.Pairwise.nil smp_ h
theorem jCV(l:G α):(srtK key l).Pairwise (λy z=>key y<=key z):=
 (jyi (R:=λ_ _=>True) (l:=l) (List.pairwise_of_forall (λ_ _=>trivial))).imp (λh=>omg_)
variable(key)
inductive Blk(n:J):G α->G α->Prop
 |last (l:G α):l.length<n->Blk n l (srtK key l)
 |more (x l d:G α):x.length=n->Blk n l d->Blk n (x++l) (srtK key x++d)
variable{key}
theorem Blk.len{n:J}{l d:G α}(h:Blk key n l d):d.length=l.length:=by
 induction h<;>grind[jcB]
theorem Blk.all{n:J}{l d:G α}(h:Blk key n l d)(hl:l.length<=n):d=srtK key l:=by
 cases h<;>grind[len,À,List.length_eq_zero_iff]
end
abbrev ClT:=o×o×o×o×o
abbrev ClL:=G ClT
def keyC(x:ClT):Int:=x.2.2.2.1
def SmK(l:ClL):Prop:=∀x∈l, -1000000000000<=keyC x/\keyC x<=1000000000000
def SrtC(l:ClL):Prop:=l.Pairwise λx y=>keyC x<=keyC y
theorem SmK.app{l r:ClL}(h:SmK l)(h':SmK r):SmK (l++r):=λx hx=>(List.mem_append.1 hx).elim (h x) (h' x)
theorem SmK.perm{l r:ClL}(h:SmK l)(hp:r.Perm l):SmK r:=λx hx=>h x (hp.mem_iff.1 hx)
theorem SmK.of{l r:ClL}(h:SmK l)(hp:∀x∈r,x∈l):SmK r:=λx hx=>h x (hp x hx)
theorem jtZ{x y:ClT}(hx : -1000000000000<=keyC x/\keyC x<=1000000000000)(hy : -1000000000000<=keyC y/\keyC y<=1000000000000) :
  j2T (x.1,x.2.1,x.2.2.1,x.2.2.2.1,x.2.2.2.2) (y.1,y.2.1,y.2.2.1,y.2.2.2.1,y.2.2.2.2)=N (keyC x-keyC y):=by
 grind[j2T,keyC,j24]
theorem jrk{β:Type}(F:J->J->Ô β)(fin:J->β)(p:J->Prop)[DecidablePred p](lo hi:J)
  (hstep:∀i j,lo<=i->i<j->j<=hi->F i j=if p ((i+j)/2) then F ((i+j)/2+1) j else F i ((i+j)/2))
  (hend:∀i,lo<=i->i<=hi->F i i=N (fin i))(mono:∀s t,lo<=s->s<=t->t<hi->p t->p s) :
  ∀(n i j:J),j-i<=n->lo<=i->i<=j->j<=hi->(∀t,lo<=t->t<i->p t)->(∀t,j<=t->t<hi->¬p t)->
   ∃k,i<=k/\k<=j/\F i j=N (fin k)/\(∀t,lo<=t->t<k->p t)/\∀t,k<=t->t<hi->¬p t
 |0,i,j,hn,h1,h2,h3,h4,h5=>by
  obtain rfl:i=j:=omg_;grind
 |n+1,i,j,hn,h1,h2,h3,h4,h5=>by
  by_cases hij:i=j
  .grind
  .rw[hstep i j h1 omg_ h3];by_cases hp:p ((i+j)/2)
   .rw[if_pos hp];obtain⟨k,k1,k2,k3⟩:=jrk F fin p lo hi hstep hend mono n ((i+j)/2+1) j omg_ omg_ omg_ h3 (λt t1 t2=>mono t _ t1 omg_ omg_ hp) h5;grind
   .rw[if_neg hp];obtain⟨k,k1,k2,k3⟩:=jrk F fin p lo hi hstep hend mono n i ((i+j)/2) omg_ h1 omg_ omg_ h4 (λt t1 t2 hq=>hp (mono _ t omg_ t1 t2 hq));grind
theorem jpr{a b:J}(h:a+b<=4000000000):w64 (Int.fdiv (IntKind.wrap .u64 (w64 ((a:o)+(b:o)))) 2)=(((a+b)/2:J):o):=by
 grind[j24,IntWalk.u64_in]
def dC:ClT:=(0,0,0,0,0)
theorem je9(P R:ClL)(x:ClT):(P++x::R).getD P.length dC=x:=by
 simp_all
theorem jea(P R:ClL)(x y:ClT):(P++x::R).set P.length y=P++y::R:=by
 simp_all
theorem jhB{l:ClL}{i:J}(h:i<l.length):l.getD i dC∈l:=by
 simp_all
theorem ju0(P A R:ClL)(i:J)(h:i<A.length):(P++(A++R)).getD (P.length+i) dC=A.getD i dC:=by
 grind
theorem jh6{A:ClL}(h:SrtC A){i j:J}(hij:i<=j)(hj:j<A.length):keyC (A.getD i dC)<=keyC (A.getD j dC):=by
 simp(disch:=omega)only[S0];by_cases he:i=j
 .simp_all
 .exact List.pairwise_iff_getElem.1 h i j omg_ hj omg_
theorem jlu{A:ClL}{k:J}{x:ClT}(h:x∈A.take k):∃i,i<k/\i<A.length/\x=A.getD i dC:=by
 obtain⟨i,hi,rfl⟩:=O h;simp only[List.length_take]at hi;exact⟨i,omg_,omg_,by grind⟩
theorem jlv{A:ClL}{k:J}{x:ClT}(h:x∈A.drop k):∃i,k<=i/\i<A.length/\x=A.getD i dC:=by
 obtain⟨i,hi,rfl⟩:=O h;simp only[List.length_drop]at hi;exact⟨k+i,omg_,omg_,by grind⟩
theorem ju1{n a b:o}:∀(U V P M Q:ClL)(k:J),U.length=V.length->(k:o)+U.length=n->a+k=P.length->b+k=((P.length+U.length+M.length:J):o)->P.length+U.length+M.length+V.length+Q.length<=1000000000->0<=a->0<=b->k<=1000000000->
  j2B a b n (k:o) (P++(U++(M++(V++Q))))=N (P++(V++(M++(U++Q))))
 |[],[],P,M,Q,k,_,hn,ha,hb,hl,_,_,_=>by
  rw[j4o];simp only[j0G];simp only[Ê]at hn;rw[j01 omg_,j7,j0e]
 |[],_::_,_,_,_,_,h,_,_,_,_,_,_,_=>by simp at h
 |_::_,[],_,_,_,_,h,_,_,_,_,_,_,_=>by simp at h
 |x::U,y::V,P,M,Q,k,hUV,hn,ha,hb,hl,ha0,hb0,hk=>by
  simp only[Å]at hUV hn hb hl;have hUV':U.length=V.length:=omg_;have e1:P++(x::U++(M++(y::V++Q)))=(P++x::(U++M))++y::(V++Q):=smp_;have e2:P++(x::U++(M++(y::V++Q)))=P++x::(U++(M++(y::V++Q))):=smp_;have hL:(P++(x::U++(M++(y::V++Q)))).length=P.length+U.length+1+M.length+V.length+1+Q.length:=sqo_;have g1:(P++(x::U++(M++(y::V++Q)))).getD (b+k).toNat dC=y:=by rw[e1,show (b+k).toNat=(P++x::(U++M)).length by simp;omega,je9]
  have g2:(P++(x::U++(M++(y::V++Q)))).getD (a+k).toNat dC=x:=by rw[e2,show (a+k).toNat=P.length by omega,je9]
  have s1:(P++(x::U++(M++(y::V++Q)))).set (a+k).toNat y=(P++y::(U++M))++y::(V++Q):=by rw[e2,show (a+k).toNat=P.length by omega,jea];simp
  have s2:((P++y::(U++M))++y::(V++Q)).set (b+k).toNat x=(P++[y])++(U++((M++[x])++(V++Q))):=by rw[show (b+k).toNat=(P++y::(U++M)).length by simp;omega,jea];simp
  have ih:=ju1 (n:=n) (a:=a) (b:=b) U V (P++[y]) (M++[x]) Q (k+1) hUV' omg_ sqo_ sqo_ sqo_ ha0 hb0 omg_;unfold dC at g1 g2;rw[j4o];simp only[j0G];rw[j00 (show (k:o)<n by omega),j07 (x:=a+(k:o)),j07 (x:=b+(k:o)),j0B omg_ (by rw[hL];omega),j0B (show (0:o)<=a+(k:o) by omega) (by rw[hL];omega)];simp only[j6,g1,g2];rw[show (P++(x::U++(M++(y::V++Q)))).set (a+(k:o)).toNat (y.1,y.2.1,y.2.2.1,y.2.2.2.1,y.2.2.2.2)=_ from s1];rw[j0B (show (0:o)<=b+(k:o) by omega) sqo_,j6];simp(disch:=omega)only[show ((P++y::(U++M))++y::(V++Q)).set (b+(k:o)).toNat (x.1,x.2.1,x.2.2.1,x.2.2.2.1,x.2.2.2.2)=_ from s2,S0];rw[show ((k+1:J):o)=(k:o)+1 by omega]at ih;rw[ih];simp
theorem jps(P U M V Q:ClL)(h:U.length=V.length)(hl:P.length+U.length+M.length+V.length+Q.length<=1000000000){a b n:o}(ha:a=P.length)(hb:b=((P.length+U.length+M.length:J):o))(hn:n=U.length) :
  j0z (P++(U++(M++(V++Q)))) a b n=N (P++(V++(M++(U++Q)))):=by
 have:=ju1 (n:=n) (a:=a) (b:=b) U V P M Q 0 h omg_ omg_ omg_ hl omg_ omg_ omg_;grind[j0z]
theorem jyj{m:o}:∀(n:J)(P U V Q:ClL),U.length+V.length<=n->U≠[]->V≠[]->m=((P.length+U.length:J):o)->P.length+U.length+V.length+Q.length<=1000000000->
  ∃(i:o)(d:ClL),j3u m (U.length:o) (V.length:o) (P++(U++(V++Q)))=N (m,i,d)/\j0z d (w64 (m-i)) m i=N (P++(V++(U++Q)))
 |0,P,U,V,Q,hn,hU,_,_,_=>by
  simp_all
 |n+1,P,U,V,Q,hn,hU,hV,hm,hl=>by
  have hu:=List.length_pos_iff.2 hU;have hv:=List.length_pos_iff.2 hV;rw[j9c];simp only[j1t];by_cases hne:U.length=V.length
  .rw[show (((U.length:J):o) != (V.length:o))=false by simp_all,j7,j0e];refine⟨_,_,rfl,?_⟩;have:=jps P U [] V Q hne sqo_ (a:=w64 (m-(U.length:o))) (b:=m) (n:=(U.length:o)) (by grind[j24]) sqo_ rfl;simpa using this
  .rw[show (((U.length:J):o) != (V.length:o))=true by simp;omega,j6];by_cases hgt:V.length<U.length
   .rw[j00 (show (U.length:o)>(V.length:o) by omega),j6];obtain⟨U1,U2,hUe,hU1⟩:∃U1 U2,U=U1++U2/\U1.length=V.length:=⟨U.take V.length,U.drop V.length,(Í ..).symm,sqo_⟩;subst hUe;simp only[À]at *;have hs:=jps P U1 U2 V Q hU1 omg_ (a:=w64 (m-((U1.length+U2.length:J):o))) (b:=m) (n:=(V.length:o)) (by grind[j24]) omg_ omg_;simp only[Â]at hs ⊢;rw[hs];simp(disch:=omega)only[S0];obtain⟨i,d,h1,h2⟩:=jyj (m:=m) n (P++V) U2 U1 Q omg_ (λh=>by simp_all) (λh=>by simp_all) sqo_ sqo_;grind
   .rw[j01 (show¬(U.length:o)>(V.length:o) by omega),j7];obtain⟨V1,V2,hVe,hV2⟩:∃V1 V2,V=V1++V2/\V2.length=U.length:=⟨V.take (V.length-U.length),V.drop (V.length-U.length),(Í ..).symm,sqo_⟩;subst hVe;simp only[À]at *;have hs:=jps P U V1 V2 Q hV2.symm omg_ (a:=w64 (m-(U.length:o))) (b:=w64 (w64 (m+((V1.length+V2.length:J):o))-(U.length:o))) (n:=(U.length:o)) (by grind[j24]) (by simp(disch:=omega)only[S0];omega) rfl;simp only[Â]at hs ⊢;rw[hs];simp(disch:=omega)only[S0];obtain⟨i,d,h1,h2⟩:=jyj (m:=m) n P V2 V1 (U++Q) omg_ (λh=>by simp_all) (λh=>by simp_all) omg_ sqo_;grind
theorem jEw(P U V Q:ClL)(hU:U≠[])(hV:V≠[])(hl:P.length+U.length+V.length+Q.length<=1000000000){a m b:o}(ha:a=P.length)(hm:m=((P.length+U.length:J):o))(hb:b=((P.length+U.length+V.length:J):o)) :
  j1d (P++(U++(V++Q))) a m b=N (P++(V++(U++Q))):=by
 obtain⟨i,d,h1,h2⟩:=jyj (m:=m) _ P U V Q (I _) hU hV hm hl;grind[j1d,j24]
section
variable(rec:ClL->o->o->o->Ô ClL)
theorem jBb{e:o}(x:ClT):∀(B P Q:ClL),e-1=((P.length+B.length:J):o)->P.length+B.length+Q.length<=1000000000->
  j1R rec e (P.length:o) (P++x::(B++Q))=N (P++(B++x::Q))
 |[],P,Q,he,hl=>by
  rw[j4H];simp only[j0N];simp only[Ê]at he;simp(disch:=omega)only[S0];rfl
 |y::B,P,Q,he,hl=>by
  simp only[Å]at he hl;have hL:(P++x::(y::B++Q)).length=P.length+B.length+Q.length+2:=sqo_;have e1:P++x::(y::B++Q)=(P++[x])++y::(B++Q):=smp_;have g1:(P++x::(y::B++Q)).getD ((P.length:o)+1).toNat dC=y:=by rw[e1,show ((P.length:o)+1).toNat=(P++[x]).length by simp,je9]
  have g2:(P++x::(y::B++Q)).getD P.length dC=x:=je9 _ _ _;have s1:(P++x::(y::B++Q)).set P.length y=(P++[y])++y::(B++Q):=by rw[jea];simp
  have s2:((P++[y])++y::(B++Q)).set ((P.length:o)+1).toNat x=(P++[y])++x::(B++Q):=by rw[show ((P.length:o)+1).toNat=(P++[y]).length by simp,jea]
  have ih:=jBb (e:=e) x B (P++[y]) Q sqo_ sqo_;unfold dC at g1 g2;rw[j4H];simp(disch:=omega)only[j0N,g1,g2,show (P++x::(y::B++Q)).set P.length (y.1,y.2.1,y.2.2.1,y.2.2.2.1,y.2.2.2.2)=_ from s1,S0];rw[j0B (n:=((P++[y])++y::(B++Q)).length) (show (0:o)<=(P.length:o)+1 by omega) sqo_,j6];rw[show ((P++[y])++y::(B++Q)).set ((P.length:o)+1).toNat (x.1,x.2.1,x.2.2.1,x.2.2.2.1,x.2.2.2.2)=_ from s2,j04];rw[show (((P++[y]).length:J):o)=(P.length:o)+1 by simp]at ih;rw[ih];simp
theorem jBc{i:o}(x:ClT):∀(B P Q:ClL),i=P.length->P.length+B.length+Q.length<=1000000000->
  j1S rec i ((P.length+B.length:J):o) (P++(B.reverse++x::Q))=N (P++x::(B.reverse++Q))
 |[],P,Q,hi,hl=>by
  rw[j4J];simp(disch:=omega)only[j0P,S0];rfl
 |y::B,P,Q,hi,hl=>by
  simp only[Å]at hl;have hL:(P++((y::B).reverse++x::Q)).length=P.length+B.length+Q.length+2:=sqo_;have e1:P++((y::B).reverse++x::Q)=(P++B.reverse++[y])++x::Q:=smp_;have e2:P++((y::B).reverse++x::Q)=(P++B.reverse)++y::(x::Q):=smp_;have n1:(((P.length+(B.length+1):J):o)-1).toNat=(P++B.reverse).length:=sqo_;have n2:P.length+(B.length+1)=(P++B.reverse++[y]).length:=smp_;have g1:(P++((y::B).reverse++x::Q)).getD (((P.length+(B.length+1):J):o)-1).toNat dC=y:=by rw[e2,n1,je9]
  have g2:(P++((y::B).reverse++x::Q)).getD (P.length+(B.length+1)) dC=x:=by rw[e1,n2,je9]
  have s1:(P++((y::B).reverse++x::Q)).set (P.length+(B.length+1)) y=(P++B.reverse)++y::(y::Q):=by grind[jea]
  have s2:((P++B.reverse)++y::(y::Q)).set (((P.length+(B.length+1):J):o)-1).toNat x=P++(B.reverse++x::(y::Q)):=by rw[n1,jea];simp
  have ih:=jBc (i:=i) x B P (y::Q) hi sqo_;unfold dC at g1 g2;rw[j4J];simp(disch:=omega)only[j0P,g1,g2,show (P++((y::B).reverse++x::Q)).set (P.length+(B.length+1)) (y.1,y.2.1,y.2.2.1,y.2.2.2.1,y.2.2.2.2)=_ from s1,S0];rw[j0B (show (0:o)<=((P.length+(B.length+1):J):o)-1 by omega) sqo_,j6];rw[show ((P++B.reverse)++y::(y::Q)).set (((P.length+(B.length+1):J):o)-1).toNat (x.1,x.2.1,x.2.2.1,x.2.2.2.1,x.2.2.2.2)=_ from s2,j04];rw[show ((P.length+(B.length+1):J):o)-1=((P.length+B.length:J):o) by omega,ih];simp
variable{D:ClL}(hD:SmK D)(hL:D.length<=1000000000)
include hD hL
theorem jEx{a m b:J}(ha:a<D.length)(hmb:m<=b)(hb:b<=D.length)(hmono:∀s t,m<=s->s<=t->t<b->keyC (D.getD s dC)<=keyC (D.getD t dC)) :
  ∃k,m<=k/\k<=b/\j19 rec (a:o) (m:o) (b:o) D=N ((a:o),(k:o),D)/\(∀t,m<=t->t<k->keyC (D.getD t dC)<keyC (D.getD a dC))/\∀t,k<=t->t<b->¬keyC (D.getD t dC)<keyC (D.getD a dC):=by
 refine jrk (λi j=>j19 rec (a:o) (i:o) (j:o) D) (λk=>((a:o),(k:o),D)) (λt=>keyC (D.getD t dC)<keyC (D.getD a dC)) m b (λi j h1 h2 h3=>?_) (λi h1 h2=>?_) (λs t h1 h2 h3 h4=>by grind) (b-m) m b (I _) (I _) hmb (I _) (λt h1 h2=>omg_) (λt h1 h2=>omg_)
 .rw[j4G];simp only[j0M];rw[j00 (show (i:o)<(j:o) by omega),jpr omg_,j0B (show (0:o)<=(((i+j)/2:J):o) by omega) omg_,j0B (show (0:o)<=(a:o) by omega) omg_];simp only[j6,j8];have c:=jtZ (hD _ (jhB (l:=D) (i:=(i+j)/2) omg_)) (hD _ (jhB ha));unfold dC at c ⊢;rw[c];simp only[j4];grind[j24,j04]
 .rw[j4G];simp(disch:=omega)only[j0M,S0]
theorem jEy{a m:J}(hm:m<D.length)(ham:a<=m)(hmono:∀s t,a<=s->s<=t->t<m->keyC (D.getD s dC)<=keyC (D.getD t dC)) :
  ∃k,a<=k/\k<=m/\j1a rec (m:o) (a:o) (m:o) D=N ((m:o),(k:o),D)/\(∀t,a<=t->t<k->¬keyC (D.getD m dC)<keyC (D.getD t dC))/\∀t,k<=t->t<m->¬¬keyC (D.getD m dC)<keyC (D.getD t dC):=by
 refine jrk (λi j=>j1a rec (m:o) (i:o) (j:o) D) (λk=>((m:o),(k:o),D)) (λt=>¬keyC (D.getD m dC)<keyC (D.getD t dC)) a m (λi j h1 h2 h3=>?_) (λi h1 h2=>?_) (λs t h1 h2 h3 h4=>by grind) (m-a) a m (I _) (I _) ham (I _) (λt h1 h2=>omg_) (λt h1 h2=>omg_)
 .rw[j4I];simp only[j0O];rw[j00 (show (i:o)<(j:o) by omega),jpr omg_,j0B (show (0:o)<=(m:o) by omega) omg_,j0B (show (0:o)<=(((i+j)/2:J):o) by omega) omg_];simp only[j6,j8];have c:=jtZ (hD _ (jhB hm)) (hD _ (jhB (l:=D) (i:=(i+j)/2) omg_));unfold dC at c ⊢;rw[c];simp only[j4];by_cases hp:keyC (D.getD m (0,0,0,0,0))<keyC (D.getD ((i+j)/2) (0,0,0,0,0))
  .grind[j04]
  .rw[if_pos hp,j01 omg_];simp(disch:=omega)only[S0];rfl
 .rw[j4I];simp(disch:=omega)only[j0O,S0]
theorem jBd{lo hi p:J}{s1 s2 s3 s18 s19:o}(hlh:lo<=hi)(hh:hi<=D.length)(hp:∀c,lo<=c->c<hi->c<=p/\p-c<D.length)(hp2:p<=2000000000)
  (hmono:∀s t,lo<=s->s<=t->t<hi->¬keyC (D.getD (p-t) dC)<keyC (D.getD t dC)->¬keyC (D.getD (p-s) dC)<keyC (D.getD s dC)) :
  ∃k,lo<=k/\k<=hi/\j0I rec s1 s2 s3 s18 s19 (lo:o) (hi:o) (p:o) D=N (s1,s2,s3,s18,s19,(k:o),D)/\(∀t,lo<=t->t<k->¬keyC (D.getD (p-t) dC)<keyC (D.getD t dC))/\∀t,k<=t->t<hi->¬¬keyC (D.getD (p-t) dC)<keyC (D.getD t dC):=by
 refine jrk (λi j=>j0I rec s1 s2 s3 s18 s19 (i:o) (j:o) (p:o) D) (λk=>(s1,s2,s3,s18,s19,(k:o),D)) (λt=>¬keyC (D.getD (p-t) dC)<keyC (D.getD t dC)) lo hi (λi j h1 h2 h3=>?_) (λi h1 h2=>?_) hmono (hi-lo) lo hi (I _) (I _) hlh (I _) (λt h1 h2=>omg_) (λt h1 h2=>omg_)
 .have hpc:=hp ((i+j)/2) omg_ omg_;rw[j4K];simp only[j0Q];rw[j00 (show (i:o)<(j:o) by omega),jpr omg_,j07 (x:=(p:o)-(((i+j)/2:J):o)),j0B (show (0:o)<=(p:o)-(((i+j)/2:J):o) by omega) omg_,j0B (show (0:o)<=(((i+j)/2:J):o) by omega) omg_];simp only[j6,j8];rw[show ((p:o)-(((i+j)/2:J):o)).toNat=p-(i+j)/2 by omega];have c:=jtZ (hD _ (jhB (l:=D) (i:=p-(i+j)/2) hpc.2)) (hD _ (jhB (l:=D) (i:=(i+j)/2) omg_));unfold dC at c ⊢;rw[c];simp only[j4];by_cases hq:keyC (D.getD (p-(i+j)/2) (0,0,0,0,0))<keyC (D.getD ((i+j)/2) (0,0,0,0,0))
  .grind[j04]
  .rw[if_pos hq,j01 omg_];simp(disch:=omega)only[S0];rfl
 .rw[j4K];simp(disch:=omega)only[j0Q,S0]
end
end Go.Proofs.Pw
