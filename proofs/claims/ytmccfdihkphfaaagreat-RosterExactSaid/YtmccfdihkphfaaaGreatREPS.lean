/- edit.SegmentsOf: V_ is on call in a range, with edits. -/
import Derived.Test.YtmccfdihkphfaaaGreatREPR
open _root_ renaming Int->d,List->A,Nat->J,ByteArray->N
open Int renaming ofNat->z
open List renaming drop_of_length_le->D,getD->F,length_append->I
open Option renaming some->G,none->U
open ByteArray renaming empty->H
open Go Go.Lft
namespace Go.Proofs.Pw
theorem jGi{ds:A d}(hs:ds.Pairwise (· < ·))(hl:ds.length<=64)(x:d):∃(k:J)(b:Bool),j0u ds x=G ((k:d),b)/\k<=ds.length/\(∀i,(hi:i<ds.length)->i<k->ds[i]<x)/\∀i,(hi:i<ds.length)->k<=i->x<=ds[i]:=by
 obtain⟨k,e,hk,h1,h2⟩:=KP hs hl (x:=x) ds.length 0 ds.length aa aa (jq _) (λi _ h=>aa) (λi hi h=>aa);rw[show ((0:J):d)=0 from rfl]at e;simp only[j0u,show z ds.length=(ds.length:d) from rfl,e,j4,j8];by_cases ir:k<ds.length
 .have bc:ds.getD k (0:d)=ds[k]:=by simp[ir]
  rw[bE,ag (show (k:d)<(ds.length:d) by omega),bc];simp only[z8,j6];by_cases hx:ds[k]=x
  .rw[dI hx];exact⟨k,_,rfl,hk,h1,h2⟩
  .rw[cG hx];simp only[j7,j6B,j4,jf];exact⟨k,_,rfl,hk,h1,h2⟩
 .rw[an (show¬(k:d)<(ds.length:d) by omega)];simp only[jp,yb,j6,j7,ym];exact⟨k,_,rfl,hk,h1,h2⟩
theorem TA{a t:d}:∀(es:A cO)(p:d),(∀x∈es,(x.2.2.2.1<=a↔x.2.2.2.1<=t)/\(x.2.2.2.2<=a↔x.2.2.2.2<=t))->mD t p es=mD a p es
 |[],_,_=>rfl
 |x::r,p,h=>by
  have hx:=h x ae;simp only[mD]
  have e:C0 t p x=C0 a p x:=by
   unfold C0;have:(t<x.2.2.2.1\/x.2.2.2.2<=t)↔(a<x.2.2.2.1\/x.2.2.2.2<=a):=aa;by_cases hc:a<x.2.2.2.1\/x.2.2.2.2<=a
   .rw[if_pos hc,if_pos (this.2 hc)]
   .rw[if_neg hc,if_neg (λh=>hc (this.1 h))]
  rw[e];exact TA r _ (λy hy=>h y (by simp[hy]))
theorem ą{es:A cO}(hl:es.length<=1000){f t:d}{zs:A bH}{ps:A dr}{cs:A bd}{ss:A cN}{tbs:A (d×bh)}{nm:N}{ls:A bA}:∀(n i:J)(acc:A d),i+n=es.length->acc.length<=2*i->
  Fo f t es (es.length:d) (i:d) zs ps cs ss tbs nm ls es acc=G (f,t,zs,ps,cs,ss,tbs,nm,ls,es,acc++lF (es.drop i))
 |0,i,acc,hi,_=>by
  rw[X5];simp only[j2L];rw[an aa,j7,aW,D aa];simp[lF]
 |n+1,i,acc,hi,dJ=>by
  have bY:i<es.length:=aa;have bc:es.getD i ((0:d),((0:d),((0:d),((0:d),(0:d)))))=es[i]:=by simp[F,bY]
  have ih:=ą hl (f:=f) (t:=t) (zs:=zs) (ps:=ps) (cs:=cs) (ss:=ss) (tbs:=tbs) (nm:=nm) (ls:=ls) n (i+1) (acc++[es[i].2.2.2.1,es[i].2.2.2.2]) aa az;rw[X5];simp only[j2L];rw[ag aa,bE,ar (x:=(i:d)+1)];simp only[j6,j8,bc];rw[ag (by simp[aG];omega),j6,aS,jb bY];rw[jg]at ih;exact ih
theorem jCj{es:A cO}(hl:es.length<=100){p t:d}:jfd es p t=G (mD t p es):=by
 have ef:=Tr hl (t:=t) es.length 0 p aa;rw[jk]at ef;simp only[jfd,show z es.length=(es.length:d) from rfl,show Cp p t es (es.length:d) 0=_ from ef];rfl
section
variable{es:A cO}(gp:es.length<=100){K:A d}(hK:K.Pairwise (· < ·))(TB:K.length<=64){a0 b:d}(hb:b∈K)(fY:∀x∈lF es,a0<x->x<b->x∈K)
include gp hK TB hb fY
theorem jGV{g:d->d}{p u:d}(hu:u<=b){m q w:d}{nm:N}{ls:A bA}{R:bM}{x:d}:∀(n i:J)(a:d)(acc:bM),K.length-i<=n->a0<=a->a<=u->(a<u->i<K.length)->(∀k,(hk:k<K.length)->(a<u->(k<i->K[k]<=a)/\(i<=k->a<K[k])))->(∀t,a<=t->t<u->g t=p)->
  acc.length+(K.length-i)<=1000000000->Ch (λt=>mD t (g t) es) a x acc->
  ∃out,IW (i:d) a m q nm ls es w u p K acc R=G (m,q,nm,ls,es,K,out,R)/\Ch (λt=>mD t (g t) es) u x out/\out.length<=acc.length+(K.length-i):=by
 intro n;induction n with
 |zero=>
  intro i a acc hn ha hau hi _ _ _ nj;rw[X6];simp only[j2M];have mu:¬a<u:=λh=>by have:=hi h;omega
  rw[an mu,j7,aW];have:a=u:=aa;subst this;exact⟨acc,rfl,nj,aa⟩
 |succ n ih=>
  intro i a acc hn ha hau hi dE hg uK nj;rw[X6];simp only[j2M];by_cases aq:a<u
  .have gS:=hi aq;have bc:K.getD i (0:d)=K[i]:=by simp[gS]
   have h1:=((dE i gS) aq).2 (jq _);rw[ag aq,bE,ar (x:=(i:d)+1)];simp only[j6,j8,bc,jCj gp,j4];rw[ag (by simp[aG];omega),j6,aS];have fk:(if K[i]<u then K[i] else u)=min K[i] u:=by split<;>omega
   rw[fk];have ic:a<min K[i] u:=aa
   have TC:∀t,a<=t->t<min K[i] u->mD t (g t) es=mD a p es:=λt t1 t2=>by
    rw[hg t t1 aa];refine TA es p (λy hy=>?_);obtain⟨y1,y2⟩:=Ă hy
    have key:∀c,c∈lF es->(c<=a↔c<=t):=λc hc=>by
     refine⟨λh=>aa,λh=>?_⟩;apply ju;intro hca;have hcK:=fY c hc aa aa;obtain⟨k,hk,rfl⟩:=qw hcK;by_cases mz:k<i
     .have:=((dE k hk) aq).1 mz;omega
     .by_cases zR:k=i
      .subst zR;omega
      .have:=qc.1 hK i k gS hk aa;omega
    exact⟨key _ y1,key _ y2⟩
   have TD:=nj.snoc (b:=a) (c:=min K[i] u) (p:=mD a p es) aa TC
   obtain⟨out,e,hc,hl⟩:=ih (i+1) (min K[i] u) (acc++[(a,(min K[i] u,mD a p es))]) aa aa aa (λh=>by
    apply ju;intro TE;obtain⟨k,hk,tA⟩:=qw hb;by_cases mz:k=i
    .subst mz;omega
    .have:=qc.1 hK k i hk gS aa;omega) (λk hk h=>⟨λmz=>by
    by_cases zR:k=i
    .subst zR;omega
    .have:=((dE k hk) aq).1 aa;omega,λmz=>by
    have:=qc.1 hK i k gS hk aa;omega⟩) (λt t1 t2=>hg t aa t2) az TD
   exact⟨out,e,hc,by simp at hl;omega⟩
  .rw[an aq,j7,aW];have:a=u:=aa;subst this;exact⟨acc,rfl,nj,aa⟩
theorem Ć{g:d->d}{S:bM}(TF:S.length<=10000000){nm:N}{ls:A bA}(uT : -1000000000000<=a0)(dF:b<=1000000000000){x:d}:∀(n i:J)(a:d)(acc:bM),i+n=S.length->a0<=a->Ch g b a (S.drop i)->Ch (λt=>mD t (g t) es) a x acc->acc.length<=64*i->
  ∃out,Fp (S.length:d) (i:d) nm ls es K acc S=G out/\Ch (λt=>mD t (g t) es) b x out/\out.length<=64*S.length
 |0,i,a,acc,hi,_,hc,nj,uK=>by
  rw[D aa]at hc;have hc:a=b:=hc;subst hc;rw[X7];simp only[j2N];rw[an aa,j7,aW];exact⟨acc,rfl,nj,aa⟩
 |n+1,i,a,acc,hi,ha,hc,nj,uK=>by
  have bY:i<S.length:=aa;rw[jb bY]at hc;obtain⟨c1,c2,c3,c4⟩:=hc;have hle:=c4.le;have bc:S.getD i ((0:d),((0:d),(0:d)))=S[i]:=by simp[F,bY]
  obtain⟨k,bb,ek,hk,k1,k2⟩:=jGi hK TB (a+1)
  obtain⟨out,e4,qK,vG⟩:=jGV gp hK TB hb fY (g:=g) (p:=S[i].2.2) (u:=S[i].2.1) hle (m:=(S.length:d)) (q:=(i:d)) (w:=S[i].1) (nm:=nm) (ls:=ls) (R:=S) (x:=x) K.length k a acc aa ha c2 (λh=>by
   apply ju;intro TE;obtain⟨j,hj,AK⟩:=qw hb;have:=k1 j hj aa;omega) (λj hj _=>⟨λh=>by have:=k1 j hj h;omega,λh=>by have:=k2 j hj h;omega⟩) c3 aa nj
  have ih:=Ć TF (nm:=nm) (ls:=ls) uT dF (g:=g) (x:=x) n (i+1) S[i].2.1 out aa aa c4 qK aa;rw[X7];simp only[j2N];rw[ag aa,bE];simp only[j6,j8,bc,c1];rw[ar (x:=a+1),ek];simp only[j4];rw[c1]at e4;rw[e4];simp only[j4];rw[ar (x:=(i:d)+1),aS];exact ih
end
section
variable{zs:A bH}{ps:A dr}{cs:A bd}(hs:lz zs ps cs)
include hs
theorem ć{a b:d}(ha:0<=a)(cF:a<=b)(hb:b<=8589934592)(hlen:b-a<=35078400):∀ls:A bA,(∀L∈ls,iw zs.length ps.length cs.length L)->
  ∃E:A d,E.length<=30000*ls.length/\∀L∈ls,∀x,a<x->x<b->cA zs cs L (x-1)≠cA zs cs L x->x∈E
 |[],_=>⟨[],ae,ae⟩
 |L::ls,hL=>by
  obtain⟨E,e1,e2⟩:=ć ha cF hb hlen ls (λM hM=>hL M (by simp[hM]));obtain⟨S,_,c1,l1⟩:=Ζ hs (hL L ae) (ss:=[]) ha cF hb hlen;refine⟨sT S++E,?_,λM hM x x1 x2 x3=>?_⟩
  .have:(sT S).length<=S.length:=by simp[sT]
   rw[I,ji];omega
  .rcases je.1 hM with rfl|hM
   .exact jr _ (((Tt c1).1 x).2 ⟨x1,x2,x3⟩)
   .exact jn _ (e2 M hM x x1 x2 x3)
theorem jCk{ls:A bA}{es:A cO}(hL:∀L∈ls,iw zs.length ps.length cs.length L){a b:d}(ha:0<=a)(cF:a<=b)(hb:b<=8589934592)(hlen:b-a<=35078400) :
  ∃E:A d,E.length<=30000*ls.length+2*es.length/\(∀x,a<x->x<b->dL es (x-1) (di zs cs ls (x-1)) ls.length≠dL es x (di zs cs ls x) ls.length->x∈E)/\∀x∈lF es,x∈E:=by
 obtain⟨E,e1,e2⟩:=ć hs ha cF hb hlen ls hL;refine⟨E++lF es,by rw[I,Ld];omega,λx x1 x2 x3=>?_,λx hx=>jn _ hx⟩;apply ju;intro hn;simp only[jm,not_or]at hn;refine x3 (ϴ (λi hi=>?_) (λp=>jAN hn.2 p));apply ju;intro br;have e:∀t,di zs cs ls t i=cA zs cs ls[i] t:=λt=>by simp[di,F,hi]
 rw[e,e]at br;exact hn.1 (e2 _ (jl hi) x x1 x2 br)
theorem jxV{nm:N}{ls:A bA}{es:A cO}(hL:∀L∈ls,iw zs.length ps.length cs.length L)(ix:ls.length<=4)(hE:∀x∈es,Gk x)(gp:es.length<=9)
  {ss:A cN}{a b:d}(ha:0<=a)(cF:a<=b)(hb:b<=8589934592)(hlen:b-a<=35078400) :
  ∃out,j4V ((zs,(ps,(cs,ss))),zs.map tb) (nm,(ls,es)) a b=G out/\fJ (λt=>dL es t (di zs cs ls t) ls.length) b U a out/\out.length<=30000*ls.length+2*es.length+1:=by
 obtain⟨out,e,h,_⟩:=jCg hs hL ix hE gp ha cF hb aa (nm:=nm) (ss:=ss);obtain⟨E,e1,e2,_⟩:=jCk hs (es:=es) hL ha cF hb hlen;have:=jEP h e2;exact⟨out,e,h,aa⟩
theorem Ĉ{s:cN}(hk:SG zs ps cs s)(ix:s.2.1.length<=3)(gp:s.2.2.length<=6){ss:A cN}{a b:d}(ha:0<=a)(cF:a<=b)(hb:b<=8589934592)(hlen:b-a<=34560000) :
  ∃out,j4I ((zs,(ps,(cs,ss))),zs.map tb) s a b=G out/\fJ (dQ zs cs s) b U a out/\out.length<=10000000:=by
 obtain⟨S,eS,hS,lS⟩:=jxV hs (nm:=s.1) hk.ly aa hk.ed aa (ss:=ss) ha aa hb aa;have l0:=ą (es:=s.2.2) aa (f:=a) (t:=b) (zs:=zs) (ps:=ps) (cs:=cs) (ss:=ss) (tbs:=zs.map tb) (nm:=s.1) (ls:=s.2.1) s.2.2.length 0 [] aa ae;rw[jw,jk]at l0;have wG:=Ld s.2.2;obtain⟨C,eC,c1,c2,c3⟩:=jET (l:=lF s.2.2) aa (f:=a) (t:=b)
 have hKp:(C++[b]).Pairwise (· < ·):=v6.2 ⟨c1,List.pairwise_singleton _ _,λx hx y hy=>by
  simp at hy;subst hy;exact((c3 x).1 hx).2.2⟩
 obtain⟨M,e2,hM,lM⟩:=Ć (es:=s.2.2) aa hKp az (a0:=a) (b:=b) ae (λx hx x1 x2=>jr _ ((c3 x).2 ⟨hx,x1,x2⟩)) (g:=λt=>dL s.2.2 t (di zs cs s.2.1 t) s.2.1.length) (S:=S) aa (nm:=s.1) (ls:=s.2.1) aa aa (x:=a) S.length 0 a [] aa aa (by rw[jk];exact hS.ch) rfl ae;obtain⟨out,e3,h3,l3⟩:=Sq (l:=M) aa hM;refine⟨out,?_,h3,aa⟩;simp only[j4I,show z s.2.2.length=(s.2.2.length:d) from rfl];rw[show Fo a b s.2.2 (s.2.2.length:d) 0 zs ps cs ss (zs.map tb) s.1 s.2.1 s.2.2 []=_ from l0];simp only[j4,eC];rw[show j4V ((zs,(ps,(cs,ss))),zs.map tb) (s.1,(s.2.1,s.2.2)) a b=_ from eS];simp only[j4,show z S.length=(S.length:d) from rfl];rw[show Fp (S.length:d) 0 s.1 s.2.1 s.2.2 (C++[b]) [] S=_ from e2];simp only[j4,e3]
end
theorem jAR{zs:A bH}{cs:A bd}{s:cN}{x y:d}(jE:x<=y)(hp:∀L∈s.2.1,cA zs cs L x=cA zs cs L y)(he:oz (lF s.2.2) x y):dQ zs cs s x=dQ zs cs s y:=by
 have ĉ:∀e∈s.2.2,(e.2.2.2.1<=x↔e.2.2.2.1<=y)/\(e.2.2.2.2<=x↔e.2.2.2.2<=y):=λe hm=>by
  have a:=he e.2.2.2.1 (q8.2 ⟨e,hm,ae⟩);have b:=he e.2.2.2.2 (q8.2 ⟨e,hm,ae⟩);exact⟨aa,aa⟩
 unfold dQ;rw[ϴ (u:=y) (pg:=di zs cs s.2.1 y) (λi hi=>?_) (λp=>ϵ s.2.2 ĉ)]
 .exact TA s.2.2 _ (λe hm=>by have:=ĉ e hm;exact⟨this.1.symm,this.2.symm⟩)
 .unfold di;have bc:s.2.1.getD i (H,((0:d),(((0:d),(0:d)),((0:d),((0:d),(([]:A d),(([]:A (d×d)),((0:d),(0:d)))))))))=s.2.1[i]:=by simp[F,hi]
  rw[bc];exact hp _ (jl hi)
section
variable{zs:A bH}{ps:A dr}{cs:A bd}(hs:lz zs ps cs)
include hs
theorem TH{ss:A cN}(hc:CG (zs,(ps,(cs,ss)))){i:J}(hi:i<ss.length){t:d}(h0:0<=t)(h1:t<=8589934592):jfT (zs,(ps,(cs,ss))) (i:d) t=G (dQ zs cs ss[i] t):=by
 have iV:=hc.sc _ (jl hi);have ix:=iV.ll;have gp:=iV.el;have pH:ss.getD i (H,(([]:A bA),([]:A cO)))=ss[i]:=by simp[F,hi]
 have lp:=Ti hs (ss:=ss) (nm:=ss[i].1) (es:=ss[i].2.2) aa aa iV.ly h0 h1 ss[i].2.1.length (jq _)
 have et:∃k,jlq (zs,(ps,(cs,ss))) (i:d) t=G (k,dL ss[i].2.2 t (di zs cs ss[i].2.1 t) ss[i].2.1.length):=by
  simp only[jlq];rw[bE];simp only[j6,j8,pH,show z ss[i].2.1.length=(ss[i].2.1.length:d) from rfl];rw[ar (x:=(ss[i].2.1.length:d)-1),show Ct t ((ss[i].2.1.length:d)-1) zs ps cs ss ss[i].1 ss[i].2.1 ss[i].2.2=_ from lp];simp only[j4,dL];cases dK (fQ ss[i].2.2 t (di zs cs ss[i].2.1 t)) ss[i].2.1.length with
  |none=>exact⟨_,rfl⟩
  |some k=>exact⟨_,rfl⟩
 obtain⟨k,et⟩:=et;have ef:=Tq (es:=ss[i].2.2) aa (t:=t) ss[i].2.2.length 0 (dL ss[i].2.2 t (di zs cs ss[i].2.1 t) ss[i].2.1.length) aa;rw[jk]at ef;simp only[jfT,et,j4];rw[bE];simp only[j6,j8,pH,jn0];rw[show Cu ss[i].2.2 (dL ss[i].2.2 t (di zs cs ss[i].2.1 t) ss[i].2.1.length) t 0=_ from ef];rfl
theorem jAS{ss:A cN}(hc:CG (zs,(ps,(cs,ss)))){i:J}(hi:i<ss.length){a b:d}(ha:0<=a)(cF:a<=b)(hb:b<=8589934592)(hlen:b-a<=34560000) :
  ∃B,jn1 (zs,(ps,(cs,ss))) (i:d) a b=G B/\B.Pairwise (· < ·)/\B.length<=40000000/\(∀x∈B,a<=x/\x<=b)/\(∃r,B=a::r)/\(B.getD (B.length-1) 0=b)/\
   ∀x y,x∈B->x<=y->y<b->(∀c∈B,¬(x<c/\c<=y))->dQ zs cs ss[i] x=dQ zs cs ss[i] y:=by
 have iV:=hc.sc _ (jl hi);have ix:=iV.ll;have gp:=iV.el;have pH:ss.getD i (H,(([]:A bA),([]:A cO)))=ss[i]:=by simp[F,hi]
 obtain⟨C,e1,e2,_,e4⟩:=Ϸ hs (ss:=ss) (nm:=ss[i].1) (es:=ss[i].2.2) aa iV.ly ha cF hb hlen ss[i].2.1.length 0 [] aa az;have e5:=ϸ (nm:=ss[i].1) (ls:=ss[i].2.1) (es:=ss[i].2.2) aa (a:=a) (b:=b) ss[i].2.2.length 0 C aa (by simp at e2;omega);rw[show ((0:J):d)=0 from rfl,jk]at e5;rw[show ((0:J):d)=0 from rfl]at e1;rw[jk]at e4;have hel2:=Ld ss[i].2.2;simp only[jz,kb]at e2;have dR:(C++lF ss[i].2.2).length<=39000000:=by rw[I];omega
 obtain⟨b1,b2,b3,b4,b5,b6,b7⟩:=jEr (C++lF ss[i].2.2) cF;refine⟨jZ (C++lF ss[i].2.2) a b,?_,b1,aa,b3,b5,?_,λx y hx jE Mm hn=>?_⟩
 .simp only[jn1];rw[bE];simp only[j6,j8,pH,e1,e5,j4,jxN (show (C++lF ss[i].2.2).length<=49000000 by omega) a b]
 .by_cases h:a<b
  .obtain⟨r,hr⟩:=b6 h;rw[hr];simp[F]
  .rw[b7 aa];show a=b;omega
 .have AL:=b3 x hx;have cY:oz (C++lF ss[i].2.2) x y:=λc hc kC=>hn c (b4 c hc aa aa) kC;exact jAR jE (λL hm=>e4 L hm x y AL.1 jE Mm cY.left) cY.right
omit hs in
theorem Ċ{f:d->d}{ss:A cN}{i:J}{B:A d}(hBl:B.length<=50000000)(hB:B.Pairwise (· < ·))(py:∀t∈B,jfT (zs,(ps,(cs,ss))) (i:d) t=G (f t)){a b:d}(cX:B.getD (B.length-1) 0=b)
  (dt:∀x y,x∈B->x<=y->y<b->(∀c∈B,¬(x<c/\c<=y))->f x=f y):∀(n j:J)(acc:bM),j+1+n=B.length->acc.length<=j->fJ f (B.getD j 0) U a acc->
  ∃out,JF (i:d) (j:d) zs ps cs ss B acc=G out/\fJ f b U a out
 |0,j,acc,hj,ha,hC=>by
  rw[YY];simp only[j5m,show z B.length=(B.length:d) from rfl];rw[ar (x:=(j:d)+1),an aa,j7,aW];refine⟨acc,rfl,?_⟩;rw[<-cX,show B.length-1=j by omega];exact hC
 |n+1,j,acc,hj,ha,hC=>by
  have h1:j<B.length:=aa;have h2:j+1<B.length:=aa;have g1:B.getD j (0:d)=B[j]:=by simp[F,h1]
  have g2:B.getD (j+1) (0:d)=B[j+1]:=by simp[F,h2]
  have CZ:=qc.1 hB;have aq:B[j]<B[j+1]:=CZ j (j+1) h1 h2 aa
  have hle:B[j+1]<=b:=by
   have gl:B.getD (B.length-1) (0:d)=B[B.length-1]:=by simp[F,show B.length-1<B.length by omega]
   rw[gl]at cX;by_cases he:j+1=B.length-1
   .have:B[j+1]=B[B.length-1]:=by congr 1
    omega
   .have:=CZ (j+1) (B.length-1) h2 aa aa;omega
  have hconst:∀t,B[j]<=t->t<B[j+1]->f t=f B[j]:=λt t1 t2=>(dt B[j] t (jl h1) t1 aa (λc hc kC=>by
   obtain⟨m,hm,rfl⟩:=List.mem_iff_getElem.1 hc;by_cases hmj:m<=j
   .by_cases he:m=j
    .subst he;omega
    .have:=CZ m j hm h1 aa;omega
   .by_cases he:m=j+1
    .subst he;omega
    .have:=CZ (j+1) m h2 hm aa;omega)).symm
  rw[g1]at hC;have hC2:=J_ hC (s:=(B[j],(B[j+1],f B[j]))) rfl (by show B[j]<=B[j+1];omega) (λt t1 t2=>hconst t t1 t2)
  have BF:(kW acc (B[j],(B[j+1],f B[j]))).length<=acc.length+1:=by
   unfold kW;split
   .omega
   .split
    .split
     .simp
     .simp
    .simp
  have ih:=Ċ hBl hB py cX dt n (j+1) (kW acc (B[j],(B[j+1],f B[j]))) aa aa (by rw[g2];exact hC2);rw[YY];simp only[j5m,show z B.length=(B.length:d) from rfl];rw[ar (x:=(j:d)+1),ag (show (j:d)+1<(B.length:d) by omega),bU (show (0:d)<=(j:d) by omega) aa,bU (show (0:d)<=(j:d)+1 by omega) aa,show ((j:d)+1).toNat=j+1 by omega];simp only[j6,j8,g1,g2,py _ (jl h1),j4,jvo (show acc.length<=100000000 by omega),aS];exact ih
theorem ċ{ss:A cN}(hc:CG (zs,(ps,(cs,ss)))){i:J}(hi:i<ss.length){a b:d}(ha:0<=a)(cF:a<=b)(hb:b<=8589934592)(hlen:b-a<=34560000) :
  ∃S,jfj (zs,(ps,(cs,ss))) (i:d) a b=G S/\fJ (dQ zs cs ss[i]) b U a S:=by
 obtain⟨B,e1,e2,e3,e4,⟨r,e5⟩,e6,e7⟩:=jAS hs hc hi ha cF hb hlen;have bK:0<B.length:=by rw[e5];simp
 obtain⟨S,f1,f2⟩:=Ċ (f:=dQ zs cs ss[i]) (ss:=ss) (i:=i) (B:=B) aa e2 (λt ht=>TH hs hc hi (by have:=e4 t ht;omega) (by have:=e4 t ht;omega)) (a:=a) e6 e7 (B.length-1) 0 [] aa ae (by rw[e5];rfl);rw[show ((0:J):d)=0 from rfl]at f1;refine⟨S,?_,f2⟩;simp only[jfj,e1,f1,j4]
omit hs in
theorem TI{p:d}{S:bM}(hl:S.length<=16384):∀(n j:J)(acc:SL),j+n=S.length->acc.length<=j->FF p (j:d) S acc=G (acc++((S.drop j).filter (λx=>x.2.2==p)).map λx=>(x.1,x.2.1))
 |0,j,acc,hj,_=>by
  rw[Y1,D aa];simp only[j63,show z S.length=(S.length:d) from rfl];rw[an aa,j7,aW];simp
 |n+1,j,acc,hj,ha=>by
  have aq:j<S.length:=aa;have bc:S.getD j ((0:d),((0:d),(0:d)))=S[j]:=by simp[F,aq]
  rw[Y1,jb aq];simp only[j63,show z S.length=(S.length:d) from rfl];rw[ag (show (j:d)<(S.length:d) by omega),bE,ar (x:=(j:d)+1)];simp only[j6,j8,bc];cases hq:(S[j].2.2==p) with
  |true=>have ih:=TI (p:=p) hl n (j+1) (acc++[(S[j].1,S[j].2.1)]) aa az;rw[jg]at ih;rw[yf (by simpa using hq),ag (by simp[aG];omega)];simp only[j6,aS];exact ih
  |false=>rw[vc (by simp[hq])];simp only[j7,aS];exact TI hl n (j+1) acc aa aa
def iH(p:d)(S:bM):SL:=(S.filter (λx=>x.2.2==p)).map λx=>(x.1,x.2.1)
end
section
variable{zs:A bH}{ps:A dr}{cs:A bd}{ss:A cN}
theorem TJ(hv:CV (zs,(ps,(cs,ss)))):∃e,j4l (zs,(ps,(cs,ss)))=G e/\j8y (zs,(ps,(cs,ss)))=G e/\(e=0->CG (zs,(ps,(cs,ss))))/\∃v b,jfM (zs,(ps,(cs,ss)))=G (v,b)/\(e≠0->b=false):=by
 obtain⟨e,e1,e2,e3⟩:=hv.w.chk;obtain⟨e',v,b,eO,eC,f1,f2⟩:=jGf hv;have h0:e'=e:=by rw[e2]at eC;simp at eC;exact eC.symm
 subst h0;refine⟨e',e1,e2,λhe=>?_,v,b,eO,f1⟩;subst he;obtain⟨hC,hg⟩:=e3 rfl;obtain⟨rfl,rfl,_,hS⟩:=f2 rfl;exact⟨hg,e1,e2,hS,eO⟩
theorem Č(hv:CV (zs,(ps,(cs,ss))))(i a b:d):∃v e,j94 (zs,(ps,(cs,ss))) i a b=G (v,e)/\jd3 (zs,(ps,(cs,ss))) i a b=G e/\
  (e=0->v=((zs,(ps,(cs,ss))),zs.map tb)/\CG (zs,(ps,(cs,ss)))/\(0<=i/\i<(ss.length:d))/\0<=a/\a<=b/\b<=8589934592/\b-a<=34560000):=by
 obtain⟨e,e1,e2,e3,v,ok,eO,f1⟩:=TJ hv;by_cases he:e=0
 case neg=>
  have hb:=f1 he;subst hb;refine⟨v,8,?_,?_,λh=>by simp at h⟩
  .simp only[j94,eO,j4];rfl
  .simp only[jd3,e2,j4];rw[show (e != 0)=true by simpa using he];rfl
 subst he;have hc:=e3 rfl;have oT:=hc.of;obtain⟨w,w1,w2⟩:=jGU a b;have w1':jln a b=G w:=w1;by_cases hi:0<=i/\i<(ss.length:d)
 case neg=>
  refine⟨((zs,(ps,(cs,ss))),zs.map tb),3,?_,?_,λh=>by simp at h⟩
  .simp only[j94,oT,j4,jc,j7,j5x,show z ss.length=(ss.length:d) from rfl];by_cases h0:0<=i
   .rw[ag (show i>=0 from h0),an (show¬i<(ss.length:d) by omega)];rfl
   .rw[an (show¬i>=0 from h0)];rfl
  .simp only[jd3,e2,j4,jf,j7,show z ss.length=(ss.length:d) from rfl];by_cases h0:i<0
   .rw[ag h0];rfl
   .rw[an h0,ag (show i>=(ss.length:d) by omega)];rfl
 refine⟨((zs,(ps,(cs,ss))),zs.map tb),cond w 0 1,?_,?_,λh=>?_⟩
 .simp only[j94,oT,j4,jc,j7,j5x,show z ss.length=(ss.length:d) from rfl,w1'];rw[ag (show i>=0 from hi.1),ag hi.2];cases w<;>rfl
 .simp only[jd3,e2,j4,jf,j7,show z ss.length=(ss.length:d) from rfl,w1];rw[an (show¬i<0 by omega),an (show¬i>=(ss.length:d) by omega)];cases w<;>rfl
 .cases w with
  |false=>simp at h
  |true=>obtain⟨ha,cF,hb,hlen⟩:=w2 rfl;exact⟨rfl,hc,hi,ha,cF,hb,hlen⟩
theorem TK(hv:CV (zs,(ps,(cs,ss))))(i a b:d):∃l e,j3B (zs,(ps,(cs,ss))) i a b=G (l,e)/\j7A (zs,(ps,(cs,ss))) i a b=G (l,e)/\l.length<=16384/\
  (e≠0\/∃f:d->d,fJ f b U a l/\0<=a/\a<=b/\b<=8589934592):=by
 obtain⟨v,e,c1,c2,c3⟩:=Č hv i a b;by_cases he:e=0
 case neg=>
  refine⟨[],e,?_,?_,ae,.inl he⟩
  .simp only[j3B,c1,j4];rw[show (e != 0)=true by simpa using he];rfl
  .simp only[j7A,c2,j4];rw[show (e != 0)=true by simpa using he];rfl
 obtain⟨rfl,hc,hi,ha,cF,hb,hlen⟩:=c3 he;subst he;have aq:i.toNat<ss.length:=aa;have hs:=hc.sc _ (jl aq);have GO:=hv.s _ (jl aq);have gp:=GO.el;have bc:ss.getD i.toNat (H,(([]:A bA),([]:A cO)))=ss[i.toNat]:=by simp[F,aq]
 obtain⟨o,eo,o1,o2⟩:=Ĉ hc.g hs GO.ll aa (ss:=ss) ha cF hb hlen;obtain⟨o',č,p1⟩:=ċ hc.g hc aq ha cF hb hlen;rw[show ((i.toNat:J):d)=i by omega]at č;have he:o'=o:=fJ.uniq p1 o1;subst he;have eo2:j4I ((zs,(ps,(cs,ss))),zs.map tb) (ss[i.toNat].1,(ss[i.toNat].2.1,ss[i.toNat].2.2)) a b=_:=eo;simp only[j3B,j7A,c1,c2,j4,jf,j7,č,show z o'.length=(o'.length:d) from rfl];rw[bU hi.1 hi.2,bc];simp only[j6];rw[eo2];simp only[j4,show z o'.length=(o'.length:d) from rfl];by_cases h4:(o'.length:d)>16384
 .rw[ag h4];exact⟨[],5,rfl,rfl,ae,.inl aa⟩
 .rw[an h4];exact⟨o',0,rfl,rfl,aa,.inr ⟨_,p1,ha,cF,hb⟩⟩
theorem Ď(hv:CV (zs,(ps,(cs,ss))))(i t:d):∃n,j4W (zs,(ps,(cs,ss))) i t=G n/\jer (zs,(ps,(cs,ss))) i t=G n:=by
 obtain⟨e,e1,e2,e3,v,ok,eO,f1⟩:=TJ hv;by_cases he:e=0
 case neg=>
  have hb:=f1 he;subst hb;refine⟨-1,?_,?_⟩
  .simp only[j4W,je5,eO,j4];rfl
  .simp only[jer,jlr,jpP,e2,j4,cG he];cases (cond (cond (cond (decide (i>=(0:d))) (decide (i<z ss.length)) false) (decide (t>=(0:d))) false) (decide (t<=(8589934592:d))) false)<;>rfl
 subst he;have hc:=e3 rfl;have oT:=hc.of;by_cases hi:0<=i/\i<(ss.length:d)
 case neg=>
  refine⟨-1,?_,?_⟩
  .simp only[j4W,je5,oT,j4,jc,j7,j5x,show z ss.length=(ss.length:d) from rfl];by_cases h0:0<=i
   .rw[ag (show i>=0 from h0),an (show¬i<(ss.length:d) by omega)];rfl
   .rw[an (show¬i>=0 from h0)];rfl
  .simp only[jer,jlr,jpP,show z ss.length=(ss.length:d) from rfl];by_cases h0:0<=i
   .rw[ag (show i>=0 from h0),an (show¬i<(ss.length:d) by omega)];rfl
   .rw[an (show¬i>=0 from h0)];rfl
 have aq:i.toNat<ss.length:=aa;by_cases ht:0<=t/\t<=8589934592
 .have w1:=ā hc.g hc aq ht.1 ht.2;have w2:=jGg hc.g hc aq ht.1 ht.2;rw[show ((i.toNat:J):d)=i by omega]at w1 w2;exact⟨_,w1,w2⟩
 .refine⟨-1,?_,?_⟩
  .simp only[j4W,je5,oT,j4,jc,j7,j5x,show z ss.length=(ss.length:d) from rfl];rw[ag (show i>=0 from hi.1),ag hi.2,bU hi.1 hi.2];simp only[j6,jc,j7,j6U];by_cases h0:t<0
   .rw[ag h0];rfl
   .rw[an h0,ag (show t>8589934592 by omega)];rfl
  .simp only[jer,jlr,jpP,show z ss.length=(ss.length:d) from rfl];rw[ag (show i>=0 from hi.1),ag hi.2];by_cases h0:0<=t
   .rw[ag (show t>=0 from h0),an (show¬t<=8589934592 by omega)];rfl
   .rw[an (show¬t>=0 from h0)];rfl
end
def p8:bM->bM
 |[]=>[]
 |[_]=>[]
 |s::t::r=>(t.1,(s.2.2,t.2.2))::p8 (t::r)
theorem ď:∀S:bM,(p8 S).length=S.length-1
 |[]=>rfl
 |[_]=>rfl
 |s::t::r=>by
  have:=ď (t::r);simp only[p8,ji]at this ⊢;omega
theorem Đ{S:bM}(hS:S.length<=1000000):∀(n k:J)(acc:bM),k+n=S.length->acc.length<=k->
  IX ((k:d)+1) S acc=G (acc++p8 (S.drop k))
 |0,k,acc,hk,_=>by
  rw[X8];simp only[j38,show z S.length=(S.length:d) from rfl];rw[ag (show (S.length:d)<=(k:d)+1 by omega),j6,aW,D aa];simp[p8]
 |n+1,k,acc,hk,ha=>by
  have bn:k<S.length:=aa;rw[X8];simp only[j38,show z S.length=(S.length:d) from rfl];by_cases hl:k+1<S.length
  .have iM:S.getD (k+1) ((0:d),((0:d),(0:d)))=S[k+1]:=by simp[F,hl]
   have kM:S.getD k ((0:d),((0:d),(0:d)))=S[k]:=by simp[F,bn]
   rw[an (show¬(S.length:d)<=(k:d)+1 by omega),ag (show (1:d)<=(k:d)+1 by omega),show ((k:d)+1).toNat=k+1 by omega,show ((k:d)+1-1).toNat=k by omega];simp only[j6,j7,iM,kM];rw[ag (by simp[aG];omega),j6,aS];have ih:=Đ hS n (k+1) (acc++[(S[k+1].1,(S[k].2.2,S[k+1].2.2))]) aa az;rw[show ((k+1:J):d)+1=(k:d)+1+1 by omega]at ih;refine ih.trans ?_;rw[jg];have:p8 (S.drop k)=[(S[k+1].1,(S[k].2.2,S[k+1].2.2))]++p8 (S.drop (k+1)):=by rw[jb bn,jb hl];rfl
   rw[this]
  .rw[ag (show (S.length:d)<=(k:d)+1 by omega),j6,aW];have:p8 (S.drop k)=[]:=by rw[jb bn,D aa];rfl
   rw[this,kx]
theorem đ{S:bM}(hS:S.length<=1000000):∀(n k:J)(acc:bM),k+n=S.length->acc.length<=k->
  JG ((k:d)+1) S acc=G (acc++p8 (S.drop k))
 |0,k,acc,hk,_=>by
  rw[Y0];simp only[j4L,show z S.length=(S.length:d) from rfl];rw[an (show¬(k:d)+1<(S.length:d) by omega),j7,aW,D aa];simp[p8]
 |n+1,k,acc,hk,ha=>by
  have bn:k<S.length:=aa;rw[Y0];simp only[j4L,show z S.length=(S.length:d) from rfl];by_cases hl:k+1<S.length
  .have iM:S.getD (k+1) ((0:d),((0:d),(0:d)))=S[k+1]:=by simp[F,hl]
   have kM:S.getD k ((0:d),((0:d),(0:d)))=S[k]:=by simp[F,bn]
   rw[ag (show (k:d)+1<(S.length:d) by omega),bU (show (0:d)<=(k:d)+1 by omega) aa,ar (x:=(k:d)+1-1),show (k:d)+1-1=(k:d) by omega,bU (show (0:d)<=(k:d) by omega) aa,show ((k:d)+1).toNat=k+1 by omega,ar (x:=(k:d)+1+1)];simp only[j6,j8,iM,kM];rw[ag (by simp[aG];omega),j6,aS];have ih:=đ hS n (k+1) (acc++[(S[k+1].1,(S[k].2.2,S[k+1].2.2))]) aa az;rw[show ((k+1:J):d)+1=(k:d)+1+1 by omega]at ih;refine ih.trans ?_;rw[jg];have:p8 (S.drop k)=[(S[k+1].1,(S[k].2.2,S[k+1].2.2))]++p8 (S.drop (k+1)):=by rw[jb bn,jb hl];rfl
   rw[this]
  .rw[an (show¬(k:d)+1<(S.length:d) by omega),j7,aW];have:p8 (S.drop k)=[]:=by rw[jb bn,D aa];rfl
   rw[this,kx]
theorem Ē{f:d->d}{b v:d}:∀{S:bM}{q:Option d}{a:d},fJ f b q a S->bX (if q=G v then a else a-1) (iH v S)
 |[],q,a,_=>trivial
 |s::r,q,a,h=>by
  obtain⟨h1,h2,h3,_,h5⟩:=h;have ih:=Ē (v:=v) h5;by_cases hv:s.2.2=v
  .have e:iH v (s::r)=(s.1,s.2.1)::iH v r:=by unfold iH;rw[yf (by simp[hv]),kj]
   rw[e,if_neg (λhq=>h3 (by rw[hq,hv]))];rw[if_pos (by rw[hv])]at ih;exact⟨by dsimp only;omega,by dsimp only;omega,ih⟩
  .have e:iH v (s::r)=iH v r:=by unfold iH;rw[vc (by simp[hv])]
   rw[e];rw[if_neg (by simp[hv])]at ih
   have hw:∀{l:SL}{p q:d},q<=p->bX p l->bX q l:=λ{l p q} hpq hl=>by
    match l,hl with
    |[],_=>trivial
    |u::l,hl=>exact⟨by have:=hl.1;omega,hl.2⟩
   refine hw ?_ ih;split<;>omega
section
variable{zs:A bH}{ps:A dr}{cs:A bd}{ss:A cN}
theorem jGm(hv:CV (zs,(ps,(cs,ss))))(i a b:d):∃l e,j8v (zs,(ps,(cs,ss))) i a b=G (l,e)/\jg1 (zs,(ps,(cs,ss))) i a b=G (l,e)/\l.length<=16384:=by
 obtain⟨S,e,e1,e2,e3,_⟩:=TK hv i a b;simp only[j8v,jg1,e1,e2,j4];by_cases he:e=0
 case neg=>rw[show (e != 0)=true by simpa using he];exact⟨[],e,rfl,rfl,ae⟩
 subst he;have l1:=Đ (S:=S) aa S.length 0 [] aa ae;have l2:=đ (S:=S) aa S.length 0 [] aa ae;rw[show ((0:J):d)+1=1 from rfl]at l1 l2;simp only[jf,j7,j8u,j4,l1,l2];refine⟨_,_,rfl,rfl,?_⟩;have:=ď S;simp only[jw,jk];omega
theorem ē(hc:CG (zs,(ps,(cs,ss)))){t:d}(hl:ss.length<=1000)(hw:∀i:J,i<ss.length->∃n,j4W (zs,(ps,(cs,ss))) (i:d) t=G n/\jer (zs,(ps,(cs,ss))) (i:d) t=G n):∀(n i:J)(acc:A d),i+n=ss.length->acc.length=i->
  ∃out,I0 t ss (ss.length:d) (i:d) zs ps cs ss (zs.map tb) acc=G out/\JH t (i:d) zs ps cs ss acc=G out/\out.length=ss.length
 |0,i,acc,hi,ha=>by
  rw[Yd,Y3];simp only[j5a,j7B,show z ss.length=(ss.length:d) from rfl];rw[an aa,j7,j7,aW,aW];exact⟨acc,rfl,rfl,aa⟩
 |n+1,i,acc,hi,ha=>by
  have aq:i<ss.length:=aa;obtain⟨w,w1,w2⟩:=hw i aq;have oT:=hc.of;have bc:ss.getD i (H,(([]:A bA),([]:A cO)))=ss[i]:=by simp[F,aq]
  have w3:j6U ((zs,(ps,(cs,ss))),zs.map tb) (ss[i].1,(ss[i].2.1,ss[i].2.2)) t=G w:=by
   simp only[j4W,je5,oT,j4,jc,j7,j5x,show z ss.length=(ss.length:d) from rfl]at w1;rw[ag (show (i:d)>=0 by omega),ag (show (i:d)<(ss.length:d) by omega),bU (show (0:d)<=(i:d) by omega) aa]at w1;simp only[j6,jc,j7,j8,bc]at w1;cases hx:j6U ((zs,(ps,(cs,ss))),zs.map tb) (ss[i].1,(ss[i].2.1,ss[i].2.2)) t with
   |none=>rw[hx]at w1;simp at w1
   |some y=>rw[hx]at w1;simpa using w1
  obtain⟨out,o1,o2,o3⟩:=ē hc hl hw n (i+1) (acc++[w]) aa az;refine⟨out,?_,?_,o3⟩
  .rw[Yd];simp only[j5a];rw[ag aa,bE,ar (x:=(i:d)+1)];simp only[j6,j8,bc,w3,j4];rw[ag (by simp[aG];omega),j6,aS];exact o1
  .rw[Y3];simp only[j7B,show z ss.length=(ss.length:d) from rfl];rw[ag aa,ar (x:=(i:d)+1)];simp only[j6,w2,j4];rw[ag (by simp[aG];omega),j6,aS];exact o2
theorem jGn(hv:CV (zs,(ps,(cs,ss))))(t:d):∃l,jcE (zs,(ps,(cs,ss))) t=G l/\jnU (zs,(ps,(cs,ss))) t=G l/\l.length<=1000:=by
 obtain⟨e,e1,e2,e3,v,ok,eO,f1⟩:=TJ hv;by_cases he:e=0
 case neg=>
  have hb:=f1 he;subst hb;refine⟨[],?_,?_,ae⟩
  .simp only[jcE,eO,j4];rfl
  .simp only[jnU,e2,j4];rw[show (e != 0)=true by simpa using he];rfl
 subst he;have hc:=e3 rfl;have oT:=hc.of
 have hl:ss.length<=1000:=by
  obtain⟨e',q1,q2,q3⟩:=hv.w.chk;have h0:e'=0:=by rw[e1]at q1;simp at q1;exact q1.symm
  subst h0;have:=(q3 rfl).1.sl;dsimp only at this;omega
 obtain⟨out,o1,o2,o3⟩:=ē hc hl (t:=t) (λi hi=>Ď hv i t) ss.length 0 [] aa rfl;rw[show ((0:J):d)=0 from rfl]at o1 o2;refine⟨out,?_,?_,aa⟩
 .simp only[jcE,oT,j4,jc,j7,show z ss.length=(ss.length:d) from rfl,o1]
 .simp only[jnU,e2,j4,jf,j7,o2]
end
end Go.Proofs.Pw
