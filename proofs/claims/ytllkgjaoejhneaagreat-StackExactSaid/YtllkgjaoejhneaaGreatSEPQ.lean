/- stack.SegmentsOf: its wk form. -/
import Derived.Test.YtllkgjaoejhneaaGreatSEPP
import Derived.Test.YtllkgjaoejhneaaGreatSEPL
import Derived.Test.YtllkgjaoejhneaaGreatSEPO
open _root_ renaming Int->j,List->D,ByteArray->G,Nat->H,Option->N,Bool->Ä
open ByteArray renaming empty->E
open Option renaming some->I,none->Ã
open List renaming getD->J,getD_eq_getElem?_getD->R,mem_or_eq_of_mem_set->U,getD_cons_zero->Á
open Int renaming ofNat->K
open Decidable renaming decide->M
open List.Pairwise renaming imp_of_mem->X,nil->Â
open Go Go.Lft
namespace Go.Proofs.Pw
def Gi(gd:H->Ä)(len:H):H->N H
 |0=>Ã
 |m+1=>match Gi gd len m with
  |some i=>I i
  |none=>cond (gd (len-m-1)) (I (len-m-1)) Ã
theorem _I(gd:H->Ä)(len:H):∀m,m<=len->dq gd len=match Gi gd len m with
  |some i=>I i
  |none=>dq gd (len-m)
 |0,_=>rfl
 |m+1,h=>by
  rw[_I gd len m aa];simp only[Gi];cases Gi gd len m with
  |some i=>rfl
  |none=>
   dsimp only
   rw[show len-m=(len-m-1)+1 by omega,dq,show len-(m+1)=len-m-1 by omega,show len-m-1+1-1=len-m-1 by omega];cases gd (len-m-1)<;>rfl
def Wv(gd:H->Ä)(pf:H->j)(len m:H):N Int:=(Gi gd len m).map pf
theorem Rn(gd:H->Ä)(pf:H->j)(len m:H):Wv gd pf len (m+1)=match Wv gd pf len m with
  |some p=>I p
  |none=>cond (gd (len-m-1)) (I (pf (len-m-1))) none:=by
 simp only[Wv,Gi];cases Gi gd len m with
 |some i=>rfl
 |none=>cases gd (len-m-1)<;>rfl
theorem _J(es:D dA)(t:j)(pf:H->j)(len:H):fZ es t pf len=(Wv (fv es t pf) pf len len).getD (-1):=by
 simp only[fZ,Wv,_I (fv es t pf) len len (jy _)];cases Gi (fv es t pf) len len with
 |some i=>rfl
 |none=>simp only[Nat.sub_self,dq];rfl
theorem jBb:Go.Sort.SWO (Go.Proofs.ltOf λ(x y:Go.Lft.Sml (.pair (.int .i64) (.pair (.int .i64) (.int .i64))))=>(j2X x.1 y.1).getD 0):=by
 refine Hh (λx=>x.1.1) (λx=>?_) _ λx y=>rfl;have:=x.2;simp only[iA,ji,jr]at this;exact this.1
theorem juC{l:cC}(hl:l.length<=1000000000)(hb:∀x∈l, -1000000000000<=x.1/\x.1<=1000000000000 /\ -1000000000000<=x.2.1/\x.2.1<=1000000000000 /\ -1000000000000<=x.2.2/\x.2.2<=1000000000000) :
  ∃L,j0t l=I L/\L.Perm l/\L.Pairwise (λx y=>x.1<=y.1):=by
 obtain⟨L,e,hp,hs⟩:=Va (a:= .pair (.int .i64) (.pair (.int .i64) (.int .i64))) (cf:=λx y=>(j2X x y).getD 0) jBb (xs:=l) (λx hx=>by
  have:=hb x hx;simp only[iA,ji,jr];refine⟨⟨?_,?_⟩,⟨?_,?_⟩,⟨?_,?_⟩⟩
  .exact z8 (by decide) this.1
  .exact z8 this.2.1 (by decide)
  .exact z8 (by decide) this.2.2.1
  .exact z8 this.2.2.2.1 (by decide)
  .exact z8 (by decide) this.2.2.2.2.1
  .exact z8 this.2.2.2.2.2 (by decide)) (by show List.length l<_;omega)
 refine⟨L,e,hp,?_⟩;refine X (λ{x y} hx hy h=>?_) hs;have h1:=hb x (hp.mem_iff.1 hx);have h2:=hb y (hp.mem_iff.1 hy);have h':¬w64 (y.1-x.1)<0:=h;rw[ar (x:=y.1-x.1)]at h';omega
theorem _K{F:SL}(hF:F.length<=10000000):∀(n i:H)(acc:cC),i+n=F.length->acc.length+n<=1000000000->EI (F.length:j) (i:j) F acc=I (acc++(F.drop i).map λu=>(u.1,(u.2, -1)))
 |0,i,acc,hi,_=>by
  rw[VL];simp only[j2e];rw[ak aa,jd,ba,jj aa];simp
 |n+1,i,acc,hi,ha=>by
  have ct:i<F.length:=aa;have bm:F.getD i ((0:j),(0:j))=F[i]:=by simp[J,ct]
  rw[VL];simp only[j2e];rw[ah aa,bP,ar (x:=(i:j)+1)];simp only[jc,je,bm];rw[ah (by simp[aF];omega),jc,aV,jh ct,qe];have:=_K hF n (i+1) (acc++[(F[i].1,(F[i].2, -1))]) aa ay;rw[jo]at this;exact this
def apart(x y:kR):Prop:=x.2.1<=y.1\/y.2.1<=x.1
section
variable{zs:D bS}{ps:D eu}{cs:D bq}(hs:nI zs ps cs)
 {nm:G}{ls:D bC}{es:D dA}(hL:∀L∈ls,iR zs.length ps.length cs.length L)(jK:ls.length<=4)(hE:∀x∈es,Jv x)(iw:es.length<=9)
 {ss:D dC}{a b:j}(ha:0<=a)(cX:a<=b)(hb:b<=8589934592)(hlen:b-a<=35078400)
include hs hL jK hE iw ha cX hb hlen
structure FO(zs:D bS)(cs:D bq)(ls:D bC)(es:D dA)(a b:j)(m:H)(F:SL)(O:cC):Prop where
 st:bX (a-1) F
 fb:∀t,bG t F->t<b
 fr:∀t,a<=t->t<b->(bG t F↔Wv (fv es t (dJ zs cs ls t)) (dJ zs cs ls t) ls.length m=Ã)
 seg:∀x∈O,a<=x.1/\x.1<x.2.1/\x.2.1<=b/\∀t,x.1<=t->t<x.2.1->Wv (fv es t (dJ zs cs ls t)) (dJ zs cs ls t) ls.length m=I x.2.2
 ap:O.Pairwise apart
 cov:∀t,a<=t->t<b->Wv (fv es t (dJ zs cs ls t)) (dJ zs cs ls t) ls.length m≠Ã->mU t O
 fl:F.length+300000<=2^m*300001
 ol:O.length<=m*4000000
theorem jBc{k m:H}(hk:k+m+1=ls.length){F:SL}{O:cC}(hI:FO zs cs ls es a b m F O) :
  ∃S Q W F',j2x ((zs,(ps,(cs,ss))),zs.map tb) (ls.getD k (E,((0:j),(((0:j),(0:j)),((0:j),((0:j),(([]:D j),(([]:D (j×j)),((0:j),(0:j)))))))))) a b=I S/\
   j8F (nm,(ls,es)) S=I Q/\jcx Q F=I W/\O.length+W.length<=aF/\(∃P,jbt W=I P/\j2I F P=I F')/\FO zs cs ls es a b (m+1) F' (O++W):=by
 have bk:k<ls.length:=aa;have hLk:=hL _ (ju bk);have bm:ls.getD k (E,((0:j),(((0:j),(0:j)),((0:j),((0:j),(([]:D j),(([]:D (j×j)),((0:j),(0:j)))))))))=ls[k]:=by simp[J,bk]
 have Cn:∀t,dJ zs cs ls t k=cK zs cs ls[k] t:=λt=>by simp only[dJ,bm]
 obtain⟨S,e1,c1,l1⟩:=jyz hs hLk (ss:=ss) ha cX hb hlen;have bU:=c1.pos;have e2:=juB (nm:=nm) (ls:=ls) hE aa (S:=S) aa bU;obtain⟨p1,p2,p3⟩:=_F (nm:=nm) (ls:=ls) hE aa c1.ch bU;have pl:=_D (nm:=nm) (ls:=ls) hE aa (S:=S) bU;have pl2:S.length*(1+es.length)<=30000*10:=z7 l1 aa;generalize S.flatMap (mF (nm,(ls,es)))=Q at *;have YC:m<=3:=aa;have Ro:2^m<=2^3:=Nat.pow_le_pow_right aa YC;have fD:=hI.fl;have xY:=hI.ol;have hF:F.length<=10000000:=aa;have lp:=Rm (A:=Q) (B:=F) aa hF (Q.length+F.length) 0 0 [] aa aa aa ay;rw[kc,jt,jt]at lp;obtain⟨w1,_,w3,w4,w5⟩:=Rl (Q.length+F.length) Q F a (a-1) (jy _) p1 hI.st;generalize kS (Q.length+F.length) Q F=W at *
 have pw:∀x∈W,a<=x.1/\x.1<x.2.1/\x.2.1<=b/\∀t,x.1<=t->t<x.2.1->bG t F/\cK zs cs ls[k] t=x.2.2/\0<=x.2.2/\ia es x.2.2 t=false:=λx hx=>by
  have br:∀(l:cC)(q:j),gY q l->∀y∈l,y.1<y.2.1:=by
   intro l;induction l with
   |nil=>intro q _ y hy;simp at hy
   |cons s r ih=>intro q h y hy;rcases jl.1 hy with rfl|hy;exact h.2.1;exact ih _ h.2.2 y hy
  have h0:=br W a w1 x hx;have h1:=(w1.apart).2 x hx;obtain⟨s,dy,r1,r2,r3,r4⟩:=w3 x hx;obtain⟨g1,g2⟩:=p2 s dy;refine⟨h1,h0,aa,λt t1 t2=>?_⟩;obtain⟨g3,g4,g5⟩:=g2 t aa aa;rw[r3];exact⟨r4 t t1 t2,g3,g4,g5⟩
 have _L:∀x∈W,∀t,x.1<=t->t<x.2.1->Wv (fv es t (dJ zs cs ls t)) (dJ zs cs ls t) ls.length (m+1)=I x.2.2:=λx hx t t1 t2=>by
  obtain⟨h1,h2,h3,h4⟩:=pw x hx;obtain⟨g1,g2,g3,g4⟩:=h4 t t1 t2;have hn:=(hI.fr t aa aa).1 g1;rw[Rn,hn,show ls.length-m-1=k by omega];have:fv es t (dJ zs cs ls t) k=true:=by simp only[fv,Cn,g2,g4];simp[g3]
  simp only[this,jc,Cn,g2]
 have hold:∀t p,Wv (fv es t (dJ zs cs ls t)) (dJ zs cs ls t) ls.length m=I p->Wv (fv es t (dJ zs cs ls t)) (dJ zs cs ls t) ls.length (m+1)=I p:=λt p h=>by rw[Rn,h]
 obtain⟨P,e4,q1,q2,q3⟩:=jyM (l:=W) aa (lo:=a) (hi:=b) ha hb (λx hx=>⟨(pw x hx).1,(pw x hx).2.1,(pw x hx).2.2.1⟩);obtain⟨F',e5,f1,f2,f3⟩:=QG (B:=P) aa hI.st q1 hF;refine⟨S,Q,W,F',by rw[bm];exact e1,e2,?_,by simp[aF];omega,⟨P,e4,e5⟩,?_⟩
 .simp only[jcx,show zC Q F 0 0 []=_ from lp];rfl
 .have cE:∀t,a<=t->t<b->bG t F->mU t W\/Wv (fv es t (dJ zs cs ls t)) (dJ zs cs ls t) ls.length (m+1)=none:=λt t1 t2 hf=>by
   have hn:=(hI.fr t t1 t2).1 hf;by_cases hg:fv es t (dJ zs cs ls t) k=true
   .left;refine w4 t (p3 t t1 t2 ?_ ?_) hf
    .simp only[fv,Cn,ji,jr]at hg;exact hg.1
    .simp only[fv,Cn,ji,qi]at hg;exact hg.2
   .right;rw[Rn,hn,show ls.length-m-1=k by omega,qj.2 hg];rfl
  refine⟨f1,λt h=>hI.fb t ((f2 t).1 h).1,λt t1 t2=>?_,λx hx=>?_,?_,λt t1 t2 br=>?_,?_,?_⟩
  .rw[f2 t,q2 t];constructor
   .rintro⟨h1,h2⟩
    rcases cE t t1 t2 h1 with h|h
    .exact absurd h h2
    .exact h
   .intro h
    have hn:Wv (fv es t (dJ zs cs ls t)) (dJ zs cs ls t) ls.length m=none:=by
     cases hw:Wv (fv es t (dJ zs cs ls t)) (dJ zs cs ls t) ls.length m with
     |none=>rfl
     |some p=>rw[hold t p hw]at h;simp at h
    refine⟨(hI.fr t t1 t2).2 hn,?_⟩
    rintro⟨x,hx,x1,x2⟩
    rw[_L x hx t x1 x2]at h;simp at h
  .rcases js.1 hx with hx|hx
   .obtain⟨h1,h2,h3,h4⟩:=hI.seg x hx;exact⟨h1,h2,h3,λt t1 t2=>hold t _ (h4 t t1 t2)⟩
   .obtain⟨h1,h2,h3,_⟩:=pw x hx;exact⟨h1,h2,h3,_L x hx⟩
  .refine yh.2 ⟨hI.ap,(w1.apart).1.imp (λh=> .inl h),λx hx y hy=>?_⟩;obtain⟨h1,h2,h3,h4⟩:=hI.seg x hx;obtain⟨g1,g2,g3,g4⟩:=pw y hy;apply kn;intro hn;simp only[apart,not_or]at hn
   have hc:∃t,x.1<=t/\t<x.2.1/\y.1<=t/\t<y.2.1:=by
    by_cases jJ:x.1<=y.1
    .exact⟨y.1,aa,aa,aa,aa⟩
    .exact⟨x.1,aa,aa,aa,aa⟩
   obtain⟨t,t1,t2,t3,t4⟩:=hc;have hw:=h4 t t1 t2;have:=(hI.fr t aa aa).1 (g4 t t3 t4).1;rw[hw]at this;simp at this
  .by_cases hf:bG t F
   .rcases cE t t1 t2 hf with⟨x,hx,h⟩|h
    .exact⟨x,jw _ hx,h⟩
    .exact absurd h br
   .have hw:Wv (fv es t (dJ zs cs ls t)) (dJ zs cs ls t) ls.length m≠none:=λh=>hf ((hI.fr t t1 t2).2 h);obtain⟨x,hx,h⟩:=hI.cov t t1 t2 hw;exact⟨x,jx _ hx,h⟩
  .rw[Nat.pow_succ];omega
  .rw[jn,Nat.add_mul];omega
theorem _M:∀(n m:H)(F:SL)(O:cC),n+m=ls.length->FO zs cs ls es a b m F O->
  ∃F' O',EH (n:j) ls zs ps cs ss (zs.map tb) nm ls es a b F O=I (F',O')/\FO zs cs ls es a b ls.length F' O'
 |0,m,F,O,hn,hI=>by
  rw[VK];simp only[j2d];rw[ah aa,jc,ba];obtain rfl:m=ls.length:=aa;exact⟨F,O,rfl,hI⟩
 |k+1,m,F,O,hn,hI=>by
  obtain⟨S,Q,W,F',e1,e2,e3,e4,⟨P,e5,e6⟩,GM⟩:=jBc hs hL jK hE iw ha cX hb hlen (nm:=nm) (ss:=ss) (k:=k) (m:=m) aa hI;rw[VK];simp only[j2d];rw[ak aa,ah (show ((k+1:H):j)<=K ls.length by simp;omega),show ((k+1:H):j)-1=(k:j) by omega];simp only[jc,jd,je];generalize ls.getD k (E,((0:j),(((0:j),(0:j)),((0:j),((0:j),(([]:D j),(([]:D (j×j)),((0:j),(0:j)))))))))=L at *;rw[show j2x ((zs,(ps,(cs,ss))),zs.map tb) (L.1,(L.2.1,((L.2.2.1.1,L.2.2.1.2),(L.2.2.2.1,(L.2.2.2.2.1,(L.2.2.2.2.2.1,(L.2.2.2.2.2.2.1,(L.2.2.2.2.2.2.2.1,L.2.2.2.2.2.2.2.2)))))))) a b=_ from e1];simp only[ja,e2,e3];rw[ah e4];simp only[jc,ja,e5,e6,aV];exact _M k (m+1) F' (O++W) aa GM
theorem jyN:∃out,j5W ((zs,(ps,(cs,ss))),zs.map tb) (nm,(ls,es)) a b=I out/\gX (λt=>fZ es t (dJ zs cs ls t) ls.length) b Ã a out/\out.length<=40000000:=by
 simp only[j5W];by_cases nh:a>=b
 .rw[ah nh,jc];exact⟨[],rfl,show a=b by omega,af⟩
 .rw[ak nh,jd]
  have h0:FO zs cs ls es a b 0 [(a,b)] []:=⟨⟨by dsimp only;omega,by dsimp only;omega,trivial⟩,λt h=>by
   rcases fi.1 h with h|h
   .exact h.2
   .exact absurd h fU,λt t1 t2=>⟨λ_=>rfl,λ_=>fi.2 (.inl ⟨t1,t2⟩)⟩,af,Â,λt _ _ h=>absurd rfl h,af,af⟩
  obtain⟨F,O,e1,hI⟩:=_M hs hL jK hE iw ha cX hb hlen (nm:=nm) (ss:=ss) ls.length 0 [(a,b)] [] aa h0;have Ro:2^ls.length<=2^4:=Nat.pow_le_pow_right aa jK;have fD:=hI.fl;have xY:=hI.ol;have hF:F.length<=10000000:=aa;have lp:=_K hF F.length 0 O aa aa;rw[jt]at lp
  have _N:∀u∈F,a<=u.1/\u.1<u.2/\u.2<=b/\∀t,u.1<=t->t<u.2->Wv (fv es t (dJ zs cs ls t)) (dJ zs cs ls t) ls.length ls.length=none:=λu hu=>by
   have hm:=bX.mem hI.st u hu;have:=hI.fb (u.2-1) ⟨u,hu,aa,aa⟩;exact⟨aa,hm.2,aa,λt t1 t2=>(hI.fr t aa aa).1 ⟨u,hu,t1,t2⟩⟩
  have aw:∀x∈O++F.map (λu=>((u.1,(u.2, -1)):kR)),a<=x.1/\x.1<x.2.1/\x.2.1<=b/\∀t,x.1<=t->t<x.2.1->fZ es t (dJ zs cs ls t) ls.length=x.2.2:=λx hx=>by
   rcases js.1 hx with hx|hx
   .obtain⟨h1,h2,h3,h4⟩:=hI.seg x hx;exact⟨h1,h2,h3,λt t1 t2=>by rw[_J,h4 t t1 t2];rfl⟩
   .obtain⟨u,hu,rfl⟩:=ki.1 hx;obtain⟨h1,h2,h3,h4⟩:=_N u hu;exact⟨h1,h2,h3,λt t1 t2=>by rw[_J,h4 t t1 t2];rfl⟩
  have hpr:∀x∈O++F.map (λu=>((u.1,(u.2, -1)):kR)), -1<=x.2.2/\x.2.2<=100:=λx hx=>by
   obtain⟨h1,h2,h3,h4⟩:=aw x hx;have:=h4 x.1 (kx _) h2;have sk:=hs.pl;rw[<-this];simp only[fZ];cases hT:dq (fv es x.1 (dJ zs cs ls x.1)) ls.length with
   |none=>dsimp only;omega
   |some i=>
    dsimp only
    have hi:∀(g:H->Ä)(n i:H),dq g n=I i->i<n:=by
     intro g n;induction n with
     |zero=>intro i h;simp[dq]at h
     |succ n ih=>
      intro i h;simp only[dq]at h;cases hg:g n with
      |true=>rw[hg,jc]at h;simp at h;omega
      |false=>rw[hg,jd]at h;have:=ih i h;omega
    have ct:=hi _ _ _ hT;have e:dJ zs cs ls x.1 i=cK zs cs ls[i] x.1:=by simp[dJ,J,ct]
    rw[e];have:=(jAM (hL _ (ju ct)) (t:=x.1) aa aa).2;omega
  have nt:(O++F.map (λu=>((u.1,(u.2, -1)):kR))).Pairwise apart:=by
   refine yh.2 ⟨hI.ap,?_,λx hx y hy=>?_⟩
   .rw[List.pairwise_map]
    have:∀(l:SL)(q:j),bX q l->l.Pairwise (λu v=>u.2<=v.1):=by
     intro l;induction l with
     |nil=>intro q _;exact Â
     |cons s r ih=>intro q h;exact qp.2 ⟨λv hv=>by have:=bX.mem h.2.2 v hv;omega,ih _ h.2.2⟩
    exact(this F _ hI.st).imp (λh=> .inl h)
   .obtain⟨u,hu,rfl⟩:=ki.1 hy;obtain⟨h1,h2,h3,h4⟩:=hI.seg x hx;obtain⟨g1,g2,g3,g4⟩:=_N u hu;apply kn;intro hn;simp only[apart,not_or]at hn
    have hc:∃t,x.1<=t/\t<x.2.1/\u.1<=t/\t<u.2:=by
     by_cases jJ:x.1<=u.1
     .exact⟨u.1,aa,aa,aa,aa⟩
     .exact⟨x.1,aa,aa,aa,aa⟩
    obtain⟨t,t1,t2,t3,t4⟩:=hc;have hw:=h4 t t1 t2;rw[g4 t t3 t4]at hw;simp at hw
  have Rp:∀t,(a<=t/\t<b)↔∃s∈O++F.map (λu=>((u.1,(u.2, -1)):kR)),s.1<=t/\t<s.2.1:=λt=>by
   constructor
   .rintro⟨t1,t2⟩
    by_cases hn:Wv (fv es t (dJ zs cs ls t)) (dJ zs cs ls t) ls.length ls.length=Ã
    .obtain⟨u,hu,u1,u2⟩:=(hI.fr t t1 t2).2 hn;exact⟨(u.1,(u.2, -1)),jw _ (ki.2 ⟨u,hu,rfl⟩),u1,u2⟩
    .obtain⟨x,hx,h⟩:=hI.cov t t1 t2 hn;exact⟨x,jx _ hx,h⟩
   .rintro⟨x,hx,x1,x2⟩
    obtain⟨h1,h2,h3,_⟩:=aw x hx;omega
  have hZl:(O++F.map (λu=>((u.1,(u.2, -1)):kR))).length<=40000000:=by rw[jn,ky];omega
  generalize hZ:O++F.map (λu=>((u.1,(u.2, -1)):kR))=Z at *
  obtain⟨Y,e2,hp,Rq⟩:=juC (l:=Z) aa (λx hx=>by have:=aw x hx;have:=hpr x hx;omega)
  have wV:Ch (λt=>fZ es t (dJ zs cs ls t) ls.length) b a Y:=by
   refine Zf cX ?_ (λs h=>⟨(aw s (hp.mem_iff.1 h)).2.1,(aw s (hp.mem_iff.1 h)).2.2.2⟩) (λt=>?_)
   .have hY:Y.Pairwise apart:=(hp.pairwise_iff (λ{x y} h=>Or.symm h)).2 nt;refine X (λ{x y} hx hy h=>?_) (hY.and Rq);have h1:=aw x (hp.mem_iff.1 hx);have h2:=aw y (hp.mem_iff.1 hy);rcases h.1 with h3|h3
    .exact h3
    .have:=h.2;omega
   .rw[Rp t];constructor
    .rintro⟨x,hx,h⟩;exact⟨x,hp.mem_iff.2 hx,h⟩
    .rintro⟨x,hx,h⟩;exact⟨x,hp.mem_iff.1 hx,h⟩
  have hYl:=hp.length_eq;obtain⟨out,e3,h3,l3⟩:=Zr (l:=Y) aa wV;refine⟨out,?_,h3,aa⟩;simp only[j0R,ja];rw[show EH (K ls.length) ls zs ps cs ss (zs.map tb) nm ls es a b [(a,b)] []=_ from e1];simp only[ja,show K F.length=(F.length:j) from rfl];rw[show EI (F.length:j) 0 F O=_ from lp];simp only[ja];rw[e2];simp only[ja,e3]
end
def uK(es:D dA):D Int:=es.flatMap λx=>[x.2.2.2.1,x.2.2.2.2]
theorem _O:∀es:D dA,(uK es).length=2*es.length
 |[]=>rfl
 |x::es=>by
  have:=_O es;simp only[uK,zf,jn,jq,kr]at this ⊢;omega
theorem juD{es:D dA}{t u:j}{pf pg:H->j}{n:H}(hp:∀i,i<n->pf i=pg i)(ha:∀p,ia es p t=ia es p u):fZ es t pf n=fZ es u pg n:=by
 have hg:∀m,m<=n->dq (fv es t pf) m=dq (fv es u pg) m:=by
  intro m;induction m with
  |zero=>intro _;rfl
  |succ m ih=>
   intro hm;have e:fv es t pf m=fv es u pg m:=by simp only[fv,hp m aa,ha]
   simp only[dq,e,ih aa]
 have hi:∀(g:H->Ä)(n i:H),dq g n=I i->i<n:=by
  intro g n;induction n with
  |zero=>intro i h;simp[dq]at h
  |succ n ih=>
   intro i h;simp only[dq]at h;cases hg:g n with
   |true=>rw[hg,jc]at h;simp at h;omega
   |false=>rw[hg,jd]at h;have:=ih i h;omega
 simp only[fZ,hg n (jy _)];cases hT:dq (fv es u pg) n with
 |none=>rfl
 |some i=>exact hp i (hi _ _ _ hT)
theorem _P{x y p:j}:∀es:D dA,(∀e∈es,(e.2.2.2.1<=x↔e.2.2.2.1<=y)/\(e.2.2.2.2<=x↔e.2.2.2.2<=y))->ia es p x=ia es p y
 |[],_=>rfl
 |e::r,h=>by
  have h1:=h e af;have ih:=_P (p:=p) r (λu hu=>h u (by simp[hu]));unfold ia at ih ⊢;have a1:M (e.2.2.2.1<=x)=M (e.2.2.2.1<=y):=decide_eq_decide.2 h1.1;have a2:M (x<e.2.2.2.2)=M (y<e.2.2.2.2):=decide_eq_decide.2 aa;simp only[List.any_cons];rw[a1,a2,ih]
section
variable{zs:D bS}{ps:D eu}{cs:D bq}
theorem _Q(hs:nI zs ps cs){ss:D dC}{nm:G}{ls:D bC}{es:D dA}(hl:ls.length<=6)(hL:∀L∈ls,iR zs.length ps.length cs.length L){a b:j}(ha:0<=a)(cX:a<=b)(hb:b<=8589934592)(hlen:b-a<=34560000) :
  ∀(n i:H)(acc:D j),i+n=ls.length->acc.length+2400000*n<=20000000->
  ∃out,Il a b (i:j) zs ps cs ss nm ls es acc=I (a,b,nm,ls,es,out)/\out.length<=acc.length+2400000*n/\(∀c∈acc,c∈out)/\∀L∈ls.drop i,∀x y,a<=x->x<=y->y<b->og out x y->cK zs cs L x=cK zs cs L y
 |0,i,acc,hi,_=>by
  rw[Wz];simp only[j68,show K ls.length=(ls.length:j) from rfl];rw[ak aa,jd,ba,jj aa];exact⟨acc,rfl,aa,λc h=>h,λL h=>by simp at h⟩
 |n+1,i,acc,hi,dI=>by
  have au:i<ls.length:=aa;have bm:ls.getD i (E,((0:j),(((0:j),(0:j)),((0:j),((0:j),(([]:D j),(([]:D (j×j)),((0:j),(0:j)))))))))=ls[i]:=by simp[J,au]
  obtain⟨C,eC,lC,pC⟩:=jxc hs (ss:=ss) (hL _ (ju au)) ha cX hb hlen;obtain⟨out,e1,e2,e3,e4⟩:=_Q hs (ss:=ss) (nm:=nm) (es:=es) hl hL ha cX hb hlen n (i+1) (acc++C) aa (by rw[jn];omega);rw[Wz,jh au];simp only[j68,show K ls.length=(ls.length:j) from rfl];rw[ah (show (i:j)<(ls.length:j) by omega),bP,ar (x:=(i:j)+1)];simp only[jc,je,bm];rw[show jid (zs,(ps,(cs,ss))) (ls[i].1,(ls[i].2.1,((ls[i].2.2.1.1,ls[i].2.2.1.2),(ls[i].2.2.2.1,(ls[i].2.2.2.2.1,(ls[i].2.2.2.2.2.1,(ls[i].2.2.2.2.2.2.1,(ls[i].2.2.2.2.2.2.2.1,ls[i].2.2.2.2.2.2.2.2)))))))) a b=_ from eC];simp only[ja];rw[ah (show acc.length+C.length<=aF by unfold aF;omega),jc,aV];refine⟨out,e1,by rw[jn]at e2;omega,λc h=>e3 c (jx _ h),λL hm x y h1 h2 h3 hn=>?_⟩;rcases jl.1 hm with rfl|hm
  .exact pC x y h1 h2 h3 (λc hc=>hn c (e3 c (jw _ hc)))
  .exact e4 L hm x y h1 h2 h3 hn
theorem _R{nm:G}{ls:D bC}{es:D dA}(hl:es.length<=100){a b:j}:∀(n i:H)(acc:D j),i+n=es.length->acc.length+2*n<=40000000->
  Im a b (i:j) nm ls es acc=I (a,b,acc++uK (es.drop i))
 |0,i,acc,hi,_=>by
  rw[WA,jj aa];simp only[j69,show K es.length=(es.length:j) from rfl];rw[ak aa,jd,ba];simp[uK]
 |n+1,i,acc,hi,ha=>by
  have au:i<es.length:=aa;have bm:es.getD i ((0:j),((0:j),((0:j),((0:j),(0:j)))))=es[i]:=by simp[J,au]
  have ih:=_R (nm:=nm) (ls:=ls) hl (a:=a) (b:=b) n (i+1) (acc++[es[i].2.2.2.1,es[i].2.2.2.2]) aa ay;rw[jo]at ih;rw[WA,jh au];simp only[j69,show K es.length=(es.length:j) from rfl];rw[ah (show (i:j)<(es.length:j) by omega),bP,ar (x:=(i:j)+1)];simp only[jc,je,bm];rw[ah (by simp[aF];omega),jc,aV];exact ih
theorem _S{nm:G}{ls:D bC}{es:D dA}{p t:j}(hl:es.length<=1000):∀(n i:H),i+n=es.length->ER p t (i:j) nm ls es=I (cond (ia (es.drop i) p t) (.inl true) (.inr ()))
 |0,i,hi=>by
  rw[Wm];simp only[j62,show K es.length=(es.length:j) from rfl];rw[ak aa,jd,ba,jj aa];rfl
 |n+1,i,hi=>by
  have au:i<es.length:=aa;have bm:es.getD i ((0:j),((0:j),((0:j),((0:j),(0:j)))))=es[i]:=by simp[J,au]
  have ih:=_S (nm:=nm) (ls:=ls) (p:=p) (t:=t) hl n (i+1) aa;rw[Wm];simp only[j62,show K es.length=(es.length:j) from rfl];rw[ah aa,bP,ar (x:=(i:j)+1),jh au];simp only[jc,je,bm];have ha:ia (es[i]::es.drop (i+1)) p t=((es[i].1==0&&(es[i].2.1==p&&(M (es[i].2.2.2.1<=t)&&M (t<es[i].2.2.2.2))))||ia (es.drop (i+1)) p t):=rfl;have e:(cond (cond (cond (es[i].1==(0:j)) (es[i].2.1==p) false) (M (es[i].2.2.2.1<=t)) false) (M (t<es[i].2.2.2.2)) false)=(es[i].1==0&&(es[i].2.1==p&&(M (es[i].2.2.2.1<=t)&&M (t<es[i].2.2.2.2)))):=by cases es[i].1==(0:j)<;>cases es[i].2.1==p<;>cases M (es[i].2.2.2.1<=t)<;>rfl
  rw[e,ha];cases (es[i].1==0&&(es[i].2.1==p&&(M (es[i].2.2.2.1<=t)&&M (t<es[i].2.2.2.2)))) with
  |true=>rfl
  |false=>rw[jd,aV,yp];exact ih
theorem _T{nm:G}{ls:D bC}{es:D dA}{p t:j}(hl:es.length<=1000):jib (nm,(ls,es)) p t=I (ia es p t):=by
 have:=_S (nm:=nm) (ls:=ls) (p:=p) (t:=t) hl es.length 0 aa;simp only[jib,show ER p t 0 nm ls es=_ from this,ja,jt];cases ia es p t<;>rfl
theorem _U(hs:nI zs ps cs){ss:D dC}{nm:G}{ls:D bC}{es:D dA}(iw:es.length<=1000)(jK:ls.length<=1000)(hL:∀L∈ls,iR zs.length ps.length cs.length L){t:j}(h0:0<=t)(h1:t<=8589934592):∀n:H,n<=ls.length->
  H9 t ((n:j)-1) zs ps cs ss nm ls es=I (match dq (fv es t (dJ zs cs ls t)) n with|some i=> .inl ((i:j),dJ zs cs ls t i)|none=> .inr ())
 |0,hn=>by
  rw[Wn];simp only[j6J];rw[ak aa,jd,ba];rfl
 |n+1,hn=>by
  have au:n<ls.length:=aa;have bm:ls.getD n (E,((0:j),(((0:j),(0:j)),((0:j),((0:j),(([]:D j),(([]:D (j×j)),((0:j),(0:j)))))))))=ls[n]:=by simp[J,au]
  have ih:=_U hs (ss:=ss) (nm:=nm) iw jK hL h0 h1 n aa;have hp:=jyA hs (hL _ (ju au)) (ss:=ss) h0 h1;have e:dJ zs cs ls t n=cK zs cs ls[n] t:=by simp[dJ,J,au]
  rw[show ((n+1:H):j)-1=(n:j) by omega,Wn];simp only[j6J];rw[ah (show (n:j)>=0 by omega),bP,ar (x:=(n:j)-1)];simp only[jc,je,bm];rw[show jlh (zs,(ps,(cs,ss))) (ls[n].1,(ls[n].2.1,((ls[n].2.2.1.1,ls[n].2.2.1.2),(ls[n].2.2.2.1,(ls[n].2.2.2.2.1,(ls[n].2.2.2.2.2.1,(ls[n].2.2.2.2.2.2.1,(ls[n].2.2.2.2.2.2.2.1,ls[n].2.2.2.2.2.2.2.2)))))))) t=_ from hp];simp only[ja,dq,fv,e];by_cases nW:0<=cK zs cs ls[n] t
  .rw[ah (show cK zs cs ls[n] t>=0 from nW)];simp only[jc,_T iw,ja,zw];cases ia es (cK zs cs ls[n] t) t with
   |true=>simp only[jk,jd,aV];exact ih
   |false=>simp only[jv,jc,e];exact ba ..
  .rw[ak (show¬cK zs cs ls[n] t>=0 from nW)];simp only[jd,Bool.false_and,aV];exact ih
end
structure SV(s:dC):Prop where
 ll:s.2.1.length<=3
 ly:pt s.2.1
 el:s.2.2.length<=4
 ed:wZ s.2.2
structure CV(c:gw):Prop where
 z:∀z∈c.1,ZW z
 s:∀s∈c.2.2.2,SV s
 one:1<=c.2.2.2.length
theorem CV.w{c:gw}(h:CV c):CW c:=
 ⟨h.z,λs hs x hx=>by have:=(h.s s hs).ed x hx;omega,λs hs=>(h.s s hs).ly⟩
def mV(L:D j)(r:N (gw×D j×j)):Prop:=∃k a',r=I (k,L,a')/\CV k/\di L a'
section
variable{L:D j}
theorem JU{a n:j}{f:j×D j×j->N (gw×D j×j)}(hd:di L a)(h1:1<=n)(h2:n<=1000000000000)(h:∀x a',0<=x->x<n->di L a'->mV L (f (x,L,a'))):mV L ((j02 L a n).bind f):=by
 obtain⟨x,a',e,x0,x1,d⟩:=dH hd h1 h2;rw[e];exact h x a' x0 x1 d
theorem _V{a:j}{xs:D j}{f:j×D j×j->N (gw×D j×j)}(hd:di L a)(h1:0<xs.length)(h2:xs.length<=1000000)(h:∀x a',x∈xs->di L a'->mV L (f (x,L,a'))):mV L ((j03 L a xs).bind f):=by
 obtain⟨x,a',e,x0,d⟩:=oY hd h1 h2;rw[e];exact h x a' x0 d
theorem _W{a:j}{u0 u1 u2 u3:D Unit}{f:dA×D j×j->N (gw×D j×j)}(hd:di L a)(h1:1<=u1.length)(h2:u1.length<=100)(h:∀(x:dA) a',x.2.2.2.1<=1000000000000->x.2.2.2.2<=1000000000000->di L a'->mV L (f (x,L,a'))) :
  mV L ((j49 L a (u0,(u1,(u2,u3)))).bind f):=by
 obtain⟨x,a',e,x0,d⟩:=_v hd (u0:=u0) (u2:=u2) (u3:=u3) h1 h2;rw[e];exact h x a' x0.1 x0.2 d
theorem _X{x y:j}{a b:N (gw×D j×j)}(h1:x=y->mV L a)(h2:x≠y->mV L b):mV L (cond (x==y) a b):=by
 by_cases h:x=y
 .rw[fh h];exact h1 h
 .rw[cU h];exact h2 h
theorem Al{b:Ä}{x:N (gw×D j×j)}(h:b=true)(hx:mV L x):mV L (cond b x Ã):=by rw[h];exact hx
theorem JV{a:j}{k:gw}(hd:di L a)(h:CV k):mV L (I (k,L,a)):=⟨k,a,rfl,h,hd⟩
theorem ovX{r:N (gw×D j×j)}(h:False):mV L r:=h.elim
end
theorem _Y{zs:D bS}(h:∀z∈zs,ZW z)(i:H)(nm:G)(o:j):∀z∈zs.set i (nm,(o,(zs.getD i (E,((0:j),([]:D aH)))).2.2)),ZW z:=λz hz=>by
 by_cases hi:i<zs.length
 .rcases U hz with hz|rfl
  .exact h z hz
  .have:=h zs[i] (ju hi);rw[show zs.getD i (E,((0:j),([]:D aH)))=zs[i] by simp[J,hi]];exact⟨this.ok,this.len,this.yr,this.few⟩
 .rw[List.set_eq_of_length_le aa]at hz;exact h z hz
theorem jBd{ls:D bC}(h:pt ls)(i:H){x:bC}(hx:x.2.2.2.2.2.2.1.length<=3):pt (ls.set i x):=λy hy=>by
 rcases U hy with hy|rfl
 .exact h y hy
 .exact hx
theorem Rr{ls:D bC}(h:pt ls)(i:H):(ls.getD i (E,((0:j),(((0:j),(0:j)),((0:j),((0:j),(([]:D j),(([]:WL),((0:j),(0:j)))))))))).2.2.2.2.2.2.1.length<=3:=by
 by_cases hi:i<ls.length
 .rw[R,kb hi];exact h _ (ju hi)
 .rw[R,qz aa];simp
theorem _Z:∀s∈([]:D dC),SV s:=λs hs=>by simp at hs
theorem _0{s:dC}{l:D dC}(h:SV s)(h':∀x∈l,SV x):∀x∈s::l,SV x:=λx hx=>by
 rcases jl.1 hx with rfl|hx
 .exact h
 .exact h' x hx
theorem _1(nm:G):SV (nm,(([]:D bC),([]:D dA))):=⟨af,λx hx=>by simp at hx,af,λx hx=>by simp at hx⟩
theorem Rs{nm Ru:G}{ls:D bC}{es:D dA}(h:SV (nm,(ls,es)))(i:H){x:bC}(hx:x.2.2.2.2.2.2.1.length<=3):SV (Ru,(ls.set i x,es)):=
 ⟨by rw[vk];exact h.ll,jBd h.ly i hx,h.el,h.ed⟩
theorem Rv{nm Ru:G}{ls:D bC}{es:D dA}(h:SV (nm,(ls,es)))(h3:es.length<=3){x:dA}(hx:x.2.2.2.2<=1000000000000):SV (Ru,(ls,es++[x])):=
 ⟨h.ll,h.ly,ay,wZ.snoc h.ed hx⟩
theorem JW{ss:D dC}(h:Co ss):∀s∈ss,SV s:=λs hs=>by
 obtain⟨h1,h2,h3⟩:=h s hs;exact⟨h1.1,h1.2,aa,h3⟩
theorem jCX{zs:D bS}{ps:D eu}{cs:D bq}{ss:D dC}(hs:sU zs ps cs)(hk:Co ss)(h1:1<=ss.length):CV (zs,(ps,(cs,ss))):=⟨λz hz=>(hs.ok z hz).w,JW hk,h1⟩
set_option maxHeartbeats 4000000 in
theorem jBg{L:D j}{a:j}(h:di L a){zs:D bS}{ps:D eu}{cs:D bq}{nm:G}{ls:D bC}{es:D dA}(hs:sU zs ps cs)(h0:SV (nm,(ls,es)))(iw:es.length<=3) :
  mV L (j6d L a (zs,(ps,(cs,[(nm,(ls,es))])))):=by
 have qU:=hs.z0;have zU:=hs.z1;have nW:=hs.p0;have sk:=hs.p1;have eS:=hs.c1;have jK:ls.length<=3:=h0.ll;have hl:pt ls:=h0.ly;have FP:∀z∈zs,ZW z:=λz hz=>(hs.ok z hz).w;have cp:jbg (zs,(ps,(cs,[(nm,(ls,es))])))=I (zs,ps,cs,nm,ls,es):=by simp only[jbg,kr,ko,kc,qs,yi];rw[ah (show zs.length<=aF by unfold aF;omega),ah (show ps.length<=aF by unfold aF;omega),ah (show cs.length<=aF by unfold aF;omega),ah (show (0:j)<((1:H):j) by omega),cb (show (0:j)<=0 by omega) (show (0:j)<((1:H):j) by omega)];simp only[jc,Á];rw[ah (show ls.length<=aF by unfold aF;omega),ah (show es.length<=aF by unfold aF;omega),ak (show¬(1:j)<((1:H):j) by omega)];rfl
 unfold j6d;simp only[cp,ja,yi];refine JU h aa aa (λx a1 x0 x1 hd=>?_)
 repeat' ((try dsimp only);first
  |refine _X (λhq=>?_) (λhq=>?_)
  |refine JU (by assumption) aa aa (λ_ _ _ _ _=>?_)
  |refine _V (by assumption) af af (λ_ _ _ _=>?_)
  |refine _W (by assumption) (by rw[z6];omega) (by rw[z6];omega) (λ_ _ _ _ _=>?_)
  |refine Al (bP) ?_
  |refine Al (cb aa (by simp only[jq,kr];omega)) ?_
  |refine Al (ah (by simp only[aF,jq,kr];omega)) ?_
  |refine JV (by assumption) ⟨FP,?_,af⟩
  |refine JV (by assumption) ⟨_Y FP _ _ _,?_,af⟩
  |refine _0 ?_ ?_
  |exact _Z
  |exact h0
  |exact _1 _
  |exact Rs h0 _ (Rr hl _)
  |exact Rv h0 iw (by dsimp only;first|assumption|omega|(simp only[jl,vb,or_false]at *;omega)))
set_option maxHeartbeats 4000000 in
theorem jBh{L:D j}{a:j}(h:di L a){zs:D bS}{ps:D eu}{cs:D bq}{nm uL:G}{ls qB:D bC}{es sg:D dA}(hs:sU zs ps cs)(h0:SV (nm,(ls,es)))(iw:es.length<=3)(h1:SV (uL,(qB,sg)))(Rw:sg.length<=3) :
  mV L (j9M L a (zs,(ps,(cs,[(nm,(ls,es)),(uL,(qB,sg))])))):=by
 have qU:=hs.z0;have zU:=hs.z1;have nW:=hs.p0;have sk:=hs.p1;have eS:=hs.c1;have jK:ls.length<=3:=h0.ll;have hl:pt ls:=h0.ly;have hll1:qB.length<=3:=h1.ll;have mM:pt qB:=h1.ly;have FP:∀z∈zs,ZW z:=λz hz=>(hs.ok z hz).w;have cp:jg4 (zs,(ps,(cs,[(nm,(ls,es)),(uL,(qB,sg))])))=I (zs,ps,cs,nm,uL,ls,es,qB,sg):=by simp only[jg4,kr,ko,kc,jq,yi];rw[ah (show zs.length<=aF by unfold aF;omega),ah (show ps.length<=aF by unfold aF;omega),ah (show cs.length<=aF by unfold aF;omega),ah (show (0:j)<((1+1:H):j) by omega),cb (show (0:j)<=0 by omega) (show (0:j)<((1+1:H):j) by omega)];simp only[jc,Á,List.getD_cons_succ];rw[ah (show ls.length<=aF by unfold aF;omega),ah (show es.length<=aF by unfold aF;omega),ah (show (1:j)<((1+1:H):j) by omega),cb (show (0:j)<=1 by omega) (show (1:j)<((1+1:H):j) by omega),ah (show qB.length<=aF by unfold aF;omega),ah (show sg.length<=aF by unfold aF;omega),ak (show¬(2:j)<((1+1:H):j) by omega)];rfl
 unfold j9M;simp only[cp,ja,yi];refine JU h aa aa (λx a1 x0 x1 hd=>?_)
 repeat' ((try dsimp only);first
  |refine _X (λhq=>?_) (λhq=>?_)
  |refine JU (by assumption) aa aa (λ_ _ _ _ _=>?_)
  |refine _V (by assumption) af af (λ_ _ _ _=>?_)
  |refine _W (by assumption) (by rw[z6];omega) (by rw[z6];omega) (λ_ _ _ _ _=>?_)
  |refine Al (bP) ?_
  |refine Al (cb aa (by simp only[jq,kr];omega)) ?_
  |refine Al (ah (by simp only[aF,jq,kr];omega)) ?_
  |refine Al (fh aa) ?_
  |refine JV (by assumption) ⟨FP,?_,af⟩
  |refine JV (by assumption) ⟨_Y FP _ _ _,?_,af⟩
  |refine _0 ?_ ?_
  |exact _Z
  |exact h0
  |exact h1
  |exact _1 _
  |exact Rs h0 _ (Rr hl _)
  |exact Rs h1 _ (Rr mM _)
  |exact Rv h0 iw (by dsimp only;first|assumption|omega|(simp only[jl,vb,or_false]at *;omega))
  |exact Rv h1 Rw (by dsimp only;first|assumption|omega|(simp only[jl,vb,or_false]at *;omega))
  |refine ovX aa)
theorem jBi{L:D j}{a:j}(h:di L a){zs:D bS}{ps:D eu}{cs:D bq}{ss:D dC}(hs:sU zs ps cs)(hk:Co ss)(h1:1<=ss.length)(h2:ss.length<=2) :
  mV L (j8K L a (zs,(ps,(cs,ss)))):=by
 match ss,h1,h2,hk with
 |[(nm,(ls,es))],_,_,hk=>obtain⟨k,a',e,hv,hd⟩:=jBg h hs (JW hk (nm,(ls,es)) af) (hk (nm,(ls,es)) af).2.1;exact⟨k,a',by simp only[j8K,e,BE],hv,hd⟩
 |[(nm,(ls,es)),(uL,(qB,sg))],_,_,hk=>
  obtain⟨k,a',e,hv,hd⟩:=jBh h hs (JW hk (nm,(ls,es)) af) (hk (nm,(ls,es)) af).2.1 (JW hk (uL,(qB,sg)) af) (hk (uL,(qB,sg)) af).2.1
  have hn:j6d L a (zs,(ps,(cs,[(nm,(ls,es)),(uL,(qB,sg))])))=none:=by
   have cp:jbg (zs,(ps,(cs,[(nm,(ls,es)),(uL,(qB,sg))])))=none:=by
    have c2:∀(b:Ä),cond b (Ã:N (D bS×D eu×D bq×G×D bC×D dA)) Ã=none:=λb=>by cases b<;>rfl
    simp only[jbg,jq,kr,yi];rw[ah (show (1:j)<((0+1+1:H):j) by omega)];simp only[jc,c2]
   unfold j6d;simp only[cp,Option.bind_none]
  exact⟨k,a',by simp only[j8K,hn,e,BE],hv,hd⟩
end Go.Proofs.Pw
