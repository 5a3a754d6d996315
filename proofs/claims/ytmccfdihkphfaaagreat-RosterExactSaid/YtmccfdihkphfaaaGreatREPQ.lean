/- stack.SegmentsOf: its BV form. -/
import Derived.Test.YtmccfdihkphfaaaGreatREPP
import Derived.Test.YtmccfdihkphfaaaGreatREPL
import Derived.Test.YtmccfdihkphfaaaGreatREPO
open _root_ renaming Int->j,List->D,ByteArray->I,Nat->K,Option->X,Bool->Ä
open ByteArray renaming empty->E
open List renaming length_append->G,getD_eq_getElem?_getD->H,drop_of_length_le->M,getD->N,getD_cons_zero->Â
open Option renaming some->J,none->Å
open Int renaming ofNat->R
open Decidable renaming decide->U
open List.Pairwise renaming imp_of_mem->À,nil->Ã
open Go Go.Lft
namespace Go.Proofs.Pw
def Gi(gd:K->Ä)(len:K):K->X K
 |0=>Å
 |m+1=>match Gi gd len m with
  |some i=>J i
  |none=>cond (gd (len-m-1)) (J (len-m-1)) Å
theorem Ϯ(gd:K->Ä)(len:K):∀m,m<=len->dK gd len=match Gi gd len m with
  |some i=>J i
  |none=>dK gd (len-m)
 |0,_=>rfl
 |m+1,h=>by
  rw[Ϯ gd len m aa];simp only[Gi];cases Gi gd len m with
  |some i=>rfl
  |none=>
   dsimp only
   rw[show len-m=(len-m-1)+1 by omega,dK,show len-(m+1)=len-m-1 by omega,show len-m-1+1-1=len-m-1 by omega];cases gd (len-m-1)<;>rfl
def Wv(gd:K->Ä)(pf:K->j)(len m:K):X Int:=(Gi gd len m).map pf
theorem Te(gd:K->Ä)(pf:K->j)(len m:K):Wv gd pf len (m+1)=match Wv gd pf len m with
  |some p=>J p
  |none=>cond (gd (len-m-1)) (J (pf (len-m-1))) none:=by
 simp only[Wv,Gi];cases Gi gd len m with
 |some i=>rfl
 |none=>cases gd (len-m-1)<;>rfl
theorem ϯ(es:D cO)(t:j)(pf:K->j)(len:K):dL es t pf len=(Wv (fQ es t pf) pf len len).getD (-1):=by
 simp only[dL,Wv,Ϯ (fQ es t pf) len len (jq _)];cases Gi (fQ es t pf) len len with
 |some i=>rfl
 |none=>simp only[Nat.sub_self,dK];rfl
theorem jEH:Go.Sort.SWO (Go.Proofs.ltOf λ(x y:Go.Lft.Sml (.pair (.int .i64) (.pair (.int .i64) (.int .i64))))=>(j3f x.1 y.1).getD 0):=by
 refine Iq (λx=>x.1.1) (λx=>?_) _ λx y=>rfl;have:=x.2;simp only[iP,jd,jj]at this;exact this.1
theorem jxR{l:bM}(hl:l.length<=1000000000)(hb:∀x∈l, -1000000000000<=x.1/\x.1<=1000000000000 /\ -1000000000000<=x.2.1/\x.2.1<=1000000000000 /\ -1000000000000<=x.2.2/\x.2.2<=1000000000000) :
  ∃L,j0v l=J L/\L.Perm l/\L.Pairwise (λx y=>x.1<=y.1):=by
 obtain⟨L,e,hp,hs⟩:=Xk (a:= .pair (.int .i64) (.pair (.int .i64) (.int .i64))) (cf:=λx y=>(j3f x y).getD 0) jEH (xs:=l) (λx hx=>by
  have:=hb x hx;simp only[iP,jd,jj];refine⟨⟨?_,?_⟩,⟨?_,?_⟩,⟨?_,?_⟩⟩
  .exact qs (by decide) this.1
  .exact qs this.2.1 (by decide)
  .exact qs (by decide) this.2.2.1
  .exact qs this.2.2.2.1 (by decide)
  .exact qs (by decide) this.2.2.2.2.1
  .exact qs this.2.2.2.2.2 (by decide)) (by show List.length l<_;omega)
 refine⟨L,e,hp,?_⟩;refine À (λ{x y} hx hy h=>?_) hs;have h1:=hb x (hp.mem_iff.1 hx);have h2:=hb y (hp.mem_iff.1 hy);have h':¬w64 (y.1-x.1)<0:=h;rw[ar (x:=y.1-x.1)]at h';omega
theorem ϰ{F:SL}(hF:F.length<=10000000):∀(n i:K)(acc:bM),i+n=F.length->acc.length+n<=1000000000->Fm (F.length:j) (i:j) F acc=J (acc++(F.drop i).map λu=>(u.1,(u.2, -1)))
 |0,i,acc,hi,_=>by
  rw[X3];simp only[j2u];rw[an aa,j7,aW,M aa];simp
 |n+1,i,acc,hi,ha=>by
  have bY:i<F.length:=aa;have bc:F.getD i ((0:j),(0:j))=F[i]:=by simp[N,bY]
  rw[X3];simp only[j2u];rw[ag aa,bE,ar (x:=(i:j)+1)];simp only[j6,j8,bc];rw[ag (by simp[aG];omega),j6,aS,jb bY,kj];have:=ϰ hF n (i+1) (acc++[(F[i].1,(F[i].2, -1))]) aa az;rw[jg]at this;exact this
def apart(x y:lD):Prop:=x.2.1<=y.1\/y.2.1<=x.1
section
variable{zs:D bH}{ps:D dr}{cs:D bd}(hs:lz zs ps cs)
 {nm:I}{ls:D bA}{es:D cO}(hL:∀L∈ls,iw zs.length ps.length cs.length L)(ix:ls.length<=4)(hE:∀x∈es,Gk x)(gp:es.length<=9)
 {ss:D cN}{a b:j}(ha:0<=a)(cF:a<=b)(hb:b<=8589934592)(hlen:b-a<=35078400)
include hs hL ix hE gp ha cF hb hlen
structure GK(zs:D bH)(cs:D bd)(ls:D bA)(es:D cO)(a b:j)(m:K)(F:SL)(O:bM):Prop where
 st:bX (a-1) F
 fb:∀t,bJ t F->t<b
 fr:∀t,a<=t->t<b->(bJ t F↔Wv (fQ es t (di zs cs ls t)) (di zs cs ls t) ls.length m=Å)
 seg:∀x∈O,a<=x.1/\x.1<x.2.1/\x.2.1<=b/\∀t,x.1<=t->t<x.2.1->Wv (fQ es t (di zs cs ls t)) (di zs cs ls t) ls.length m=J x.2.2
 ap:O.Pairwise apart
 cov:∀t,a<=t->t<b->Wv (fQ es t (di zs cs ls t)) (di zs cs ls t) ls.length m≠Å->nK t O
 fl:F.length+300000<=2^m*300001
 ol:O.length<=m*4000000
theorem jEI{k m:K}(hk:k+m+1=ls.length){F:SL}{O:bM}(hI:GK zs cs ls es a b m F O) :
  ∃S Q W F',j2K ((zs,(ps,(cs,ss))),zs.map tb) (ls.getD k (E,((0:j),(((0:j),(0:j)),((0:j),((0:j),(([]:D j),(([]:D (j×j)),((0:j),(0:j)))))))))) a b=J S/\
   j9K (nm,(ls,es)) S=J Q/\je3 Q F=J W/\O.length+W.length<=aG/\(∃P,jcU W=J P/\j2Y F P=J F')/\GK zs cs ls es a b (m+1) F' (O++W):=by
 have bn:k<ls.length:=aa;have hLk:=hL _ (jl bn);have bc:ls.getD k (E,((0:j),(((0:j),(0:j)),((0:j),((0:j),(([]:D j),(([]:D (j×j)),((0:j),(0:j)))))))))=ls[k]:=by simp[N,bn]
 have CT:∀t,di zs cs ls t k=cA zs cs ls[k] t:=λt=>by simp only[di,bc]
 obtain⟨S,e1,c1,l1⟩:=Ζ hs hLk (ss:=ss) ha cF hb hlen;have bK:=c1.pos;have e2:=jxQ (nm:=nm) (ls:=ls) hE aa (S:=S) aa bK;obtain⟨p1,p2,p3⟩:=ϫ (nm:=nm) (ls:=ls) hE aa c1.ch bK;have pl:=ϩ (nm:=nm) (ls:=ls) hE aa (S:=S) bK;have pl2:S.length*(1+es.length)<=30000*10:=qm l1 aa;generalize S.flatMap (nn (nm,(ls,es)))=Q at *;have a_:m<=3:=aa;have Tf:2^m<=2^3:=Nat.pow_le_pow_right aa a_;have fB:=hI.fl;have yM:=hI.ol;have hF:F.length<=10000000:=aa;have lp:=Td (A:=Q) (B:=F) aa hF (Q.length+F.length) 0 0 [] aa aa aa az;rw[jw,jk,jk]at lp;obtain⟨w1,_,w3,w4,w5⟩:=Tc (Q.length+F.length) Q F a (a-1) (jq _) p1 hI.st;generalize lE (Q.length+F.length) Q F=W at *
 have p7:∀x∈W,a<=x.1/\x.1<x.2.1/\x.2.1<=b/\∀t,x.1<=t->t<x.2.1->bJ t F/\cA zs cs ls[k] t=x.2.2/\0<=x.2.2/\gP es x.2.2 t=false:=λx hx=>by
  have br:∀(l:bM)(q:j),ij q l->∀y∈l,y.1<y.2.1:=by
   intro l;induction l with
   |nil=>intro q _ y hy;simp at hy
   |cons s r ih=>intro q h y hy;rcases je.1 hy with rfl|hy;exact h.2.1;exact ih _ h.2.2 y hy
  have h0:=br W a w1 x hx;have h1:=(w1.apart).2 x hx;obtain⟨s,eE,r1,r2,r3,r4⟩:=w3 x hx;obtain⟨g1,g2⟩:=p2 s eE;refine⟨h1,h0,aa,λt t1 t2=>?_⟩;obtain⟨g3,g4,g5⟩:=g2 t aa aa;rw[r3];exact⟨r4 t t1 t2,g3,g4,g5⟩
 have ϱ:∀x∈W,∀t,x.1<=t->t<x.2.1->Wv (fQ es t (di zs cs ls t)) (di zs cs ls t) ls.length (m+1)=J x.2.2:=λx hx t t1 t2=>by
  obtain⟨h1,h2,h3,h4⟩:=p7 x hx;obtain⟨g1,g2,g3,g4⟩:=h4 t t1 t2;have hn:=(hI.fr t aa aa).1 g1;rw[Te,hn,show ls.length-m-1=k by omega];have:fQ es t (di zs cs ls t) k=true:=by simp only[fQ,CT,g2,g4];simp[g3]
  simp only[this,j6,CT,g2]
 have hold:∀t p,Wv (fQ es t (di zs cs ls t)) (di zs cs ls t) ls.length m=J p->Wv (fQ es t (di zs cs ls t)) (di zs cs ls t) ls.length (m+1)=J p:=λt p h=>by rw[Te,h]
 obtain⟨P,e4,q1,q2,q3⟩:=jCf (l:=W) aa (lo:=a) (hi:=b) ha hb (λx hx=>⟨(p7 x hx).1,(p7 x hx).2.1,(p7 x hx).2.2.1⟩);obtain⟨F',e5,f1,f2,f3⟩:=Sh (B:=P) aa hI.st q1 hF;refine⟨S,Q,W,F',by rw[bc];exact e1,e2,?_,by simp[aG];omega,⟨P,e4,e5⟩,?_⟩
 .simp only[je3,show Ag Q F 0 0 []=_ from lp];rfl
 .have cP:∀t,a<=t->t<b->bJ t F->nK t W\/Wv (fQ es t (di zs cs ls t)) (di zs cs ls t) ls.length (m+1)=none:=λt t1 t2 hf=>by
   have hn:=(hI.fr t t1 t2).1 hf;by_cases hg:fQ es t (di zs cs ls t) k=true
   .left;refine w4 t (p3 t t1 t2 ?_ ?_) hf
    .simp only[fQ,CT,jd,jj]at hg;exact hg.1
    .simp only[fQ,CT,jd,q9]at hg;exact hg.2
   .right;rw[Te,hn,show ls.length-m-1=k by omega,ky.2 hg];rfl
  refine⟨f1,λt h=>hI.fb t ((f2 t).1 h).1,λt t1 t2=>?_,λx hx=>?_,?_,λt t1 t2 br=>?_,?_,?_⟩
  .rw[f2 t,q2 t];constructor
   .rintro⟨h1,h2⟩
    rcases cP t t1 t2 h1 with h|h
    .exact absurd h h2
    .exact h
   .intro h
    have hn:Wv (fQ es t (di zs cs ls t)) (di zs cs ls t) ls.length m=none:=by
     cases hw:Wv (fQ es t (di zs cs ls t)) (di zs cs ls t) ls.length m with
     |none=>rfl
     |some p=>rw[hold t p hw]at h;simp at h
    refine⟨(hI.fr t t1 t2).2 hn,?_⟩
    rintro⟨x,hx,x1,x2⟩
    rw[ϱ x hx t x1 x2]at h;simp at h
  .rcases jm.1 hx with hx|hx
   .obtain⟨h1,h2,h3,h4⟩:=hI.seg x hx;exact⟨h1,h2,h3,λt t1 t2=>hold t _ (h4 t t1 t2)⟩
   .obtain⟨h1,h2,h3,_⟩:=p7 x hx;exact⟨h1,h2,h3,ϱ x hx⟩
  .refine v6.2 ⟨hI.ap,(w1.apart).1.imp (λh=> .inl h),λx hx y hy=>?_⟩;obtain⟨h1,h2,h3,h4⟩:=hI.seg x hx;obtain⟨g1,g2,g3,g4⟩:=p7 y hy;apply ju;intro hn;simp only[apart,not_or]at hn
   have hc:∃t,x.1<=t/\t<x.2.1/\y.1<=t/\t<y.2.1:=by
    by_cases jE:x.1<=y.1
    .exact⟨y.1,aa,aa,aa,aa⟩
    .exact⟨x.1,aa,aa,aa,aa⟩
   obtain⟨t,t1,t2,t3,t4⟩:=hc;have hw:=h4 t t1 t2;have:=(hI.fr t aa aa).1 (g4 t t3 t4).1;rw[hw]at this;simp at this
  .by_cases hf:bJ t F
   .rcases cP t t1 t2 hf with⟨x,hx,h⟩|h
    .exact⟨x,jn _ hx,h⟩
    .exact absurd h br
   .have hw:Wv (fQ es t (di zs cs ls t)) (di zs cs ls t) ls.length m≠none:=λh=>hf ((hI.fr t t1 t2).2 h);obtain⟨x,hx,h⟩:=hI.cov t t1 t2 hw;exact⟨x,jr _ hx,h⟩
  .rw[Nat.pow_succ];omega
  .rw[G,Nat.add_mul];omega
theorem ϲ:∀(n m:K)(F:SL)(O:bM),n+m=ls.length->GK zs cs ls es a b m F O->
  ∃F' O',Fl (n:j) ls zs ps cs ss (zs.map tb) nm ls es a b F O=J (F',O')/\GK zs cs ls es a b ls.length F' O'
 |0,m,F,O,hn,hI=>by
  rw[X2];simp only[j2t];rw[ag aa,j6,aW];obtain rfl:m=ls.length:=aa;exact⟨F,O,rfl,hI⟩
 |k+1,m,F,O,hn,hI=>by
  obtain⟨S,Q,W,F',e1,e2,e3,e4,⟨P,e5,e6⟩,HN⟩:=jEI hs hL ix hE gp ha cF hb hlen (nm:=nm) (ss:=ss) (k:=k) (m:=m) aa hI;rw[X2];simp only[j2t];rw[an aa,ag (show ((k+1:K):j)<=R ls.length by simp;omega),show ((k+1:K):j)-1=(k:j) by omega];simp only[j6,j7,j8];generalize ls.getD k (E,((0:j),(((0:j),(0:j)),((0:j),((0:j),(([]:D j),(([]:D (j×j)),((0:j),(0:j)))))))))=L at *;rw[show j2K ((zs,(ps,(cs,ss))),zs.map tb) (L.1,(L.2.1,((L.2.2.1.1,L.2.2.1.2),(L.2.2.2.1,(L.2.2.2.2.1,(L.2.2.2.2.2.1,(L.2.2.2.2.2.2.1,(L.2.2.2.2.2.2.2.1,L.2.2.2.2.2.2.2.2)))))))) a b=_ from e1];simp only[j4,e2,e3];rw[ag e4];simp only[j6,j4,e5,e6,aS];exact ϲ k (m+1) F' (O++W) aa HN
theorem jCg:∃out,j4V ((zs,(ps,(cs,ss))),zs.map tb) (nm,(ls,es)) a b=J out/\fJ (λt=>dL es t (di zs cs ls t) ls.length) b Å a out/\out.length<=40000000:=by
 simp only[j4V];by_cases mu:a>=b
 .rw[ag mu,j6];exact⟨[],rfl,show a=b by omega,ae⟩
 .rw[an mu,j7]
  have h0:GK zs cs ls es a b 0 [(a,b)] []:=⟨⟨by dsimp only;omega,by dsimp only;omega,trivial⟩,λt h=>by
   rcases dC.1 h with h|h
   .exact h.2
   .exact absurd h fU,λt t1 t2=>⟨λ_=>rfl,λ_=>dC.2 (.inl ⟨t1,t2⟩)⟩,ae,Ã,λt _ _ h=>absurd rfl h,ae,ae⟩
  obtain⟨F,O,e1,hI⟩:=ϲ hs hL ix hE gp ha cF hb hlen (nm:=nm) (ss:=ss) ls.length 0 [(a,b)] [] aa h0;have Tf:2^ls.length<=2^4:=Nat.pow_le_pow_right aa ix;have fB:=hI.fl;have yM:=hI.ol;have hF:F.length<=10000000:=aa;have lp:=ϰ hF F.length 0 O aa aa;rw[jk]at lp
  have ϳ:∀u∈F,a<=u.1/\u.1<u.2/\u.2<=b/\∀t,u.1<=t->t<u.2->Wv (fQ es t (di zs cs ls t)) (di zs cs ls t) ls.length ls.length=none:=λu hu=>by
   have hm:=bX.mem hI.st u hu;have:=hI.fb (u.2-1) ⟨u,hu,aa,aa⟩;exact⟨aa,hm.2,aa,λt t1 t2=>(hI.fr t aa aa).1 ⟨u,hu,t1,t2⟩⟩
  have ay:∀x∈O++F.map (λu=>((u.1,(u.2, -1)):lD)),a<=x.1/\x.1<x.2.1/\x.2.1<=b/\∀t,x.1<=t->t<x.2.1->dL es t (di zs cs ls t) ls.length=x.2.2:=λx hx=>by
   rcases jm.1 hx with hx|hx
   .obtain⟨h1,h2,h3,h4⟩:=hI.seg x hx;exact⟨h1,h2,h3,λt t1 t2=>by rw[ϯ,h4 t t1 t2];rfl⟩
   .obtain⟨u,hu,rfl⟩:=jx.1 hx;obtain⟨h1,h2,h3,h4⟩:=ϳ u hu;exact⟨h1,h2,h3,λt t1 t2=>by rw[ϯ,h4 t t1 t2];rfl⟩
  have hpr:∀x∈O++F.map (λu=>((u.1,(u.2, -1)):lD)), -1<=x.2.2/\x.2.2<=100:=λx hx=>by
   obtain⟨h1,h2,h3,h4⟩:=ay x hx;have:=h4 x.1 (k8 _) h2;have rh:=hs.pl;rw[<-this];simp only[dL];cases hT:dK (fQ es x.1 (di zs cs ls x.1)) ls.length with
   |none=>dsimp only;omega
   |some i=>
    dsimp only
    have hi:∀(g:K->Ä)(n i:K),dK g n=J i->i<n:=by
     intro g n;induction n with
     |zero=>intro i h;simp[dK]at h
     |succ n ih=>
      intro i h;simp only[dK]at h;cases hg:g n with
      |true=>rw[hg,j6]at h;simp at h;omega
      |false=>rw[hg,j7]at h;have:=ih i h;omega
    have bY:=hi _ _ _ hT;have e:di zs cs ls x.1 i=cA zs cs ls[i] x.1:=by simp[di,N,bY]
    rw[e];have:=(jEi (hL _ (jl bY)) (t:=x.1) aa aa).2;omega
  have oe:(O++F.map (λu=>((u.1,(u.2, -1)):lD))).Pairwise apart:=by
   refine v6.2 ⟨hI.ap,?_,λx hx y hy=>?_⟩
   .rw[List.pairwise_map]
    have:∀(l:SL)(q:j),bX q l->l.Pairwise (λu v=>u.2<=v.1):=by
     intro l;induction l with
     |nil=>intro q _;exact Ã
     |cons s r ih=>intro q h;exact kf.2 ⟨λv hv=>by have:=bX.mem h.2.2 v hv;omega,ih _ h.2.2⟩
    exact(this F _ hI.st).imp (λh=> .inl h)
   .obtain⟨u,hu,rfl⟩:=jx.1 hy;obtain⟨h1,h2,h3,h4⟩:=hI.seg x hx;obtain⟨g1,g2,g3,g4⟩:=ϳ u hu;apply ju;intro hn;simp only[apart,not_or]at hn
    have hc:∃t,x.1<=t/\t<x.2.1/\u.1<=t/\t<u.2:=by
     by_cases jE:x.1<=u.1
     .exact⟨u.1,aa,aa,aa,aa⟩
     .exact⟨x.1,aa,aa,aa,aa⟩
    obtain⟨t,t1,t2,t3,t4⟩:=hc;have hw:=h4 t t1 t2;rw[g4 t t3 t4]at hw;simp at hw
  have Tg:∀t,(a<=t/\t<b)↔∃s∈O++F.map (λu=>((u.1,(u.2, -1)):lD)),s.1<=t/\t<s.2.1:=λt=>by
   constructor
   .rintro⟨t1,t2⟩
    by_cases hn:Wv (fQ es t (di zs cs ls t)) (di zs cs ls t) ls.length ls.length=Å
    .obtain⟨u,hu,u1,u2⟩:=(hI.fr t t1 t2).2 hn;exact⟨(u.1,(u.2, -1)),jn _ (jx.2 ⟨u,hu,rfl⟩),u1,u2⟩
    .obtain⟨x,hx,h⟩:=hI.cov t t1 t2 hn;exact⟨x,jr _ hx,h⟩
   .rintro⟨x,hx,x1,x2⟩
    obtain⟨h1,h2,h3,_⟩:=ay x hx;omega
  have hZl:(O++F.map (λu=>((u.1,(u.2, -1)):lD))).length<=40000000:=by rw[G,kc];omega
  generalize hZ:O++F.map (λu=>((u.1,(u.2, -1)):lD))=Z at *
  obtain⟨Y,e2,hp,Th⟩:=jxR (l:=Z) aa (λx hx=>by have:=ay x hx;have:=hpr x hx;omega)
  have nj:Ch (λt=>dL es t (di zs cs ls t) ls.length) b a Y:=by
   refine L_ cF ?_ (λs h=>⟨(ay s (hp.mem_iff.1 h)).2.1,(ay s (hp.mem_iff.1 h)).2.2.2⟩) (λt=>?_)
   .have hY:Y.Pairwise apart:=(hp.pairwise_iff (λ{x y} h=>Or.symm h)).2 oe;refine À (λ{x y} hx hy h=>?_) (hY.and Th);have h1:=ay x (hp.mem_iff.1 hx);have h2:=ay y (hp.mem_iff.1 hy);rcases h.1 with h3|h3
    .exact h3
    .have:=h.2;omega
   .rw[Tg t];constructor
    .rintro⟨x,hx,h⟩;exact⟨x,hp.mem_iff.2 hx,h⟩
    .rintro⟨x,hx,h⟩;exact⟨x,hp.mem_iff.1 hx,h⟩
  have hYl:=hp.length_eq;obtain⟨out,e3,h3,l3⟩:=Sq (l:=Y) aa nj;refine⟨out,?_,h3,aa⟩;simp only[j0X,j4];rw[show Fl (R ls.length) ls zs ps cs ss (zs.map tb) nm ls es a b [(a,b)] []=_ from e1];simp only[j4,show R F.length=(F.length:j) from rfl];rw[show Fm (F.length:j) 0 F O=_ from lp];simp only[j4];rw[e2];simp only[j4,e3]
end
def lF(es:D cO):D Int:=es.flatMap λx=>[x.2.2.2.1,x.2.2.2.2]
theorem Ld:∀es:D cO,(lF es).length=2*es.length
 |[]=>rfl
 |x::es=>by
  have:=Ld es;simp only[lF,qu,G,ji,jz]at this ⊢;omega
theorem ϴ{es:D cO}{t u:j}{pf pg:K->j}{n:K}(hp:∀i,i<n->pf i=pg i)(ha:∀p,gP es p t=gP es p u):dL es t pf n=dL es u pg n:=by
 have hg:∀m,m<=n->dK (fQ es t pf) m=dK (fQ es u pg) m:=by
  intro m;induction m with
  |zero=>intro _;rfl
  |succ m ih=>
   intro hm;have e:fQ es t pf m=fQ es u pg m:=by simp only[fQ,hp m aa,ha]
   simp only[dK,e,ih aa]
 have hi:∀(g:K->Ä)(n i:K),dK g n=J i->i<n:=by
  intro g n;induction n with
  |zero=>intro i h;simp[dK]at h
  |succ n ih=>
   intro i h;simp only[dK]at h;cases hg:g n with
   |true=>rw[hg,j6]at h;simp at h;omega
   |false=>rw[hg,j7]at h;have:=ih i h;omega
 simp only[dL,hg n (jq _)];cases hT:dK (fQ es u pg) n with
 |none=>rfl
 |some i=>exact hp i (hi _ _ _ hT)
theorem ϵ{x y p:j}:∀es:D cO,(∀e∈es,(e.2.2.2.1<=x↔e.2.2.2.1<=y)/\(e.2.2.2.2<=x↔e.2.2.2.2<=y))->gP es p x=gP es p y
 |[],_=>rfl
 |e::r,h=>by
  have h1:=h e ae;have ih:=ϵ (p:=p) r (λu hu=>h u (by simp[hu]));unfold gP at ih ⊢;have a1:U (e.2.2.2.1<=x)=U (e.2.2.2.1<=y):=decide_eq_decide.2 h1.1;have a2:U (x<e.2.2.2.2)=U (y<e.2.2.2.2):=decide_eq_decide.2 aa;simp only[List.any_cons];rw[a1,a2,ih]
section
variable{zs:D bH}{ps:D dr}{cs:D bd}
theorem Ϸ(hs:lz zs ps cs){ss:D cN}{nm:I}{ls:D bA}{es:D cO}(hl:ls.length<=6)(hL:∀L∈ls,iw zs.length ps.length cs.length L){a b:j}(ha:0<=a)(cF:a<=b)(hb:b<=8589934592)(hlen:b-a<=34560000) :
  ∀(n i:K)(acc:D j),i+n=ls.length->acc.length+2400000*n<=20000000->
  ∃out,JD a b (i:j) zs ps cs ss nm ls es acc=J (a,b,nm,ls,es,out)/\out.length<=acc.length+2400000*n/\(∀c∈acc,c∈out)/\∀L∈ls.drop i,∀x y,a<=x->x<=y->y<b->oz out x y->cA zs cs L x=cA zs cs L y
 |0,i,acc,hi,_=>by
  rw[YW];simp only[j6O,show R ls.length=(ls.length:j) from rfl];rw[an aa,j7,aW,M aa];exact⟨acc,rfl,aa,λc h=>h,λL h=>by simp at h⟩
 |n+1,i,acc,hi,dJ=>by
  have aq:i<ls.length:=aa;have bc:ls.getD i (E,((0:j),(((0:j),(0:j)),((0:j),((0:j),(([]:D j),(([]:D (j×j)),((0:j),(0:j)))))))))=ls[i]:=by simp[N,aq]
  obtain⟨C,eC,lC,pC⟩:=jAv hs (ss:=ss) (hL _ (jl aq)) ha cF hb hlen;obtain⟨out,e1,e2,e3,e4⟩:=Ϸ hs (ss:=ss) (nm:=nm) (es:=es) hl hL ha cF hb hlen n (i+1) (acc++C) aa (by rw[G];omega);rw[YW,jb aq];simp only[j6O,show R ls.length=(ls.length:j) from rfl];rw[ag (show (i:j)<(ls.length:j) by omega),bE,ar (x:=(i:j)+1)];simp only[j6,j8,bc];rw[show jkm (zs,(ps,(cs,ss))) (ls[i].1,(ls[i].2.1,((ls[i].2.2.1.1,ls[i].2.2.1.2),(ls[i].2.2.2.1,(ls[i].2.2.2.2.1,(ls[i].2.2.2.2.2.1,(ls[i].2.2.2.2.2.2.1,(ls[i].2.2.2.2.2.2.2.1,ls[i].2.2.2.2.2.2.2.2)))))))) a b=_ from eC];simp only[j4];rw[ag (show acc.length+C.length<=aG by unfold aG;omega),j6,aS];refine⟨out,e1,by rw[G]at e2;omega,λc h=>e3 c (jr _ h),λL hm x y h1 h2 h3 hn=>?_⟩;rcases je.1 hm with rfl|hm
  .exact pC x y h1 h2 h3 (λc hc=>hn c (e3 c (jn _ hc)))
  .exact e4 L hm x y h1 h2 h3 hn
theorem ϸ{nm:I}{ls:D bA}{es:D cO}(hl:es.length<=100){a b:j}:∀(n i:K)(acc:D j),i+n=es.length->acc.length+2*n<=40000000->
  JE a b (i:j) nm ls es acc=J (a,b,acc++lF (es.drop i))
 |0,i,acc,hi,_=>by
  rw[YX,M aa];simp only[j6P,show R es.length=(es.length:j) from rfl];rw[an aa,j7,aW];simp[lF]
 |n+1,i,acc,hi,ha=>by
  have aq:i<es.length:=aa;have bc:es.getD i ((0:j),((0:j),((0:j),((0:j),(0:j)))))=es[i]:=by simp[N,aq]
  have ih:=ϸ (nm:=nm) (ls:=ls) hl (a:=a) (b:=b) n (i+1) (acc++[es[i].2.2.2.1,es[i].2.2.2.2]) aa az;rw[jg]at ih;rw[YX,jb aq];simp only[j6P,show R es.length=(es.length:j) from rfl];rw[ag (show (i:j)<(es.length:j) by omega),bE,ar (x:=(i:j)+1)];simp only[j6,j8,bc];rw[ag (by simp[aG];omega),j6,aS];exact ih
theorem Ϲ{nm:I}{ls:D bA}{es:D cO}{p t:j}(hl:es.length<=1000):∀(n i:K),i+n=es.length->FB p t (i:j) nm ls es=J (cond (gP (es.drop i) p t) (.inl true) (.inr ()))
 |0,i,hi=>by
  rw[YJ];simp only[j6H,show R es.length=(es.length:j) from rfl];rw[an aa,j7,aW,M aa];rfl
 |n+1,i,hi=>by
  have aq:i<es.length:=aa;have bc:es.getD i ((0:j),((0:j),((0:j),((0:j),(0:j)))))=es[i]:=by simp[N,aq]
  have ih:=Ϲ (nm:=nm) (ls:=ls) (p:=p) (t:=t) hl n (i+1) aa;rw[YJ];simp only[j6H,show R es.length=(es.length:j) from rfl];rw[ag aa,bE,ar (x:=(i:j)+1),jb aq];simp only[j6,j8,bc];have ha:gP (es[i]::es.drop (i+1)) p t=((es[i].1==0&&(es[i].2.1==p&&(U (es[i].2.2.2.1<=t)&&U (t<es[i].2.2.2.2))))||gP (es.drop (i+1)) p t):=rfl;have e:(cond (cond (cond (es[i].1==(0:j)) (es[i].2.1==p) false) (U (es[i].2.2.2.1<=t)) false) (U (t<es[i].2.2.2.2)) false)=(es[i].1==0&&(es[i].2.1==p&&(U (es[i].2.2.2.1<=t)&&U (t<es[i].2.2.2.2)))):=by cases es[i].1==(0:j)<;>cases es[i].2.1==p<;>cases U (es[i].2.2.2.1<=t)<;>rfl
  rw[e,ha];cases (es[i].1==0&&(es[i].2.1==p&&(U (es[i].2.2.2.1<=t)&&U (t<es[i].2.2.2.2)))) with
  |true=>rfl
  |false=>rw[j7,aS,yg];exact ih
theorem jxS{nm:I}{ls:D bA}{es:D cO}{p t:j}(hl:es.length<=1000):jmZ (nm,(ls,es)) p t=J (gP es p t):=by
 have:=Ϲ (nm:=nm) (ls:=ls) (p:=p) (t:=t) hl es.length 0 aa;simp only[jmZ,show FB p t 0 nm ls es=_ from this,j4,jk];cases gP es p t<;>rfl
theorem Ti(hs:lz zs ps cs){ss:D cN}{nm:I}{ls:D bA}{es:D cO}(gp:es.length<=1000)(ix:ls.length<=1000)(hL:∀L∈ls,iw zs.length ps.length cs.length L){t:j}(h0:0<=t)(h1:t<=8589934592):∀n:K,n<=ls.length->
  Ct t ((n:j)-1) zs ps cs ss nm ls es=J (match dK (fQ es t (di zs cs ls t)) n with|some i=> .inl ((i:j),di zs cs ls t i)|none=> .inr ())
 |0,hn=>by
  rw[YK];simp only[j7z];rw[an aa,j7,aW];rfl
 |n+1,hn=>by
  have aq:n<ls.length:=aa;have bc:ls.getD n (E,((0:j),(((0:j),(0:j)),((0:j),((0:j),(([]:D j),(([]:D (j×j)),((0:j),(0:j)))))))))=ls[n]:=by simp[N,aq]
  have ih:=Ti hs (ss:=ss) (nm:=nm) gp ix hL h0 h1 n aa;have hp:=jC3 hs (hL _ (jl aq)) (ss:=ss) h0 h1;have e:di zs cs ls t n=cA zs cs ls[n] t:=by simp[di,N,aq]
  rw[show ((n+1:K):j)-1=(n:j) by omega,YK];simp only[j7z];rw[ag (show (n:j)>=0 by omega),bE,ar (x:=(n:j)-1)];simp only[j6,j8,bc];rw[show jnT (zs,(ps,(cs,ss))) (ls[n].1,(ls[n].2.1,((ls[n].2.2.1.1,ls[n].2.2.1.2),(ls[n].2.2.2.1,(ls[n].2.2.2.2.1,(ls[n].2.2.2.2.2.1,(ls[n].2.2.2.2.2.2.1,(ls[n].2.2.2.2.2.2.2.1,ls[n].2.2.2.2.2.2.2.2)))))))) t=_ from hp];simp only[j4,dK,fQ,e];by_cases kN:0<=cA zs cs ls[n] t
  .rw[ag (show cA zs cs ls[n] t>=0 from kN)];simp only[j6,jxS gp,j4,qr];cases gP es (cA zs cs ls[n] t) t with
   |true=>simp only[jc,j7,aS];exact ih
   |false=>simp only[jp,j6,e];exact aW ..
  .rw[an (show¬cA zs cs ls[n] t>=0 from kN)];simp only[j7,ym,aS];exact ih
end
structure SV(s:cN):Prop where
 ll:s.2.1.length<=3
 ly:pZ s.2.1
 el:s.2.2.length<=4
 ed:xD s.2.2
structure CV(c:fP):Prop where
 z:∀z∈c.1,ZW z
 s:∀s∈c.2.2.2,SV s
 one:1<=c.2.2.2.length
 pw:∀p∈c.2.1,p.2.2.1.length<=3
theorem CV.w{c:fP}(h:CV c):CW c:=
 ⟨h.z,λs hs x hx=>by have:=(h.s s hs).ed x hx;omega,λs hs=>(h.s s hs).ly⟩
def kA(L:D j)(r:X (fP×D j×j)):Prop:=∃k a',r=J (k,L,a')/\CV k/\dg L a'
section
variable{L:D j}
theorem tM{a n:j}{f:j×D j×j->X (fP×D j×j)}(hd:dg L a)(h1:1<=n)(h2:n<=1000000000000)(h:∀x a',0<=x->x<n->dg L a'->kA L (f (x,L,a'))):kA L ((j06 L a n).bind f):=by
 obtain⟨x,a',e,x0,x1,d⟩:=dT hd h1 h2;rw[e];exact h x a' x0 x1 d
theorem Tj{a:j}{xs:D j}{f:j×D j×j->X (fP×D j×j)}(hd:dg L a)(h1:0<xs.length)(h2:xs.length<=1000000)(h:∀x a',x∈xs->dg L a'->kA L (f (x,L,a'))):kA L ((j0c L a xs).bind f):=by
 obtain⟨x,a',e,x0,d⟩:=pQ hd h1 h2;rw[e];exact h x a' x0 d
theorem ovE{a:j}{u0 u1 u2 u3:D Unit}{f:cO×D j×j->X (fP×D j×j)}(hd:dg L a)(h1:1<=u1.length)(h2:u1.length<=100)(h:∀(x:cO) a',x.2.2.2.1<=1000000000000->x.2.2.2.2<=1000000000000->dg L a'->kA L (f (x,L,a'))) :
  kA L ((j6V L a (u0,(u1,(u2,u3)))).bind f):=by
 obtain⟨x,a',e,x0,d⟩:=ϡ hd (u0:=u0) (u2:=u2) (u3:=u3) h1 h2;rw[e];exact h x a' x0.1 x0.2 d
theorem CY{x y:j}{a b:X (fP×D j×j)}(h1:x=y->kA L a)(h2:x≠y->kA L b):kA L (cond (x==y) a b):=by
 by_cases h:x=y
 .rw[dI h];exact h1 h
 .rw[cG h];exact h2 h
theorem qU{b:Ä}{x:X (fP×D j×j)}(h:b=true)(hx:kA L x):kA L (cond b x Å):=by rw[h];exact hx
theorem tN{a:j}{k:fP}(hd:dg L a)(h:CV k):kA L (J (k,L,a)):=⟨k,a,rfl,h,hd⟩
end
theorem jGe{zs:D bH}(h:∀z∈zs,ZW z)(i:K)(nm:I)(o:j):∀z∈zs.set i (nm,(o,(zs.getD i (E,((0:j),([]:D aL)))).2.2)),ZW z:=λz hz=>by
 by_cases hi:i<zs.length
 .rcases vw hz with hz|rfl
  .exact h z hz
  .have:=h zs[i] (jl hi);rw[show zs.getD i (E,((0:j),([]:D aL)))=zs[i] by simp[N,hi]];exact⟨this.ok,this.len,this.yr,this.few⟩
 .rw[List.set_eq_of_length_le aa]at hz;exact h z hz
theorem jEJ{ls:D bA}(h:pZ ls)(i:K){x:bA}(hx:x.2.2.2.2.2.2.1.length<=3):pZ (ls.set i x):=λy hy=>by
 rcases vw hy with hy|rfl
 .exact h y hy
 .exact hx
theorem jEK{ls:D bA}(h:pZ ls)(i:K):(ls.getD i (E,((0:j),(((0:j),(0:j)),((0:j),((0:j),(([]:D j),(([]:WL),((0:j),(0:j)))))))))).2.2.2.2.2.2.1.length<=3:=by
 by_cases hi:i<ls.length
 .rw[H,jo hi];exact h _ (jl hi)
 .rw[H,qf aa];simp
theorem Le:∀s∈([]:D cN),SV s:=λs hs=>by simp at hs
theorem GL{s:cN}{l:D cN}(h:SV s)(h':∀x∈l,SV x):∀x∈s::l,SV x:=λx hx=>by
 rcases je.1 hx with rfl|hx
 .exact h
 .exact h' x hx
theorem svE(nm:I):SV (nm,(([]:D bA),([]:D cO))):=⟨ae,λx hx=>by simp at hx,ae,λx hx=>by simp at hx⟩
theorem Tk{nm nm':I}{ls:D bA}{es:D cO}(h:SV (nm,(ls,es)))(h3:es.length<=3){x:cO}(hx:x.2.2.2.2<=1000000000000):SV (nm',(ls,es++[x])):=
 ⟨h.ll,h.ly,az,xD.snoc h.ed hx⟩
theorem Lf{ss:D cN}(h:CX ss):∀s∈ss,SV s:=λs hs=>by
 obtain⟨h1,h2,h3⟩:=h s hs;exact⟨h1.1,h1.2,aa,h3⟩
theorem jGS{zs:D bH}{ps:D dr}{cs:D bd}{ss:D cN}(hs:sG zs ps cs)(hk:CX ss)(h1:1<=ss.length):CV (zs,(ps,(cs,ss))):=⟨λz hz=>(hs.ok z hz).w,Lf hk,h1,hs.pw⟩
theorem Tl{L:D j}{a n:j}(hd:dg L a){ls:D bA}(hl:ls.length<=3)(hw:pZ ls){k:D bA->D j->j->X (fP×D j×j)}(hk:∀l a',l.length<=3->pZ l->dg L a'->kA L (k l L a')):kA L (Fv n ls L a k):=by
 have hs:∀(i:j)(f:bA->bA) a',(∀e:bA,e.2.2.2.2.2.2.1.length<=3->(f e).2.2.2.2.2.2.1.length<=3)->dg L a'->kA L (k (tG ls i f) L a'):=λi f a' hf hd=>
  hk _ _ (by rw[tG,zu];exact hl) (jEJ hw _ (hf _ (jEK hw _))) hd
 simp only[Fv,v7];refine CY (λ_=>hk _ _ hl hw hd) (λh0=>tM hd aa aa (λx a1 x0 x1 hd=>qU (bE) (tM hd aa aa (λy a2 _ _ hd=>?_))))
 repeat' ((try dsimp only);first
  |refine CY (λ_=>?_) (λ_=>?_)
  |refine Tj (by assumption) ae ae (λ_ _ _ _=>?_)
  |exact hs _ _ _ (λe h=>h) (by assumption)
  |exact hk _ _ hl hw (by assumption)
  |refine tM (by assumption) aa aa (λ_ _ _ _ _=>?_)
  |refine qU (bU aa (by simp only[ji,jz];omega)) ?_)
theorem Tm{L:D j}{a:j}(hd:dg L a){z p c s:K}(h1:1<=p)(h2:p<=100){k:cO->D j->j->X (fP×D j×j)}(hk:∀(x:cO) a',x.2.2.2.2<=1000000000000->dg L a'->kA L (k x L a')):kA L (Fw z p c s L a k):=by
 simp only[Fw,v7];refine ovE hd (by rw[zi];omega) (by rw[zi];omega) (λx a1 _ _ hd=>tM hd aa aa (λy a2 _ _ hd=>?_))
 repeat' ((try dsimp only);first
  |refine CY (λ_=>?_) (λ_=>?_)
  |refine Tj (by assumption) ae ae (λ_ _ _ _=>?_)
  |refine hk _ _ (by (try dsimp only);first|assumption|(simp only[je,zh,or_false]at *;omega)) (by assumption))
theorem Ϻ{L:D j}{a:j}(hd:dg L a){zs:D bH}{ps:D dr}{cs:D bd}(hs:sG zs ps cs){ss:D cN}(h1:1<=ss.length)(hv:∀s∈ss,SV s){f g:D j->j->X (fP×D j×j)}(hf:∀a',dg L a'->kA L (f L a'))(hg:∀a',dg L a'->kA L (g L a')):kA L (I9 zs ps cs ss L a f g):=by
 have oK:=hs.z0;have xr:=hs.z1;have kN:=hs.p0;have rh:=hs.p1;have eU:=hs.c1;have qV:∀z∈zs,ZW z:=λz hz=>(hs.ok z hz).w
 have CZ:∀(i:j)(f:dr->dr),(∀e:dr,e.2.2.1.length<=3->(f e).2.2.1.length<=3)->∀p∈Fu ps i f,p.2.2.1.length<=3:=λi f hf p hp=>by
  rcases vw hp with hp|rfl
  .exact hs.pw p hp
  .refine hf _ ?_;by_cases hi:i.toNat<ps.length
   .rw[H,jo hi];exact hs.pw _ (jl hi)
   .rw[H,qf aa];simp
 simp only[I9,v7];refine tM hd aa aa (λx a1 _ _ hd=>?_)
 repeat' ((try dsimp only);first
  |exact hf _ (by assumption)
  |exact hg _ (by assumption)
  |refine CY (λ_=>?_) (λ_=>?_)
  |refine tM (by assumption) aa aa (λ_ _ _ _ _=>?_)
  |refine Tj (by assumption) ae ae (λ_ _ _ _=>?_)
  |refine qU (bE) ?_
  |refine qU (bU aa (by simp only[ji,jz];omega)) ?_
  |refine qU (ag (by simp only[aG,ji,jz];omega)) ?_
  |exact tN (by assumption) ⟨qV,hv,h1,hs.pw⟩
  |exact tN (by assumption) ⟨jGe qV _ _ _,hv,h1,hs.pw⟩
  |(refine tN (by assumption) ⟨qV,hv,h1,?_⟩;(try dsimp only);exact CZ _ _ (by intro e h;first|exact h|simp))
  |exact tN (by assumption) ⟨qV,λs hs=>by
   rcases jm.1 hs with h|h
   .exact hv s h
   .rw[ki.1 h];exact svE _,by simp only[G];omega,hs.pw⟩)
theorem GM{s t:cN}(h:SV s)(h':SV t):∀x∈[s,t],SV x:=GL h (GL h' Le)
theorem SV.ls'{nm:I}{ls l:D bA}{es:D cO}(h:SV (nm,(ls,es)))(h1:l.length<=3)(h2:pZ l):SV (nm,(l,es)):=⟨h1,h2,h.el,h.ed⟩
theorem jEM{L:D j}{a:j}(h:dg L a){zs:D bH}{ps:D dr}{cs:D bd}{nm:I}{ls:D bA}{es:D cO}(hs:sG zs ps cs)(h0:SV (nm,(ls,es)))(gp:es.length<=3) :
  kA L (j6W L a (zs,(ps,(cs,[(nm,(ls,es))])))):=by
 have oK:=hs.z0;have xr:=hs.z1;have kN:=hs.p0;have rh:=hs.p1;have eU:=hs.c1;have ix:ls.length<=3:=h0.ll;have qV:∀z∈zs,ZW z:=λz hz=>(hs.ok z hz).w;have cp:jcF (zs,(ps,(cs,[(nm,(ls,es))])))=J (zs,ps,cs,nm,ls,es):=by simp only[jcF,jz,kb,jw,kz,v7];rw[ag (show zs.length<=aG by unfold aG;omega),ag (show ps.length<=aG by unfold aG;omega),ag (show cs.length<=aG by unfold aG;omega),ag (show (0:j)<((1:K):j) by omega),bU (show (0:j)<=0 by omega) (show (0:j)<((1:K):j) by omega)];simp only[j6,Â];rw[ag (show ls.length<=aG by unfold aG;omega),ag (show es.length<=aG by unfold aG;omega),an (show¬(1:j)<((1:K):j) by omega)];rfl
 simp only[j6W,cp,j4]
 refine Ϻ h hs ae (GL h0 Le) (λa hd=>tM hd aa aa (λx a1 _ _ hd=>qU (bE) (Tl hd ix h0.ly (λl a2 l1 l2 hd=>tN hd ⟨qV,GL (h0.ls' l1 l2) Le,ae,hs.pw⟩))))
  (λa hd=>tM hd aa aa (λx a1 _ _ hd=>qU (bE) (Tm hd aa aa (λx a2 hx hd=>qU (ag (by simp only[aG,ji,jz];omega)) (tN hd ⟨qV,GL (Tk h0 gp hx) Le,ae,hs.pw⟩)))))
theorem jEN{L:D j}{a:j}(h:dg L a){zs:D bH}{ps:D dr}{cs:D bd}{nm vM:I}{ls sR:D bA}{es sS:D cO}(hs:sG zs ps cs)(h0:SV (nm,(ls,es)))(gp:es.length<=3)(h1:SV (vM,(sR,sS)))(Tn:sS.length<=3) :
  kA L (jaY L a (zs,(ps,(cs,[(nm,(ls,es)),(vM,(sR,sS))])))):=by
 have oK:=hs.z0;have xr:=hs.z1;have kN:=hs.p0;have rh:=hs.p1;have eU:=hs.c1;have ix:ls.length<=3:=h0.ll;have To:sR.length<=3:=h1.ll;have qV:∀z∈zs,ZW z:=λz hz=>(hs.ok z hz).w;have cp:ji8 (zs,(ps,(cs,[(nm,(ls,es)),(vM,(sR,sS))])))=J (zs,ps,cs,nm,vM,ls,es,sR,sS):=by simp only[ji8,jz,kb,jw,ji,v7];rw[ag (show zs.length<=aG by unfold aG;omega),ag (show ps.length<=aG by unfold aG;omega),ag (show cs.length<=aG by unfold aG;omega),ag (show (0:j)<((1+1:K):j) by omega),bU (show (0:j)<=0 by omega) (show (0:j)<((1+1:K):j) by omega)];simp only[j6,Â,List.getD_cons_succ];rw[ag (show ls.length<=aG by unfold aG;omega),ag (show es.length<=aG by unfold aG;omega),ag (show (1:j)<((1+1:K):j) by omega),bU (show (0:j)<=1 by omega) (show (1:j)<((1+1:K):j) by omega),ag (show sR.length<=aG by unfold aG;omega),ag (show sS.length<=aG by unfold aG;omega),an (show¬(2:j)<((1+1:K):j) by omega)];rfl
 simp only[jaY,cp,j4];refine Ϻ h hs ae (GM h0 h1) (λa hd=>tM hd aa aa (λx a1 _ _ hd=>CY (λ_=>?_) (λ_=>qU (dI aa) ?_))) (λa hd=>tM hd aa aa (λx a1 _ _ hd=>CY (λ_=>?_) (λ_=>qU (dI aa) ?_)))
 .exact Tl hd ix h0.ly (λl a2 l1 l2 hd=>tN hd ⟨qV,GM (h0.ls' l1 l2) h1,ae,hs.pw⟩)
 .exact Tl hd To h1.ly (λl a2 l1 l2 hd=>tN hd ⟨qV,GM h0 (h1.ls' l1 l2),ae,hs.pw⟩)
 .exact Tm hd aa aa (λx a2 hx hd=>qU (ag (by simp only[aG,ji,jz];omega)) (tN hd ⟨qV,GM (Tk h0 gp hx) h1,ae,hs.pw⟩))
 .exact Tm hd aa aa (λx a2 hx hd=>qU (ag (by simp only[aG,ji,jz];omega)) (tN hd ⟨qV,GM h0 (Tk h1 Tn hx),ae,hs.pw⟩))
end Go.Proofs.Pw
