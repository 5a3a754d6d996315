/- stack.SegmentsOf: its Cx form. -/
import Derived.Test.YtgfoijaggkhgnaaGreatLXPK
import Derived.Test.YtgfoijaggkhgnaaGreatLXPG
import Derived.Test.YtgfoijaggkhgnaaGreatLXPA
import Derived.Test.YtgfoijaggkhgnaaGreatLXLD
open _root_ renaming Int->d,List->j,Nat->H,ByteArray->R,Bool->À,Option->Á
open Decidable renaming decide->w
open Option renaming some->D,none->Ã
open List renaming getD->G
open Int renaming ofNat->I
open ByteArray renaming empty->J
open List.Pairwise renaming imp_of_mem->N,nil->X
open Go Go.Lft
namespace Go.Proofs.Pw
def Gi(gd:H->À)(len:H):H->Á H
 |0=>Ã
 |m+1=>match Gi gd len m with
  |some i=>D i
  |none=>cond (gd (len-m-1)) (D (len-m-1)) Ã
theorem Ċ(gd:H->À)(len:H):∀m,m<=len->ei gd len=match Gi gd len m with
  |some i=>D i
  |none=>ei gd (len-m)
 |0,_=>rfl
 |m+1,h=>by
  rw[Ċ gd len m aa];simp only[Gi];cases Gi gd len m with
  |some i=>rfl
  |none=>
   dsimp only
   rw[show len-m=(len-m-1)+1 by omega,ei,show len-(m+1)=len-m-1 by omega,show len-m-1+1-1=len-m-1 by omega];cases gd (len-m-1)<;>rfl
def Wv(gd:H->À)(pf:H->d)(len m:H):Á Int:=(Gi gd len m).map pf
theorem T7(gd:H->À)(pf:H->d)(len m:H):Wv gd pf len (m+1)=match Wv gd pf len m with
  |some p=>D p
  |none=>cond (gd (len-m-1)) (D (pf (len-m-1))) none:=by
 simp only[Wv,Gi];cases Gi gd len m with
 |some i=>rfl
 |none=>cases gd (len-m-1)<;>rfl
theorem ċ(es:j dV)(t:d)(pf:H->d)(len:H):eB es t pf len=(Wv (gE es t pf) pf len len).getD (-1):=by
 simp only[eB,Wv,Ċ (gE es t pf) len len (jv _)];cases Gi (gE es t pf) len len with
 |some i=>rfl
 |none=>simp only[Nat.sub_self,ei];rfl
theorem jFS:Go.Sort.SWO (Go.Proofs.ltOf λ(x y:Go.Lft.Sml (.pair (.int .i64) (.pair (.int .i64) (.int .i64))))=>(j35 x.1 y.1).getD 0):=by
 refine JF (λx=>x.1.1) (λx=>?_) _ λx y=>rfl;have:=x.2;simp only[jB,jd,jo]at this;exact this.1
theorem jyH{l:bE}(hl:l.length<=1000000000)(hb:∀x∈l, -1000000000000<=x.1/\x.1<=1000000000000 /\ -1000000000000<=x.2.1/\x.2.1<=1000000000000 /\ -1000000000000<=x.2.2/\x.2.2<=1000000000000) :
  ∃L,j0s l=D L/\L.Perm l/\L.Pairwise (λx y=>x.1<=y.1):=by
 obtain⟨L,e,hp,hs⟩:=Yg (a:= .pair (.int .i64) (.pair (.int .i64) (.int .i64))) (cf:=λx y=>(j35 x y).getD 0) jFS (xs:=l) (λx hx=>by
  have:=hb x hx;simp only[jB,jd,jo];refine⟨⟨?_,?_⟩,⟨?_,?_⟩,⟨?_,?_⟩⟩
  .exact zb (by decide) this.1
  .exact zb this.2.1 (by decide)
  .exact zb (by decide) this.2.2.1
  .exact zb this.2.2.2.1 (by decide)
  .exact zb (by decide) this.2.2.2.2.1
  .exact zb this.2.2.2.2.2 (by decide)) (by show List.length l<_;omega)
 refine⟨L,e,hp,?_⟩;refine N (λ{x y} hx hy h=>?_) hs;have h1:=hb x (hp.mem_iff.1 hx);have h2:=hb y (hp.mem_iff.1 hy);have h':¬w64 (y.1-x.1)<0:=h;rw[al (x:=y.1-x.1)]at h';omega
theorem Č{F:SL}(hF:F.length<=10000000):∀(n i:H)(acc:bE),i+n=F.length->acc.length+n<=1000000000->Ga (F.length:d) (i:d) F acc=D (acc++(F.drop i).map λu=>(u.1,(u.2, -1)))
 |0,i,acc,hi,_=>by
  rw[Zn];simp only[j2l];rw[aj aa,j7,aS,jc aa];simp
 |n+1,i,acc,hi,ha=>by
  have br:i<F.length:=aa;have aR:F.getD i ((0:d),(0:d))=F[i]:=by simp[G,br]
  rw[Zn];simp only[j2l];rw[ah aa,bD,al (x:=(i:d)+1)];simp only[j6,j8,aR];rw[ah (by simp[aM];omega),j6,aH,jb br,ke];have:=Č hF n (i+1) (acc++[(F[i].1,(F[i].2, -1))]) aa ax;rw[jj]at this;exact this
def apart(x y:kK):Prop:=x.2.1<=y.1\/y.2.1<=x.1
section
variable{zs:j bF}{ps:j cR}{cs:j aV}(hs:db zs ps cs)
 {nm:R}{ls:j bZ}{es:j dV}(hL:∀L∈ls,fh zs.length ps.length cs.length L)(fw:ls.length<=4)(hE:∀x∈es,pq ps.length x)(fE:es.length<=9)
 {ss:j cW}{a b:d}(ha:0<=a)(cb:a<=b)(hb:b<=8589934592)(hlen:b-a<=35078400)
include hs hL fw hE fE ha cb hb hlen
structure HV(zs:j bF)(cs:j aV)(ls:j bZ)(es:j dV)(a b:d)(m:H)(F:SL)(O:bE):Prop where
 st:ca (a-1) F
 fb:∀t,bJ t F->t<b
 fr:∀t,a<=t->t<b->(bJ t F↔Wv (gE es t (dv zs cs ls t)) (dv zs cs ls t) ls.length m=Ã)
 seg:∀x∈O,a<=x.1/\x.1<x.2.1/\x.2.1<=b/\∀t,x.1<=t->t<x.2.1->Wv (gE es t (dv zs cs ls t)) (dv zs cs ls t) ls.length m=D x.2.2
 ap:O.Pairwise apart
 cov:∀t,a<=t->t<b->Wv (gE es t (dv zs cs ls t)) (dv zs cs ls t) ls.length m≠Ã->oq t O
 fl:F.length+300000<=2^m*300001
 ol:O.length<=m*4000000
theorem jFT{k m:H}(hk:k+m+1=ls.length){F:SL}{O:bE}(hI:HV zs cs ls es a b m F O) :
  ∃S Q W F',j1Z ((zs,(ps,(cs,ss))),zs.map tb) (ls.getD k (J,((0:d),(((0:d),(0:d)),((0:d),((0:d),(([]:j d),(([]:j (d×d)),((0:d),(0:d)))))))))) a b=D S/\
   j9Z (nm,(ls,es)) S=D Q/\jem Q F=D W/\O.length+W.length<=aM/\(∃P,jdf W=D P/\j2Q F P=D F')/\HV zs cs ls es a b (m+1) F' (O++W):=by
 have bQ:k<ls.length:=aa;have hLk:=hL _ (jg bQ);have aR:ls.getD k (J,((0:d),(((0:d),(0:d)),((0:d),((0:d),(([]:j d),(([]:j (d×d)),((0:d),(0:d)))))))))=ls[k]:=by simp[G,bQ]
 have Dj:∀t,dv zs cs ls t k=cu zs cs ls[k] t:=λt=>by simp only[dv,aR]
 obtain⟨S,e1,c1,l1⟩:=ϧ hs hLk (ss:=ss) ha cb hb hlen;have bK:=c1.pos;have e2:=jyG (nm:=nm) (ls:=ls) hE aa (S:=S) aa bK;obtain⟨p1,p2,p3⟩:=ć (nm:=nm) (ls:=ls) hE aa c1.ch bK;have pl:=ą (nm:=nm) (ls:=ls) hE aa (S:=S) bK;have pl2:S.length*(1+es.length)<=30000*10:=qi l1 aa;generalize S.flatMap (nL (nm,(ls,es)))=Q at *;have hm4:m<=3:=aa;have T8:2^m<=2^3:=Nat.pow_le_pow_right aa hm4;have fm:=hI.fl;have uz:=hI.ol;have hF:F.length<=10000000:=aa;have lp:=T6 (A:=Q) (B:=F) aa hF (Q.length+F.length) 0 0 [] aa aa aa ax;rw[jw,jm,jm]at lp;obtain⟨w1,_,w3,w4,w5⟩:=T5 (Q.length+F.length) Q F a (a-1) (jv _) p1 hI.st;generalize lX (Q.length+F.length) Q F=W at *
 have rj:∀x∈W,a<=x.1/\x.1<x.2.1/\x.2.1<=b/\∀t,x.1<=t->t<x.2.1->bJ t F/\cu zs cs ls[k] t=x.2.2/\0<=x.2.2/\jJ es x.2.2 t=false:=λx hx=>by
  have bA:∀(l:bE)(q:d),iA q l->∀y∈l,y.1<y.2.1:=by
   intro l;induction l with
   |nil=>intro q _ y hy;simp at hy
   |cons s r ih=>intro q h y hy;rcases je.1 hy with rfl|hy;exact h.2.1;exact ih _ h.2.2 y hy
  have h0:=bA W a w1 x hx;have h1:=(w1.apart).2 x hx;obtain⟨s,dt,r1,r2,r3,r4⟩:=w3 x hx;obtain⟨g1,g2⟩:=p2 s dt;refine⟨h1,h0,aa,λt t1 t2=>?_⟩;obtain⟨g3,g4,g5⟩:=g2 t aa aa;rw[r3];exact⟨r4 t t1 t2,g3,g4,g5⟩
 have CE:∀x∈W,∀t,x.1<=t->t<x.2.1->Wv (gE es t (dv zs cs ls t)) (dv zs cs ls t) ls.length (m+1)=D x.2.2:=λx hx t t1 t2=>by
  obtain⟨h1,h2,h3,h4⟩:=rj x hx;obtain⟨g1,g2,g3,g4⟩:=h4 t t1 t2;have hn:=(hI.fr t aa aa).1 g1;rw[T7,hn,show ls.length-m-1=k by omega];have:gE es t (dv zs cs ls t) k=true:=by simp only[gE,Dj,g2,g4];simp[g3]
  simp only[this,j6,Dj,g2]
 have hold:∀t p,Wv (gE es t (dv zs cs ls t)) (dv zs cs ls t) ls.length m=D p->Wv (gE es t (dv zs cs ls t)) (dv zs cs ls t) ls.length (m+1)=D p:=λt p h=>by rw[T7,h]
 obtain⟨P,e4,q1,q2,q3⟩:=jDc (l:=W) aa (lo:=a) (hi:=b) ha hb (λx hx=>⟨(rj x hx).1,(rj x hx).2.1,(rj x hx).2.2.1⟩);obtain⟨F',e5,f1,f2,f3⟩:=TI (B:=P) aa hI.st q1 hF;refine⟨S,Q,W,F',by rw[aR];exact e1,e2,?_,by simp[aM];omega,⟨P,e4,e5⟩,?_⟩
 .simp only[jem,show AQ Q F 0 0 []=_ from lp];rfl
 .have dj:∀t,a<=t->t<b->bJ t F->oq t W\/Wv (gE es t (dv zs cs ls t)) (dv zs cs ls t) ls.length (m+1)=none:=λt t1 t2 hf=>by
   have hn:=(hI.fr t t1 t2).1 hf;by_cases hg:gE es t (dv zs cs ls t) k=true
   .left;refine w4 t (p3 t t1 t2 ?_ ?_) hf
    .simp only[gE,Dj,jd,jo]at hg;exact hg.1
    .simp only[gE,Dj,jd,kz]at hg;exact hg.2
   .right;rw[T7,hn,show ls.length-m-1=k by omega,z8.2 hg];rfl
  refine⟨f1,λt h=>hI.fb t ((f2 t).1 h).1,λt t1 t2=>?_,λx hx=>?_,?_,λt t1 t2 bA=>?_,?_,?_⟩
  .rw[f2 t,q2 t];constructor
   .rintro⟨h1,h2⟩
    rcases dj t t1 t2 h1 with h|h
    .exact absurd h h2
    .exact h
   .intro h
    have hn:Wv (gE es t (dv zs cs ls t)) (dv zs cs ls t) ls.length m=none:=by
     cases hw:Wv (gE es t (dv zs cs ls t)) (dv zs cs ls t) ls.length m with
     |none=>rfl
     |some p=>rw[hold t p hw]at h;simp at h
    refine⟨(hI.fr t t1 t2).2 hn,?_⟩
    rintro⟨x,hx,x1,x2⟩
    rw[CE x hx t x1 x2]at h;simp at h
  .rcases jn.1 hx with hx|hx
   .obtain⟨h1,h2,h3,h4⟩:=hI.seg x hx;exact⟨h1,h2,h3,λt t1 t2=>hold t _ (h4 t t1 t2)⟩
   .obtain⟨h1,h2,h3,_⟩:=rj x hx;exact⟨h1,h2,h3,CE x hx⟩
  .refine zk.2 ⟨hI.ap,(w1.apart).1.imp (λh=> .inl h),λx hx y hy=>?_⟩;obtain⟨h1,h2,h3,h4⟩:=hI.seg x hx;obtain⟨g1,g2,g3,g4⟩:=rj y hy;apply jt;intro hn;simp only[apart,not_or]at hn
   have hc:∃t,x.1<=t/\t<x.2.1/\y.1<=t/\t<y.2.1:=by
    by_cases iP:x.1<=y.1
    .exact⟨y.1,aa,aa,aa,aa⟩
    .exact⟨x.1,aa,aa,aa,aa⟩
   obtain⟨t,t1,t2,t3,t4⟩:=hc;have hw:=h4 t t1 t2;have:=(hI.fr t aa aa).1 (g4 t t3 t4).1;rw[hw]at this;simp at this
  .by_cases hf:bJ t F
   .rcases dj t t1 t2 hf with⟨x,hx,h⟩|h
    .exact⟨x,jq _ hx,h⟩
    .exact absurd h bA
   .have hw:Wv (gE es t (dv zs cs ls t)) (dv zs cs ls t) ls.length m≠none:=λh=>hf ((hI.fr t t1 t2).2 h);obtain⟨x,hx,h⟩:=hI.cov t t1 t2 hw;exact⟨x,ju _ hx,h⟩
  .rw[Nat.pow_succ];omega
  .rw[jf,Nat.add_mul];omega
theorem č:∀(n m:H)(F:SL)(O:bE),n+m=ls.length->HV zs cs ls es a b m F O->
  ∃F' O',F9 (n:d) ls zs ps cs ss (zs.map tb) nm ls es a b F O=D (F',O')/\HV zs cs ls es a b ls.length F' O'
 |0,m,F,O,hn,hI=>by
  rw[Zm];simp only[j2k];rw[ah aa,j6,aS];obtain rfl:m=ls.length:=aa;exact⟨F,O,rfl,hI⟩
 |k+1,m,F,O,hn,hI=>by
  obtain⟨S,Q,W,F',e1,e2,e3,e4,⟨P,e5,e6⟩,Ja⟩:=jFT hs hL fw hE fE ha cb hb hlen (nm:=nm) (ss:=ss) (k:=k) (m:=m) aa hI;rw[Zm];simp only[j2k];rw[aj aa,ah (show ((k+1:H):d)<=I ls.length by simp;omega),show ((k+1:H):d)-1=(k:d) by omega];simp only[j6,j7,j8];generalize ls.getD k (J,((0:d),(((0:d),(0:d)),((0:d),((0:d),(([]:j d),(([]:j (d×d)),((0:d),(0:d)))))))))=L at *;rw[show j1Z ((zs,(ps,(cs,ss))),zs.map tb) (L.1,(L.2.1,((L.2.2.1.1,L.2.2.1.2),(L.2.2.2.1,(L.2.2.2.2.1,(L.2.2.2.2.2.1,(L.2.2.2.2.2.2.1,(L.2.2.2.2.2.2.2.1,L.2.2.2.2.2.2.2.2)))))))) a b=_ from e1];simp only[j4,e2,e3];rw[ah e4];simp only[j6,j4,e5,e6,aH];exact č k (m+1) F' (O++W) aa Ja
theorem jDd:∃out,j4O ((zs,(ps,(cs,ss))),zs.map tb) (nm,(ls,es)) a b=D out/\fy (λt=>eB es t (dv zs cs ls t) ls.length) b Ã a out/\out.length<=40000000:=by
 simp only[j4O];by_cases rL:a>=b
 .rw[ah rL,j6];exact⟨[],rfl,show a=b by omega,ae⟩
 .rw[aj rL,j7]
  have h0:HV zs cs ls es a b 0 [(a,b)] []:=⟨⟨by dsimp only;omega,by dsimp only;omega,trivial⟩,λt h=>by
   rcases dI.1 h with h|h
   .exact h.2
   .exact absurd h fP,λt t1 t2=>⟨λ_=>rfl,λ_=>dI.2 (.inl ⟨t1,t2⟩)⟩,ae,X,λt _ _ h=>absurd rfl h,ae,ae⟩
  obtain⟨F,O,e1,hI⟩:=č hs hL fw hE fE ha cb hb hlen (nm:=nm) (ss:=ss) ls.length 0 [(a,b)] [] aa h0;have T8:2^ls.length<=2^4:=Nat.pow_le_pow_right aa fw;have fm:=hI.fl;have uz:=hI.ol;have hF:F.length<=10000000:=aa;have lp:=Č hF F.length 0 O aa aa;rw[jm]at lp
  have Ď:∀u∈F,a<=u.1/\u.1<u.2/\u.2<=b/\∀t,u.1<=t->t<u.2->Wv (gE es t (dv zs cs ls t)) (dv zs cs ls t) ls.length ls.length=none:=λu hu=>by
   have hm:=ca.mem hI.st u hu;have:=hI.fb (u.2-1) ⟨u,hu,aa,aa⟩;exact⟨aa,hm.2,aa,λt t1 t2=>(hI.fr t aa aa).1 ⟨u,hu,t1,t2⟩⟩
  have aC:∀x∈O++F.map (λu=>((u.1,(u.2, -1)):kK)),a<=x.1/\x.1<x.2.1/\x.2.1<=b/\∀t,x.1<=t->t<x.2.1->eB es t (dv zs cs ls t) ls.length=x.2.2:=λx hx=>by
   rcases jn.1 hx with hx|hx
   .obtain⟨h1,h2,h3,h4⟩:=hI.seg x hx;exact⟨h1,h2,h3,λt t1 t2=>by rw[ċ,h4 t t1 t2];rfl⟩
   .obtain⟨u,hu,rfl⟩:=jr.1 hx;obtain⟨h1,h2,h3,h4⟩:=Ď u hu;exact⟨h1,h2,h3,λt t1 t2=>by rw[ċ,h4 t t1 t2];rfl⟩
  have EZ:∀x∈O++F.map (λu=>((u.1,(u.2, -1)):kK)), -1<=x.2.2/\x.2.2<=100:=λx hx=>by
   obtain⟨h1,h2,h3,h4⟩:=aC x hx;have:=h4 x.1 (k7 _) h2;have ub:=hs.so.p1;rw[<-this];simp only[eB];cases hT:ei (gE es x.1 (dv zs cs ls x.1)) ls.length with
   |none=>dsimp only;omega
   |some i=>
    dsimp only
    have hi:∀(g:H->À)(n i:H),ei g n=D i->i<n:=by
     intro g n;induction n with
     |zero=>intro i h;simp[ei]at h
     |succ n ih=>
      intro i h;simp only[ei]at h;cases hg:g n with
      |true=>rw[hg,j6]at h;simp at h;omega
      |false=>rw[hg,j7]at h;have:=ih i h;omega
    have br:=hi _ _ _ hT;have e:dv zs cs ls x.1 i=cu zs cs ls[i] x.1:=by simp[dv,G,br]
    rw[e];have:=(ϗ hs (hL _ (jg br)) (t:=x.1) aa aa).2;omega
  have oM:(O++F.map (λu=>((u.1,(u.2, -1)):kK))).Pairwise apart:=by
   refine zk.2 ⟨hI.ap,?_,λx hx y hy=>?_⟩
   .rw[vf]
    have:∀(l:SL)(q:d),ca q l->l.Pairwise (λu v=>u.2<=v.1):=by
     intro l;induction l with
     |nil=>intro q _;exact X
     |cons s r ih=>intro q h;exact kb.2 ⟨λv hv=>by have:=ca.mem h.2.2 v hv;omega,ih _ h.2.2⟩
    exact(this F _ hI.st).imp (λh=> .inl h)
   .obtain⟨u,hu,rfl⟩:=jr.1 hy;obtain⟨h1,h2,h3,h4⟩:=hI.seg x hx;obtain⟨g1,g2,g3,g4⟩:=Ď u hu;apply jt;intro hn;simp only[apart,not_or]at hn
    have hc:∃t,x.1<=t/\t<x.2.1/\u.1<=t/\t<u.2:=by
     by_cases iP:x.1<=u.1
     .exact⟨u.1,aa,aa,aa,aa⟩
     .exact⟨x.1,aa,aa,aa,aa⟩
    obtain⟨t,t1,t2,t3,t4⟩:=hc;have hw:=h4 t t1 t2;rw[g4 t t3 t4]at hw;simp at hw
  have T9:∀t,(a<=t/\t<b)↔∃s∈O++F.map (λu=>((u.1,(u.2, -1)):kK)),s.1<=t/\t<s.2.1:=λt=>by
   constructor
   .rintro⟨t1,t2⟩
    by_cases hn:Wv (gE es t (dv zs cs ls t)) (dv zs cs ls t) ls.length ls.length=Ã
    .obtain⟨u,hu,u1,u2⟩:=(hI.fr t t1 t2).2 hn;exact⟨(u.1,(u.2, -1)),jq _ (jr.2 ⟨u,hu,rfl⟩),u1,u2⟩
    .obtain⟨x,hx,h⟩:=hI.cov t t1 t2 hn;exact⟨x,ju _ hx,h⟩
   .rintro⟨x,hx,x1,x2⟩
    obtain⟨h1,h2,h3,_⟩:=aC x hx;omega
  have hZl:(O++F.map (λu=>((u.1,(u.2, -1)):kK))).length<=40000000:=by rw[jf,kj];omega
  generalize hZ:O++F.map (λu=>((u.1,(u.2, -1)):kK))=Z at *
  obtain⟨Y,e2,hp,Ua⟩:=jyH (l:=Z) aa (λx hx=>by have:=aC x hx;have:=EZ x hx;omega)
  have nK:Ch (λt=>eB es t (dv zs cs ls t) ls.length) b a Y:=by
   refine ϑ cb ?_ (λs h=>⟨(aC s (hp.mem_iff.1 h)).2.1,(aC s (hp.mem_iff.1 h)).2.2.2⟩) (λt=>?_)
   .have hY:Y.Pairwise apart:=(hp.pairwise_iff (λ{x y} h=>Or.symm h)).2 oM;refine N (λ{x y} hx hy h=>?_) (hY.and Ua);have h1:=aC x (hp.mem_iff.1 hx);have h2:=aC y (hp.mem_iff.1 hy);rcases h.1 with h3|h3
    .exact h3
    .have:=h.2;omega
   .rw[T9 t];constructor
    .rintro⟨x,hx,h⟩;exact⟨x,hp.mem_iff.2 hx,h⟩
    .rintro⟨x,hx,h⟩;exact⟨x,hp.mem_iff.1 hx,h⟩
  have hYl:=hp.length_eq;obtain⟨out,e3,h3,l3⟩:=TQ (l:=Y) aa nK;refine⟨out,?_,h3,aa⟩;simp only[j29,j4];rw[show F9 (I ls.length) ls zs ps cs ss (zs.map tb) nm ls es a b [(a,b)] []=_ from e1];simp only[j4,show I F.length=(F.length:d) from rfl];rw[show Ga (F.length:d) 0 F O=_ from lp];simp only[j4];rw[e2];simp only[j4,e3]
end
def p9(l:bE):j Int:=l.tail.map (·.1)
theorem LF{f:d->d}{b:d}:∀{l:bE}{q:Á d}{a:d},fy f b q a l->(∀x,x∈p9 l↔a<x/\x<b/\f (x-1)≠f x)/\(p9 l).Nodup/\l.length<=(p9 l).length+1
 |[],q,a,h=>⟨λx=>⟨λhx=>by simp[p9]at hx,λhx=>by have h:a=b:=h;omega⟩,vc,ae⟩
 |[s],q,a,h=>by
  obtain⟨h1,h2,h3,h4,h5⟩:=h;have h5:s.2.1=b:=h5;exact⟨λx=>⟨λhx=>by simp[p9]at hx,λ⟨x1,x2,x3⟩=>absurd ((h4 (x-1) aa aa).trans (h4 x aa aa).symm) x3⟩,vc,by simp[p9]⟩
 |s::u::r,q,a,h=>by
  obtain⟨h1,h2,h3,h4,h5⟩:=h;obtain⟨i1,i2,i3⟩:=LF h5;have hu:=h5.1;have hle:=h5.2.2.2.2.ch.le;have Cf:=h5.2.1;have e:p9 (s::u::r)=u.1::p9 (u::r):=rfl;refine⟨λx=>?_,?_,by rw[e];simp only[jk]at i3 ⊢;omega⟩
  .rw[e,je,i1 x];constructor
   .rintro (rfl|⟨x1,x2,x3⟩)
    .refine⟨aa,aa,?_⟩;rw[h4 (u.1-1) aa aa,h5.2.2.2.1 u.1 aa aa]
     exactλhe=>h5.2.2.1 (by rw[he])
    .exact⟨aa,x2,x3⟩
   .rintro⟨x1,x2,x3⟩
    by_cases hx:x<s.2.1
    .exact absurd ((h4 (x-1) aa aa).trans (h4 x aa aa).symm) x3
    .by_cases ob:x=s.2.1
     .left;omega
     .right;exact⟨aa,x2,x3⟩
  .rw[e];refine qh.2 ⟨λhm=>?_,i2⟩;have:=(i1 u.1).1 hm;omega
theorem ď{f:d->d}{a b:d}{l:bE}{q:Á d}(h:fy f b q a l){E:j d}(hE:∀x,a<x->x<b->f (x-1)≠f x->x∈E):l.length<=E.length+1:=by
 obtain⟨h1,h2,h3⟩:=LF h
 have:=h2.length_le_of_subset (l₂:=E) (λx hx=>by
  have:=(h1 x).1 hx;exact hE x this.1 this.2.1 this.2.2)
 omega
def kL(es:j dV):j Int:=es.flatMap λx=>[x.2.2.2.1,x.2.2.2.2]
theorem HW:∀es:j dV,(kL es).length=2*es.length
 |[]=>rfl
 |x::es=>by
  have:=HW es;simp only[kL,zr,jf,jk,kx]at this ⊢;omega
theorem Ub{es:j dV}{x:dV}(hx:x∈es):x.2.2.2.1∈kL es/\x.2.2.2.2∈kL es:=
 ⟨qv.2 ⟨x,hx,ae⟩,qv.2 ⟨x,hx,ae⟩⟩
theorem Đ{es:j dV}{t:d}(ht:t∉kL es)(p:d):jJ es p (t-1)=jJ es p t:=by
 unfold jJ;rw[ya,zj,zj]
 have key:∀x∈es,(x.1==0&&(x.2.1==p&&(w (x.2.2.2.1<=t-1)&&w (t-1<x.2.2.2.2))))=(x.1==0&&(x.2.1==p&&(w (x.2.2.2.1<=t)&&w (t<x.2.2.2.2)))):=λx hx=>by
  obtain⟨m1,m2⟩:=Ub hx;have n1:t≠x.2.2.2.1:=λe=>ht (e▸m1);have n2:t≠x.2.2.2.2:=λe=>ht (e▸m2)
  have e1:w (x.2.2.2.1<=t-1)=w (x.2.2.2.1<=t):=by
   by_cases h:x.2.2.2.1<=t
   .rw[ah h,ah aa]
   .rw[aj h,aj aa]
  have e2:w (t-1<x.2.2.2.2)=w (t<x.2.2.2.2):=by
   by_cases h:t<x.2.2.2.2
   .rw[ah h,ah aa]
   .rw[aj h,aj aa]
  rw[e1,e2]
 exact⟨λ⟨x,hx,h⟩=>⟨x,hx,by rw[<-key x hx];exact h⟩,λ⟨x,hx,h⟩=>⟨x,hx,by rw[key x hx];exact h⟩⟩
theorem Uc{es:j dV}{t u:d}{pf pg:H->d}{n:H}(hp:∀i,i<n->pf i=pg i)(ha:∀p,jJ es p t=jJ es p u):eB es t pf n=eB es u pg n:=by
 have hg:∀m,m<=n->ei (gE es t pf) m=ei (gE es u pg) m:=by
  intro m;induction m with
  |zero=>intro _;rfl
  |succ m ih=>
   intro hm;have e:gE es t pf m=gE es u pg m:=by simp only[gE,hp m aa,ha]
   simp only[ei,e,ih aa]
 have hi:∀(g:H->À)(n i:H),ei g n=D i->i<n:=by
  intro g n;induction n with
  |zero=>intro i h;simp[ei]at h
  |succ n ih=>
   intro i h;simp only[ei]at h;cases hg:g n with
   |true=>rw[hg,j6]at h;simp at h;omega
   |false=>rw[hg,j7]at h;have:=ih i h;omega
 simp only[eB,hg n (jv _)];cases hT:ei (gE es u pg) n with
 |none=>rfl
 |some i=>exact hp i (hi _ _ _ hT)
section
variable{zs:j bF}{ps:j cR}{cs:j aV}(hs:db zs ps cs)
include hs
theorem đ{a b:d}(ha:0<=a)(cb:a<=b)(hb:b<=8589934592)(hlen:b-a<=1209600):∀ls:j bZ,(∀L∈ls,fh zs.length ps.length cs.length L)->
  ∃E:j d,E.length<=5000*ls.length/\∀L∈ls,∀x,a<x->x<b->cu zs cs L (x-1)≠cu zs cs L x->x∈E
 |[],_=>⟨[],ae,ae⟩
 |L::ls,hL=>by
  obtain⟨E,e1,e2⟩:=đ ha cb hb hlen ls (λM hM=>hL M (by simp[hM]));obtain⟨S,_,c1,l1⟩:=jD9 hs (hL L ae) (ss:=[]) ha cb hb hlen;refine⟨p9 S++E,?_,λM hM x x1 x2 x3=>?_⟩
  .have:(p9 S).length<=S.length:=by simp[p9]
   rw[jf,jk];omega
  .rcases je.1 hM with rfl|hM
   .exact ju _ (((LF c1).1 x).2 ⟨x1,x2,x3⟩)
   .exact jq _ (e2 M hM x x1 x2 x3)
theorem jFU{ls:j bZ}{es:j dV}(hL:∀L∈ls,fh zs.length ps.length cs.length L){a b:d}(ha:0<=a)(cb:a<=b)(hb:b<=8589934592)(hlen:b-a<=1209600) :
  ∃E:j d,E.length<=5000*ls.length+2*es.length/\(∀x,a<x->x<b->eB es (x-1) (dv zs cs ls (x-1)) ls.length≠eB es x (dv zs cs ls x) ls.length->x∈E)/\∀x∈kL es,x∈E:=by
 obtain⟨E,e1,e2⟩:=đ hs ha cb hb hlen ls hL;refine⟨E++kL es,by rw[jf,HW];omega,λx x1 x2 x3=>?_,λx hx=>jq _ hx⟩;apply jt;intro hn;simp only[jn,not_or]at hn;refine x3 (Uc (λi hi=>?_) (λp=>Đ hn.2 p));apply jt;intro bA;have e:∀t,dv zs cs ls t i=cu zs cs ls[i] t:=λt=>by simp[dv,G,hi]
 rw[e,e]at bA;exact hn.1 (e2 _ (jg hi) x x1 x2 bA)
theorem jyI{ss:j cW}(hc:oe (zs,(ps,(cs,ss)))){i:H}(hi:i<ss.length){a b:d}(ha:0<=a)(cb:a<=b)(hb:b<=8589934592)(hlen:b-a<=34560000) :
  jaK (zs,(ps,(cs,ss))) (i:d) a b=D (((zs,(ps,(cs,ss))),zs.map tb),0):=by
 simp only[jaK,ω hs.so.ok hc,j4,jl,j7,jaJ,show I ss.length=(ss.length:d) from rfl,jlT];rw[ah (show (i:d)>=0 by omega),ah (show (i:d)<(ss.length:d) by omega),al (x:=b-a),ah (show a>=0 by omega),ah (show a<=8589934592 by omega),ah (show b>=a by omega),ah hb,ah hlen];rfl
end
section
variable{zs:j bF}{ps:j cR}{cs:j aV}(hs:db zs ps cs)
include hs
end
section
variable{o:d}{l:bC}(h:iz o l)
include h
end
section
variable{zs:j bF}{ps:j cR}{cs:j aV}(hs:db zs ps cs)
include hs
end
theorem Ē{f:H->À}:∀{n k:H},ei f n=D k->k<n
 |0,k,h=>by simp[ei]at h
 |n+1,k,h=>by
  simp only[ei]at h;cases hf:f n with
  |true=>rw[hf]at h;simp at h;omega
  |false=>rw[hf]at h;simp at h;have:=Ē h;omega
def yI(t p:d)(x:dV):Int:=
 if t<x.2.2.2.1\/x.2.2.2.2<=t then p else if x.1=1 then x.2.1 else if x.1=2/\p=x.2.1 then x.2.2.1 else if x.1=2/\p=x.2.2.1 then x.2.1 else p
def lY(t:d):d->j dV->d
 |p,[]=>p
 |p,x::r=>lY t (yI t p x) r
theorem ē{es:j dV}(hl:es.length<=100){t:d}:∀(n i:H)(p:d),i+n=es.length->GH es p t (i:d)=D (lY t p (es.drop i))
 |0,i,p,hi=>by
  rw[Z9];simp only[j6W,show I es.length=(es.length:d) from rfl];rw[aj aa,j7,aS,jc aa];rfl
 |n+1,i,p,hi=>by
  have br:i<es.length:=aa;have aR:es.getD i ((0:d),((0:d),((0:d),((0:d),(0:d)))))=es[i]:=by simp[G,br]
  have ih:=λp=>ē hl (t:=t) n (i+1) p aa;rw[Z9];simp only[j6W,show I es.length=(es.length:d) from rfl];rw[ah aa,bD,al (x:=(i:d)+1),jb br];simp only[j6,j8,aR,lY];generalize es[i]=x;unfold yI;by_cases ha:t<x.2.2.2.1\/x.2.2.2.2<=t
  .rw[if_pos ha]
   have:cond (w (t<x.2.2.2.1)) true (w (t>=x.2.2.2.2))=true:=by
    rcases ha with ha|ha
    .rw[ah ha];rfl
    .rw[ah (show t>=x.2.2.2.2 from ha)];cases w (t<x.2.2.2.1)<;>rfl
   rw[this,j6,aH];exact ih p
  .rw[if_neg ha,aj (show¬t<x.2.2.2.1 by omega),aj (show¬t>=x.2.2.2.2 by omega)];simp only[j7];by_cases h1:x.1=1
   .rw[if_pos h1,dC h1,j6,aH];exact ih _
   .rw[if_neg h1,cj h1,j7];by_cases h2:x.1=2
    .rw[dC h2];simp only[j6];by_cases h3:p=x.2.1
     .rw[if_pos ⟨h2,h3⟩,dC h3,j6,aH];exact ih _
     .rw[if_neg (λh=>h3 h.2),cj h3,j7];by_cases h4:p=x.2.2.1
      .rw[if_pos ⟨h2,h4⟩,dC h4,j6,aH];exact ih _
      .rw[if_neg (λh=>h4 h.2),cj h4,j7,aH];exact ih _
    .rw[if_neg (λh=>h2 h.1),if_neg (λh=>h2 h.1),cj h2];simp only[j7,aH];exact ih _
theorem Ĕ{es:j dV}(hl:es.length<=100){t:d}:∀(n i:H)(p:d),i+n=es.length->Gb p t es (es.length:d) (i:d)=D (lY t p (es.drop i))
 |0,i,p,hi=>by
  rw[Zo];simp only[j5X];rw[aj aa,j7,aS,jc aa];rfl
 |n+1,i,p,hi=>by
  have br:i<es.length:=aa;have aR:es.getD i ((0:d),((0:d),((0:d),((0:d),(0:d)))))=es[i]:=by simp[G,br]
  have ih:=λp=>Ĕ hl (t:=t) n (i+1) p aa;rw[Zo];simp only[j5X,jjL,j4];rw[ah aa,bD,al (x:=(i:d)+1),jb br];simp only[j6,j8,aR,lY];generalize es[i]=x;unfold yI;by_cases ha:t<x.2.2.2.1\/x.2.2.2.2<=t
  .rw[if_pos ha]
   have:cond (w (x.2.2.2.1<=t)) (w (t<x.2.2.2.2)) false=false:=by
    rcases ha with ha|ha
    .rw[aj (show¬x.2.2.2.1<=t by omega)];rfl
    .rw[aj (show¬t<x.2.2.2.2 by omega)];cases w (x.2.2.2.1<=t)<;>rfl
   rw[this];simp only[ka,j6,aH];exact ih p
  .rw[if_neg ha,ah (show x.2.2.2.1<=t by omega),ah (show t<x.2.2.2.2 by omega)];simp only[j6,jl,j7];by_cases h0:x.1=0
   .rw[dC h0,if_neg aa,if_neg aa,if_neg aa,j6,aH];exact ih p
   rw[cj h0,j7];by_cases h1:x.1=1
   .rw[if_pos h1,dC h1,j6,aH];exact ih _
   .rw[if_neg h1,cj h1,j7];by_cases h2:x.1=2
    .rw[show (x.1 != 2)=false by simp[h2],j7];by_cases h3:p=x.2.1
     .rw[if_pos ⟨h2,h3⟩,dC h3,j6,aH];exact ih _
     .rw[if_neg (λh=>h3 h.2),cj h3,j7];by_cases h4:p=x.2.2.1
      .rw[if_pos ⟨h2,h4⟩,dC h4,j6,aH];exact ih _
      .rw[if_neg (λh=>h4 h.2),cj h4,j7,aH];exact ih _
    .rw[if_neg (λh=>h2 h.1),if_neg (λh=>h2 h.1),show (x.1 != 2)=true by simp[h2],j6,aH];exact ih _
theorem ĕ{nm:R}{ls:j bZ}{es:j dV}{p t:d}(hl:es.length<=1000):∀(n i:H),i+n=es.length->GF p t (i:d) nm ls es=D (cond (jJ (es.drop i) p t) (.inl true) (.inr ()))
 |0,i,hi=>by
  rw[Z7];simp only[j6V,show I es.length=(es.length:d) from rfl];rw[aj aa,j7,aS,jc aa];rfl
 |n+1,i,hi=>by
  have an:i<es.length:=aa;have aR:es.getD i ((0:d),((0:d),((0:d),((0:d),(0:d)))))=es[i]:=by simp[G,an]
  have ih:=ĕ (nm:=nm) (ls:=ls) (p:=p) (t:=t) hl n (i+1) aa;rw[Z7];simp only[j6V,show I es.length=(es.length:d) from rfl];rw[ah aa,bD,al (x:=(i:d)+1),jb an];simp only[j6,j8,aR];have ha:jJ (es[i]::es.drop (i+1)) p t=((es[i].1==0&&(es[i].2.1==p&&(w (es[i].2.2.2.1<=t)&&w (t<es[i].2.2.2.2))))||jJ (es.drop (i+1)) p t):=rfl;have e:(cond (cond (cond (es[i].1==(0:d)) (es[i].2.1==p) false) (w (es[i].2.2.2.1<=t)) false) (w (t<es[i].2.2.2.2)) false)=(es[i].1==0&&(es[i].2.1==p&&(w (es[i].2.2.2.1<=t)&&w (t<es[i].2.2.2.2)))):=by cases es[i].1==(0:d)<;>cases es[i].2.1==p<;>cases w (es[i].2.2.2.1<=t)<;>rfl
  rw[e,ha];cases (es[i].1==0&&(es[i].2.1==p&&(w (es[i].2.2.2.1<=t)&&w (t<es[i].2.2.2.2)))) with
  |true=>rfl
  |false=>rw[j7,aH,qu];exact ih
theorem jyJ{nm:R}{ls:j bZ}{es:j dV}{p t:d}(hl:es.length<=1000):jng (nm,(ls,es)) p t=D (jJ es p t):=by
 have:=ĕ (nm:=nm) (ls:=ls) (p:=p) (t:=t) hl es.length 0 aa;simp only[jng,show GF p t 0 nm ls es=_ from this,j4,jm];cases jJ es p t<;>rfl
section
variable{zs:j bF}{ps:j cR}{cs:j aV}(hs:db zs ps cs)
include hs
theorem Ė{ss:j cW}{nm:R}{ls:j bZ}{es:j dV}(fE:es.length<=1000)(fw:ls.length<=1000)(hL:∀L∈ls,fh zs.length ps.length cs.length L){t:d}(h0:0<=t)(h1:t<=8589934592):∀n:H,n<=ls.length->
  GG t ((n:d)-1) zs ps cs ss nm ls es=D (match ei (gE es t (dv zs cs ls t)) n with|some i=> .inl ((i:d),dv zs cs ls t i)|none=> .inr ())
 |0,hn=>by
  rw[Z8];simp only[j7M];rw[aj aa,j7,aS];rfl
 |n+1,hn=>by
  have an:n<ls.length:=aa;have aR:ls.getD n (J,((0:d),(((0:d),(0:d)),((0:d),((0:d),(([]:j d),(([]:j (d×d)),((0:d),(0:d)))))))))=ls[n]:=by simp[G,an]
  have ih:=Ė (ss:=ss) (nm:=nm) fE fw hL h0 h1 n aa;have hp:=jDb hs (hL _ (jg an)) (ss:=ss) h0 h1;have e:dv zs cs ls t n=cu zs cs ls[n] t:=by simp[dv,G,an]
  rw[show ((n+1:H):d)-1=(n:d) by omega,Z8];simp only[j7M];rw[ah (show (n:d)>=0 by omega),bD,al (x:=(n:d)-1)];simp only[j6,j8,aR];rw[show joc (zs,(ps,(cs,ss))) (ls[n].1,(ls[n].2.1,((ls[n].2.2.1.1,ls[n].2.2.1.2),(ls[n].2.2.2.1,(ls[n].2.2.2.2.1,(ls[n].2.2.2.2.2.1,(ls[n].2.2.2.2.2.2.1,(ls[n].2.2.2.2.2.2.2.1,ls[n].2.2.2.2.2.2.2.2)))))))) t=_ from hp];simp only[j4,ei,gE,e];by_cases nk:0<=cu zs cs ls[n] t
  .rw[ah (show cu zs cs ls[n] t>=0 from nk)];simp only[j6,jyJ fE,j4,Bool.true_and];cases jJ es (cu zs cs ls[n] t) t with
   |true=>simp only[jl,j7,aH];exact ih
   |false=>simp only[ka,j6,e];exact aS ..
  .rw[aj (show¬cu zs cs ls[n] t>=0 from nk)];simp only[j7,Bool.false_and,aH];exact ih
noncomputable def gy(zs:j bF)(cs:j aV)(s:cW)(t:d):Int:=lY t (eB s.2.2 t (dv zs cs s.2.1 t) s.2.1.length) s.2.2
end
section
variable{zs:j bF}{ps:j cR}{cs:j aV}(hs:db zs ps cs)
include hs
end
section
variable{zs:j bF}{ps:j cR}{cs:j aV}{nm:R}{ls:j bZ}{es:j dV}
structure Sht(zs:j bF)(ps:j cR)(cs:j aV)(ls:j bZ)(es:j dV):Prop where
 z:zs.length<=1000/\∀z∈zs,z.2.2.length<=1000
 p:ps.length<=1000/\∀p∈ps,p.2.2.1.length<=1000
 c:cs.length<=1000/\∀c∈cs,c.2.2.length<=1000
 l:ls.length<=1000/\∀x∈ls,x.2.2.2.2.2.1.length<=1000/\x.2.2.2.2.2.2.1.length<=1000
 e:es.length<=1000
end
section
variable{zs:j bF}{ps:j cR}{cs:j aV}(hs:db zs ps cs)
include hs
end
section
variable{zs:j bF}{ps:j cR}{cs:j aV}(hs:db zs ps cs)
include hs
end
section
variable{zs:j bF}{ps:j cR}{cs:j aV}(hs:db zs ps cs)
include hs
end
section
variable{zs:j bF}{ps:j cR}{cs:j aV}(hs:db zs ps cs)
include hs
end
end Go.Proofs.Pw
