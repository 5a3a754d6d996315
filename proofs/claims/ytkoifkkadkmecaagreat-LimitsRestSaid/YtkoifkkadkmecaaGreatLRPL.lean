/- stack.SegmentsOf: its qZ form. -/
import Derived.Test.YtkoifkkadkmecaaGreatLRPK
import Derived.Test.YtkoifkkadkmecaaGreatLRPG
import Derived.Test.YtkoifkkadkmecaaGreatLRPA
import Derived.Test.YtkoifkkadkmecaaGreatLRLD
open _root_ renaming Int->d,List->j,Nat->G,ByteArray->M,Option->R,Bool->X
open Decidable renaming decide->w
open Option renaming some->z,none->À
open List renaming getD->D
open ByteArray renaming empty->H
open Int renaming ofNat->I
open List.Pairwise renaming imp_of_mem->J,nil->N
open Go Go.Lft
namespace Go.Proofs.Pw
def Gi(gd:G->X)(len:G):G->R G
 |0=>À
 |m+1=>match Gi gd len m with
  |some i=>z i
  |none=>cond (gd (len-m-1)) (z (len-m-1)) À
theorem Ϡ(gd:G->X)(len:G):∀m,m<=len->fa gd len=match Gi gd len m with
  |some i=>z i
  |none=>fa gd (len-m)
 |0,_=>rfl
 |m+1,h=>by
  rw[Ϡ gd len m omg_];simp only[Gi];cases Gi gd len m with
  |some i=>rfl
  |none=>
   dsimp only
   rw[show len-m=(len-m-1)+1 by omega,fa,show len-(m+1)=len-m-1 by omega,show len-m-1+1-1=len-m-1 by omega];cases gd (len-m-1)<;>rfl
def Wv(gd:G->X)(pf:G->d)(len m:G):R Int:=(Gi gd len m).map pf
theorem Tj(gd:G->X)(pf:G->d)(len m:G):Wv gd pf len (m+1)=match Wv gd pf len m with
  |some p=>z p
  |none=>cond (gd (len-m-1)) (z (pf (len-m-1))) none:=by
 simp only[Wv,Gi];cases Gi gd len m with
 |some i=>rfl
 |none=>cases gd (len-m-1)<;>rfl
theorem ϡ(es:j dN)(t:d)(pf:G->d)(len:G):fc es t pf len=(Wv (gR es t pf) pf len len).getD (-1):=by
 simp only[fc,Wv,Ϡ (gR es t pf) len len (jn _)];cases Gi (gR es t pf) len len with
 |some i=>rfl
 |none=>simp only[yx,fa];rfl
theorem jFb:Go.Sort.SWO (Go.Proofs.ltOf λ(x y:Go.Lft.Sml (.pair (.int .i64) (.pair (.int .i64) (.int .i64))))=>(j3L x.1 y.1).getD 0):=by
 refine I3 (λx=>x.1.1) (λx=>?_) _ λx y=>rfl;have:=x.2;simp only[gZ,jg,js]at this;exact this.1
theorem jyl{l:bm}(hl:l.length<=1000000000)(hb:∀x∈l, -1000000000000<=x.1/\x.1<=1000000000000 /\ -1000000000000<=x.2.1/\x.2.1<=1000000000000 /\ -1000000000000<=x.2.2/\x.2.2<=1000000000000) :
  ∃L,j0E l=z L/\L.Perm l/\L.Pairwise (λx y=>x.1<=y.1):=by
 obtain⟨L,e,hp,hs⟩:=Ov (a:= .pair (.int .i64) (.pair (.int .i64) (.int .i64))) (cf:=λx y=>(j3L x y).getD 0) jFb (xs:=l) (λx hx=>by
  have:=hb x hx;simp only[gZ,jg,js];refine⟨⟨?_,?_⟩,⟨?_,?_⟩,⟨?_,?_⟩⟩
  .exact qb (by decide) this.1
  .exact qb this.2.1 (by decide)
  .exact qb (by decide) this.2.2.1
  .exact qb this.2.2.2.1 (by decide)
  .exact qb (by decide) this.2.2.2.2.1
  .exact qb this.2.2.2.2.2 (by decide)) (by show List.length l<_;omega)
 refine⟨L,e,hp,?_⟩;refine J (λ{x y} hx hy h=>?_) hs;have h1:=hb x (hp.mem_iff.1 hx);have h2:=hb y (hp.mem_iff.1 hy);have h':¬w64 (y.1-x.1)<0:=h;rw[aj (x:=y.1-x.1)]at h';omega
theorem Ϣ{F:SL}(hF:F.length<=10000000):∀(n i:G)(acc:bm),i+n=F.length->acc.length+n<=1000000000->Fq (F.length:d) (i:d) F acc=z (acc++(F.drop i).map λu=>(u.1,(u.2, -1)))
 |0,i,acc,hi,_=>by
  rw[Yh];simp only[j2T];rw[ai omg_,j7,aP,jd omg_];simp
 |n+1,i,acc,hi,ha=>by
  have bh:i<F.length:=omg_;have aT:F.getD i ((0:d),(0:d))=F[i]:=by simp[D,bh]
  rw[Yh];simp only[j2T];rw[ah omg_,bJ,aj (x:=(i:d)+1)];simp only[j6,j8,aT];rw[ah (by simp[aG];omega),j6,aB,jb bh,qf];have:=Ϣ hF n (i+1) (acc++[(F[i].1,(F[i].2, -1))]) omg_ sqo_;rw[jh]at this;exact this
def apart(x y:fI):Prop:=x.2.1<=y.1\/y.2.1<=x.1
section
variable{zs:j bF}{ps:j cI}{cs:j aU}(hs:cC zs ps cs)
 {nm:M}{ls:j bP}{es:j dN}(hL:∀L∈ls,ez zs.length ps.length cs.length L)(fm:ls.length<=4)(hE:∀x∈es,rm ps.length x)(gV:es.length<=9)
 {ss:j cu}{a b:d}(ha:0<=a)(bt:a<=b)(hb:b<=8589934592)(hlen:b-a<=35078400)
include hs hL fm hE gV ha bt hb hlen
structure Hf(zs:j bF)(cs:j aU)(ls:j bP)(es:j dN)(a b:d)(m:G)(F:SL)(O:bm):Prop where
 st:bB (a-1) F
 fb:∀t,bq t F->t<b
 fr:∀t,a<=t->t<b->(bq t F↔Wv (gR es t (dx zs cs ls t)) (dx zs cs ls t) ls.length m=À)
 seg:∀x∈O,a<=x.1/\x.1<x.2.1/\x.2.1<=b/\∀t,x.1<=t->t<x.2.1->Wv (gR es t (dx zs cs ls t)) (dx zs cs ls t) ls.length m=z x.2.2
 ap:O.Pairwise apart
 cov:∀t,a<=t->t<b->Wv (gR es t (dx zs cs ls t)) (dx zs cs ls t) ls.length m≠À->oz t O
 fl:F.length+300000<=2^m*300001
 ol:O.length<=m*4000000
theorem jFc{k m:G}(hk:k+m+1=ls.length){F:SL}{O:bm}(hI:Hf zs cs ls es a b m F O) :
  ∃S Q W F',j2u ((zs,(ps,(cs,ss))),zs.map tb) (ls.getD k (H,((0:d),(((0:d),(0:d)),((0:d),((0:d),(([]:j d),(([]:j (d×d)),((0:d),(0:d)))))))))) a b=z S/\
   jaI (nm,(ls,es)) S=z Q/\jf9 Q F=z W/\O.length+W.length<=aG/\(∃P,je5 W=z P/\j3A F P=z F')/\Hf zs cs ls es a b (m+1) F' (O++W):=by
 have bH:k<ls.length:=omg_;have hLk:=hL _ (jf bH);have aT:ls.getD k (H,((0:d),(((0:d),(0:d)),((0:d),((0:d),(([]:j d),(([]:j (d×d)),((0:d),(0:d)))))))))=ls[k]:=by simp[D,bH]
 have C8:∀t,dx zs cs ls t k=cb zs cs ls[k] t:=λt=>by simp only[dx,aT]
 obtain⟨S,e1,c1,l1⟩:=ν hs hLk (ss:=ss) ha bt hb hlen;have cq:=c1.pos;have e2:=jyk (nm:=nm) (ls:=ls) hE omg_ (S:=S) omg_ cq;obtain⟨p1,p2,p3⟩:=ϝ (nm:=nm) (ls:=ls) hE omg_ c1.ch cq;have pl:=ϛ (nm:=nm) (ls:=ls) hE omg_ (S:=S) cq;have pl2:S.length*(1+es.length)<=30000*10:=ql l1 omg_;generalize S.flatMap (nZ (nm,(ls,es)))=Q at *;have hm4:m<=3:=omg_;have Tk:2^m<=2^3:=Nat.pow_le_pow_right omg_ hm4;have fh:=hI.fl;have xW:=hI.ol;have hF:F.length<=10000000:=omg_;have lp:=Ti (A:=Q) (B:=F) omg_ hF (Q.length+F.length) 0 0 [] omg_ omg_ omg_ sqo_;rw[jp,jr,jr]at lp;obtain⟨w1,_,w3,w4,w5⟩:=Th (Q.length+F.length) Q F a (a-1) (jn _) p1 hI.st;generalize ma (Q.length+F.length) Q F=W at *
 have rC:∀x∈W,a<=x.1/\x.1<x.2.1/\x.2.1<=b/\∀t,x.1<=t->t<x.2.1->bq t F/\cb zs cs ls[k] t=x.2.2/\0<=x.2.2/\jF es x.2.2 t=false:=λx hx=>by
  have bz:∀(l:bm)(q:d),iw q l->∀y∈l,y.1<y.2.1:=by
   intro l;induction l with
   |nil=>intro q _ y hy;simp at hy
   |cons s r ih=>intro q h y hy;rcases je.1 hy with rfl|hy;exact h.2.1;exact ih _ h.2.2 y hy
  have h0:=bz W a w1 x hx;have h1:=(w1.apart).2 x hx;obtain⟨s,cW,r1,r2,r3,r4⟩:=w3 x hx;obtain⟨g1,g2⟩:=p2 s cW;refine⟨h1,h0,omg_,λt t1 t2=>?_⟩;obtain⟨g3,g4,g5⟩:=g2 t omg_ omg_;rw[r3];exact⟨r4 t t1 t2,g3,g4,g5⟩
 have ϣ:∀x∈W,∀t,x.1<=t->t<x.2.1->Wv (gR es t (dx zs cs ls t)) (dx zs cs ls t) ls.length (m+1)=z x.2.2:=λx hx t t1 t2=>by
  obtain⟨h1,h2,h3,h4⟩:=rC x hx;obtain⟨g1,g2,g3,g4⟩:=h4 t t1 t2;have hn:=(hI.fr t omg_ omg_).1 g1;rw[Tj,hn,show ls.length-m-1=k by omega];have:gR es t (dx zs cs ls t) k=true:=by simp only[gR,C8,g2,g4];simp[g3]
  simp only[this,j6,C8,g2]
 have hold:∀t p,Wv (gR es t (dx zs cs ls t)) (dx zs cs ls t) ls.length m=z p->Wv (gR es t (dx zs cs ls t)) (dx zs cs ls t) ls.length (m+1)=z p:=λt p h=>by rw[Tj,h]
 obtain⟨P,e4,q1,q2,q3⟩:=jCx (l:=W) omg_ (lo:=a) (hi:=b) ha hb (λx hx=>⟨(rC x hx).1,(rC x hx).2.1,(rC x hx).2.2.1⟩);obtain⟨F',e5,f1,f2,f3⟩:=SI (B:=P) omg_ hI.st q1 hF;refine⟨S,Q,W,F',by rw[aT];exact e1,e2,?_,by simp[aG];omega,⟨P,e4,e5⟩,?_⟩
 .simp only[jf9,show AZ Q F 0 0 []=_ from lp];rfl
 .have cS:∀t,a<=t->t<b->bq t F->oz t W\/Wv (gR es t (dx zs cs ls t)) (dx zs cs ls t) ls.length (m+1)=none:=λt t1 t2 hf=>by
   have hn:=(hI.fr t t1 t2).1 hf;by_cases hg:gR es t (dx zs cs ls t) k=true
   .left;refine w4 t (p3 t t1 t2 ?_ ?_) hf
    .simp only[gR,C8,jg,js]at hg;exact hg.1
    .simp only[gR,C8,jg,qn]at hg;exact hg.2
   .right;rw[Tj,hn,show ls.length-m-1=k by omega,z8.2 hg];rfl
  refine⟨f1,λt h=>hI.fb t ((f2 t).1 h).1,λt t1 t2=>?_,λx hx=>?_,?_,λt t1 t2 bz=>?_,?_,?_⟩
  .rw[f2 t,q2 t];constructor
   .rintro⟨h1,h2⟩
    rcases cS t t1 t2 h1 with h|h
    .exact absurd h h2
    .exact h
   .intro h
    have hn:Wv (gR es t (dx zs cs ls t)) (dx zs cs ls t) ls.length m=none:=by
     cases hw:Wv (gR es t (dx zs cs ls t)) (dx zs cs ls t) ls.length m with
     |none=>rfl
     |some p=>rw[hold t p hw]at h;simp at h
    refine⟨(hI.fr t t1 t2).2 hn,?_⟩
    rintro⟨x,hx,x1,x2⟩
    rw[ϣ x hx t x1 x2]at h;simp at h
  .rcases jj.1 hx with hx|hx
   .obtain⟨h1,h2,h3,h4⟩:=hI.seg x hx;exact⟨h1,h2,h3,λt t1 t2=>hold t _ (h4 t t1 t2)⟩
   .obtain⟨h1,h2,h3,_⟩:=rC x hx;exact⟨h1,h2,h3,ϣ x hx⟩
  .refine qh.2 ⟨hI.ap,(w1.apart).1.imp (λh=> .inl h),λx hx y hy=>?_⟩;obtain⟨h1,h2,h3,h4⟩:=hI.seg x hx;obtain⟨g1,g2,g3,g4⟩:=rC y hy;apply ju;intro hn;simp only[apart,not_or]at hn
   have hc:∃t,x.1<=t/\t<x.2.1/\y.1<=t/\t<y.2.1:=by
    by_cases iJ:x.1<=y.1
    .exact⟨y.1,omg_,omg_,omg_,omg_⟩
    .exact⟨x.1,omg_,omg_,omg_,omg_⟩
   obtain⟨t,t1,t2,t3,t4⟩:=hc;have hw:=h4 t t1 t2;have:=(hI.fr t omg_ omg_).1 (g4 t t3 t4).1;rw[hw]at this;simp at this
  .by_cases hf:bq t F
   .rcases cS t t1 t2 hf with⟨x,hx,h⟩|h
    .exact⟨x,k5 _ hx,h⟩
    .exact absurd h bz
   .have hw:Wv (gR es t (dx zs cs ls t)) (dx zs cs ls t) ls.length m≠none:=λh=>hf ((hI.fr t t1 t2).2 h);obtain⟨x,hx,h⟩:=hI.cov t t1 t2 hw;exact⟨x,jx _ hx,h⟩
  .rw[Nat.pow_succ];omega
  .rw[jc,Nat.add_mul];omega
theorem Ϥ:∀(n m:G)(F:SL)(O:bm),n+m=ls.length->Hf zs cs ls es a b m F O->
  ∃F' O',Fp (n:d) ls zs ps cs ss (zs.map tb) nm ls es a b F O=z (F',O')/\Hf zs cs ls es a b ls.length F' O'
 |0,m,F,O,hn,hI=>by
  rw[Yg];simp only[j2S];rw[ah omg_,j6,aP];obtain rfl:m=ls.length:=omg_;exact⟨F,O,rfl,hI⟩
 |k+1,m,F,O,hn,hI=>by
  obtain⟨S,Q,W,F',e1,e2,e3,e4,⟨P,e5,e6⟩,mL⟩:=jFc hs hL fm hE gV ha bt hb hlen (nm:=nm) (ss:=ss) (k:=k) (m:=m) omg_ hI;rw[Yg];simp only[j2S];rw[ai omg_,ah (show ((k+1:G):d)<=I ls.length by simp;omega),show ((k+1:G):d)-1=(k:d) by omega];simp only[j6,j7,j8];generalize ls.getD k (H,((0:d),(((0:d),(0:d)),((0:d),((0:d),(([]:j d),(([]:j (d×d)),((0:d),(0:d)))))))))=L at *;rw[show j2u ((zs,(ps,(cs,ss))),zs.map tb) (L.1,(L.2.1,((L.2.2.1.1,L.2.2.1.2),(L.2.2.2.1,(L.2.2.2.2.1,(L.2.2.2.2.2.1,(L.2.2.2.2.2.2.1,(L.2.2.2.2.2.2.2.1,L.2.2.2.2.2.2.2.2)))))))) a b=_ from e1];simp only[j4,e2,e3];rw[ah e4];simp only[j6,j4,e5,e6,aB];exact Ϥ k (m+1) F' (O++W) omg_ mL
theorem jCy:∃out,j5S ((zs,(ps,(cs,ss))),zs.map tb) (nm,(ls,es)) a b=z out/\dg (λt=>fc es t (dx zs cs ls t) ls.length) b À a out/\out.length<=40000000:=by
 simp only[j5S];by_cases qQ:a>=b
 .rw[ah qQ,j6];exact⟨[],rfl,show a=b by omega,smp_⟩
 .rw[ai qQ,j7]
  have h0:Hf zs cs ls es a b 0 [(a,b)] []:=⟨⟨by dsimp only;omega,by dsimp only;omega,trivial⟩,λt h=>by
   rcases du.1 h with h|h
   .exact h.2
   .exact absurd h fp,λt t1 t2=>⟨λ_=>rfl,λ_=>du.2 (.inl ⟨t1,t2⟩)⟩,smp_,N,λt _ _ h=>absurd rfl h,smp_,smp_⟩
  obtain⟨F,O,e1,hI⟩:=Ϥ hs hL fm hE gV ha bt hb hlen (nm:=nm) (ss:=ss) ls.length 0 [(a,b)] [] omg_ h0;have Tk:2^ls.length<=2^4:=Nat.pow_le_pow_right omg_ fm;have fh:=hI.fl;have xW:=hI.ol;have hF:F.length<=10000000:=omg_;have lp:=Ϣ hF F.length 0 O omg_ omg_;rw[jr]at lp
  have ϥ:∀u∈F,a<=u.1/\u.1<u.2/\u.2<=b/\∀t,u.1<=t->t<u.2->Wv (gR es t (dx zs cs ls t)) (dx zs cs ls t) ls.length ls.length=none:=λu hu=>by
   have hm:=bB.mem hI.st u hu;have:=hI.fb (u.2-1) ⟨u,hu,omg_,omg_⟩;exact⟨omg_,hm.2,omg_,λt t1 t2=>(hI.fr t omg_ omg_).1 ⟨u,hu,t1,t2⟩⟩
  have aA:∀x∈O++F.map (λu=>((u.1,(u.2, -1)):fI)),a<=x.1/\x.1<x.2.1/\x.2.1<=b/\∀t,x.1<=t->t<x.2.1->fc es t (dx zs cs ls t) ls.length=x.2.2:=λx hx=>by
   rcases jj.1 hx with hx|hx
   .obtain⟨h1,h2,h3,h4⟩:=hI.seg x hx;exact⟨h1,h2,h3,λt t1 t2=>by rw[ϡ,h4 t t1 t2];rfl⟩
   .obtain⟨u,hu,rfl⟩:=jz.1 hx;obtain⟨h1,h2,h3,h4⟩:=ϥ u hu;exact⟨h1,h2,h3,λt t1 t2=>by rw[ϡ,h4 t t1 t2];rfl⟩
  have hpr:∀x∈O++F.map (λu=>((u.1,(u.2, -1)):fI)), -1<=x.2.2/\x.2.2<=100:=λx hx=>by
   obtain⟨h1,h2,h3,h4⟩:=aA x hx;have:=h4 x.1 (jy _) h2;have xv:=hs.so.p1;rw[<-this];simp only[fc];cases hT:fa (gR es x.1 (dx zs cs ls x.1)) ls.length with
   |none=>dsimp only;omega
   |some i=>
    dsimp only
    have hi:∀(g:G->X)(n i:G),fa g n=z i->i<n:=by
     intro g n;induction n with
     |zero=>intro i h;simp[fa]at h
     |succ n ih=>
      intro i h;simp only[fa]at h;cases hg:g n with
      |true=>rw[hg,j6]at h;simp at h;omega
      |false=>rw[hg,j7]at h;have:=ih i h;omega
    have bh:=hi _ _ _ hT;have e:dx zs cs ls x.1 i=cb zs cs ls[i] x.1:=by simp[dx,D,bh]
    rw[e];have:=(jF2 hs (hL _ (jf bh)) (t:=x.1) omg_ omg_).2;omega
  have oW:(O++F.map (λu=>((u.1,(u.2, -1)):fI))).Pairwise apart:=by
   refine qh.2 ⟨hI.ap,?_,λx hx y hy=>?_⟩
   .rw[List.pairwise_map]
    have:∀(l:SL)(q:d),bB q l->l.Pairwise (λu v=>u.2<=v.1):=by
     intro l;induction l with
     |nil=>intro q _;exact N
     |cons s r ih=>intro q h;exact jt.2 ⟨λv hv=>by have:=bB.mem h.2.2 v hv;omega,ih _ h.2.2⟩
    exact(this F _ hI.st).imp (λh=> .inl h)
   .obtain⟨u,hu,rfl⟩:=jz.1 hy;obtain⟨h1,h2,h3,h4⟩:=hI.seg x hx;obtain⟨g1,g2,g3,g4⟩:=ϥ u hu;apply ju;intro hn;simp only[apart,not_or]at hn
    have hc:∃t,x.1<=t/\t<x.2.1/\u.1<=t/\t<u.2:=by
     by_cases iJ:x.1<=u.1
     .exact⟨u.1,omg_,omg_,omg_,omg_⟩
     .exact⟨x.1,omg_,omg_,omg_,omg_⟩
    obtain⟨t,t1,t2,t3,t4⟩:=hc;have hw:=h4 t t1 t2;rw[g4 t t3 t4]at hw;simp at hw
  have Tl:∀t,(a<=t/\t<b)↔∃s∈O++F.map (λu=>((u.1,(u.2, -1)):fI)),s.1<=t/\t<s.2.1:=λt=>by
   constructor
   .rintro⟨t1,t2⟩
    by_cases hn:Wv (gR es t (dx zs cs ls t)) (dx zs cs ls t) ls.length ls.length=À
    .obtain⟨u,hu,u1,u2⟩:=(hI.fr t t1 t2).2 hn;exact⟨(u.1,(u.2, -1)),k5 _ (jz.2 ⟨u,hu,rfl⟩),u1,u2⟩
    .obtain⟨x,hx,h⟩:=hI.cov t t1 t2 hn;exact⟨x,jx _ hx,h⟩
   .rintro⟨x,hx,x1,x2⟩
    obtain⟨h1,h2,h3,_⟩:=aA x hx;omega
  have hZl:(O++F.map (λu=>((u.1,(u.2, -1)):fI))).length<=40000000:=by rw[jc,ke];omega
  generalize hZ:O++F.map (λu=>((u.1,(u.2, -1)):fI))=Z at *
  obtain⟨Y,e2,hp,Tm⟩:=jyl (l:=Z) omg_ (λx hx=>by have:=aA x hx;have:=hpr x hx;omega)
  have nY:Ch (λt=>fc es t (dx zs cs ls t) ls.length) b a Y:=by
   refine Θ bt ?_ (λs h=>⟨(aA s (hp.mem_iff.1 h)).2.1,(aA s (hp.mem_iff.1 h)).2.2.2⟩) (λt=>?_)
   .have hY:Y.Pairwise apart:=(hp.pairwise_iff (λ{x y} h=>Or.symm h)).2 oW;refine J (λ{x y} hx hy h=>?_) (hY.and Tm);have h1:=aA x (hp.mem_iff.1 hx);have h2:=aA y (hp.mem_iff.1 hy);rcases h.1 with h3|h3
    .exact h3
    .have:=h.2;omega
   .rw[Tl t];constructor
    .rintro⟨x,hx,h⟩;exact⟨x,hp.mem_iff.2 hx,h⟩
    .rintro⟨x,hx,h⟩;exact⟨x,hp.mem_iff.1 hx,h⟩
  have hYl:=hp.length_eq;obtain⟨out,e3,h3,l3⟩:=SV (l:=Y) omg_ nY;refine⟨out,?_,h3,omg_⟩;simp only[j2K,j4];rw[show Fp (I ls.length) ls zs ps cs ss (zs.map tb) nm ls es a b [(a,b)] []=_ from e1];simp only[j4,show I F.length=(F.length:d) from rfl];rw[show Fq (F.length:d) 0 F O=_ from lp];simp only[j4];rw[e2];simp only[j4,e3]
end
def p9(l:bm):j Int:=l.tail.map (·.1)
theorem Lg{f:d->d}{b:d}:∀{l:bm}{q:R d}{a:d},dg f b q a l->(∀x,x∈p9 l↔a<x/\x<b/\f (x-1)≠f x)/\(p9 l).Nodup/\l.length<=(p9 l).length+1
 |[],q,a,h=>⟨λx=>⟨λhx=>by simp[p9]at hx,λhx=>by have h:a=b:=h;omega⟩,vq,smp_⟩
 |[s],q,a,h=>by
  obtain⟨h1,h2,h3,h4,h5⟩:=h;have h5:s.2.1=b:=h5;exact⟨λx=>⟨λhx=>by simp[p9]at hx,λ⟨x1,x2,x3⟩=>absurd ((h4 (x-1) omg_ omg_).trans (h4 x omg_ omg_).symm) x3⟩,vq,by simp[p9]⟩
 |s::u::r,q,a,h=>by
  obtain⟨h1,h2,h3,h4,h5⟩:=h;obtain⟨i1,i2,i3⟩:=Lg h5;have hu:=h5.1;have hle:=h5.2.2.2.2.ch.le;have H4:=h5.2.1;have e:p9 (s::u::r)=u.1::p9 (u::r):=rfl;refine⟨λx=>?_,?_,by rw[e];simp only[ji]at i3 ⊢;omega⟩
  .rw[e,je,i1 x];constructor
   .rintro (rfl|⟨x1,x2,x3⟩)
    .refine⟨omg_,omg_,?_⟩;rw[h4 (u.1-1) omg_ omg_,h5.2.2.2.1 u.1 omg_ omg_]
     exactλhe=>h5.2.2.1 (by rw[he])
    .exact⟨omg_,x2,x3⟩
   .rintro⟨x1,x2,x3⟩
    by_cases hx:x<s.2.1
    .exact absurd ((h4 (x-1) omg_ omg_).trans (h4 x omg_ omg_).symm) x3
    .by_cases ry:x=s.2.1
     .left;omega
     .right;exact⟨omg_,x2,x3⟩
  .rw[e];refine zh.2 ⟨λhm=>?_,i2⟩;have:=(i1 u.1).1 hm;omega
theorem Tn{f:d->d}{a b:d}{l:bm}{q:R d}(h:dg f b q a l){E:j d}(hE:∀x,a<x->x<b->f (x-1)≠f x->x∈E):l.length<=E.length+1:=by
 obtain⟨h1,h2,h3⟩:=Lg h
 have:=h2.length_le_of_subset (l₂:=E) (λx hx=>by
  have:=(h1 x).1 hx;exact hE x this.1 this.2.1 this.2.2)
 omega
def lu(es:j dN):j Int:=es.flatMap λx=>[x.2.2.2.1,x.2.2.2.2]
theorem Hg:∀es:j dN,(lu es).length=2*es.length
 |[]=>rfl
 |x::es=>by
  have:=Hg es;simp only[lu,z7,jc,ji,jw]at this ⊢;omega
theorem To{es:j dN}{x:dN}(hx:x∈es):x.2.2.2.1∈lu es/\x.2.2.2.2∈lu es:=
 ⟨qg.2 ⟨x,hx,smp_⟩,qg.2 ⟨x,hx,smp_⟩⟩
theorem Ϧ{es:j dN}{t:d}(ht:t∉lu es)(p:d):jF es p (t-1)=jF es p t:=by
 unfold jF;rw[vg,zv,zv]
 have key:∀x∈es,(x.1==0&&(x.2.1==p&&(w (x.2.2.2.1<=t-1)&&w (t-1<x.2.2.2.2))))=(x.1==0&&(x.2.1==p&&(w (x.2.2.2.1<=t)&&w (t<x.2.2.2.2)))):=λx hx=>by
  obtain⟨m1,m2⟩:=To hx;have n1:t≠x.2.2.2.1:=λe=>ht (e▸m1);have n2:t≠x.2.2.2.2:=λe=>ht (e▸m2)
  have e1:w (x.2.2.2.1<=t-1)=w (x.2.2.2.1<=t):=by
   by_cases h:x.2.2.2.1<=t
   .rw[ah h,ah omg_]
   .rw[ai h,ai omg_]
  have e2:w (t-1<x.2.2.2.2)=w (t<x.2.2.2.2):=by
   by_cases h:t<x.2.2.2.2
   .rw[ah h,ah omg_]
   .rw[ai h,ai omg_]
  rw[e1,e2]
 exact⟨λ⟨x,hx,h⟩=>⟨x,hx,by rw[<-key x hx];exact h⟩,λ⟨x,hx,h⟩=>⟨x,hx,by rw[key x hx];exact h⟩⟩
theorem Tp{es:j dN}{t u:d}{pf pg:G->d}{n:G}(hp:∀i,i<n->pf i=pg i)(ha:∀p,jF es p t=jF es p u):fc es t pf n=fc es u pg n:=by
 have hg:∀m,m<=n->fa (gR es t pf) m=fa (gR es u pg) m:=by
  intro m;induction m with
  |zero=>intro _;rfl
  |succ m ih=>
   intro hm;have e:gR es t pf m=gR es u pg m:=by simp only[gR,hp m omg_,ha]
   simp only[fa,e,ih omg_]
 have hi:∀(g:G->X)(n i:G),fa g n=z i->i<n:=by
  intro g n;induction n with
  |zero=>intro i h;simp[fa]at h
  |succ n ih=>
   intro i h;simp only[fa]at h;cases hg:g n with
   |true=>rw[hg,j6]at h;simp at h;omega
   |false=>rw[hg,j7]at h;have:=ih i h;omega
 simp only[fc,hg n (jn _)];cases hT:fa (gR es u pg) n with
 |none=>rfl
 |some i=>exact hp i (hi _ _ _ hT)
section
variable{zs:j bF}{ps:j cI}{cs:j aU}(hs:cC zs ps cs)
include hs
end
section
variable{zs:j bF}{ps:j cI}{cs:j aU}(hs:cC zs ps cs)
include hs
end
section
variable{o:d}{l:bI}(h:iU o l)
include h
end
section
variable{zs:j bF}{ps:j cI}{cs:j aU}(hs:cC zs ps cs)
include hs
end
def C9(t p:d)(x:dN):Int:=
 if t<x.2.2.2.1\/x.2.2.2.2<=t then p else if x.1=1 then x.2.1 else if x.1=2/\p=x.2.1 then x.2.2.1 else if x.1=2/\p=x.2.2.1 then x.2.1 else p
def nj(t:d):d->j dN->d
 |p,[]=>p
 |p,x::r=>nj t (C9 t p x) r
theorem ϧ{es:j dN}(hl:es.length<=100){t:d}:∀(n i:G)(p:d),i+n=es.length->Ga es p t (i:d)=z (nj t p (es.drop i))
 |0,i,p,hi=>by
  rw[Zs];simp only[j7V,show I es.length=(es.length:d) from rfl];rw[ai omg_,j7,aP,jd omg_];rfl
 |n+1,i,p,hi=>by
  have bh:i<es.length:=omg_;have aT:es.getD i ((0:d),((0:d),((0:d),((0:d),(0:d)))))=es[i]:=by simp[D,bh]
  have ih:=λp=>ϧ hl (t:=t) n (i+1) p omg_;rw[Zs];simp only[j7V,show I es.length=(es.length:d) from rfl];rw[ah omg_,bJ,aj (x:=(i:d)+1),jb bh];simp only[j6,j8,aT,nj];generalize es[i]=x;unfold C9;by_cases ha:t<x.2.2.2.1\/x.2.2.2.2<=t
  .rw[if_pos ha]
   have:cond (w (t<x.2.2.2.1)) true (w (t>=x.2.2.2.2))=true:=by
    rcases ha with ha|ha
    .rw[ah ha];rfl
    .rw[ah (show t>=x.2.2.2.2 from ha)];cases w (t<x.2.2.2.1)<;>rfl
   rw[this,j6,aB];exact ih p
  .rw[if_neg ha,ai (show¬t<x.2.2.2.1 by omega),ai (show¬t>=x.2.2.2.2 by omega)];simp only[j7];by_cases h1:x.1=1
   .rw[if_pos h1,cR h1,j6,aB];exact ih _
   .rw[if_neg h1,ca h1,j7];by_cases h2:x.1=2
    .rw[cR h2];simp only[j6];by_cases h3:p=x.2.1
     .rw[if_pos ⟨h2,h3⟩,cR h3,j6,aB];exact ih _
     .rw[if_neg (λh=>h3 h.2),ca h3,j7];by_cases h4:p=x.2.2.1
      .rw[if_pos ⟨h2,h4⟩,cR h4,j6,aB];exact ih _
      .rw[if_neg (λh=>h4 h.2),ca h4,j7,aB];exact ih _
    .rw[if_neg (λh=>h2 h.1),if_neg (λh=>h2 h.1),ca h2];simp only[j7,aB];exact ih _
theorem Ϩ{es:j dN}(hl:es.length<=100){t:d}:∀(n i:G)(p:d),i+n=es.length->Fs p t es (es.length:d) (i:d)=z (nj t p (es.drop i))
 |0,i,p,hi=>by
  rw[Yi];simp only[j6P];rw[ai omg_,j7,aP,jd omg_];rfl
 |n+1,i,p,hi=>by
  have bh:i<es.length:=omg_;have aT:es.getD i ((0:d),((0:d),((0:d),((0:d),(0:d)))))=es[i]:=by simp[D,bh]
  have ih:=λp=>Ϩ hl (t:=t) n (i+1) p omg_;rw[Yi];simp only[j6P,jk3,j4];rw[ah omg_,bJ,aj (x:=(i:d)+1),jb bh];simp only[j6,j8,aT,nj];generalize es[i]=x;unfold C9;by_cases ha:t<x.2.2.2.1\/x.2.2.2.2<=t
  .rw[if_pos ha]
   have:cond (w (x.2.2.2.1<=t)) (w (t<x.2.2.2.2)) false=false:=by
    rcases ha with ha|ha
    .rw[ai (show¬x.2.2.2.1<=t by omega)];rfl
    .rw[ai (show¬t<x.2.2.2.2 by omega)];cases w (x.2.2.2.1<=t)<;>rfl
   rw[this];simp only[jv,j6,aB];exact ih p
  .rw[if_neg ha,ah (show x.2.2.2.1<=t by omega),ah (show t<x.2.2.2.2 by omega)];simp only[j6,jl,j7];by_cases h0:x.1=0
   .rw[cR h0,if_neg omg_,if_neg omg_,if_neg omg_,j6,aB];exact ih p
   rw[ca h0,j7];by_cases h1:x.1=1
   .rw[if_pos h1,cR h1,j6,aB];exact ih _
   .rw[if_neg h1,ca h1,j7];by_cases h2:x.1=2
    .rw[show (x.1 != 2)=false by simp[h2],j7];by_cases h3:p=x.2.1
     .rw[if_pos ⟨h2,h3⟩,cR h3,j6,aB];exact ih _
     .rw[if_neg (λh=>h3 h.2),ca h3,j7];by_cases h4:p=x.2.2.1
      .rw[if_pos ⟨h2,h4⟩,cR h4,j6,aB];exact ih _
      .rw[if_neg (λh=>h4 h.2),ca h4,j7,aB];exact ih _
    .rw[if_neg (λh=>h2 h.1),if_neg (λh=>h2 h.1),show (x.1 != 2)=true by simp[h2],j6,aB];exact ih _
theorem ϩ{nm:M}{ls:j bP}{es:j dN}{p t:d}(hl:es.length<=1000):∀(n i:G),i+n=es.length->F8 p t (i:d) nm ls es=z (cond (jF (es.drop i) p t) (.inl true) (.inr ()))
 |0,i,hi=>by
  rw[Zq];simp only[j7U,show I es.length=(es.length:d) from rfl];rw[ai omg_,j7,aP,jd omg_];rfl
 |n+1,i,hi=>by
  have aq:i<es.length:=omg_;have aT:es.getD i ((0:d),((0:d),((0:d),((0:d),(0:d)))))=es[i]:=by simp[D,aq]
  have ih:=ϩ (nm:=nm) (ls:=ls) (p:=p) (t:=t) hl n (i+1) omg_;rw[Zq];simp only[j7U,show I es.length=(es.length:d) from rfl];rw[ah omg_,bJ,aj (x:=(i:d)+1),jb aq];simp only[j6,j8,aT];have ha:jF (es[i]::es.drop (i+1)) p t=((es[i].1==0&&(es[i].2.1==p&&(w (es[i].2.2.2.1<=t)&&w (t<es[i].2.2.2.2))))||jF (es.drop (i+1)) p t):=rfl;have e:(cond (cond (cond (es[i].1==(0:d)) (es[i].2.1==p) false) (w (es[i].2.2.2.1<=t)) false) (w (t<es[i].2.2.2.2)) false)=(es[i].1==0&&(es[i].2.1==p&&(w (es[i].2.2.2.1<=t)&&w (t<es[i].2.2.2.2)))):=by cases es[i].1==(0:d)<;>cases es[i].2.1==p<;>cases w (es[i].2.2.2.1<=t)<;>rfl
  rw[e,ha];cases (es[i].1==0&&(es[i].2.1==p&&(w (es[i].2.2.2.1<=t)&&w (t<es[i].2.2.2.2)))) with
  |true=>rfl
  |false=>rw[j7,aB,y9];exact ih
theorem jyn{nm:M}{ls:j bP}{es:j dN}{p t:d}(hl:es.length<=1000):jnr (nm,(ls,es)) p t=z (jF es p t):=by
 have:=ϩ (nm:=nm) (ls:=ls) (p:=p) (t:=t) hl es.length 0 omg_;simp only[jnr,show F8 p t 0 nm ls es=_ from this,j4,jr];cases jF es p t<;>rfl
section
variable{zs:j bF}{ps:j cI}{cs:j aU}(hs:cC zs ps cs)
include hs
theorem Ϫ{ss:j cu}{nm:M}{ls:j bP}{es:j dN}(gV:es.length<=1000)(fm:ls.length<=1000)(hL:∀L∈ls,ez zs.length ps.length cs.length L){t:d}(h0:0<=t)(h1:t<=8589934592):∀n:G,n<=ls.length->
  F9 t ((n:d)-1) zs ps cs ss nm ls es=z (match fa (gR es t (dx zs cs ls t)) n with|some i=> .inl ((i:d),dx zs cs ls t i)|none=> .inr ())
 |0,hn=>by
  rw[Zr];simp only[j8E];rw[ai omg_,j7,aP];rfl
 |n+1,hn=>by
  have aq:n<ls.length:=omg_;have aT:ls.getD n (H,((0:d),(((0:d),(0:d)),((0:d),((0:d),(([]:j d),(([]:j (d×d)),((0:d),(0:d)))))))))=ls[n]:=by simp[D,aq]
  have ih:=Ϫ (ss:=ss) (nm:=nm) gV fm hL h0 h1 n omg_;have hp:=jCw hs (hL _ (jf aq)) (ss:=ss) h0 h1;have e:dx zs cs ls t n=cb zs cs ls[n] t:=by simp[dx,D,aq]
  rw[show ((n+1:G):d)-1=(n:d) by omega,Zr];simp only[j8E];rw[ah (show (n:d)>=0 by omega),bJ,aj (x:=(n:d)-1)];simp only[j6,j8,aT];rw[show jon (zs,(ps,(cs,ss))) (ls[n].1,(ls[n].2.1,((ls[n].2.2.1.1,ls[n].2.2.1.2),(ls[n].2.2.2.1,(ls[n].2.2.2.2.1,(ls[n].2.2.2.2.2.1,(ls[n].2.2.2.2.2.2.1,(ls[n].2.2.2.2.2.2.2.1,ls[n].2.2.2.2.2.2.2.2)))))))) t=_ from hp];simp only[j4,fa,gR,e];by_cases r5:0<=cb zs cs ls[n] t
  .rw[ah (show cb zs cs ls[n] t>=0 from r5)];simp only[j6,jyn gV,j4,ym];cases jF es (cb zs cs ls[n] t) t with
   |true=>simp only[jl,j7,aB];exact ih
   |false=>simp only[jv,j6,e];exact aP ..
  .rw[ai (show¬cb zs cs ls[n] t>=0 from r5)];simp only[j7,Bool.false_and,aB];exact ih
noncomputable def cN(zs:j bF)(cs:j aU)(s:cu)(t:d):Int:=nj t (fc s.2.2 t (dx zs cs s.2.1 t) s.2.1.length) s.2.2
omit hs in
theorem Tq{i:d}(h0:0<=i)(h1:i<(zs.length:d)){c:nS}:j2F (c,zs.map tb) i=z (tb (aF zs i)):=by
 simp only[j2F,ke];rw[bA h0 h1,j6,K7 h0 h1];rfl
end
section
variable{zs:j bF}{ps:j cI}{cs:j aU}(hs:cC zs ps cs)
include hs
end
section
variable{zs:j bF}{ps:j cI}{cs:j aU}(hs:cC zs ps cs)
include hs
end
section
variable{zs:j bF}{ps:j cI}{cs:j aU}(hs:cC zs ps cs)
include hs
end
section
variable{zs:j bF}{ps:j cI}{cs:j aU}(hs:cC zs ps cs)
include hs
end
end Go.Proofs.Pw
