/- stack.SegmentsOf: its oQ form. -/
import Derived.Test.YtaieocafhcjelaaGreatDPJ
import Derived.Test.YtaieocafhcjelaaGreatDPG
import Derived.Test.YtaieocafhcjelaaGreatDPC
import Derived.Test.YtaieocafhcjelaaGreatDPA
import Derived.Test.YtaieocafhcjelaaGreatDLD
import Derived.Test.YtaieocafhcjelaaGreatDPI
open Go Go.Lft
namespace Go.Proofs.Pw
def Gi(gd:Nat->Bool)(len:Nat):Nat->Option Nat
 |0=>none
 |m+1=>match Gi gd len m with
  |some i=>some i
  |none=>cond (gd (len-m-1)) (some (len-m-1)) none
theorem VX(gd:Nat->Bool)(len:Nat):∀m,m<=len->eN gd len=match Gi gd len m with
  |some i=>some i
  |none=>eN gd (len-m)
 |0,_=>rfl
 |m+1,h=>by
  rw[VX gd len m (by omega)];simp only[Gi];cases Gi gd len m with
  |some i=>rfl
  |none=>
   dsimp only
   rw[show len-m=(len-m-1)+1 by omega,eN,show len-(m+1)=len-m-1 by omega,show len-m-1+1-1=len-m-1 by omega];cases gd (len-m-1)<;>rfl
def Wv(gd:Nat->Bool)(pf:Nat->Int)(len m:Nat):Option Int:=(Gi gd len m).map pf
theorem NH(gd:Nat->Bool)(pf:Nat->Int)(len m:Nat):Wv gd pf len (m+1)=match Wv gd pf len m with
  |some p=>some p
  |none=>cond (gd (len-m-1)) (some (pf (len-m-1))) none:=by
 simp only[Wv,Gi];cases Gi gd len m with
 |some i=>rfl
 |none=>cases gd (len-m-1)<;>rfl
theorem VY(es:List eJ)(t:Int)(pf:Nat->Int)(len:Nat):ff es t pf len=(Wv (fU es t pf) pf len len).getD (-1):=by
 simp only[ff,Wv,VX (fU es t pf) len len (jj _)];cases Gi (fU es t pf) len len with
 |some i=>rfl
 |none=>simp only[Nat.sub_self,eN];rfl
theorem jzc:Go.Sort.SWO (Go.Proofs.ltOf λ(x y:Go.Lft.Sml (.pair (.int .i64) (.pair (.int .i64) (.int .i64))))=>(j4q x.1 y.1).getD 0):=by
 refine F1 (λx=>x.1.1) (λx=>?_) _ λx y=>rfl;have:=x.2;simp only[fG,jb,jo]at this;exact this.1
theorem jtG{l:aX}(hl:l.length<=1000000000)(hb:∀x∈l, -1000000000000<=x.1/\x.1<=1000000000000 /\ -1000000000000<=x.2.1/\x.2.1<=1000000000000 /\ -1000000000000<=x.2.2/\x.2.2<=1000000000000) :
  ∃L,j1b l=some L/\L.Perm l/\L.Pairwise (λx y=>x.1<=y.1):=by
 obtain⟨L,e,hp,hs⟩:=J5 (a:= .pair (.int .i64) (.pair (.int .i64) (.int .i64))) (cf:=λx y=>(j4q x y).getD 0) jzc (xs:=l) (λx hx=>by
  have:=hb x hx;simp only[fG,jb,jo];refine⟨⟨?_,?_⟩,⟨?_,?_⟩,⟨?_,?_⟩⟩
  .exact q7 (by decide) this.1
  .exact q7 this.2.1 (by decide)
  .exact q7 (by decide) this.2.2.1
  .exact q7 this.2.2.2.1 (by decide)
  .exact q7 (by decide) this.2.2.2.2.1
  .exact q7 this.2.2.2.2.2 (by decide)) (by show List.length l<_;omega)
 refine⟨L,e,hp,?_⟩;refine List.Pairwise.imp_of_mem (λ{x y} hx hy h=>?_) hs;have h1:=hb x (hp.mem_iff.1 hx);have h2:=hb y (hp.mem_iff.1 hy);have h':¬w64 (y.1-x.1)<0:=h;rw[ah (x:=y.1-x.1) (by omega) (by omega)]at h';omega
theorem VZ{F:SL}(hF:F.length<=10000000):∀(n i:Nat)(acc:aX),i+n=F.length->acc.length+n<=1000000000->x8 (F.length:Int) (i:Int) F acc=some (acc++(F.drop i).map λu=>(u.1,(u.2, -1)))
 |0,i,acc,hi,_=>by
  rw[Sn];simp only[j3P];rw[ak (by omega),j6,aW,jf (by omega)];simp
 |n+1,i,acc,hi,ha=>by
  have bF:i<F.length:=by omega
  have bf:F.getD i ((0:Int),(0:Int))=F[i]:=by simp[List.getD,bF]
  rw[Sn];simp only[j3P];rw[aj (by omega),aU (by omega) (by omega),ah (x:=(i:Int)+1) (by omega) (by omega)];simp only[j5,j7,bf];rw[aj (by simp[aS];omega),j5,aF,jc bF,kr];have:=VZ hF n (i+1) (acc++[(F[i].1,(F[i].2, -1))]) (by omega) (by simp;omega);rw[jd]at this;exact this
def apart(x y:eX):Prop:=x.2.1<=y.1\/y.2.1<=x.1
section
variable{zs:List cg}{ps:List dP}{cs:List bk}(hs:fe zs ps cs)
 {nm:ByteArray}{ls:List cb}{es:List eJ}(hL:∀L∈ls,fD zs.length ps.length cs.length L)(gZ:ls.length<=4)(hE:∀x∈es,qT ps.length x)(gI:es.length<=9)
 {ss:List cM}{a b:Int}(ha:0<=a)(bz:a<=b)(hb:b<=8589934592)(hlen:b-a<=35078400)
include hs hL gZ hE gI ha bz hb hlen
structure En(zs:List cg)(cs:List bk)(ls:List cb)(es:List eJ)(a b:Int)(m:Nat)(F:SL)(O:aX):Prop where
 st:bB (a-1) F
 fb:∀t,br t F->t<b
 fr:∀t,a<=t->t<b->(br t F↔Wv (fU es t (dr zs cs ls t)) (dr zs cs ls t) ls.length m=none)
 seg:∀x∈O,a<=x.1/\x.1<x.2.1/\x.2.1<=b/\∀t,x.1<=t->t<x.2.1->Wv (fU es t (dr zs cs ls t)) (dr zs cs ls t) ls.length m=some x.2.2
 ap:O.Pairwise apart
 cov:∀t,a<=t->t<b->Wv (fU es t (dr zs cs ls t)) (dr zs cs ls t) ls.length m≠none->lQ t O
 fl:F.length+300000<=2^m*300001
 ol:O.length<=m*4000000
theorem jzd{k m:Nat}(hk:k+m+1=ls.length){F:SL}{O:aX}(hI:En zs cs ls es a b m F O) :
  ∃S Q W F',j1Z ((zs,(ps,(cs,ss))),zs.map tb) (ls.getD k (ByteArray.empty,((0:Int),(((0:Int),(0:Int)),((0:Int),((0:Int),(([]:List Int),(([]:List (Int×Int)),((0:Int),(0:Int)))))))))) a b=some S/\
   j6e (nm,(ls,es)) S=some Q/\j86 Q F=some W/\O.length+W.length<=aS/\(∃P,j87 W=some P/\j31 F P=some F')/\En zs cs ls es a b (m+1) F' (O++W):=by
 have bg:k<ls.length:=by omega
 have hLk:=hL _ (jg bg);have bf:ls.getD k (ByteArray.empty,((0:Int),(((0:Int),(0:Int)),((0:Int),((0:Int),(([]:List Int),(([]:List (Int×Int)),((0:Int),(0:Int)))))))))=ls[k]:=by simp[List.getD,bg]
 have G5:∀t,dr zs cs ls t k=cQ zs cs ls[k] t:=λt=>by simp only[dr,bf]
 obtain⟨S,e1,c1,l1⟩:=VN hs hLk (ss:=ss) ha bz hb hlen;have bP:=c1.pos;have e2:=jtF (nm:=nm) (ls:=ls) hE (by omega) (S:=S) (by omega) bP;obtain⟨p1,p2,p3⟩:=VU (nm:=nm) (ls:=ls) hE (by omega) c1.ch bP;have pl:=VS (nm:=nm) (ls:=ls) hE (by omega) (S:=S) bP;have pl2:S.length*(1+es.length)<=30000*10:=z6 l1 (by omega);generalize S.flatMap (kU (nm,(ls,es)))=Q at *;have hm4:m<=3:=by omega
 have NI:2^m<=2^3:=Nat.pow_le_pow_right (by omega) hm4;have eO:=hI.fl;have uQ:=hI.ol;have hF:F.length<=10000000:=by omega
 have lp:=NG (A:=Q) (B:=F) (by omega) hF (Q.length+F.length) 0 0 [] (by omega) (by omega) (by omega) (by simp;omega);rw[jm,jw,jw]at lp;obtain⟨w1,_,w3,w4,w5⟩:=NF (Q.length+F.length) Q F a (a-1) (jj _) p1 hI.st;generalize iK (Q.length+F.length) Q F=W at *
 have oe:∀x∈W,a<=x.1/\x.1<x.2.1/\x.2.1<=b/\∀t,x.1<=t->t<x.2.1->br t F/\cQ zs cs ls[k] t=x.2.2/\0<=x.2.2/\mF es x.2.2 t=false:=λx hx=>by
  have aZ:∀(l:aX)(q:Int),fV q l->∀y∈l,y.1<y.2.1:=by
   intro l;induction l with
   |nil=>intro q _ y hy;simp at hy
   |cons s r ih=>intro q h y hy;rcases je.1 hy with rfl|hy;exact h.2.1;exact ih _ h.2.2 y hy
  have h0:=aZ W a w1 x hx;have h1:=(w1.apart).2 x hx;obtain⟨s,dp,r1,r2,r3,r4⟩:=w3 x hx;obtain⟨g1,g2⟩:=p2 s dp;refine⟨h1,h0,by omega,λt t1 t2=>?_⟩;obtain⟨g3,g4,g5⟩:=g2 t (by omega) (by omega);rw[r3];exact⟨r4 t t1 t2,g3,g4,g5⟩
 have V0:∀x∈W,∀t,x.1<=t->t<x.2.1->Wv (fU es t (dr zs cs ls t)) (dr zs cs ls t) ls.length (m+1)=some x.2.2:=λx hx t t1 t2=>by
  obtain⟨h1,h2,h3,h4⟩:=oe x hx;obtain⟨g1,g2,g3,g4⟩:=h4 t t1 t2;have hn:=(hI.fr t (by omega) (by omega)).1 g1;rw[NH,hn,show ls.length-m-1=k by omega];have:fU es t (dr zs cs ls t) k=true:=by simp only[fU,G5,g2,g4];simp[g3]
  simp only[this,j5,G5,g2]
 have hold:∀t p,Wv (fU es t (dr zs cs ls t)) (dr zs cs ls t) ls.length m=some p->Wv (fU es t (dr zs cs ls t)) (dr zs cs ls t) ls.length (m+1)=some p:=λt p h=>by rw[NH,h]
 obtain⟨P,e4,q1,q2,q3⟩:=jx9 (l:=W) (by omega) (lo:=a) (hi:=b) ha hb (λx hx=>⟨(oe x hx).1,(oe x hx).2.1,(oe x hx).2.2.1⟩);obtain⟨F',e5,f1,f2,f3⟩:=Nj (B:=P) (by omega) hI.st q1 hF;refine⟨S,Q,W,F',by rw[bf];exact e1,e2,?_,by simp[aS];omega,⟨P,e4,e5⟩,?_⟩
 .simp only[j86,show tA Q F 0 0 []=_ from lp];rfl
 .have cm:∀t,a<=t->t<b->br t F->lQ t W\/Wv (fU es t (dr zs cs ls t)) (dr zs cs ls t) ls.length (m+1)=none:=λt t1 t2 hf=>by
   have hn:=(hI.fr t t1 t2).1 hf;by_cases hg:fU es t (dr zs cs ls t) k=true
   .left;refine w4 t (p3 t t1 t2 ?_ ?_) hf
    .simp only[fU,G5,jb,jo]at hg;exact hg.1
    .simp only[fU,G5,jb,qa]at hg;exact hg.2
   .right;rw[NH,hn,show ls.length-m-1=k by omega,zb.2 hg];rfl
  refine⟨f1,λt h=>hI.fb t ((f2 t).1 h).1,λt t1 t2=>?_,λx hx=>?_,?_,λt t1 t2 aZ=>?_,?_,?_⟩
  .rw[f2 t,q2 t];constructor
   .rintro⟨h1,h2⟩
    rcases cm t t1 t2 h1 with h|h
    .exact absurd h h2
    .exact h
   .intro h
    have hn:Wv (fU es t (dr zs cs ls t)) (dr zs cs ls t) ls.length m=none:=by
     cases hw:Wv (fU es t (dr zs cs ls t)) (dr zs cs ls t) ls.length m with
     |none=>rfl
     |some p=>rw[hold t p hw]at h;simp at h
    refine⟨(hI.fr t t1 t2).2 hn,?_⟩
    rintro⟨x,hx,x1,x2⟩
    rw[V0 x hx t x1 x2]at h;simp at h
  .rcases jn.1 hx with hx|hx
   .obtain⟨h1,h2,h3,h4⟩:=hI.seg x hx;exact⟨h1,h2,h3,λt t1 t2=>hold t _ (h4 t t1 t2)⟩
   .obtain⟨h1,h2,h3,_⟩:=oe x hx;exact⟨h1,h2,h3,V0 x hx⟩
  .refine ql.2 ⟨hI.ap,(w1.apart).1.imp (λh=> .inl h),λx hx y hy=>?_⟩;obtain⟨h1,h2,h3,h4⟩:=hI.seg x hx;obtain⟨g1,g2,g3,g4⟩:=oe y hy;apply jq;intro hn;simp only[apart,not_or]at hn
   have hc:∃t,x.1<=t/\t<x.2.1/\y.1<=t/\t<y.2.1:=by
    by_cases G1:x.1<=y.1
    .exact⟨y.1,by omega,by omega,by omega,by omega⟩
    .exact⟨x.1,by omega,by omega,by omega,by omega⟩
   obtain⟨t,t1,t2,t3,t4⟩:=hc;have hw:=h4 t t1 t2;have:=(hI.fr t (by omega) (by omega)).1 (g4 t t3 t4).1;rw[hw]at this;simp at this
  .by_cases hf:br t F
   .rcases cm t t1 t2 hf with⟨x,hx,h⟩|h
    .exact⟨x,kq _ hx,h⟩
    .exact absurd h aZ
   .have hw:Wv (fU es t (dr zs cs ls t)) (dr zs cs ls t) ls.length m≠none:=λh=>hf ((hI.fr t t1 t2).2 h);obtain⟨x,hx,h⟩:=hI.cov t t1 t2 hw;exact⟨x,ka _ hx,h⟩
  .rw[Nat.pow_succ];omega
  .rw[ja,Nat.add_mul];omega
theorem V3:∀(n m:Nat)(F:SL)(O:aX),n+m=ls.length->En zs cs ls es a b m F O->
  ∃F' O',xZ (n:Int) ls zs ps cs ss (zs.map tb) nm ls es a b F O=some (F',O')/\En zs cs ls es a b ls.length F' O'
 |0,m,F,O,hn,hI=>by
  rw[Sl];simp only[j1I];rw[aj (by omega),j5,aW];obtain rfl:m=ls.length:=by omega
  exact⟨F,O,rfl,hI⟩
 |k+1,m,F,O,hn,hI=>by
  obtain⟨S,Q,W,F',e1,e2,e3,e4,⟨P,e5,e6⟩,rK⟩:=jzd hs hL gZ hE gI ha bz hb hlen (nm:=nm) (ss:=ss) (k:=k) (m:=m) (by omega) hI;rw[Sl];simp only[j1I];rw[ak (by omega),aj (show ((k+1:Nat):Int)<=Int.ofNat ls.length by simp;omega),show ((k+1:Nat):Int)-1=(k:Int) by omega];simp only[j5,j6,j7];generalize ls.getD k (ByteArray.empty,((0:Int),(((0:Int),(0:Int)),((0:Int),((0:Int),(([]:List Int),(([]:List (Int×Int)),((0:Int),(0:Int)))))))))=L at *;rw[show j1Z ((zs,(ps,(cs,ss))),zs.map tb) (L.1,(L.2.1,((L.2.2.1.1,L.2.2.1.2),(L.2.2.2.1,(L.2.2.2.2.1,(L.2.2.2.2.2.1,(L.2.2.2.2.2.2.1,(L.2.2.2.2.2.2.2.1,L.2.2.2.2.2.2.2.2)))))))) a b=_ from e1];simp only[j3,e2,e3];rw[aj e4];simp only[j5,j3,e5,e6,aF];exact V3 k (m+1) F' (O++W) (by omega) rK
theorem jxa:∃out,j3w ((zs,(ps,(cs,ss))),zs.map tb) (nm,(ls,es)) a b=some out/\dO (λt=>ff es t (dr zs cs ls t) ls.length) b none a out/\out.length<=40000000:=by
 simp only[j3w];by_cases nG:a>=b
 .rw[aj nG,j5];exact⟨[],rfl,show a=b by omega,by simp⟩
 .rw[ak nG,j6]
  have h0:En zs cs ls es a b 0 [(a,b)] []:=⟨⟨by dsimp only;omega,by dsimp only;omega,trivial⟩,λt h=>by
   rcases eM.1 h with h|h
   .exact h.2
   .exact absurd h gE,λt t1 t2=>⟨λ_=>rfl,λ_=>eM.2 (.inl ⟨t1,t2⟩)⟩,by simp,List.Pairwise.nil,λt _ _ h=>absurd rfl h,by simp,by simp⟩
  obtain⟨F,O,e1,hI⟩:=V3 hs hL gZ hE gI ha bz hb hlen (nm:=nm) (ss:=ss) ls.length 0 [(a,b)] [] (by omega) h0;have NI:2^ls.length<=2^4:=Nat.pow_le_pow_right (by omega) gZ;have eO:=hI.fl;have uQ:=hI.ol;have hF:F.length<=10000000:=by omega
  have lp:=VZ hF F.length 0 O (by omega) (by omega);rw[jw]at lp
  have V4:∀u∈F,a<=u.1/\u.1<u.2/\u.2<=b/\∀t,u.1<=t->t<u.2->Wv (fU es t (dr zs cs ls t)) (dr zs cs ls t) ls.length ls.length=none:=λu hu=>by
   have hm:=bB.mem hI.st u hu;have:=hI.fb (u.2-1) ⟨u,hu,by omega,by omega⟩;exact⟨by omega,hm.2,by omega,λt t1 t2=>(hI.fr t (by omega) (by omega)).1 ⟨u,hu,t1,t2⟩⟩
  have ao:∀x∈O++F.map (λu=>((u.1,(u.2, -1)):eX)),a<=x.1/\x.1<x.2.1/\x.2.1<=b/\∀t,x.1<=t->t<x.2.1->ff es t (dr zs cs ls t) ls.length=x.2.2:=λx hx=>by
   rcases jn.1 hx with hx|hx
   .obtain⟨h1,h2,h3,h4⟩:=hI.seg x hx;exact⟨h1,h2,h3,λt t1 t2=>by rw[VY,h4 t t1 t2];rfl⟩
   .obtain⟨u,hu,rfl⟩:=jt.1 hx;obtain⟨h1,h2,h3,h4⟩:=V4 u hu;exact⟨h1,h2,h3,λt t1 t2=>by rw[VY,h4 t t1 t2];rfl⟩
  have hpr:∀x∈O++F.map (λu=>((u.1,(u.2, -1)):eX)), -1<=x.2.2/\x.2.2<=100:=λx hx=>by
   obtain⟨h1,h2,h3,h4⟩:=ao x hx;have:=h4 x.1 (kg _) h2;have ui:=hs.so.p1;rw[<-this];simp only[ff];cases hT:eN (fU es x.1 (dr zs cs ls x.1)) ls.length with
   |none=>dsimp only;omega
   |some i=>
    dsimp only
    have hi:∀(g:Nat->Bool)(n i:Nat),eN g n=some i->i<n:=by
     intro g n;induction n with
     |zero=>intro i h;simp[eN]at h
     |succ n ih=>
      intro i h;simp only[eN]at h;cases hg:g n with
      |true=>rw[hg,j5]at h;simp at h;omega
      |false=>rw[hg,j6]at h;have:=ih i h;omega
    have bF:=hi _ _ _ hT;have e:dr zs cs ls x.1 i=cQ zs cs ls[i] x.1:=by simp[dr,List.getD,bF]
    rw[e];have:=(jz7 hs (hL _ (jg bF)) (t:=x.1) (by omega) (by omega)).2;omega
  have mh:(O++F.map (λu=>((u.1,(u.2, -1)):eX))).Pairwise apart:=by
   refine ql.2 ⟨hI.ap,?_,λx hx y hy=>?_⟩
   .rw[List.pairwise_map]
    have:∀(l:SL)(q:Int),bB q l->l.Pairwise (λu v=>u.2<=v.1):=by
     intro l;induction l with
     |nil=>intro q _;exact List.Pairwise.nil
     |cons s r ih=>intro q h;exact jx.2 ⟨λv hv=>by have:=bB.mem h.2.2 v hv;omega,ih _ h.2.2⟩
    exact(this F _ hI.st).imp (λh=> .inl h)
   .obtain⟨u,hu,rfl⟩:=jt.1 hy;obtain⟨h1,h2,h3,h4⟩:=hI.seg x hx;obtain⟨g1,g2,g3,g4⟩:=V4 u hu;apply jq;intro hn;simp only[apart,not_or]at hn
    have hc:∃t,x.1<=t/\t<x.2.1/\u.1<=t/\t<u.2:=by
     by_cases G1:x.1<=u.1
     .exact⟨u.1,by omega,by omega,by omega,by omega⟩
     .exact⟨x.1,by omega,by omega,by omega,by omega⟩
    obtain⟨t,t1,t2,t3,t4⟩:=hc;have hw:=h4 t t1 t2;rw[g4 t t3 t4]at hw;simp at hw
  have NJ:∀t,(a<=t/\t<b)↔∃s∈O++F.map (λu=>((u.1,(u.2, -1)):eX)),s.1<=t/\t<s.2.1:=λt=>by
   constructor
   .rintro⟨t1,t2⟩
    by_cases hn:Wv (fU es t (dr zs cs ls t)) (dr zs cs ls t) ls.length ls.length=none
    .obtain⟨u,hu,u1,u2⟩:=(hI.fr t t1 t2).2 hn;exact⟨(u.1,(u.2, -1)),kq _ (jt.2 ⟨u,hu,rfl⟩),u1,u2⟩
    .obtain⟨x,hx,h⟩:=hI.cov t t1 t2 hn;exact⟨x,ka _ hx,h⟩
   .rintro⟨x,hx,x1,x2⟩
    obtain⟨h1,h2,h3,_⟩:=ao x hx;omega
  have hZl:(O++F.map (λu=>((u.1,(u.2, -1)):eX))).length<=40000000:=by rw[ja,kn];omega
  generalize hZ:O++F.map (λu=>((u.1,(u.2, -1)):eX))=Z at *
  obtain⟨Y,e2,hp,NK⟩:=jtG (l:=Z) (by omega) (λx hx=>by have:=ao x hx;have:=hpr x hx;omega)
  have kT:Ch (λt=>ff es t (dr zs cs ls t) ls.length) b a Y:=by
   refine Vr bz ?_ (λs h=>⟨(ao s (hp.mem_iff.1 h)).2.1,(ao s (hp.mem_iff.1 h)).2.2.2⟩) (λt=>?_)
   .have hY:Y.Pairwise apart:=(hp.pairwise_iff (λ{x y} h=>Or.symm h)).2 mh;refine List.Pairwise.imp_of_mem (λ{x y} hx hy h=>?_) (hY.and NK);have h1:=ao x (hp.mem_iff.1 hx);have h2:=ao y (hp.mem_iff.1 hy);rcases h.1 with h3|h3
    .exact h3
    .have:=h.2;omega
   .rw[NJ t];constructor
    .rintro⟨x,hx,h⟩;exact⟨x,hp.mem_iff.2 hx,h⟩
    .rintro⟨x,hx,h⟩;exact⟨x,hp.mem_iff.1 hx,h⟩
  have hYl:=hp.length_eq;obtain⟨out,e3,h3,l3⟩:=Nv (l:=Y) (by omega) kT;refine⟨out,?_,h3,by omega⟩;simp only[j3C,j3];rw[show xZ (Int.ofNat ls.length) ls zs ps cs ss (zs.map tb) nm ls es a b [(a,b)] []=_ from e1];simp only[j3,show Int.ofNat F.length=(F.length:Int) from rfl];rw[show x8 (F.length:Int) 0 F O=_ from lp];simp only[j3];rw[e2];simp only[j3,e3]
end
def nk(l:aX):List Int:=l.tail.map (·.1)
theorem G6{f:Int->Int}{b:Int}:∀{l:aX}{q:Option Int}{a:Int},dO f b q a l->(∀x,x∈nk l↔a<x/\x<b/\f (x-1)≠f x)/\(nk l).Nodup/\l.length<=(nk l).length+1
 |[],q,a,h=>⟨λx=>⟨λhx=>by simp[nk]at hx,λhx=>by have h:a=b:=h;omega⟩,zg,by simp⟩
 |[s],q,a,h=>by
  obtain⟨h1,h2,h3,h4,h5⟩:=h;have h5:s.2.1=b:=h5;exact⟨λx=>⟨λhx=>by simp[nk]at hx,λ⟨x1,x2,x3⟩=>absurd ((h4 (x-1) (by omega) (by omega)).trans (h4 x (by omega) (by omega)).symm) x3⟩,zg,by simp[nk]⟩
 |s::u::r,q,a,h=>by
  obtain⟨h1,h2,h3,h4,h5⟩:=h;obtain⟨i1,i2,i3⟩:=G6 h5;have hu:=h5.1;have hle:=h5.2.2.2.2.ch.le;have Pg:=h5.2.1;have e:nk (s::u::r)=u.1::nk (u::r):=rfl;refine⟨λx=>?_,?_,by rw[e];simp only[jl]at i3 ⊢;omega⟩
  .rw[e,je,i1 x];constructor
   .rintro (rfl|⟨x1,x2,x3⟩)
    .refine⟨by omega,by omega,?_⟩;rw[h4 (u.1-1) (by omega) (by omega),h5.2.2.2.1 u.1 (by omega) (by omega)]
     exactλhe=>h5.2.2.1 (by rw[he])
    .exact⟨by omega,x2,x3⟩
   .rintro⟨x1,x2,x3⟩
    by_cases hx:x<s.2.1
    .exact absurd ((h4 (x-1) (by omega) (by omega)).trans (h4 x (by omega) (by omega)).symm) x3
    .by_cases ob:x=s.2.1
     .left;omega
     .right;exact⟨by omega,x2,x3⟩
  .rw[e];refine qp.2 ⟨λhm=>?_,i2⟩;have:=(i1 u.1).1 hm;omega
theorem V5{f:Int->Int}{a b:Int}{l:aX}{q:Option Int}(h:dO f b q a l){E:List Int}(hE:∀x,a<x->x<b->f (x-1)≠f x->x∈E):l.length<=E.length+1:=by
 obtain⟨h1,h2,h3⟩:=G6 h
 have:=h2.length_le_of_subset (l₂:=E) (λx hx=>by
  have:=(h1 x).1 hx;exact hE x this.1 this.2.1 this.2.2)
 omega
def og(es:List eJ):List Int:=es.flatMap λx=>[x.2.2.2.1,x.2.2.2.2]
theorem G7:∀es:List eJ,(og es).length=2*es.length
 |[]=>rfl
 |x::es=>by
  have:=G7 es;simp only[og,qv,ja,jl,qc]at this ⊢;omega
theorem NL{es:List eJ}{x:eJ}(hx:x∈es):x.2.2.2.1∈og es/\x.2.2.2.2∈og es:=
 ⟨zi.2 ⟨x,hx,by simp⟩,zi.2 ⟨x,hx,by simp⟩⟩
theorem V6{es:List eJ}{t:Int}(ht:t∉og es)(p:Int):mF es p (t-1)=mF es p t:=by
 unfold mF;rw[Bool.eq_iff_iff,zh,zh]
 have key:∀x∈es,(x.1==0&&(x.2.1==p&&(decide (x.2.2.2.1<=t-1)&&decide (t-1<x.2.2.2.2))))=(x.1==0&&(x.2.1==p&&(decide (x.2.2.2.1<=t)&&decide (t<x.2.2.2.2)))):=λx hx=>by
  obtain⟨m1,m2⟩:=NL hx;have n1:t≠x.2.2.2.1:=λe=>ht (e▸m1);have n2:t≠x.2.2.2.2:=λe=>ht (e▸m2)
  have e1:decide (x.2.2.2.1<=t-1)=decide (x.2.2.2.1<=t):=by
   by_cases h:x.2.2.2.1<=t
   .rw[aj h,aj (by omega)]
   .rw[ak h,ak (by omega)]
  have e2:decide (t-1<x.2.2.2.2)=decide (t<x.2.2.2.2):=by
   by_cases h:t<x.2.2.2.2
   .rw[aj h,aj (by omega)]
   .rw[ak h,ak (by omega)]
  rw[e1,e2]
 exact⟨λ⟨x,hx,h⟩=>⟨x,hx,by rw[<-key x hx];exact h⟩,λ⟨x,hx,h⟩=>⟨x,hx,by rw[key x hx];exact h⟩⟩
theorem V7{es:List eJ}{t u:Int}{pf pg:Nat->Int}{n:Nat}(hp:∀i,i<n->pf i=pg i)(ha:∀p,mF es p t=mF es p u):ff es t pf n=ff es u pg n:=by
 have hg:∀m,m<=n->eN (fU es t pf) m=eN (fU es u pg) m:=by
  intro m;induction m with
  |zero=>intro _;rfl
  |succ m ih=>
   intro hm;have e:fU es t pf m=fU es u pg m:=by simp only[fU,hp m (by omega),ha]
   simp only[eN,e,ih (by omega)]
 have hi:∀(g:Nat->Bool)(n i:Nat),eN g n=some i->i<n:=by
  intro g n;induction n with
  |zero=>intro i h;simp[eN]at h
  |succ n ih=>
   intro i h;simp only[eN]at h;cases hg:g n with
   |true=>rw[hg,j5]at h;simp at h;omega
   |false=>rw[hg,j6]at h;have:=ih i h;omega
 simp only[ff,hg n (jj _)];cases hT:eN (fU es u pg) n with
 |none=>rfl
 |some i=>exact hp i (hi _ _ _ hT)
def Eo(t p:Int)(x:eJ):Int:=
 if t<x.2.2.2.1\/x.2.2.2.2<=t then p else if x.1=1 then x.2.1 else if x.1=2/\p=x.2.1 then x.2.2.1 else if x.1=2/\p=x.2.2.1 then x.2.1 else p
def lR(t:Int):Int->List eJ->Int
 |p,[]=>p
 |p,x::r=>lR t (Eo t p x) r
theorem V8{es:List eJ}(hl:es.length<=100){t:Int}:∀(n i:Nat)(p:Int),i+n=es.length->x9 p t es (es.length:Int) (i:Int)=some (lR t p (es.drop i))
 |0,i,p,hi=>by
  rw[Sp];simp only[j6T];rw[ak (by omega),j6,aW,jf (by omega)];rfl
 |n+1,i,p,hi=>by
  have bF:i<es.length:=by omega
  have bf:es.getD i ((0:Int),((0:Int),((0:Int),((0:Int),(0:Int)))))=es[i]:=by simp[List.getD,bF]
  have ih:=λp=>V8 hl (t:=t) n (i+1) p (by omega);rw[Sp];simp only[j6T,jhM,j3];rw[aj (by omega),aU (by omega) (by omega),ah (x:=(i:Int)+1) (by omega) (by omega),jc bF];simp only[j5,j7,bf,lR];generalize es[i]=x;unfold Eo;by_cases ha:t<x.2.2.2.1\/x.2.2.2.2<=t
  .rw[if_pos ha]
   have:cond (decide (x.2.2.2.1<=t)) (decide (t<x.2.2.2.2)) false=false:=by
    rcases ha with ha|ha
    .rw[ak (show¬x.2.2.2.1<=t by omega)];rfl
    .rw[ak (show¬t<x.2.2.2.2 by omega)];cases decide (x.2.2.2.1<=t)<;>rfl
   rw[this];simp only[jy,j5,aF];exact ih p
  .rw[if_neg ha,aj (show x.2.2.2.1<=t by omega),aj (show t<x.2.2.2.2 by omega)];simp only[j5,jr,j6];by_cases h0:x.1=0
   .rw[dT h0,if_neg (by omega),if_neg (by omega),if_neg (by omega),j5,aF];exact ih p
   rw[cJ h0,j6];by_cases h1:x.1=1
   .rw[if_pos h1,dT h1,j5,aF];exact ih _
   .rw[if_neg h1,cJ h1,j6];by_cases h2:x.1=2
    .rw[show (x.1 != 2)=false by simp[h2],j6];by_cases h3:p=x.2.1
     .rw[if_pos ⟨h2,h3⟩,dT h3,j5,aF];exact ih _
     .rw[if_neg (λh=>h3 h.2),cJ h3,j6];by_cases h4:p=x.2.2.1
      .rw[if_pos ⟨h2,h4⟩,dT h4,j5,aF];exact ih _
      .rw[if_neg (λh=>h4 h.2),cJ h4,j6,aF];exact ih _
    .rw[if_neg (λh=>h2 h.1),if_neg (λh=>h2 h.1),show (x.1 != 2)=true by simp[h2],j5,aF];exact ih _
section
variable{zs:List cg}{ps:List dP}{cs:List bk}(hs:fe zs ps cs)
include hs
noncomputable def gy(zs:List cg)(cs:List bk)(s:cM)(t:Int):Int:=lR t (ff s.2.2 t (dr zs cs s.2.1 t) s.2.1.length) s.2.2
omit hs in
theorem NM{i:Int}(h0:0<=i)(h1:i<(zs.length:Int)){c:kN}:j3o (c,zs.map tb) i=some (tb (aH zs i)):=by
 simp only[j3o,kn];rw[aU h0 h1,j5,GY h0 h1];rfl
end
end Go.Proofs.Pw
