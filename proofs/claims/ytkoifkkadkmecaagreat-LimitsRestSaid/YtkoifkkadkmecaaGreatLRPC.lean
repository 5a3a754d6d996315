/- iq 8: fZ that are right. -/
import Derived.Test.YtkoifkkadkmecaaGreatLRPA
import Derived.Test.YtkoifkkadkmecaaGreatLRPB
import Derived.Test.YtkoifkkadkmecaaGreatLRFns
import Derived.Test.YtkoifkkadkmecaaGreatLRLD
import Derived.KernelRfl
open _root_ renaming Int->j,List->A,Nat->G,ByteArray->H
open Int renaming ofNat->B,tmod->J,tdiv->R
open ByteArray renaming mk->D,empty->E,toList->I
open Option renaming some->F
open List renaming length->K,getD->O
open Bool renaming true->M,false->N
open Go Go.Lft
namespace Go.Proofs.Pw
abbrev dN:=j×(j×(j×(j×j)))
abbrev nS:=A bF×(A cI×(A aU×A cu))
theorem CZ{n lo hi:j}(h1:lo<=n)(h2:n<=hi):j80 n lo hi=F true:=by
 simp only[j80];rw[ah (show n>=lo from h1),ah h2];rfl
theorem Bp{i n:j}(h1:0<=i)(h2:i<n):j2i i n=F true:=by
 simp only[j2i];rw[ah (show i>=0 from h1),ah h2];rfl
theorem jHB{i n:j}(h1:i<0):j2i i n=F false:=by
 simp only[j2i];rw[ai (show¬i>=0 by omega)];rfl
structure yV(z:bF):Prop where
 ck:jg9 z=F 0
 o60:J z.2.1 60=0
 r60:∀r∈z.2.2,J r.2.2.2.2.2.2 60=0
 len:z.2.2.length<=1000
theorem _Y{rs:A aN}(h:∀r∈rs,J r.2.2.2.2.2.2 60=0)(hl:rs.length<=1000):∀(n i:G),i+n=rs.length->Jb rs (rs.length:j) (i:j)=F (.inr ())
 |0,i,hi=>by
  rw[XH];simp only[j0l];rw[ai omg_,j7,aP]
 |n+1,i,hi=>by
  have aq:i<rs.length:=omg_;have aT:rs.getD i ((0:j),((0:j),((0:j),((0:j),((0:j),((0:j),(0:j)))))))=rs[i]:=by simp[aq]
  have:=h rs[i] (jf aq);rw[XH];simp only[j0l,j9f];rw[ah omg_,bJ,aj (x:=(i:j)+1)];simp only[j6,j8,aT,j4,this,jk,j7,aB];exact _Y h hl n (i+1) omg_
theorem jHC{z:bF}(h:yV z):j6F z=F 0:=by
 have lp:=_Y h.r60 h.len z.2.2.length 0 omg_;rw[show ((0:G):j)=0 from rfl]at lp;simp only[j6F,show jg9 (z.1,(z.2.1,z.2.2))=_ from h.ck,j4,h.o60,jk,j7,j1I,j1Y,show B z.2.2.length=(z.2.2.length:j) from rfl,lp,kV];rfl
theorem _Z{zs:A bF}(hn:fG (zs.map (·.1)))(hc:∀z∈zs,yV z)(hl:zs.length<=100):∀(n i:G),i+n=zs.length->E5 zs (zs.length:j) (i:j) (ri ((zs.take i).map (·.1)))=F (.inr ())
 |0,i,hi=>by
  rw[XI];simp only[j1O];rw[ai omg_,j7,aP]
 |n+1,i,hi=>by
  have aq:i<zs.length:=omg_;have aT:zs.getD i (E,((0:j),([]:A aN)))=zs[i]:=by simp[aq]
  have h1:=GD (·.1) hn aq;have h2:=jHC (hc zs[i] (jf aq));rw[XI];simp only[j1O,jcS];rw[ah omg_,bJ,aj (x:=(i:j)+1)];simp only[j6,j8,aT,j4,h1,jk,j7];rw[show j6F (zs[i].1,(zs[i].2.1,zs[i].2.2))=_ from h2];simp only[j4,jk,j7,aB];exact _Z hn hc hl n (i+1) omg_
theorem jHD{zs:A bF}(hn:fG (zs.map (·.1)))(hc:∀z∈zs,yV z)(hl:zs.length<=100):j5G zs=F 0:=by
 have lp:=_Z hn hc hl zs.length 0 omg_;simp only[j5G,show B zs.length=(zs.length:j) from rfl];rw[show E5 zs (zs.length:j) 0 []=_ from lp];rfl
structure GQ(nz:G)(p:cI):Prop where
 nb:(I p.1==I (D #[110,111,98,111,100,121]))=N
 z0:0<=p.2.1
 z1:p.2.1<nz
 w:gj 0 p.2.2.1
 wl:p.2.2.1.length<=14
 m:j3W p.2.2.2.1=F M
 r:j3W p.2.2.2.2.1=F M
theorem jHE{c:nS}{p:cI}(h:GQ c.1.length p):j3J c p=F 0:=by
 have tK:=h.z0;have uY:=h.z1;simp only[j3J,show B c.1.length=(c.1.length:j) from rfl,Bp tK uY,j4,jl,j7,_X h.w h.wl,jk,h.m,h.r]
theorem _0{zs:A bF}{ps:A cI}{cs:A aU}{ss:A cu}(hn:fG (ps.map (·.1)))(hc:∀p∈ps,GQ zs.length p)(hl:ps.length<=100):∀(n i:G),i+n=ps.length->E9 ps (ps.length:j) (i:j) zs ps cs ss (ri ((ps.take i).map (·.1)))=F (.inr (zs,ps,cs,ss))
 |0,i,hi=>by
  rw[XR];simp only[j42];rw[ai omg_,j7,aP]
 |n+1,i,hi=>by
  have aq:i<ps.length:=omg_;have aT:ps.getD i (E,((0:j),(([]:A (j×j)),((0:j),((0:j),N)))))=ps[i]:=by simp[aq]
  have h1:=GD (·.1) hn aq;have hp:=hc ps[i] (jf aq);have h2:=jHE (c:=(zs,(ps,(cs,ss)))) hp;rw[XR];simp only[j42];rw[ah omg_,bJ,aj (x:=(i:j)+1)];simp only[j6,j8,aT,j4,h1,hp.nb,qs,j7];rw[show j3J (zs,(ps,(cs,ss))) (ps[i].1,(ps[i].2.1,(ps[i].2.2.1,(ps[i].2.2.2.1,(ps[i].2.2.2.2.1,ps[i].2.2.2.2.2)))))=_ from h2];simp only[j4,jk,j7,aB];exact _0 hn hc hl n (i+1) omg_
structure rk(nz:G)(c:aU):Prop where
 z0:0<=c.2.1
 z1:c.2.1<nz
 len:c.2.2.length<=64
 day:∀d∈c.2.2,j1l d=F M
 asc:c.2.2.Pairwise (· < ·)
theorem _1{ds:A j}(h:∀d∈ds,j1l d=F M)(hl:ds.length<=64):∀(n i:G),i+n=ds.length->Jd ds (ds.length:j) (i:j)=F (.inr ())
 |0,i,hi=>by
  rw[XK];simp only[j1B];rw[ai omg_,j7,aP]
 |n+1,i,hi=>by
  have aq:i<ds.length:=omg_;have aT:ds.getD i (0:j)=ds[i]:=by simp[aq]
  have:=h ds[i] (jf aq);rw[XK];simp only[j1B,j6G];rw[ah omg_,bJ,aj (x:=(i:j)+1)];simp only[j6,j8,aT,this,j4,jl,j7,aB];exact _1 h hl n (i+1) omg_
theorem _2{nm:H}{z:j}{ds:A j}(h:ds.Pairwise (· < ·))(hl:ds.length<=64):∀(n i:G),i+n=ds.length->Jf (ds.length:j) (i:j) nm z ds=F (.inr ())
 |0,i,hi=>by
  rw[XL];simp only[j1Z];rw[ai omg_,j7,aP]
 |n+1,i,hi=>by
  have aq:i<ds.length:=omg_;have aT:ds.getD i (0:j)=ds[i]:=by simp[aq]
  have ih:=_2 (nm:=nm) (z:=z) h hl n (i+1) omg_;rw[XL];simp only[j1Z];rw[ah omg_,bA (i:=(i:j)) omg_ omg_,aj (x:=(i:j)+1)];simp only[j6,j8,aT];by_cases h0:i=0
  .subst h0;rw[ai omg_,j7,aB];exact ih
  .have hj:i-1<ds.length:=omg_;have hgj:ds.getD (i-1) (0:j)=ds[i-1]:=by simp[hj]
   have hp:ds[i-1]<ds[i]:=kg.1 h (i-1) i hj aq omg_;rw[ah (show (i:j)>0 by omega),aj (x:=(i:j)-1),bA (i:=(i:j)-1) omg_ omg_,show ((i:j)-1).toNat=i-1 by omega,hgj,ai (show¬ds[i]<=ds[i-1] by omega)];simp only[j6,j7,aB];exact ih
theorem jHF{c:nS}{x:aU}(h:rk c.1.length x):j3Z c x=F 0:=by
 have tK:=h.z0;have uY:=h.z1;have hl:=h.len;have l1:=_1 h.day hl x.2.2.length 0 omg_;have l2:=_2 (nm:=x.1) (z:=x.2.1) h.asc hl x.2.2.length 0 omg_;rw[show ((0:G):j)=0 from rfl]at l1 l2;simp only[j3Z,show B c.1.length=(c.1.length:j) from rfl,show B x.2.2.length=(x.2.2.length:j) from rfl,Bp tK uY,j4,jl,j7,j5k,j6H,l1,l2,kV];rw[ai omg_];rfl
theorem _3{zs:A bF}{ps:A cI}{cs:A aU}{ss:A cu}(hn:fG (cs.map (·.1)))(hc:∀x∈cs,rk zs.length x)(hl:cs.length<=100):∀(n i:G),i+n=cs.length->E6 zs ps cs ss cs (cs.length:j) (i:j) (ri ((cs.take i).map (·.1)))=F (.inr ())
 |0,i,hi=>by
  rw[XM];simp only[j1g];rw[ai omg_,j7,aP]
 |n+1,i,hi=>by
  have aq:i<cs.length:=omg_;have aT:cs.getD i (E,((0:j),([]:A j)))=cs[i]:=by simp[aq]
  have h1:=GD (·.1) hn aq;have h2:=jHF (c:=(zs,(ps,(cs,ss)))) (hc cs[i] (jf aq));rw[XM];simp only[j1g,jcU,jcV];rw[ah omg_,bJ,aj (x:=(i:j)+1)];simp only[j6,j8,aT,j4,h1,jk,j7];rw[show j3Z (zs,(ps,(cs,ss))) (cs[i].1,(cs[i].2.1,cs[i].2.2))=_ from h2];simp only[j4,jk,j7,aB];exact _3 hn hc hl n (i+1) omg_
theorem jHG{zs:A bF}{ps:A cI}{cs:A aU}{ss:A cu}(hn:fG (cs.map (·.1)))(hc:∀x∈cs,rk zs.length x)(hl:cs.length<=100):j3C cs zs ps cs ss=F 0:=by
 have lp:=_3 (ps:=ps) (ss:=ss) hn hc hl cs.length 0 omg_;simp only[j3C,show B cs.length=(cs.length:j) from rfl];rw[show E6 zs ps cs ss cs (cs.length:j) 0 []=_ from lp];rfl
structure ez(nz np nc:G)(l:bP):Prop where
 z0:0<=l.2.1
 z1:l.2.1<nz
 d0:1<=l.2.2.1.1
 day:j1l l.2.2.1.1=F M
 c0:0<=l.2.2.1.2
 c1:l.2.2.1.2<=86399
 u0:0<=l.2.2.2.1
 u1:l.2.2.2.1<=2
 e0:1<=l.2.2.2.2.1
 e1:l.2.2.2.2.1<=400
 m0:l.2.2.2.2.2.1.length≠0
 m1:l.2.2.2.2.2.1.length<=12
 mem:∀m∈l.2.2.2.2.2.1,0<=m/\m<(np:j)
 w:gj 0 l.2.2.2.2.2.2.1
 wl:l.2.2.2.2.2.2.1.length<=14
 mode0:0<=l.2.2.2.2.2.2.2.2
 mode1:l.2.2.2.2.2.2.2.2<=2
 cal:l.2.2.2.2.2.2.2.2≠0->0<=l.2.2.2.2.2.2.2.1/\l.2.2.2.2.2.2.2.1<(nc:j)
 cal0:l.2.2.2.2.2.2.2.2=0->l.2.2.2.2.2.2.2.1=0
 w3:l.2.2.2.2.2.2.1.length<=3
 h6:l.2.2.2.1=0->6<=l.2.2.2.2.1
theorem _4{zs:A bF}{ps:A cI}{cs:A aU}{ss:A cu}{ms:A j}(h:∀m∈ms,0<=m/\m<(ps.length:j))(hl:ms.length<=12):∀(n i:G),i+n=ms.length->Jg ms zs ps cs ss (ms.length:j) (i:j)=F (.inr ())
 |0,i,hi=>by
  rw[XN];simp only[j18];rw[ai omg_,j7,aP]
 |n+1,i,hi=>by
  have aq:i<ms.length:=omg_;have aT:ms.getD i (0:j)=ms[i]:=by simp[aq]
  have hm:=h ms[i] (jf aq);rw[XN];simp only[j18,j8o,show B ps.length=(ps.length:j) from rfl];rw[ah omg_,bJ,aj (x:=(i:j)+1)];simp only[j6,j8,aT,Bp hm.1 hm.2,j4,jl,j7,aB];exact _4 h hl n (i+1) omg_
theorem jHH{c:nS}{l:bP}(h:ez c.1.length c.2.1.length c.2.2.1.length l):j5W c l=F 0:=by
 have tK:=h.z0;have uY:=h.z1;have GR:=h.d0;have gF:=h.m0;have fw:=h.m1;have l1:=_4 (zs:=c.1) (cs:=c.2.2.1) (ss:=c.2.2.2) h.mem fw l.2.2.2.2.2.1.length 0 omg_;rw[show ((0:G):j)=0 from rfl]at l1
 simp only[j5W,show B c.1.length=(c.1.length:j) from rfl,show B l.2.2.2.2.2.1.length=(l.2.2.2.2.2.1.length:j) from rfl,show B c.2.2.1.length=(c.2.2.1.length:j) from rfl,Bp tK uY,j4,jl,j7,h.day,CZ h.c0 h.c1,CZ h.u0 h.u1,CZ h.e0 h.e1,CZ h.mode0 h.mode1,
  j40,j5l,l1,kV,_X h.w h.wl,jk]
 rw[ai (show¬l.2.2.1.1<1 by omega),ca (show¬(l.2.2.2.2.2.1.length:j)=0 by omega),ai (show¬(l.2.2.2.2.2.1.length:j)>12 by omega),ai (show¬(-1:j)>=0 by omega)];simp only[j7];by_cases GS:l.2.2.2.2.2.2.2.2=0
 .rw[GS,h.cal0 GS];rfl
 .have hc:=h.cal GS;rw[show (l.2.2.2.2.2.2.2.2 != 0)=M by simp[GS],ca GS,j6,Bp hc.1 hc.2];rfl
theorem _5{zs:A bF}{ps:A cI}{cs:A aU}{ss:A cu}{ls:A bP}(hn:fG (ls.map (·.1)))(hc:∀x∈ls,ez zs.length ps.length cs.length x)(hl:ls.length<=100):∀(n i:G),i+n=ls.length->E7 zs ps cs ss ls (ls.length:j) (i:j) (ri ((ls.take i).map (·.1)))=F (.inr ())
 |0,i,hi=>by
  rw[XO];simp only[j1J];rw[ai omg_,j7,aP]
 |n+1,i,hi=>by
  have aq:i<ls.length:=omg_;have aT:ls.getD i (E,((0:j),(((0:j),(0:j)),((0:j),((0:j),(([]:(A j)),(([]:(A (j×j))),((0:j),(0:j)))))))))=ls[i]:=by simp[aq]
  have h1:=GD (·.1) hn aq;have h2:=jHH (c:=(zs,(ps,(cs,ss)))) (hc ls[i] (jf aq));rw[XO];simp only[j1J,j6I,j6J];rw[ah omg_,bJ,aj (x:=(i:j)+1)];simp only[j6,j8,aT,j4,h1,jk,j7];rw[show j5W (zs,(ps,(cs,ss))) (ls[i].1,ls[i].2.1,(ls[i].2.2.1.1,ls[i].2.2.1.2),ls[i].2.2.2.1,ls[i].2.2.2.2.1,ls[i].2.2.2.2.2.1,ls[i].2.2.2.2.2.2.1,ls[i].2.2.2.2.2.2.2.1,ls[i].2.2.2.2.2.2.2.2)=_ from h2];simp only[j4,jk,j7,aB];exact _5 hn hc hl n (i+1) omg_
theorem jHI{zs:A bF}{ps:A cI}{cs:A aU}{ss:A cu}{ls:A bP}(hn:fG (ls.map (·.1)))(hc:∀x∈ls,ez zs.length ps.length cs.length x)(hl:ls.length<=100):j4V ls zs ps cs ss=F 0:=by
 have lp:=_5 (ss:=ss) hn hc hl ls.length 0 omg_;simp only[j4V,show B ls.length=(ls.length:j) from rfl];rw[show E7 zs ps cs ss ls (ls.length:j) 0 []=_ from lp];rfl
structure rm(np:G)(x:dN):Prop where
 k0:0<=x.1
 k1:x.1<=2
 a:0<=x.2.1/\x.2.1<(np:j)\/x.1=1/\x.2.1 = -1
 b:x.1=2->0<=x.2.2.1/\x.2.2.1<(np:j)/\x.2.1≠x.2.2.1
 b0:x.1≠2->x.2.2.1=0
 f0:0<=x.2.2.2.1
 ft:x.2.2.2.1<x.2.2.2.2
 t1:x.2.2.2.2<=1000000000000
 day:j1l (R x.2.2.2.2 86400)=F M
theorem jHJ{c:nS}{x:dN}(h:rm c.2.1.length x):j6K c x=F 0:=by
 have nF:=h.f0;have jP:=h.ft;have Bq:=h.t1;have rq:=h.day;have KX:w64 (R x.2.2.2.2 86400)=R x.2.2.2.2 86400:=by rw[rh omg_];exact aj
 simp only[j6K,show B c.2.1.length=(c.2.1.length:j) from rfl,CZ h.k0 h.k1,j4,jl,j7,KX,rq];rw[ai (show¬x.2.2.2.1<0 by omega),ai (show¬x.2.2.2.2<0 by omega),ai (show¬x.2.2.2.1>=x.2.2.2.2 by omega)];simp only[j7]
 have hA:∃b,j2i x.2.1 (c.2.1.length:j)=F b/\cond (!b) (!(cond (x.1==(1:j)) (x.2.1==(-1:j)) N)) N=false:=by
  rcases h.a with⟨a1,a2⟩|⟨a1,a2⟩
  .exact⟨M,Bp a1 a2,rfl⟩
  .exact⟨N,jHB omg_,by rw[a1,a2];rfl⟩
 obtain⟨b,e1,e2⟩:=hA;rw[e1];simp only[j4,e2,j7];by_cases h2:x.1=2
 .obtain⟨b1,b2,b3⟩:=h.b h2;rw[cR h2,j6,Bp b1 b2,show (x.1 != 2)=N by rw[h2];rfl,ca b3];rfl
 .rw[ca h2,j7,show (x.1 != 2)=M by simp[h2],h.b0 h2];rfl
theorem _6{zs:A bF}{ps:A cI}{cs:A aU}{ss:A cu}{es:A dN}(hc:∀x∈es,rm ps.length x)(hl:es.length<=48):∀(n i:G),i+n=es.length->Jh es (es.length:j) (i:j) zs ps cs ss=F (.inr ())
 |0,i,hi=>by
  rw[XP];simp only[j21];rw[ai omg_,j7,aP]
 |n+1,i,hi=>by
  have aq:i<es.length:=omg_;have aT:es.getD i ((0:j),((0:j),((0:j),((0:j),(0:j)))))=es[i]:=by simp[aq]
  have h2:=jHJ (c:=(zs,(ps,(cs,ss)))) (hc es[i] (jf aq));rw[XP];simp only[j21];rw[ah omg_,bJ,aj (x:=(i:j)+1)];simp only[j6,j8,aT];rw[show j6K (zs,(ps,(cs,ss))) (es[i].1,es[i].2.1,es[i].2.2.1,es[i].2.2.2.1,es[i].2.2.2.2)=_ from h2];simp only[j4,jk,j7,aB];exact _6 hc hl n (i+1) omg_
structure tZ(nz np nc:G)(s:cu):Prop where
 nm:fG (s.2.1.map (·.1))
 ly:∀x∈s.2.1,ez nz np nc x
 ll:s.2.1.length<=6
 ed:∀x∈s.2.2,rm np x
 el:s.2.2.length<=48
theorem jHK{c:nS}{s:cu}(h:tZ c.1.length c.2.1.length c.2.2.1.length s):j41 c s=F 0:=by
 have fm:=h.ll;have gV:=h.el;have lp:=_6 (zs:=c.1) (ps:=c.2.1) (cs:=c.2.2.1) (ss:=c.2.2.2) h.ed gV s.2.2.length 0 omg_;rw[show ((0:G):j)=0 from rfl]at lp;simp only[j41,show B s.2.1.length=(s.2.1.length:j) from rfl,show B s.2.2.length=(s.2.2.length:j) from rfl];rw[ai (show¬(s.2.1.length:j)>6 by omega),ai (show¬(s.2.2.length:j)>48 by omega)];simp only[j7,jHI (zs:=c.1) (ps:=c.2.1) (cs:=c.2.2.1) (ss:=c.2.2.2) h.nm h.ly omg_,j4,jk,lp,kV]
theorem _7{zs:A bF}{ps:A cI}{cs:A aU}{ss:A cu}(hn:fG (ss.map (·.1)))(hc:∀x∈ss,tZ zs.length ps.length cs.length x)(hl:ss.length<=100):∀(n i:G),i+n=ss.length->E8 zs ps cs ss ss (ss.length:j) (i:j) (ri ((ss.take i).map (·.1)))=F (.inr ())
 |0,i,hi=>by
  rw[XQ];simp only[j1h];rw[ai omg_,j7,aP]
 |n+1,i,hi=>by
  have aq:i<ss.length:=omg_;have aT:ss.getD i (E,(([]:A bP),([]:A dN)))=ss[i]:=by simp[aq]
  have h1:=GD (·.1) hn aq;have h2:=jHK (c:=(zs,(ps,(cs,ss)))) (hc ss[i] (jf aq));rw[XQ];simp only[j1h,jcW,jcX];rw[ah omg_,bJ,aj (x:=(i:j)+1)];simp only[j6,j8,aT,j4,h1,jk,j7];rw[show j41 (zs,(ps,(cs,ss))) (ss[i].1,(ss[i].2.1,ss[i].2.2))=_ from h2];simp only[j4,jk,j7,aB];exact _7 hn hc hl n (i+1) omg_
structure nT(c:nS):Prop where
 zn:fG (c.1.map (·.1))
 zc:∀z∈c.1,yV z
 zl:c.1.length<=16
 pn:fG (c.2.1.map (·.1))
 pc:∀p∈c.2.1,GQ c.1.length p
 pl:c.2.1.length<=32
 cn:fG (c.2.2.1.map (·.1))
 cc:∀x∈c.2.2.1,rk c.1.length x
 cl:c.2.2.1.length<=8
 sn:fG (c.2.2.2.map (·.1))
 sc:∀x∈c.2.2.2,tZ c.1.length c.2.1.length c.2.2.1.length x
 sl:c.2.2.2.length<=12
theorem jvx{c:nS}(h:nT c):jaB c=F 0:=by
 have lN:=h.zl;have gr:=h.pl;have ej:=h.cl;have dS:=h.sl;have lp:=_0 (zs:=c.1) (cs:=c.2.2.1) (ss:=c.2.2.2) h.pn h.pc omg_ c.2.1.length 0 omg_;have ls:=_7 (zs:=c.1) (ps:=c.2.1) (cs:=c.2.2.1) h.sn h.sc omg_ c.2.2.2.length 0 omg_;simp only[jaB,show B c.1.length=(c.1.length:j) from rfl,show B c.2.1.length=(c.2.1.length:j) from rfl,show B c.2.2.1.length=(c.2.2.1.length:j) from rfl,show B c.2.2.2.length=(c.2.2.2.length:j) from rfl];rw[ai (show¬(c.1.length:j)>16 by omega),ai (show¬(c.2.1.length:j)>32 by omega),ai (show¬(c.2.2.1.length:j)>8 by omega),ai (show¬(c.2.2.2.length:j)>12 by omega)];simp only[j7,jHD h.zn h.zc omg_,j4,jk];rw[show E9 c.2.1 (c.2.1.length:j) 0 c.1 c.2.1 c.2.2.1 c.2.2.2 []=_ from lp];simp only[j4,kV,jHG (zs:=c.1) (ps:=c.2.1) (cs:=c.2.2.1) (ss:=c.2.2.2) h.cn h.cc omg_,jk,j7,j5O,show B c.2.2.2.length=(c.2.2.2.length:j) from rfl];rw[show E8 c.1 c.2.1 c.2.2.1 c.2.2.2 c.2.2.2 (c.2.2.2.length:j) 0 []=_ from ls];rfl
def gP:A ByteArray:=[(D #[97,100,97]),(D #[98,111,98]),(D #[99,108,101,111]),(D #[100,97,110]),(D #[101,118,101]),(D #[102,97,121]),(D #[103,117,115]),(D #[104,97,108])]
def ua:A ByteArray:=[(D #[104,101,114,101]),(D #[116,104,101,114,101])]
theorem _8:jj7=F gP:=rfl
theorem _9:fG gP:=by
 refine⟨by decide,λk hk=>?_⟩;simp only[gP,je,zw,or_false]at hk;rcases hk with rfl|rfl|rfl|rfl|rfl|rfl|rfl|rfl<;>kernel_rfl
theorem jEK:fG ua:=by
 refine⟨by decide,λk hk=>?_⟩;simp only[ua,je,zw,or_false]at hk;rcases hk with rfl|rfl<;>kernel_rfl
theorem fG.take{l:A H}(h:fG l)(n:G):fG (l.take n):=⟨h.1.sublist (List.take_sublist n l),λk hk=>h.2 k (qq hk)⟩
theorem fG.one{s:H}(h:jam s=F M):fG [s]:=⟨smp_,λk hk=>by simp at hk;subst hk;exact h⟩
theorem fG.nil:fG []:=⟨vq,smp_⟩
theorem jEL:jam (D #[100,97,121,115])=F true:=by kernel_rfl
theorem jEM:∀k∈gP,(I k==I (D #[110,111,98,111,100,121]))=false:=by
 intro k hk;simp only[gP,je,zw,or_false]at hk;rcases hk with rfl|rfl|rfl|rfl|rfl|rfl|rfl|rfl<;>kernel_rfl
theorem jCk:((List.range 61).all λi=>j1l (20440+(i:j))==F M)=true:=by kernel_rfl
theorem R1{d:j}(h1:20440<=d)(h2:d<=20500):j1l d=F true:=by
 have h:=kj.1 jCk (d-20440).toNat (List.mem_range.2 omg_);rw[show (20440:j)+(((d-20440).toNat:G):j)=d by omega]at h;exact eq_of_beq h
theorem t60{x:j}(h:x%60=0):J x 60=0:=by
 have:=GC x 60;rw[h]at this;simpa using this
theorem GU{P:aN->Prop}{r s:aN}(h1:P r)(h2:P s):∀x∈[r,s],P x:=by
 intro x hx;simp at hx;rcases hx with rfl|rfl
 .exact h1
 .exact h2
theorem jEN{L:A j}{a:j}(h:dT L a)(nm:H):∃o rs a',j58 L a nm=F ((nm,(o,rs)),L,a')/\J o 60=0/\∀r∈rs,J r.2.2.2.2.2.2 60=0:=by
 obtain⟨p,a1,e1,m1,d1⟩:=po h (xs:=[(0:j),(4:j),(-20:j),(22:j),(48:j),(-47:j)]) smp_ smp_;obtain⟨x2,a2,e2,x20,x21,d2⟩:=dt (n:=2) d1 omg_ omg_;obtain⟨x3,a3,e3,x30,x31,d3⟩:=dt (n:=3) d2 omg_ omg_;obtain⟨y,a4,e4,y0,y1,d4⟩:=dt (n:=2) d3 omg_ omg_;obtain⟨q,a5,e5,q0,q1,d5⟩:=dt (n:=4) d4 omg_ omg_;have hp : -47<=p/\p<=48:=by simp at m1;omega
 have hmul:0<=x2*x3/\x2*x3<=2:=by obtain rfl|rfl:x2=0\/x2=1:=omg_;all_goals omega
 have nQ : -43200<=900*(p+x2*x3):=omg_;have mK:900*(p+x2*x3)<=45000:=omg_;have wm:(900*(p+x2*x3))%60=0:=omg_;simp only[j58,e1,e2,e3,e4,e5,j4];rw[aj (x:=x2*x3),aj (x:=p+x2*x3),aj (x:=900*(p+x2*x3)),aj (x:=2025+y)];generalize 900*(p+x2*x3)=o at *;generalize 2025+y=last at *;by_cases Bo:q=1
 .rw[cR Bo,j6,aj (x:=o+3600)];exact⟨_,_,_,rfl,t60 wm,GU (P:=λr=>J r.2.2.2.2.2.2 60=0) (t60 (show (o+3600)%60=0 by omega)) (t60 wm)⟩
 .rw[ca Bo,j7];by_cases GL:q=2
  .rw[cR GL,j6];obtain⟨b1,c1,f1,b10,b11,g1⟩:=dt (n:=4) d5 omg_ omg_;obtain⟨b2,c2,f2,CX,RU,g2⟩:=dt (n:=7) g1 omg_ omg_;obtain⟨b3,c3,f3,RW,RX,g3⟩:=dt (n:=24) g2 omg_ omg_;obtain⟨b4,c4,f4,b40,b41,g4⟩:=dt (n:=8) g3 omg_ omg_;obtain⟨b5,c5,f5,b50,b51,g5⟩:=dt (n:=2) g4 omg_ omg_;obtain⟨b6,c6,f6,m6,g6⟩:=po g5 (xs:=[(2:j),(3:j),(5:j)]) smp_ smp_;obtain⟨b7,c7,f7,_T,b71,g7⟩:=dt (n:=7) g6 omg_ omg_;obtain⟨b8,c8,f8,b80,b81,g8⟩:=dt (n:=24) g7 omg_ omg_;simp only[f1,f2,f3,f4,f5,f6,f7,f8,j4];rw[aj (x:=1+b4),aj (x:=1800*(1+b4)),aj (x:=o+1800*(1+b4))];exact⟨_,_,_,rfl,t60 wm,GU (P:=λr=>J r.2.2.2.2.2.2 60=0) (t60 (show (o+1800*(1+b4))%60=0 by omega)) (t60 wm)⟩
  .rw[ca GL,j7];by_cases GM:q=3
   .rw[cR GM,j6];obtain⟨b1,c1,f1,m1,g1⟩:=po d5 (xs:=[(3600:j),(-3600:j),(82800:j),(-82800:j),(43200:j)]) smp_ smp_;obtain⟨b2,c2,f2,CX,RU,g2⟩:=dt (n:=7) g1 omg_ omg_;obtain⟨b3,c3,f3,RW,RX,g3⟩:=dt (n:=48) g2 omg_ omg_;have dR : -82800<=b1/\b1<=82800/\b1%60=0:=by simp at m1;omega
    simp only[f1,f2,f3,j4];rw[aj (x:=o+b1)];cases cond (decide (o+b1>64800)) M (decide (o+b1 < -64800)) with
    |true=>exact⟨_,_,_,rfl,t60 wm,λr hr=>by simp at hr;subst hr;rfl⟩
    |false=>exact⟨_,_,_,rfl,t60 wm,λr hr=>by simp at hr;subst hr;exact t60 (by dsimp only;omega)⟩
   .rw[ca GM,j7];exact⟨_,_,_,rfl,t60 wm,smp_⟩
theorem jCl{L:A j}{a:j}(h:dT L a)(nm:H):∃o rs a',j58 L a nm=F ((nm,(o,rs)),L,a')/\MZ o rs/\yV (nm,(o,rs))/\dT L a':=by
 obtain⟨o,rs,a1,e1,m1,d1⟩:=jEJ h nm;obtain⟨o',rs',a2,e2,m2,m3⟩:=jEN h nm;have:=e1.symm.trans e2;simp only[j5,j9,qc]at this;obtain⟨⟨rfl,rfl⟩,rfl⟩:=this;have ht:=(m1.tab nm).1;have hl:=m1.len;exact⟨o,rs,a1,e1,m1,⟨by simp only[jg9,show j4A (nm,(o,rs))=_ from ht,j4],m2,m3,by dsimp only;omega⟩,d1⟩
structure Br(zs:A bF):Prop where
 ok:∀z∈zs,fY z
 ck:∀z∈zs,yV z
 nm:zs.map (·.1)=ua.take zs.length
theorem KY{l:A H}{n:G}(hn:n<l.length):l.take n++[l.getD n E]=l.take (n+1):=by
 rw[ku,jm hn];simp[hn]
theorem a_{L:A j}:∀(n:G)(a:j)(zs:A bF),dT L a->zs.length+n<=2->Br zs->
  ∃GV a',JE (n:j) L a zs=F (L,a',GV)/\GV.length=zs.length+n/\Br GV/\dT L a'
 |0,a,zs,hd,_,hz=>by
  rw[YJ];simp only[j3m];rw[ai omg_,j7,aP];exact⟨zs,a,rfl,rfl,hz,hd⟩
 |n+1,a,zs,hd,hl,hz=>by
  obtain⟨o,rs,a1,e1,m1,k1,d1⟩:=jCl hd (O ua zs.length E)
  obtain⟨GV,a',e2,h2,h3,h4⟩:=a_ n a1 (zs++[(O ua zs.length E,(o,rs))]) d1 sqo_ ⟨λz xS=>by
   rcases jj.1 xS with h|h
   .exact hz.ok z h
   .simp at h;subst h;exact m1,λz xS=>by
   rcases jj.1 xS with h|h
   .exact hz.ck z h
   .simp at h;subst h;exact k1,by
   rw[zq,hz.nm,jc];exact KY (by show zs.length<2;omega)⟩
  rw[YJ];simp only[j3m,show B (K zs)=(zs.length:j) from rfl];rw[ah omg_,bA (show (0:j)<=(zs.length:j) by omega) sqo_];simp only[j6,j8];rw[show j58 L a (O [(D #[104,101,114,101]),(D #[116,104,101,114,101])] zs.length E)=_ from e1];simp only[j4];rw[ah (by simp[aG];omega),aj (x:=((n+1:G):j)-1)];simp only[j6,aB];rw[show ((n+1:G):j)-1=(n:j) by omega];exact⟨GV,a',e2,by rw[h2];simp;omega,h3,h4⟩
structure wU(nz:G)(ps:A cI):Prop where
 ck:∀p∈ps,GQ nz p
 nm:ps.map (·.1)=gP.take ps.length
theorem b_{n:j}(h0:0<=n)(h1:n<=168):j3W (w64 (3600*n))=F true:=by
 rw[aj];simp only[j3W,CZ (show 0<=3600*n by omega) (show 3600*n<=604800 by omega),j4,j6];rw[GC,cR (show (3600*n)%3600=0 by omega)]
theorem R2{L:A j}{zs:A bF}(tK:1<=zs.length)(uY:zs.length<=100):∀(n:G)(a:j)(ps:A cI),dT L a->ps.length+n<=4->wU zs.length ps->
  ∃Bs a',JF (n:j) L a zs ps=F (L,a',zs,Bs)/\Bs.length=ps.length+n/\wU zs.length Bs/\dT L a'
 |0,a,ps,hd,_,hp=>by
  rw[YK];simp only[j3n];rw[ai omg_,j7,aP];exact⟨ps,a,rfl,rfl,hp,hd⟩
 |n+1,a,ps,hd,hl,hp=>by
  obtain⟨x,a1,e1,x0,x1,d1⟩:=dt (n:=(zs.length:j)) hd omg_ omg_;obtain⟨b,a2,e2,d2⟩:=CY (n:=3) d1 omg_ omg_;obtain⟨c,a3,e3,d3⟩:=CY (n:=2) d2 omg_ omg_;have ct:ps.length<gP.length:=by show ps.length<8;omega
  have fy:gP.getD ps.length E∈gP:=by rw[List.getD_eq_getElem?_getD,jm ct];exact jf ct
  have ext:∀(w:WL)(p q:j),gj 0 w->w.length<=14->p∈[(0:j),(40:j),(100:j),(12:j)]->q∈[(0:j),(11:j),(24:j),(1:j)]->
    wU zs.length (ps++[(gP.getD ps.length E,(x,(w,(w64 (3600*p),(w64 (3600*q),b)))))]):=by
   intro w p q hw kT wu GW;have qO:0<=p/\p<=168:=by simp at wu;omega
   have Cb:0<=q/\q<=168:=by simp at GW;omega
   refine⟨λr hr=>?_,?_⟩
   .rcases jj.1 hr with h|h
    .exact hp.ck r h
    .simp at h;subst h;exact⟨jEM _ fy,x0,x1,hw,kT,b_ qO.1 qO.2,b_ Cb.1 Cb.2⟩
   .rw[zq,hp.nm,jc];exact KY ct
  rw[YK];simp only[j3n,_8,j4,show B (K ps)=(ps.length:j) from rfl,show B (K zs)=(zs.length:j) from rfl];rw[ah omg_,bA (show (0:j)<=(ps.length:j) by omega) omg_];simp only[j6,e1,e2,e3,j4];rw[aj (x:=((n+1:G):j)-1),show ((n+1:G):j)-1=(n:j) by omega];cases c with
  |true=>obtain⟨w,a4,e4,hw,kT,d4⟩:=R0 d3;obtain⟨p,a5,e5,wu,d5⟩:=po d4 (xs:=[(0:j),(40:j),(100:j),(12:j)]) smp_ smp_;obtain⟨q,a6,e6,GW,d6⟩:=po d5 (xs:=[(0:j),(11:j),(24:j),(1:j)]) smp_ smp_;simp only[j6,e4,e5,e6,j4];rw[ah (by simp[aG];omega)];simp only[j6,aB];obtain⟨Bs,a',e,h1,h2,h3⟩:=R2 tK uY n a6 _ d6 sqo_ (ext w p q hw omg_ wu GW);exact⟨Bs,a',e,by rw[h1];simp;omega,h2,h3⟩
  |false=>obtain⟨p,a5,e5,wu,d5⟩:=po d3 (xs:=[(0:j),(40:j),(100:j),(12:j)]) smp_ smp_;obtain⟨q,a6,e6,GW,d6⟩:=po d5 (xs:=[(0:j),(11:j),(24:j),(1:j)]) smp_ smp_;simp only[j7,e5,e6,j4];rw[ah (by simp[aG];omega)];simp only[j6,aB];obtain⟨Bs,a',e,h1,h2,h3⟩:=R2 tK uY n a6 _ d6 sqo_ (ext [] p q (show (0:j)<=604800 by omega) smp_ wu GW);exact⟨Bs,a',e,by rw[h1];simp;omega,h2,h3⟩
def Bt(q:j)(ds:A j):Prop:=ds.Pairwise (· < ·)/\∀d∈ds,20454<d/\d<=q
theorem c_{L:A j}{s:j}{nm:H}{z:j}{zs:A bF}{ps:A cI}{cs:A aU}:∀(n:G)(a day:j)(ds:A j),dT L a->ds.length+n<=4->20454<=day->day+6*n<=20480->Bt day ds->
  ∃R3 a',JG s (n:j) day L a nm z zs ps cs ds=F (s,L,a',nm,z,zs,ps,cs,R3)/\R3.length<=4/\Bt 20480 R3/\dT L a'
 |0,a,day,ds,hd,hl,hy,MX,hi=>by
  rw[YL];simp only[j3o];rw[ai omg_,j7,aP];exact⟨ds,a,rfl,omg_,⟨hi.1,λd hd=>by have:=hi.2 d hd;omega⟩,hd⟩
 |n+1,a,day,ds,hd,hl,hy,MX,hi=>by
  obtain⟨x,a1,e1,x0,x1,d1⟩:=dt (n:=6) hd omg_ omg_;rw[YL];simp only[j3o];rw[ah omg_,aj (x:=((n+1:G):j)-1),show ((n+1:G):j)-1=(n:j) by omega];simp only[j6,e1,j4];rw[ah (by simp[aG];omega),aj (x:=1+x),aj (x:=day+(1+x))];simp only[j6,aB];refine c_ n a1 _ _ d1 sqo_ omg_ omg_ ⟨qh.2 ⟨hi.1,smp_,λu hu v hv=>?_⟩,λd hd=>?_⟩
  .simp at hv;subst hv;have:=hi.2 u hu;omega
  .rcases jj.1 hd with h|h
   .have:=hi.2 d h;omega
   .simp at h;omega
structure GX(nz:G)(cs:A aU):Prop where
 ck:∀c∈cs,rk nz c
 nm:fG (cs.map (·.1))
 len:cs.length<=1
 dl:∀c∈cs,c.2.2.length<=4
theorem jG9{nz:G}{nm:H}{x:j}{ds:A j}(x0:0<=x)(x1:x<nz)(hl:ds.length<=64)(hi:Bt 20480 ds):rk nz (nm,(x,ds)):=
 ⟨x0,x1,hl,λd hd=>R1 (by have:=hi.2 d hd;omega) (by have:=hi.2 d hd;omega),hi.1⟩
structure cC(zs:A bF)(ps:A cI)(cs:A aU):Prop where
 so:GO zs ps cs
 z:Br zs
 p:wU zs.length ps
 c:GX zs.length cs
theorem jAe{L:A j}{a:j}(h:dT L a):∃zs ps cs a',jaR L a=F ((zs,(ps,(cs,([]:A cu)))),L,a')/\cC zs ps cs/\dT L a':=by
 obtain⟨x,a1,e1,x0,x1,d1⟩:=dt (n:=2) h omg_ omg_;obtain⟨zs,a2,e2,l2,k2,d2⟩:=a_ (1+x).toNat a1 [] d1 sqo_ ⟨smp_,smp_,rfl⟩;obtain⟨y,a3,e3,y0,y1,d3⟩:=dt (n:=4) d2 omg_ omg_;simp at l2;obtain⟨ps,a4,e4,l4,k4,d4⟩:=R2 (zs:=zs) omg_ omg_ (1+y).toNat a3 [] d3 sqo_ ⟨smp_,rfl⟩;obtain⟨q,a5,e5,q0,q1,d5⟩:=dt (n:=2) d4 omg_ omg_;simp at l4
 have cH:∃cs a',JH q L a5 zs ps []=F (L,a',zs,ps,cs)/\GX zs.length cs/\dT L a':=by
  by_cases hq:q=0
  .subst hq;rw[OL];simp only[j2l];rw[ai omg_,j7,aP];exact⟨[],a5,rfl,⟨smp_,fG.nil,smp_,smp_⟩,d5⟩
  .have Bo:q=1:=omg_;subst Bo;obtain⟨x,a6,e6,x0,x1,d6⟩:=dt (n:=(zs.length:j)) d5 omg_ omg_;obtain⟨y,a7,e7,y0,y1,d7⟩:=dt (n:=4) d6 omg_ omg_;obtain⟨ds,a8,e8,l8,k8,d8⟩:=c_ (s:=(1:j)) (nm:=D #[100,97,121,115]) (z:=x) (zs:=zs) (ps:=ps) (cs:=[]) y.toNat a7 20454 [] d7 sqo_ omg_ omg_ ⟨smp_,smp_⟩;rw[show ((y.toNat:G):j)=y by omega]at e8;rw[OL];simp only[j2l,show B (K zs)=(zs.length:j) from rfl];rw[ah omg_];simp only[j6,e6,e7,e8,j4];rw[ah (by simp[aG]),aj (x:=(1:j)-1)];simp only[j6,aB];rw[OL];simp only[j2l];rw[ai omg_,j7,aP];refine⟨_,a8,rfl,⟨λc hc=>?_,fG.one jEL,smp_,λc hc=>by simp at hc;subst hc;exact l8⟩,d8⟩;simp at hc;subst hc;exact jG9 x0 x1 omg_ k8
 obtain⟨cs,a6,e6,k6,d6⟩:=cH;rw[show (((1+x).toNat:G):j)=1+x by omega]at e2;rw[show (((1+y).toNat:G):j)=1+y by omega]at e4;simp only[jaR,e1,j4];rw[aj (x:=1+x)];simp only[e2,e3,j4];rw[aj (x:=1+y)];simp only[e4,e5,e6,j4];exact⟨zs,ps,cs,a6,rfl,⟨⟨omg_,omg_,k2.ok,omg_,omg_,k6.len⟩,k2,k4,k6⟩,d6⟩
end Go.Proofs.Pw
