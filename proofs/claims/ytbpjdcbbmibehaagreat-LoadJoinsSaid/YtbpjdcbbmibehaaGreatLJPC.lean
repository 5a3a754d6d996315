/- oA 8: iL that are right. -/
import Derived.Test.YtbpjdcbbmibehaaGreatLJPA
import Derived.Test.YtbpjdcbbmibehaaGreatLJPB
import Derived.KernelRfl
open Go Go.Lft
namespace Go.Proofs.Pw
abbrev eU:=Int×(Int×(Int×(Int×Int)))
abbrev nS:=List bP×(List dm×(List aO×List dD))
theorem Br{n lo hi:Int}(h1:lo<=n)(h2:n<=hi):j6B n lo hi=some true:=by
 simp only[j6B];rw[ag (show n>=lo from h1),ag h2];rfl
theorem yU{i n:Int}(h1:0<=i)(h2:i<n):j1D i n=some true:=by
 simp only[j1D];rw[ag (show i>=0 from h1),ag h2];rfl
theorem jzy{i n:Int}(h1:i<0):j1D i n=some false:=by
 simp only[j1D];rw[ao (show¬i>=0 by omega)];rfl
structure Bs(z:bP):Prop where
 ck:jc8 z=some 0
 o60:Int.tmod z.2.1 60=0
 r60:∀r∈z.2.2,Int.tmod r.2.2.2.2.2.2 60=0
 len:z.2.2.length<=1000
theorem WA{rs:List aT}(h:∀r∈rs,Int.tmod r.2.2.2.2.2.2 60=0)(hl:rs.length<=1000):∀(n i:Nat),i+n=rs.length->Hw rs (rs.length:Int) (i:Int)=some (.inr ())
 |0,i,hi=>by
  rw[UA];simp only[j0f];rw[ao (by omega),j6,aY]
 |n+1,i,hi=>by
  have ak:i<rs.length:=by omega
  have bk:rs.getD i ((0:Int),((0:Int),((0:Int),((0:Int),((0:Int),((0:Int),(0:Int)))))))=rs[i]:=by simp[ak]
  have:=h rs[i] (ji ak);rw[UA];simp only[j0f,j6S];rw[ag (by omega),ba (by omega) (by omega),aj (x:=(i:Int)+1) (by omega) (by omega)];simp only[j5,j7,bk,j3,this,ju,j6,aP];exact WA h hl n (i+1) (by omega)
theorem jzz{z:bP}(h:Bs z):j50 z=some 0:=by
 have lp:=WA h.r60 h.len z.2.2.length 0 (by omega);rw[show ((0:Nat):Int)=0 from rfl]at lp;simp only[j50,show jc8 (z.1,(z.2.1,z.2.2))=_ from h.ck,j3,h.o60,ju,j6,j17,j1m,show Int.ofNat z.2.2.length=(z.2.2.length:Int) from rfl,lp,rN];rfl
theorem WB{zs:List bP}(hn:gr (zs.map (·.1)))(hc:∀z∈zs,Bs z)(hl:zs.length<=100):∀(n i:Nat),i+n=zs.length->DW zs (zs.length:Int) (i:Int) (po ((zs.take i).map (·.1)))=some (.inr ())
 |0,i,hi=>by
  rw[UB];simp only[j1e];rw[ao (by omega),j6,aY]
 |n+1,i,hi=>by
  have ak:i<zs.length:=by omega
  have bk:zs.getD i (ByteArray.empty,((0:Int),([]:List aT)))=zs[i]:=by simp[ak]
  have h1:=ET (·.1) hn ak;have h2:=jzz (hc zs[i] (ji ak));rw[UB];simp only[j1e,j9B];rw[ag (by omega),ba (by omega) (by omega),aj (x:=(i:Int)+1) (by omega) (by omega)];simp only[j5,j7,bk,j3,h1,ju,j6];rw[show j50 (zs[i].1,(zs[i].2.1,zs[i].2.2))=_ from h2];simp only[j3,ju,j6,aP];exact WB hn hc hl n (i+1) (by omega)
theorem jzA{zs:List bP}(hn:gr (zs.map (·.1)))(hc:∀z∈zs,Bs z)(hl:zs.length<=100):j4a zs=some 0:=by
 have lp:=WB hn hc hl zs.length 0 (by omega);simp only[j4a,show Int.ofNat zs.length=(zs.length:Int) from rfl];rw[show DW zs (zs.length:Int) 0 []=_ from lp];rfl
structure Ip(nz:Nat)(p:dm):Prop where
 nb:(ByteArray.toList p.1==ByteArray.toList (ByteArray.mk #[110,111,98,111,100,121]))=false
 z0:0<=p.2.1
 z1:p.2.1<nz
 w:gu 0 p.2.2.1
 wl:p.2.2.1.length<=14
 m:j5u p.2.2.2.1=some true
 r:j5u p.2.2.2.2.1=some true
theorem jzB{c:nS}{p:dm}(h:Ip c.1.length p):j2O c p=some 0:=by
 have kT:=h.z0;have p8:=h.z1;simp only[j2O,show Int.ofNat c.1.length=(c.1.length:Int) from rfl,yU kT p8,j3,jw,j6,Pc h.w h.wl,ju,h.m,h.r]
theorem WC{zs:List bP}{ps:List dm}{cs:List aO}{ss:List dD}(hn:gr (ps.map (·.1)))(hc:∀p∈ps,Ip zs.length p)(hl:ps.length<=100):∀(n i:Nat),i+n=ps.length->D0 ps (ps.length:Int) (i:Int) zs ps cs ss (po ((ps.take i).map (·.1)))=some (.inr (zs,ps,cs,ss))
 |0,i,hi=>by
  rw[UK];simp only[j31];rw[ao (by omega),j6,aY]
 |n+1,i,hi=>by
  have ak:i<ps.length:=by omega
  have bk:ps.getD i (ByteArray.empty,((0:Int),(([]:List (Int×Int)),((0:Int),((0:Int),false)))))=ps[i]:=by simp[ak]
  have h1:=ET (·.1) hn ak;have hp:=hc ps[i] (ji ak);have h2:=jzB (c:=(zs,(ps,(cs,ss)))) hp;rw[UK];simp only[j31];rw[ag (by omega),ba (by omega) (by omega),aj (x:=(i:Int)+1) (by omega) (by omega)];simp only[j5,j7,bk,j3,h1,hp.nb,qe,j6];rw[show j2O (zs,(ps,(cs,ss))) (ps[i].1,(ps[i].2.1,(ps[i].2.2.1,(ps[i].2.2.2.1,(ps[i].2.2.2.2.1,ps[i].2.2.2.2.2)))))=_ from h2];simp only[j3,ju,j6,aP];exact WC hn hc hl n (i+1) (by omega)
structure wO(nz:Nat)(c:aO):Prop where
 z0:0<=c.2.1
 z1:c.2.1<nz
 len:c.2.2.length<=64
 day:∀d∈c.2.2,j18 d=some true
 asc:c.2.2.Pairwise (· < ·)
theorem WD{ds:List Int}(h:∀d∈ds,j18 d=some true)(hl:ds.length<=64):∀(n i:Nat),i+n=ds.length->Hy ds (ds.length:Int) (i:Int)=some (.inr ())
 |0,i,hi=>by
  rw[UD];simp only[j15];rw[ao (by omega),j6,aY]
 |n+1,i,hi=>by
  have ak:i<ds.length:=by omega
  have bk:ds.getD i (0:Int)=ds[i]:=by simp[ak]
  have:=h ds[i] (ji ak);rw[UD];simp only[j15,j51];rw[ag (by omega),ba (by omega) (by omega),aj (x:=(i:Int)+1) (by omega) (by omega)];simp only[j5,j7,bk,this,j3,jw,j6,aP];exact WD h hl n (i+1) (by omega)
theorem WE{nm:ByteArray}{z:Int}{ds:List Int}(h:ds.Pairwise (· < ·))(hl:ds.length<=64):∀(n i:Nat),i+n=ds.length->Hz (ds.length:Int) (i:Int) nm z ds=some (.inr ())
 |0,i,hi=>by
  rw[UE];simp only[j1n];rw[ao (by omega),j6,aY]
 |n+1,i,hi=>by
  have ak:i<ds.length:=by omega
  have bk:ds.getD i (0:Int)=ds[i]:=by simp[ak]
  have ih:=WE (nm:=nm) (z:=z) h hl n (i+1) (by omega);rw[UE];simp only[j1n];rw[ag (by omega),ba (i:=(i:Int)) (by omega) (by omega),aj (x:=(i:Int)+1) (by omega) (by omega)];simp only[j5,j7,bk];by_cases h0:i=0
  .subst h0;rw[ao (by omega),j6,aP];exact ih
  .have hj:i-1<ds.length:=by omega
   have hgj:ds.getD (i-1) (0:Int)=ds[i-1]:=by simp[hj]
   have hp:ds[i-1]<ds[i]:=qh.1 h (i-1) i hj ak (by omega);rw[ag (show (i:Int)>0 by omega),aj (x:=(i:Int)-1) (by omega) (by omega),ba (i:=(i:Int)-1) (by omega) (by omega),show ((i:Int)-1).toNat=i-1 by omega,hgj,ao (show¬ds[i]<=ds[i-1] by omega)];simp only[j5,j6,aP];exact ih
theorem jzC{c:nS}{x:aO}(h:wO c.1.length x):j2Y c x=some 0:=by
 have kT:=h.z0;have p8:=h.z1;have hl:=h.len;have l1:=WD h.day hl x.2.2.length 0 (by omega);have l2:=WE (nm:=x.1) (z:=x.2.1) h.asc hl x.2.2.length 0 (by omega);rw[show ((0:Nat):Int)=0 from rfl]at l1 l2;simp only[j2Y,show Int.ofNat c.1.length=(c.1.length:Int) from rfl,show Int.ofNat x.2.2.length=(x.2.2.length:Int) from rfl,yU kT p8,j3,jw,j6,j3X,j52,l1,l2,rN];rw[ao (by omega)];rfl
theorem WG{zs:List bP}{ps:List dm}{cs:List aO}{ss:List dD}(hn:gr (cs.map (·.1)))(hc:∀x∈cs,wO zs.length x)(hl:cs.length<=100):∀(n i:Nat),i+n=cs.length->DX zs ps cs ss cs (cs.length:Int) (i:Int) (po ((cs.take i).map (·.1)))=some (.inr ())
 |0,i,hi=>by
  rw[UF];simp only[j0O];rw[ao (by omega),j6,aY]
 |n+1,i,hi=>by
  have ak:i<cs.length:=by omega
  have bk:cs.getD i (ByteArray.empty,((0:Int),([]:List Int)))=cs[i]:=by simp[ak]
  have h1:=ET (·.1) hn ak;have h2:=jzC (c:=(zs,(ps,(cs,ss)))) (hc cs[i] (ji ak));rw[UF];simp only[j0O,j9D,j9E];rw[ag (by omega),ba (by omega) (by omega),aj (x:=(i:Int)+1) (by omega) (by omega)];simp only[j5,j7,bk,j3,h1,ju,j6];rw[show j2Y (zs,(ps,(cs,ss))) (cs[i].1,(cs[i].2.1,cs[i].2.2))=_ from h2];simp only[j3,ju,j6,aP];exact WG hn hc hl n (i+1) (by omega)
theorem jzD{zs:List bP}{ps:List dm}{cs:List aO}{ss:List dD}(hn:gr (cs.map (·.1)))(hc:∀x∈cs,wO zs.length x)(hl:cs.length<=100):j2H cs zs ps cs ss=some 0:=by
 have lp:=WG (ps:=ps) (ss:=ss) hn hc hl cs.length 0 (by omega);simp only[j2H,show Int.ofNat cs.length=(cs.length:Int) from rfl];rw[show DX zs ps cs ss cs (cs.length:Int) 0 []=_ from lp];rfl
structure fR(nz np nc:Nat)(l:cb):Prop where
 z0:0<=l.2.1
 z1:l.2.1<nz
 d0:1<=l.2.2.1.1
 day:j18 l.2.2.1.1=some true
 c0:0<=l.2.2.1.2
 c1:l.2.2.1.2<=86399
 u0:0<=l.2.2.2.1
 u1:l.2.2.2.1<=2
 e0:1<=l.2.2.2.2.1
 e1:l.2.2.2.2.1<=400
 m0:l.2.2.2.2.2.1.length≠0
 m1:l.2.2.2.2.2.1.length<=12
 mem:∀m∈l.2.2.2.2.2.1,0<=m/\m<(np:Int)
 w:gu 0 l.2.2.2.2.2.2.1
 wl:l.2.2.2.2.2.2.1.length<=14
 mode0:0<=l.2.2.2.2.2.2.2.2
 mode1:l.2.2.2.2.2.2.2.2<=2
 cal:l.2.2.2.2.2.2.2.2≠0->0<=l.2.2.2.2.2.2.2.1/\l.2.2.2.2.2.2.2.1<(nc:Int)
 cal0:l.2.2.2.2.2.2.2.2=0->l.2.2.2.2.2.2.2.1=0
 w3:l.2.2.2.2.2.2.1.length<=3
 h6:l.2.2.2.1=0->6<=l.2.2.2.2.1
theorem WH{zs:List bP}{ps:List dm}{cs:List aO}{ss:List dD}{ms:List Int}(h:∀m∈ms,0<=m/\m<(ps.length:Int))(hl:ms.length<=12):∀(n i:Nat),i+n=ms.length->HA ms zs ps cs ss (ms.length:Int) (i:Int)=some (.inr ())
 |0,i,hi=>by
  rw[UG];simp only[j0I];rw[ao (by omega),j6,aY]
 |n+1,i,hi=>by
  have ak:i<ms.length:=by omega
  have bk:ms.getD i (0:Int)=ms[i]:=by simp[ak]
  have hm:=h ms[i] (ji ak);rw[UG];simp only[j0I,j6c,show Int.ofNat ps.length=(ps.length:Int) from rfl];rw[ag (by omega),ba (by omega) (by omega),aj (x:=(i:Int)+1) (by omega) (by omega)];simp only[j5,j7,bk,yU hm.1 hm.2,j3,jw,j6,aP];exact WH h hl n (i+1) (by omega)
theorem jzE{c:nS}{l:cb}(h:fR c.1.length c.2.1.length c.2.2.1.length l):j4q c l=some 0:=by
 have kT:=h.z0;have p8:=h.z1;have Pd:=h.d0;have yV:=h.m0;have gp:=h.m1;have l1:=WH (zs:=c.1) (cs:=c.2.2.1) (ss:=c.2.2.2) h.mem gp l.2.2.2.2.2.1.length 0 (by omega);rw[show ((0:Nat):Int)=0 from rfl]at l1
 simp only[j4q,show Int.ofNat c.1.length=(c.1.length:Int) from rfl,show Int.ofNat l.2.2.2.2.2.1.length=(l.2.2.2.2.2.1.length:Int) from rfl,show Int.ofNat c.2.2.1.length=(c.2.2.1.length:Int) from rfl,yU kT p8,j3,jw,j6,h.day,Br h.c0 h.c1,Br h.u0 h.u1,Br h.e0 h.e1,Br h.mode0 h.mode1,
  j2Z,j3Y,l1,rN,Pc h.w h.wl,ju]
 rw[ao (show¬l.2.2.1.1<1 by omega),cP (show¬(l.2.2.2.2.2.1.length:Int)=0 by omega),ao (show¬(l.2.2.2.2.2.1.length:Int)>12 by omega),ao (show¬(-1:Int)>=0 by omega)];simp only[j6];by_cases E9:l.2.2.2.2.2.2.2.2=0
 .rw[E9,h.cal0 E9];rfl
 .have hc:=h.cal E9;rw[show (l.2.2.2.2.2.2.2.2 != 0)=true by simp[E9],cP E9,j5,yU hc.1 hc.2];rfl
theorem WI{zs:List bP}{ps:List dm}{cs:List aO}{ss:List dD}{ls:List cb}(hn:gr (ls.map (·.1)))(hc:∀x∈ls,fR zs.length ps.length cs.length x)(hl:ls.length<=100):∀(n i:Nat),i+n=ls.length->DY zs ps cs ss ls (ls.length:Int) (i:Int) (po ((ls.take i).map (·.1)))=some (.inr ())
 |0,i,hi=>by
  rw[UH];simp only[j19];rw[ao (by omega),j6,aY]
 |n+1,i,hi=>by
  have ak:i<ls.length:=by omega
  have bk:ls.getD i (ByteArray.empty,((0:Int),(((0:Int),(0:Int)),((0:Int),((0:Int),(([]:(List Int)),(([]:(List (Int×Int))),((0:Int),(0:Int)))))))))=ls[i]:=by simp[ak]
  have h1:=ET (·.1) hn ak;have h2:=jzE (c:=(zs,(ps,(cs,ss)))) (hc ls[i] (ji ak));rw[UH];simp only[j19,j53,j54];rw[ag (by omega),ba (by omega) (by omega),aj (x:=(i:Int)+1) (by omega) (by omega)];simp only[j5,j7,bk,j3,h1,ju,j6];rw[show j4q (zs,(ps,(cs,ss))) (ls[i].1,ls[i].2.1,(ls[i].2.2.1.1,ls[i].2.2.1.2),ls[i].2.2.2.1,ls[i].2.2.2.2.1,ls[i].2.2.2.2.2.1,ls[i].2.2.2.2.2.2.1,ls[i].2.2.2.2.2.2.2.1,ls[i].2.2.2.2.2.2.2.2)=_ from h2];simp only[j3,ju,j6,aP];exact WI hn hc hl n (i+1) (by omega)
theorem jzF{zs:List bP}{ps:List dm}{cs:List aO}{ss:List dD}{ls:List cb}(hn:gr (ls.map (·.1)))(hc:∀x∈ls,fR zs.length ps.length cs.length x)(hl:ls.length<=100):j3G ls zs ps cs ss=some 0:=by
 have lp:=WI (ss:=ss) hn hc hl ls.length 0 (by omega);simp only[j3G,show Int.ofNat ls.length=(ls.length:Int) from rfl];rw[show DY zs ps cs ss ls (ls.length:Int) 0 []=_ from lp];rfl
structure pt(np:Nat)(x:eU):Prop where
 k0:0<=x.1
 k1:x.1<=2
 a:0<=x.2.1/\x.2.1<(np:Int)\/x.1=1/\x.2.1 = -1
 b:x.1=2->0<=x.2.2.1/\x.2.2.1<(np:Int)/\x.2.1≠x.2.2.1
 b0:x.1≠2->x.2.2.1=0
 f0:0<=x.2.2.2.1
 ft:x.2.2.2.1<x.2.2.2.2
 t1:x.2.2.2.2<=1000000000000
 day:j18 (Int.tdiv x.2.2.2.2 86400)=some true
theorem jzG{c:nS}{x:eU}(h:pt c.2.1.length x):j55 c x=some 0:=by
 have Gp:=h.f0;have jM:=h.ft;have WJ:=h.t1;have yW:=h.day;have Iq:w64 (Int.tdiv x.2.2.2.2 86400)=Int.tdiv x.2.2.2.2 86400:=by rw[yO (by omega)];exact aj (by omega) (by omega)
 simp only[j55,show Int.ofNat c.2.1.length=(c.2.1.length:Int) from rfl,Br h.k0 h.k1,j3,jw,j6,Iq,yW];rw[ao (show¬x.2.2.2.1<0 by omega),ao (show¬x.2.2.2.2<0 by omega),ao (show¬x.2.2.2.1>=x.2.2.2.2 by omega)];simp only[j6]
 have hA:∃b,j1D x.2.1 (c.2.1.length:Int)=some b/\cond (!b) (!(cond (x.1==(1:Int)) (x.2.1==(-1:Int)) false)) false=false:=by
  rcases h.a with⟨a1,a2⟩|⟨a1,a2⟩
  .exact⟨true,yU a1 a2,rfl⟩
  .exact⟨false,jzy (by omega),by rw[a1,a2];rfl⟩
 obtain⟨b,e1,e2⟩:=hA;rw[e1];simp only[j3,e2,j6];by_cases h2:x.1=2
 .obtain⟨b1,b2,b3⟩:=h.b h2;rw[ff h2,j5,yU b1 b2,show (x.1 != 2)=false by rw[h2];rfl,cP b3];rfl
 .rw[cP h2,j6,show (x.1 != 2)=true by simp[h2],h.b0 h2];rfl
theorem WK{zs:List bP}{ps:List dm}{cs:List aO}{ss:List dD}{es:List eU}(hc:∀x∈es,pt ps.length x)(hl:es.length<=48):∀(n i:Nat),i+n=es.length->HB es (es.length:Int) (i:Int) zs ps cs ss=some (.inr ())
 |0,i,hi=>by
  rw[UI];simp only[j1p];rw[ao (by omega),j6,aY]
 |n+1,i,hi=>by
  have ak:i<es.length:=by omega
  have bk:es.getD i ((0:Int),((0:Int),((0:Int),((0:Int),(0:Int)))))=es[i]:=by simp[ak]
  have h2:=jzG (c:=(zs,(ps,(cs,ss)))) (hc es[i] (ji ak));rw[UI];simp only[j1p];rw[ag (by omega),ba (by omega) (by omega),aj (x:=(i:Int)+1) (by omega) (by omega)];simp only[j5,j7,bk];rw[show j55 (zs,(ps,(cs,ss))) (es[i].1,es[i].2.1,es[i].2.2.1,es[i].2.2.2.1,es[i].2.2.2.2)=_ from h2];simp only[j3,ju,j6,aP];exact WK hc hl n (i+1) (by omega)
structure sO(nz np nc:Nat)(s:dD):Prop where
 nm:gr (s.2.1.map (·.1))
 ly:∀x∈s.2.1,fR nz np nc x
 ll:s.2.1.length<=6
 ed:∀x∈s.2.2,pt np x
 el:s.2.2.length<=48
theorem jzH{c:nS}{s:dD}(h:sO c.1.length c.2.1.length c.2.2.1.length s):j30 c s=some 0:=by
 have fM:=h.ll;have fg:=h.el;have lp:=WK (zs:=c.1) (ps:=c.2.1) (cs:=c.2.2.1) (ss:=c.2.2.2) h.ed fg s.2.2.length 0 (by omega);rw[show ((0:Nat):Int)=0 from rfl]at lp;simp only[j30,show Int.ofNat s.2.1.length=(s.2.1.length:Int) from rfl,show Int.ofNat s.2.2.length=(s.2.2.length:Int) from rfl];rw[ao (show¬(s.2.1.length:Int)>6 by omega),ao (show¬(s.2.2.length:Int)>48 by omega)];simp only[j6,jzF (zs:=c.1) (ps:=c.2.1) (cs:=c.2.2.1) (ss:=c.2.2.2) h.nm h.ly (by omega),j3,ju,lp,rN]
theorem WM{zs:List bP}{ps:List dm}{cs:List aO}{ss:List dD}(hn:gr (ss.map (·.1)))(hc:∀x∈ss,sO zs.length ps.length cs.length x)(hl:ss.length<=100):∀(n i:Nat),i+n=ss.length->DZ zs ps cs ss ss (ss.length:Int) (i:Int) (po ((ss.take i).map (·.1)))=some (.inr ())
 |0,i,hi=>by
  rw[UJ];simp only[j0P];rw[ao (by omega),j6,aY]
 |n+1,i,hi=>by
  have ak:i<ss.length:=by omega
  have bk:ss.getD i (ByteArray.empty,(([]:List cb),([]:List eU)))=ss[i]:=by simp[ak]
  have h1:=ET (·.1) hn ak;have h2:=jzH (c:=(zs,(ps,(cs,ss)))) (hc ss[i] (ji ak));rw[UJ];simp only[j0P,j9F,j9G];rw[ag (by omega),ba (by omega) (by omega),aj (x:=(i:Int)+1) (by omega) (by omega)];simp only[j5,j7,bk,j3,h1,ju,j6];rw[show j30 (zs,(ps,(cs,ss))) (ss[i].1,(ss[i].2.1,ss[i].2.2))=_ from h2];simp only[j3,ju,j6,aP];exact WM hn hc hl n (i+1) (by omega)
structure uE(c:nS):Prop where
 zn:gr (c.1.map (·.1))
 zc:∀z∈c.1,Bs z
 zl:c.1.length<=16
 pn:gr (c.2.1.map (·.1))
 pc:∀p∈c.2.1,Ip c.1.length p
 pl:c.2.1.length<=32
 cn:gr (c.2.2.1.map (·.1))
 cc:∀x∈c.2.2.1,wO c.1.length x
 cl:c.2.2.1.length<=8
 sn:gr (c.2.2.2.map (·.1))
 sc:∀x∈c.2.2.2,sO c.1.length c.2.1.length c.2.2.1.length x
 sl:c.2.2.2.length<=12
theorem jpS{c:nS}(h:uE c):j7Z c=some 0:=by
 have jU:=h.zl;have kZ:=h.pl;have eN:=h.cl;have eE:=h.sl;have lp:=WC (zs:=c.1) (cs:=c.2.2.1) (ss:=c.2.2.2) h.pn h.pc (by omega) c.2.1.length 0 (by omega);have ls:=WM (zs:=c.1) (ps:=c.2.1) (cs:=c.2.2.1) h.sn h.sc (by omega) c.2.2.2.length 0 (by omega);simp only[j7Z,show Int.ofNat c.1.length=(c.1.length:Int) from rfl,show Int.ofNat c.2.1.length=(c.2.1.length:Int) from rfl,show Int.ofNat c.2.2.1.length=(c.2.2.1.length:Int) from rfl,show Int.ofNat c.2.2.2.length=(c.2.2.2.length:Int) from rfl];rw[ao (show¬(c.1.length:Int)>16 by omega),ao (show¬(c.2.1.length:Int)>32 by omega),ao (show¬(c.2.2.1.length:Int)>8 by omega),ao (show¬(c.2.2.2.length:Int)>12 by omega)];simp only[j6,jzA h.zn h.zc (by omega),j3,ju];rw[show D0 c.2.1 (c.2.1.length:Int) 0 c.1 c.2.1 c.2.2.1 c.2.2.2 []=_ from lp];simp only[j3,rN,jzD (zs:=c.1) (ps:=c.2.1) (cs:=c.2.2.1) (ss:=c.2.2.2) h.cn h.cc (by omega),ju,j6,j4g,show Int.ofNat c.2.2.2.length=(c.2.2.2.length:Int) from rfl];rw[show DZ c.1 c.2.1 c.2.2.1 c.2.2.2 c.2.2.2 (c.2.2.2.length:Int) 0 []=_ from ls];rfl
def gj:List ByteArray:=[(ByteArray.mk #[97,100,97]),(ByteArray.mk #[98,111,98]),(ByteArray.mk #[99,108,101,111]),(ByteArray.mk #[100,97,110]),(ByteArray.mk #[101,118,101]),(ByteArray.mk #[102,97,121]),(ByteArray.mk #[103,117,115]),(ByteArray.mk #[104,97,108])]
def r7:List ByteArray:=[(ByteArray.mk #[104,101,114,101]),(ByteArray.mk #[116,104,101,114,101])]
theorem WN:jev=some gj:=rfl
theorem WO:gr gj:=by
 refine⟨by decide,λk hk=>?_⟩;simp only[gj,jc,vz,or_false]at hk;rcases hk with rfl|rfl|rfl|rfl|rfl|rfl|rfl|rfl<;>exact Ij 60 _ true (by kernel_rfl)
theorem jxq:gr r7:=by
 refine⟨by decide,λk hk=>?_⟩;simp only[r7,jc,vz,or_false]at hk;rcases hk with rfl|rfl<;>exact Ij 60 _ true (by kernel_rfl)
theorem gr.take{l:List ByteArray}(h:gr l)(n:Nat):gr (l.take n):=⟨h.1.sublist (List.take_sublist n l),λk hk=>h.2 k (kp hk)⟩
theorem gr.one{s:ByteArray}(h:j6z s=some true):gr [s]:=⟨by simp,λk hk=>by simp at hk;subst hk;exact h⟩
theorem gr.nil:gr []:=⟨zg,by simp⟩
theorem jxr:j6z (ByteArray.mk #[100,97,121,115])=some true:=Ij 60 _ true (by kernel_rfl)
theorem jxs:∀k∈gj,(ByteArray.toList k==ByteArray.toList (ByteArray.mk #[110,111,98,111,100,121]))=false:=by
 intro k hk;simp only[gj,jc,vz,or_false]at hk;rcases hk with rfl|rfl|rfl|rfl|rfl|rfl|rfl|rfl<;>kernel_rfl
theorem jvF:((List.range 61).all λi=>jmQ 60 (20440+(i:Int))==some true)=true:=by kernel_rfl
theorem Pe{d:Int}(h1:20440<=d)(h2:d<=20500):j18 d=some true:=by
 have h:=jq.1 jvF (d-20440).toNat (yl.2 (by omega));rw[show (20440:Int)+(((d-20440).toNat:Nat):Int)=d by omega]at h;exact jkx 60 d true (eq_of_beq h)
theorem t60{x:Int}(h:x%60=0):Int.tmod x 60=0:=by
 have:=ES x 60;rw[h]at this;simpa using this
theorem Fa{P:aT->Prop}{r s:aT}(h1:P r)(h2:P s):∀x∈[r,s],P x:=by
 intro x hx;simp at hx;rcases hx with rfl|rfl
 .exact h1
 .exact h2
theorem jxt{L:List Int}{a:Int}(h:dx L a)(nm:ByteArray):∃o rs a',j3O L a nm=some ((nm,(o,rs)),L,a')/\Int.tmod o 60=0/\∀r∈rs,Int.tmod r.2.2.2.2.2.2 60=0:=by
 obtain⟨p,a1,e1,m1,d1⟩:=nR h (xs:=[(0:Int),(4:Int),(-20:Int),(22:Int),(48:Int),(-47:Int)]) (by simp) (by simp);obtain⟨x2,a2,e2,x20,x21,d2⟩:=dg (n:=2) d1 (by omega) (by omega);obtain⟨x3,a3,e3,x30,x31,d3⟩:=dg (n:=3) d2 (by omega) (by omega);obtain⟨y,a4,e4,y0,y1,d4⟩:=dg (n:=2) d3 (by omega) (by omega);obtain⟨q,a5,e5,q0,q1,d5⟩:=dg (n:=4) d4 (by omega) (by omega);have hp : -47<=p/\p<=48:=by simp at m1;omega
 have hmul:0<=x2*x3/\x2*x3<=2:=by
  obtain rfl|rfl:x2=0\/x2=1:=by omega
  all_goals omega
 have mj : -43200<=900*(p+x2*x3):=by omega
 have iW:900*(p+x2*x3)<=45000:=by omega
 have nw:(900*(p+x2*x3))%60=0:=by omega
 simp only[j3O,e1,e2,e3,e4,e5,j3];rw[aj (x:=x2*x3) (by omega) (by omega),aj (x:=p+x2*x3) (by omega) (by omega),aj (x:=900*(p+x2*x3)) (by omega) (by omega),aj (x:=2025+y) (by omega) (by omega)];generalize 900*(p+x2*x3)=o at *;generalize 2025+y=last at *;by_cases yT:q=1
 .rw[ff yT,j5,aj (x:=o+3600) (by omega) (by omega)];exact⟨_,_,_,rfl,t60 nw,Fa (P:=λr=>Int.tmod r.2.2.2.2.2.2 60=0) (t60 (show (o+3600)%60=0 by omega)) (t60 nw)⟩
 .rw[cP yT,j6];by_cases E3:q=2
  .rw[ff E3,j5];obtain⟨b1,c1,f1,b10,b11,g1⟩:=dg (n:=4) d5 (by omega) (by omega);obtain⟨b2,c2,f2,Bp,O9,g2⟩:=dg (n:=7) g1 (by omega) (by omega);obtain⟨b3,c3,f3,Pa,Pb,g3⟩:=dg (n:=24) g2 (by omega) (by omega);obtain⟨b4,c4,f4,b40,b41,g4⟩:=dg (n:=8) g3 (by omega) (by omega);obtain⟨b5,c5,f5,b50,b51,g5⟩:=dg (n:=2) g4 (by omega) (by omega);obtain⟨b6,c6,f6,m6,g6⟩:=nR g5 (xs:=[(2:Int),(3:Int),(5:Int)]) (by simp) (by simp);obtain⟨b7,c7,f7,Wu,b71,g7⟩:=dg (n:=7) g6 (by omega) (by omega);obtain⟨b8,c8,f8,b80,b81,g8⟩:=dg (n:=24) g7 (by omega) (by omega);simp only[f1,f2,f3,f4,f5,f6,f7,f8,j3];rw[aj (x:=1+b4) (by omega) (by omega),aj (x:=1800*(1+b4)) (by omega) (by omega),aj (x:=o+1800*(1+b4)) (by omega) (by omega)];exact⟨_,_,_,rfl,t60 nw,Fa (P:=λr=>Int.tmod r.2.2.2.2.2.2 60=0) (t60 (show (o+1800*(1+b4))%60=0 by omega)) (t60 nw)⟩
  .rw[cP E3,j6];by_cases E4:q=3
   .rw[ff E4,j5];obtain⟨b1,c1,f1,m1,g1⟩:=nR d5 (xs:=[(3600:Int),(-3600:Int),(82800:Int),(-82800:Int),(43200:Int)]) (by simp) (by simp);obtain⟨b2,c2,f2,Bp,O9,g2⟩:=dg (n:=7) g1 (by omega) (by omega);obtain⟨b3,c3,f3,Pa,Pb,g3⟩:=dg (n:=48) g2 (by omega) (by omega);have di : -82800<=b1/\b1<=82800/\b1%60=0:=by simp at m1;omega
    simp only[f1,f2,f3,j3];rw[aj (x:=o+b1) (by omega) (by omega)];cases cond (decide (o+b1>64800)) true (decide (o+b1 < -64800)) with
    |true=>exact⟨_,_,_,rfl,t60 nw,λr hr=>by simp at hr;subst hr;rfl⟩
    |false=>exact⟨_,_,_,rfl,t60 nw,λr hr=>by simp at hr;subst hr;exact t60 (by dsimp only;omega)⟩
   .rw[cP E4,j6];exact⟨_,_,_,rfl,t60 nw,by simp⟩
theorem jvG{L:List Int}{a:Int}(h:dx L a)(nm:ByteArray):∃o rs a',j3O L a nm=some ((nm,(o,rs)),L,a')/\MZ o rs/\Bs (nm,(o,rs))/\dx L a':=by
 obtain⟨o,rs,a1,e1,m1,d1⟩:=jxp h nm;obtain⟨o',rs',a2,e2,m2,m3⟩:=jxt h nm;have:=e1.symm.trans e2;simp only[j4,j8,q9]at this;obtain⟨⟨rfl,rfl⟩,rfl⟩:=this;have ht:=(m1.tab nm).1;have hl:=m1.len;exact⟨o,rs,a1,e1,m1,⟨by simp only[jc8,show j3o (nm,(o,rs))=_ from ht,j3],m2,m3,by dsimp only;omega⟩,d1⟩
structure yX(zs:List bP):Prop where
 ok:∀z∈zs,pr z
 ck:∀z∈zs,Bs z
 nm:zs.map (·.1)=r7.take zs.length
theorem Ir{l:List ByteArray}{n:Nat}(hn:n<l.length):l.take n++[l.getD n ByteArray.empty]=l.take (n+1):=by
 rw[qa,jk hn];simp[hn]
theorem WQ{L:List Int}:∀(n:Nat)(a:Int)(zs:List bP),dx L a->zs.length+n<=2->yX zs->
  ∃Ax a',Hk (n:Int) L a zs=some (L,a',Ax)/\Ax.length=zs.length+n/\yX Ax/\dx L a'
 |0,a,zs,hd,_,hz=>by
  rw[Um];simp only[j2q];rw[ao (by omega),j6,aY];exact⟨zs,a,rfl,rfl,hz,hd⟩
 |n+1,a,zs,hd,hl,hz=>by
  obtain⟨o,rs,a1,e1,m1,k1,d1⟩:=jvG hd (List.getD r7 zs.length ByteArray.empty)
  obtain⟨Ax,a',e2,h2,h3,h4⟩:=WQ n a1 (zs++[(List.getD r7 zs.length ByteArray.empty,(o,rs))]) d1 (by simp;omega) ⟨λz CI=>by
   rcases jm.1 CI with h|h
   .exact hz.ok z h
   .simp at h;subst h;exact m1,λz CI=>by
   rcases jm.1 CI with h|h
   .exact hz.ck z h
   .simp at h;subst h;exact k1,by
   rw[zq,hz.nm,jf];exact Ir (by show zs.length<2;omega)⟩
  rw[Um];simp only[j2q,show Int.ofNat (List.length zs)=(zs.length:Int) from rfl];rw[ag (by omega),ba (show (0:Int)<=(zs.length:Int) by omega) (by simp;omega)];simp only[j5,j7];rw[show j3O L a (List.getD [(ByteArray.mk #[104,101,114,101]),(ByteArray.mk #[116,104,101,114,101])] zs.length ByteArray.empty)=_ from e1];simp only[j3];rw[ag (by simp[aQ];omega),aj (x:=((n+1:Nat):Int)-1) (by omega) (by omega)];simp only[j5,aP];rw[show ((n+1:Nat):Int)-1=(n:Int) by omega];exact⟨Ax,a',e2,by rw[h2];simp;omega,h3,h4⟩
structure uF(nz:Nat)(ps:List dm):Prop where
 ck:∀p∈ps,Ip nz p
 nm:ps.map (·.1)=gj.take ps.length
theorem WR{n:Int}(h0:0<=n)(h1:n<=168):j5u (w64 (3600*n))=some true:=by
 rw[aj (by omega) (by omega)];simp only[j5u,Br (show 0<=3600*n by omega) (show 3600*n<=604800 by omega),j3,j5];rw[ES,ff (show (3600*n)%3600=0 by omega)]
theorem Pg{L:List Int}{zs:List bP}(kT:1<=zs.length)(p8:zs.length<=100):∀(n:Nat)(a:Int)(ps:List dm),dx L a->ps.length+n<=4->uF zs.length ps->
  ∃yY a',Hl (n:Int) L a zs ps=some (L,a',zs,yY)/\yY.length=ps.length+n/\uF zs.length yY/\dx L a'
 |0,a,ps,hd,_,hp=>by
  rw[Un];simp only[j2r];rw[ao (by omega),j6,aY];exact⟨ps,a,rfl,rfl,hp,hd⟩
 |n+1,a,ps,hd,hl,hp=>by
  obtain⟨x,a1,e1,x0,x1,d1⟩:=dg (n:=(zs.length:Int)) hd (by omega) (by omega);obtain⟨b,a2,e2,d2⟩:=Bq (n:=3) d1 (by omega) (by omega);obtain⟨c,a3,e3,d3⟩:=Bq (n:=2) d2 (by omega) (by omega);have bT:ps.length<gj.length:=by show ps.length<8;omega
  have eb:gj.getD ps.length ByteArray.empty∈gj:=by rw[List.getD_eq_getElem?_getD,jk bT];exact ji bT
  have ext:∀(w:WL)(p q:Int),gu 0 w->w.length<=14->p∈[(0:Int),(40:Int),(100:Int),(12:Int)]->q∈[(0:Int),(11:Int),(24:Int),(1:Int)]->
    uF zs.length (ps++[(gj.getD ps.length ByteArray.empty,(x,(w,(w64 (3600*p),(w64 (3600*q),b)))))]):=by
   intro w p q hw iX tY Fb;have xf:0<=p/\p<=168:=by simp at tY;omega
   have Ap:0<=q/\q<=168:=by simp at Fb;omega
   refine⟨λr hr=>?_,?_⟩
   .rcases jm.1 hr with h|h
    .exact hp.ck r h
    .simp at h;subst h;exact⟨jxs _ eb,x0,x1,hw,iX,WR xf.1 xf.2,WR Ap.1 Ap.2⟩
   .rw[zq,hp.nm,jf];exact Ir bT
  rw[Un];simp only[j2r,WN,j3,show Int.ofNat (List.length ps)=(ps.length:Int) from rfl,show Int.ofNat (List.length zs)=(zs.length:Int) from rfl];rw[ag (by omega),ba (show (0:Int)<=(ps.length:Int) by omega) (by omega)];simp only[j5,e1,e2,e3,j3];rw[aj (x:=((n+1:Nat):Int)-1) (by omega) (by omega),show ((n+1:Nat):Int)-1=(n:Int) by omega];cases c with
  |true=>obtain⟨w,a4,e4,hw,iX,d4⟩:=Io d3;obtain⟨p,a5,e5,tY,d5⟩:=nR d4 (xs:=[(0:Int),(40:Int),(100:Int),(12:Int)]) (by simp) (by simp);obtain⟨q,a6,e6,Fb,d6⟩:=nR d5 (xs:=[(0:Int),(11:Int),(24:Int),(1:Int)]) (by simp) (by simp);simp only[j5,e4,e5,e6,j3];rw[ag (by simp[aQ];omega)];simp only[j5,aP];obtain⟨yY,a',e,h1,h2,h3⟩:=Pg kT p8 n a6 _ d6 (by simp;omega) (ext w p q hw (by omega) tY Fb);exact⟨yY,a',e,by rw[h1];simp;omega,h2,h3⟩
  |false=>obtain⟨p,a5,e5,tY,d5⟩:=nR d3 (xs:=[(0:Int),(40:Int),(100:Int),(12:Int)]) (by simp) (by simp);obtain⟨q,a6,e6,Fb,d6⟩:=nR d5 (xs:=[(0:Int),(11:Int),(24:Int),(1:Int)]) (by simp) (by simp);simp only[j6,e5,e6,j3];rw[ag (by simp[aQ];omega)];simp only[j5,aP];obtain⟨yY,a',e,h1,h2,h3⟩:=Pg kT p8 n a6 _ d6 (by simp;omega) (ext [] p q (show (0:Int)<=604800 by omega) (by simp) tY Fb);exact⟨yY,a',e,by rw[h1];simp;omega,h2,h3⟩
def yZ(q:Int)(ds:List Int):Prop:=ds.Pairwise (· < ·)/\∀d∈ds,20454<d/\d<=q
theorem WS{L:List Int}{s:Int}{nm:ByteArray}{z:Int}{zs:List bP}{ps:List dm}{cs:List aO}:∀(n:Nat)(a day:Int)(ds:List Int),dx L a->ds.length+n<=4->20454<=day->day+6*n<=20480->yZ day ds->
  ∃Pj a',Hm s (n:Int) day L a nm z zs ps cs ds=some (s,L,a',nm,z,zs,ps,cs,Pj)/\Pj.length<=4/\yZ 20480 Pj/\dx L a'
 |0,a,day,ds,hd,hl,hy,J7,hi=>by
  rw[Uo];simp only[j2s];rw[ao (by omega),j6,aY];exact⟨ds,a,rfl,by omega,⟨hi.1,λd hd=>by have:=hi.2 d hd;omega⟩,hd⟩
 |n+1,a,day,ds,hd,hl,hy,J7,hi=>by
  obtain⟨x,a1,e1,x0,x1,d1⟩:=dg (n:=6) hd (by omega) (by omega);rw[Uo];simp only[j2s];rw[ag (by omega),aj (x:=((n+1:Nat):Int)-1) (by omega) (by omega),show ((n+1:Nat):Int)-1=(n:Int) by omega];simp only[j5,e1,j3];rw[ag (by simp[aQ];omega),aj (x:=1+x) (by omega) (by omega),aj (x:=day+(1+x)) (by omega) (by omega)];simp only[j5,aP];refine WS n a1 _ _ d1 (by simp;omega) (by omega) (by omega) ⟨vu.2 ⟨hi.1,by simp,λu hu v hv=>?_⟩,λd hd=>?_⟩
  .simp at hv;subst hv;have:=hi.2 u hu;omega
  .rcases jm.1 hd with h|h
   .have:=hi.2 d h;omega
   .simp at h;omega
structure Fc(nz:Nat)(cs:List aO):Prop where
 ck:∀c∈cs,wO nz c
 nm:gr (cs.map (·.1))
 len:cs.length<=1
 dl:∀c∈cs,c.2.2.length<=4
theorem jyJ{nz:Nat}{nm:ByteArray}{x:Int}{ds:List Int}(x0:0<=x)(x1:x<nz)(hl:ds.length<=64)(hi:yZ 20480 ds):wO nz (nm,(x,ds)):=
 ⟨x0,x1,hl,λd hd=>Pe (by have:=hi.2 d hd;omega) (by have:=hi.2 d hd;omega),hi.1⟩
structure cQ(zs:List bP)(ps:List dm)(cs:List aO):Prop where
 so:E7 zs ps cs
 z:yX zs
 p:uF zs.length ps
 c:Fc zs.length cs
theorem jtY{L:List Int}{a:Int}(h:dx L a):∃zs ps cs a',j7V L a=some ((zs,(ps,(cs,([]:List dD)))),L,a')/\cQ zs ps cs/\dx L a':=by
 obtain⟨x,a1,e1,x0,x1,d1⟩:=dg (n:=2) h (by omega) (by omega);obtain⟨zs,a2,e2,l2,k2,d2⟩:=WQ (1+x).toNat a1 [] d1 (by simp;omega) ⟨by simp,by simp,rfl⟩;obtain⟨y,a3,e3,y0,y1,d3⟩:=dg (n:=4) d2 (by omega) (by omega);simp at l2;obtain⟨ps,a4,e4,l4,k4,d4⟩:=Pg (zs:=zs) (by omega) (by omega) (1+y).toNat a3 [] d3 (by simp;omega) ⟨by simp,rfl⟩;obtain⟨q,a5,e5,q0,q1,d5⟩:=dg (n:=2) d4 (by omega) (by omega);simp at l4
 have dM:∃cs a',Hn q L a5 zs ps []=some (L,a',zs,ps,cs)/\Fc zs.length cs/\dx L a':=by
  by_cases hq:q=0
  .subst hq;rw[Mr];simp only[j1C];rw[ao (by omega),j6,aY];exact⟨[],a5,rfl,⟨by simp,gr.nil,by simp,by simp⟩,d5⟩
  .have yT:q=1:=by omega
   subst yT;obtain⟨x,a6,e6,x0,x1,d6⟩:=dg (n:=(zs.length:Int)) d5 (by omega) (by omega);obtain⟨y,a7,e7,y0,y1,d7⟩:=dg (n:=4) d6 (by omega) (by omega);obtain⟨ds,a8,e8,l8,k8,d8⟩:=WS (s:=(1:Int)) (nm:=ByteArray.mk #[100,97,121,115]) (z:=x) (zs:=zs) (ps:=ps) (cs:=[]) y.toNat a7 20454 [] d7 (by simp;omega) (by omega) (by omega) ⟨by simp,by simp⟩;rw[show ((y.toNat:Nat):Int)=y by omega]at e8;rw[Mr];simp only[j1C,show Int.ofNat (List.length zs)=(zs.length:Int) from rfl];rw[ag (by omega)];simp only[j5,e6,e7,e8,j3];rw[ag (by simp[aQ]),aj (x:=(1:Int)-1) (by omega) (by omega)];simp only[j5,aP];rw[Mr];simp only[j1C];rw[ao (by omega),j6,aY];refine⟨_,a8,rfl,⟨λc hc=>?_,gr.one jxr,by simp,λc hc=>by simp at hc;subst hc;exact l8⟩,d8⟩;simp at hc;subst hc;exact jyJ x0 x1 (by omega) k8
 obtain⟨cs,a6,e6,k6,d6⟩:=dM;rw[show (((1+x).toNat:Nat):Int)=1+x by omega]at e2;rw[show (((1+y).toNat:Nat):Int)=1+y by omega]at e4;simp only[j7V,e1,j3];rw[aj (x:=1+x) (by omega) (by omega)];simp only[e2,e3,j3];rw[aj (x:=1+y) (by omega) (by omega)];simp only[e4,e5,e6,j3];exact⟨zs,ps,cs,a6,rfl,⟨⟨by omega,by omega,k2.ok,by omega,by omega,k6.len⟩,k2,k4,k6⟩,d6⟩
end Go.Proofs.Pw
