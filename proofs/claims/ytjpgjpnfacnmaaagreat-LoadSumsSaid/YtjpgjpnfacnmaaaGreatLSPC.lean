/- gX 8: fM that are right. -/
import Derived.Test.YtjpgjpnfacnmaaaGreatLSPA
import Derived.Test.YtjpgjpnfacnmaaaGreatLSPB
import Derived.KernelRfl
open Go Go.Lft
namespace Go.Proofs.Pw
abbrev dA:=Int×(Int×(Int×(Int×Int)))
abbrev ox:=List br×(List cZ×(List aX×List cF))
theorem Ce{n lo hi:Int}(h1:lo<=n)(h2:n<=hi):j7r n lo hi=some true:=by
 simp only[j7r];rw[ag (show n>=lo from h1),ag h2];rfl
theorem Ae{i n:Int}(h1:0<=i)(h2:i<n):j1B i n=some true:=by
 simp only[j1B];rw[ag (show i>=0 from h1),ag h2];rfl
theorem jFE{i n:Int}(h1:i<0):j1B i n=some false:=by
 simp only[j1B];rw[ah (show¬i>=0 by omega)];rfl
structure xj(z:br):Prop where
 ck:jeh z=some 0
 o60:Int.tmod z.2.1 60=0
 r60:∀r∈z.2.2,Int.tmod r.2.2.2.2.2.2 60=0
 len:z.2.2.length<=1000
theorem Zg{rs:List aD}(h:∀r∈rs,Int.tmod r.2.2.2.2.2.2 60=0)(hl:rs.length<=1000):∀(n i:Nat),i+n=rs.length->Iq rs (rs.length:Int) (i:Int)=some (.inr ())
 |0,i,hi=>by
  rw[Wx];simp only[j0g];rw[ah (by omega),j7,aW]
 |n+1,i,hi=>by
  have ak:i<rs.length:=by omega
  have aR:rs.getD i ((0:Int),((0:Int),((0:Int),((0:Int),((0:Int),((0:Int),(0:Int)))))))=rs[i]:=by simp[ak]
  have:=h rs[i] (jf ak);rw[Wx];simp only[j0g,j7M];rw[ag (by omega),bz,ai (x:=(i:Int)+1)];simp only[j6,j8,aR,j4,this,jh,j7,aK];exact Zg h hl n (i+1) (by omega)
theorem jFF{z:br}(h:xj z):j5m z=some 0:=by
 have lp:=Zg h.r60 h.len z.2.2.length 0 (by omega);rw[show ((0:Nat):Int)=0 from rfl]at lp;simp only[j5m,show jeh (z.1,(z.2.1,z.2.2))=_ from h.ck,j4,h.o60,jh,j7,j16,j1k,show Int.ofNat z.2.2.length=(z.2.2.length:Int) from rfl,lp,nw];rfl
theorem Zh{zs:List br}(hn:fq (zs.map (·.1)))(hc:∀z∈zs,xj z)(hl:zs.length<=100):∀(n i:Nat),i+n=zs.length->Ew zs (zs.length:Int) (i:Int) (pP ((zs.take i).map (·.1)))=some (.inr ())
 |0,i,hi=>by
  rw[Wy];simp only[j1c];rw[ah (by omega),j7,aW]
 |n+1,i,hi=>by
  have ak:i<zs.length:=by omega
  have aR:zs.getD i (ByteArray.empty,((0:Int),([]:List aD)))=zs[i]:=by simp[ak]
  have h1:=FU (·.1) hn ak;have h2:=jFF (hc zs[i] (jf ak));rw[Wy];simp only[j1c,jaR];rw[ag (by omega),bz,ai (x:=(i:Int)+1)];simp only[j6,j8,aR,j4,h1,jh,j7];rw[show j5m (zs[i].1,(zs[i].2.1,zs[i].2.2))=_ from h2];simp only[j4,jh,j7,aK];exact Zh hn hc hl n (i+1) (by omega)
theorem jFG{zs:List br}(hn:fq (zs.map (·.1)))(hc:∀z∈zs,xj z)(hl:zs.length<=100):j4k zs=some 0:=by
 have lp:=Zh hn hc hl zs.length 0 (by omega);simp only[j4k,show Int.ofNat zs.length=(zs.length:Int) from rfl];rw[show Ew zs (zs.length:Int) 0 []=_ from lp];rfl
structure F8(nz:Nat)(p:cZ):Prop where
 nb:(ByteArray.toList p.1==ByteArray.toList (ByteArray.mk #[110,111,98,111,100,121]))=false
 z0:0<=p.2.1
 z1:p.2.1<nz
 w:ei 0 p.2.2.1
 wl:p.2.2.1.length<=14
 m:j4A p.2.2.2.1=some true
 r:j4A p.2.2.2.2.1=some true
theorem jFH{c:ox}{p:cZ}(h:F8 c.1.length p):j2K c p=some 0:=by
 have rb:=h.z0;have rh:=h.z1;simp only[j2K,show Int.ofNat c.1.length=(c.1.length:Int) from rfl,Ae rb rh,j4,jl,j7,QW h.w h.wl,jh,h.m,h.r]
theorem Zi{zs:List br}{ps:List cZ}{cs:List aX}{ss:List cF}(hn:fq (ps.map (·.1)))(hc:∀p∈ps,F8 zs.length p)(hl:ps.length<=100):∀(n i:Nat),i+n=ps.length->EB ps (ps.length:Int) (i:Int) zs ps cs ss (pP ((ps.take i).map (·.1)))=some (.inr (zs,ps,cs,ss))
 |0,i,hi=>by
  rw[WI];simp only[j2Z];rw[ah (by omega),j7,aW]
 |n+1,i,hi=>by
  have ak:i<ps.length:=by omega
  have aR:ps.getD i (ByteArray.empty,((0:Int),(([]:List (Int×Int)),((0:Int),((0:Int),false)))))=ps[i]:=by simp[ak]
  have h1:=FU (·.1) hn ak;have hp:=hc ps[i] (jf ak);have h2:=jFH (c:=(zs,(ps,(cs,ss)))) hp;rw[WI];simp only[j2Z];rw[ag (by omega),bz,ai (x:=(i:Int)+1)];simp only[j6,j8,aR,j4,h1,hp.nb,qd,j7];rw[show j2K (zs,(ps,(cs,ss))) (ps[i].1,(ps[i].2.1,(ps[i].2.2.1,(ps[i].2.2.2.1,(ps[i].2.2.2.2.1,ps[i].2.2.2.2.2)))))=_ from h2];simp only[j4,jh,j7,aK];exact Zi hn hc hl n (i+1) (by omega)
structure pT(nz:Nat)(c:aX):Prop where
 z0:0<=c.2.1
 z1:c.2.1<nz
 len:c.2.2.length<=64
 day:∀d∈c.2.2,j0A d=some true
 asc:c.2.2.Pairwise (· < ·)
theorem Zj{ds:List Int}(h:∀d∈ds,j0A d=some true)(hl:ds.length<=64):∀(n i:Nat),i+n=ds.length->Is ds (ds.length:Int) (i:Int)=some (.inr ())
 |0,i,hi=>by
  rw[WA];simp only[j11];rw[ah (by omega),j7,aW]
 |n+1,i,hi=>by
  have ak:i<ds.length:=by omega
  have aR:ds.getD i (0:Int)=ds[i]:=by simp[ak]
  have:=h ds[i] (jf ak);rw[WA];simp only[j11,j5n];rw[ag (by omega),bz,ai (x:=(i:Int)+1)];simp only[j6,j8,aR,this,j4,jl,j7,aK];exact Zj h hl n (i+1) (by omega)
theorem Zk{nm:ByteArray}{z:Int}{ds:List Int}(h:ds.Pairwise (· < ·))(hl:ds.length<=64):∀(n i:Nat),i+n=ds.length->It (ds.length:Int) (i:Int) nm z ds=some (.inr ())
 |0,i,hi=>by
  rw[WB];simp only[j1l];rw[ah (by omega),j7,aW]
 |n+1,i,hi=>by
  have ak:i<ds.length:=by omega
  have aR:ds.getD i (0:Int)=ds[i]:=by simp[ak]
  have ih:=Zk (nm:=nm) (z:=z) h hl n (i+1) (by omega);rw[WB];simp only[j1l];rw[ag (by omega),cw (i:=(i:Int)) (by omega) (by omega),ai (x:=(i:Int)+1)];simp only[j6,j8,aR];by_cases h0:i=0
  .subst h0;rw[ah (by omega),j7,aK];exact ih
  .have hj:i-1<ds.length:=by omega
   have QX:ds.getD (i-1) (0:Int)=ds[i-1]:=by simp[hj]
   have hp:ds[i-1]<ds[i]:=ko.1 h (i-1) i hj ak (by omega);rw[ag (show (i:Int)>0 by omega),ai (x:=(i:Int)-1),cw (i:=(i:Int)-1) (by omega) (by omega),show ((i:Int)-1).toNat=i-1 by omega,QX,ah (show¬ds[i]<=ds[i-1] by omega)];simp only[j6,j7,aK];exact ih
theorem jFI{c:ox}{x:aX}(h:pT c.1.length x):j2W c x=some 0:=by
 have rb:=h.z0;have rh:=h.z1;have hl:=h.len;have l1:=Zj h.day hl x.2.2.length 0 (by omega);have l2:=Zk (nm:=x.1) (z:=x.2.1) h.asc hl x.2.2.length 0 (by omega);rw[show ((0:Nat):Int)=0 from rfl]at l1 l2;simp only[j2W,show Int.ofNat c.1.length=(c.1.length:Int) from rfl,show Int.ofNat x.2.2.length=(x.2.2.length:Int) from rfl,Ae rb rh,j4,jl,j7,j45,j5o,l1,l2,nw];rw[ah (by omega)];rfl
theorem Zl{zs:List br}{ps:List cZ}{cs:List aX}{ss:List cF}(hn:fq (cs.map (·.1)))(hc:∀x∈cs,pT zs.length x)(hl:cs.length<=100):∀(n i:Nat),i+n=cs.length->Ey zs ps cs ss cs (cs.length:Int) (i:Int) (pP ((cs.take i).map (·.1)))=some (.inr ())
 |0,i,hi=>by
  rw[WC];simp only[j0O];rw[ah (by omega),j7,aW]
 |n+1,i,hi=>by
  have ak:i<cs.length:=by omega
  have aR:cs.getD i (ByteArray.empty,((0:Int),([]:List Int)))=cs[i]:=by simp[ak]
  have h1:=FU (·.1) hn ak;have h2:=jFI (c:=(zs,(ps,(cs,ss)))) (hc cs[i] (jf ak));rw[WC];simp only[j0O,jaT,jaU];rw[ag (by omega),bz,ai (x:=(i:Int)+1)];simp only[j6,j8,aR,j4,h1,jh,j7];rw[show j2W (zs,(ps,(cs,ss))) (cs[i].1,(cs[i].2.1,cs[i].2.2))=_ from h2];simp only[j4,jh,j7,aK];exact Zl hn hc hl n (i+1) (by omega)
theorem jFJ{zs:List br}{ps:List cZ}{cs:List aX}{ss:List cF}(hn:fq (cs.map (·.1)))(hc:∀x∈cs,pT zs.length x)(hl:cs.length<=100):j2z cs zs ps cs ss=some 0:=by
 have lp:=Zl (ps:=ps) (ss:=ss) hn hc hl cs.length 0 (by omega);simp only[j2z,show Int.ofNat cs.length=(cs.length:Int) from rfl];rw[show Ey zs ps cs ss cs (cs.length:Int) 0 []=_ from lp];rfl
structure eD(nz np nc:Nat)(l:bI):Prop where
 z0:0<=l.2.1
 z1:l.2.1<nz
 d0:1<=l.2.2.1.1
 day:j0A l.2.2.1.1=some true
 c0:0<=l.2.2.1.2
 c1:l.2.2.1.2<=86399
 u0:0<=l.2.2.2.1
 u1:l.2.2.2.1<=2
 e0:1<=l.2.2.2.2.1
 e1:l.2.2.2.2.1<=400
 m0:l.2.2.2.2.2.1.length≠0
 m1:l.2.2.2.2.2.1.length<=12
 mem:∀m∈l.2.2.2.2.2.1,0<=m/\m<(np:Int)
 w:ei 0 l.2.2.2.2.2.2.1
 wl:l.2.2.2.2.2.2.1.length<=14
 mode0:0<=l.2.2.2.2.2.2.2.2
 mode1:l.2.2.2.2.2.2.2.2<=2
 cal:l.2.2.2.2.2.2.2.2≠0->0<=l.2.2.2.2.2.2.2.1/\l.2.2.2.2.2.2.2.1<(nc:Int)
 cal0:l.2.2.2.2.2.2.2.2=0->l.2.2.2.2.2.2.2.1=0
 w3:l.2.2.2.2.2.2.1.length<=3
 h6:l.2.2.2.1=0->6<=l.2.2.2.2.1
theorem Zm{zs:List br}{ps:List cZ}{cs:List aX}{ss:List cF}{ms:List Int}(h:∀m∈ms,0<=m/\m<(ps.length:Int))(hl:ms.length<=12):∀(n i:Nat),i+n=ms.length->Iu ms zs ps cs ss (ms.length:Int) (i:Int)=some (.inr ())
 |0,i,hi=>by
  rw[WD];simp only[j0I];rw[ah (by omega),j7,aW]
 |n+1,i,hi=>by
  have ak:i<ms.length:=by omega
  have aR:ms.getD i (0:Int)=ms[i]:=by simp[ak]
  have hm:=h ms[i] (jf ak);rw[WD];simp only[j0I,j70,show Int.ofNat ps.length=(ps.length:Int) from rfl];rw[ag (by omega),bz,ai (x:=(i:Int)+1)];simp only[j6,j8,aR,Ae hm.1 hm.2,j4,jl,j7,aK];exact Zm h hl n (i+1) (by omega)
theorem jFK{c:ox}{l:bI}(h:eD c.1.length c.2.1.length c.2.2.1.length l):j4D c l=some 0:=by
 have rb:=h.z0;have rh:=h.z1;have F9:=h.d0;have oy:=h.m0;have fD:=h.m1;have l1:=Zm (zs:=c.1) (cs:=c.2.2.1) (ss:=c.2.2.2) h.mem fD l.2.2.2.2.2.1.length 0 (by omega);rw[show ((0:Nat):Int)=0 from rfl]at l1
 simp only[j4D,show Int.ofNat c.1.length=(c.1.length:Int) from rfl,show Int.ofNat l.2.2.2.2.2.1.length=(l.2.2.2.2.2.1.length:Int) from rfl,show Int.ofNat c.2.2.1.length=(c.2.2.1.length:Int) from rfl,Ae rb rh,j4,jl,j7,h.day,Ce h.c0 h.c1,Ce h.u0 h.u1,Ce h.e0 h.e1,Ce h.mode0 h.mode1,
  j2X,j46,l1,nw,QW h.w h.wl,jh]
 rw[ah (show¬l.2.2.1.1<1 by omega),bW (show¬(l.2.2.2.2.2.1.length:Int)=0 by omega),ah (show¬(l.2.2.2.2.2.1.length:Int)>12 by omega),ah (show¬(-1:Int)>=0 by omega)];simp only[j7];by_cases Ga:l.2.2.2.2.2.2.2.2=0
 .rw[Ga,h.cal0 Ga];rfl
 .have hc:=h.cal Ga;rw[show (l.2.2.2.2.2.2.2.2 != 0)=true by simp[Ga],bW Ga,j6,Ae hc.1 hc.2];rfl
theorem Zn{zs:List br}{ps:List cZ}{cs:List aX}{ss:List cF}{ls:List bI}(hn:fq (ls.map (·.1)))(hc:∀x∈ls,eD zs.length ps.length cs.length x)(hl:ls.length<=100):∀(n i:Nat),i+n=ls.length->Ez zs ps cs ss ls (ls.length:Int) (i:Int) (pP ((ls.take i).map (·.1)))=some (.inr ())
 |0,i,hi=>by
  rw[WE];simp only[j17];rw[ah (by omega),j7,aW]
 |n+1,i,hi=>by
  have ak:i<ls.length:=by omega
  have aR:ls.getD i (ByteArray.empty,((0:Int),(((0:Int),(0:Int)),((0:Int),((0:Int),(([]:(List Int)),(([]:(List (Int×Int))),((0:Int),(0:Int)))))))))=ls[i]:=by simp[ak]
  have h1:=FU (·.1) hn ak;have h2:=jFK (c:=(zs,(ps,(cs,ss)))) (hc ls[i] (jf ak));rw[WE];simp only[j17,j5p,j5q];rw[ag (by omega),bz,ai (x:=(i:Int)+1)];simp only[j6,j8,aR,j4,h1,jh,j7];rw[show j4D (zs,(ps,(cs,ss))) (ls[i].1,ls[i].2.1,(ls[i].2.2.1.1,ls[i].2.2.1.2),ls[i].2.2.2.1,ls[i].2.2.2.2.1,ls[i].2.2.2.2.2.1,ls[i].2.2.2.2.2.2.1,ls[i].2.2.2.2.2.2.2.1,ls[i].2.2.2.2.2.2.2.2)=_ from h2];simp only[j4,jh,j7,aK];exact Zn hn hc hl n (i+1) (by omega)
theorem jFL{zs:List br}{ps:List cZ}{cs:List aX}{ss:List cF}{ls:List bI}(hn:fq (ls.map (·.1)))(hc:∀x∈ls,eD zs.length ps.length cs.length x)(hl:ls.length<=100):j3N ls zs ps cs ss=some 0:=by
 have lp:=Zn (ss:=ss) hn hc hl ls.length 0 (by omega);simp only[j3N,show Int.ofNat ls.length=(ls.length:Int) from rfl];rw[show Ez zs ps cs ss ls (ls.length:Int) 0 []=_ from lp];rfl
structure mT(np:Nat)(x:dA):Prop where
 k0:0<=x.1
 k1:x.1<=2
 a:0<=x.2.1/\x.2.1<(np:Int)\/x.1=1/\x.2.1 = -1
 b:x.1=2->0<=x.2.2.1/\x.2.2.1<(np:Int)/\x.2.1≠x.2.2.1
 b0:x.1≠2->x.2.2.1=0
 f0:0<=x.2.2.2.1
 ft:x.2.2.2.1<x.2.2.2.2
 t1:x.2.2.2.2<=1000000000000
 day:j0A (Int.tdiv x.2.2.2.2 86400)=some true
theorem jFM{c:ox}{x:dA}(h:mT c.2.1.length x):j5r c x=some 0:=by
 have mE:=h.f0;have jB:=h.ft;have QY:=h.t1;have pU:=h.day;have JJ:w64 (Int.tdiv x.2.2.2.2 86400)=Int.tdiv x.2.2.2.2 86400:=by rw[sG (by omega)];exact ai
 simp only[j5r,show Int.ofNat c.2.1.length=(c.2.1.length:Int) from rfl,Ce h.k0 h.k1,j4,jl,j7,JJ,pU];rw[ah (show¬x.2.2.2.1<0 by omega),ah (show¬x.2.2.2.2<0 by omega),ah (show¬x.2.2.2.1>=x.2.2.2.2 by omega)];simp only[j7]
 have hA:∃b,j1B x.2.1 (c.2.1.length:Int)=some b/\cond (!b) (!(cond (x.1==(1:Int)) (x.2.1==(-1:Int)) false)) false=false:=by
  rcases h.a with⟨a1,a2⟩|⟨a1,a2⟩
  .exact⟨true,Ae a1 a2,rfl⟩
  .exact⟨false,jFE (by omega),by rw[a1,a2];rfl⟩
 obtain⟨b,e1,e2⟩:=hA;rw[e1];simp only[j4,e2,j7];by_cases h2:x.1=2
 .obtain⟨b1,b2,b3⟩:=h.b h2;rw[di h2,j6,Ae b1 b2,show (x.1 != 2)=false by rw[h2];rfl,bW b3];rfl
 .rw[bW h2,j7,show (x.1 != 2)=true by simp[h2],h.b0 h2];rfl
theorem Zo{zs:List br}{ps:List cZ}{cs:List aX}{ss:List cF}{es:List dA}(hc:∀x∈es,mT ps.length x)(hl:es.length<=48):∀(n i:Nat),i+n=es.length->Iv es (es.length:Int) (i:Int) zs ps cs ss=some (.inr ())
 |0,i,hi=>by
  rw[WG];simp only[j1n];rw[ah (by omega),j7,aW]
 |n+1,i,hi=>by
  have ak:i<es.length:=by omega
  have aR:es.getD i ((0:Int),((0:Int),((0:Int),((0:Int),(0:Int)))))=es[i]:=by simp[ak]
  have h2:=jFM (c:=(zs,(ps,(cs,ss)))) (hc es[i] (jf ak));rw[WG];simp only[j1n];rw[ag (by omega),bz,ai (x:=(i:Int)+1)];simp only[j6,j8,aR];rw[show j5r (zs,(ps,(cs,ss))) (es[i].1,es[i].2.1,es[i].2.2.1,es[i].2.2.2.1,es[i].2.2.2.2)=_ from h2];simp only[j4,jh,j7,aK];exact Zo hc hl n (i+1) (by omega)
structure pV(nz np nc:Nat)(s:cF):Prop where
 nm:fq (s.2.1.map (·.1))
 ly:∀x∈s.2.1,eD nz np nc x
 ll:s.2.1.length<=6
 ed:∀x∈s.2.2,mT np x
 el:s.2.2.length<=48
theorem jFN{c:ox}{s:cF}(h:pV c.1.length c.2.1.length c.2.2.1.length s):j2Y c s=some 0:=by
 have eE:=h.ll;have eX:=h.el;have lp:=Zo (zs:=c.1) (ps:=c.2.1) (cs:=c.2.2.1) (ss:=c.2.2.2) h.ed eX s.2.2.length 0 (by omega);rw[show ((0:Nat):Int)=0 from rfl]at lp;simp only[j2Y,show Int.ofNat s.2.1.length=(s.2.1.length:Int) from rfl,show Int.ofNat s.2.2.length=(s.2.2.length:Int) from rfl];rw[ah (show¬(s.2.1.length:Int)>6 by omega),ah (show¬(s.2.2.length:Int)>48 by omega)];simp only[j7,jFL (zs:=c.1) (ps:=c.2.1) (cs:=c.2.2.1) (ss:=c.2.2.2) h.nm h.ly (by omega),j4,jh,lp,nw]
theorem Zp{zs:List br}{ps:List cZ}{cs:List aX}{ss:List cF}(hn:fq (ss.map (·.1)))(hc:∀x∈ss,pV zs.length ps.length cs.length x)(hl:ss.length<=100):∀(n i:Nat),i+n=ss.length->EA zs ps cs ss ss (ss.length:Int) (i:Int) (pP ((ss.take i).map (·.1)))=some (.inr ())
 |0,i,hi=>by
  rw[WH];simp only[j0P];rw[ah (by omega),j7,aW]
 |n+1,i,hi=>by
  have ak:i<ss.length:=by omega
  have aR:ss.getD i (ByteArray.empty,(([]:List bI),([]:List dA)))=ss[i]:=by simp[ak]
  have h1:=FU (·.1) hn ak;have h2:=jFN (c:=(zs,(ps,(cs,ss)))) (hc ss[i] (jf ak));rw[WH];simp only[j0P,jaV,jaW];rw[ag (by omega),bz,ai (x:=(i:Int)+1)];simp only[j6,j8,aR,j4,h1,jh,j7];rw[show j2Y (zs,(ps,(cs,ss))) (ss[i].1,(ss[i].2.1,ss[i].2.2))=_ from h2];simp only[j4,jh,j7,aK];exact Zp hn hc hl n (i+1) (by omega)
structure ny(c:ox):Prop where
 zn:fq (c.1.map (·.1))
 zc:∀z∈c.1,xj z
 zl:c.1.length<=16
 pn:fq (c.2.1.map (·.1))
 pc:∀p∈c.2.1,F8 c.1.length p
 pl:c.2.1.length<=32
 cn:fq (c.2.2.1.map (·.1))
 cc:∀x∈c.2.2.1,pT c.1.length x
 cl:c.2.2.1.length<=8
 sn:fq (c.2.2.2.map (·.1))
 sc:∀x∈c.2.2.2,pV c.1.length c.2.1.length c.2.2.1.length x
 sl:c.2.2.2.length<=12
theorem jub{c:ox}(h:ny c):j91 c=some 0:=by
 have kL:=h.zl;have kU:=h.pl;have eM:=h.cl;have dV:=h.sl;have lp:=Zi (zs:=c.1) (cs:=c.2.2.1) (ss:=c.2.2.2) h.pn h.pc (by omega) c.2.1.length 0 (by omega);have ls:=Zp (zs:=c.1) (ps:=c.2.1) (cs:=c.2.2.1) h.sn h.sc (by omega) c.2.2.2.length 0 (by omega);simp only[j91,show Int.ofNat c.1.length=(c.1.length:Int) from rfl,show Int.ofNat c.2.1.length=(c.2.1.length:Int) from rfl,show Int.ofNat c.2.2.1.length=(c.2.2.1.length:Int) from rfl,show Int.ofNat c.2.2.2.length=(c.2.2.2.length:Int) from rfl];rw[ah (show¬(c.1.length:Int)>16 by omega),ah (show¬(c.2.1.length:Int)>32 by omega),ah (show¬(c.2.2.1.length:Int)>8 by omega),ah (show¬(c.2.2.2.length:Int)>12 by omega)];simp only[j7,jFG h.zn h.zc (by omega),j4,jh];rw[show EB c.2.1 (c.2.1.length:Int) 0 c.1 c.2.1 c.2.2.1 c.2.2.2 []=_ from lp];simp only[j4,nw,jFJ (zs:=c.1) (ps:=c.2.1) (cs:=c.2.2.1) (ss:=c.2.2.2) h.cn h.cc (by omega),jh,j7,j4p,show Int.ofNat c.2.2.2.length=(c.2.2.2.length:Int) from rfl];rw[show EA c.1 c.2.1 c.2.2.1 c.2.2.2 c.2.2.2 (c.2.2.2.length:Int) 0 []=_ from ls];rfl
def gr:List ByteArray:=[(ByteArray.mk #[97,100,97]),(ByteArray.mk #[98,111,98]),(ByteArray.mk #[99,108,101,111]),(ByteArray.mk #[100,97,110]),(ByteArray.mk #[101,118,101]),(ByteArray.mk #[102,97,121]),(ByteArray.mk #[103,117,115]),(ByteArray.mk #[104,97,108])]
def sN:List ByteArray:=[(ByteArray.mk #[104,101,114,101]),(ByteArray.mk #[116,104,101,114,101])]
theorem Zq:jhq=some gr:=rfl
theorem Zr:fq gr:=by
 refine⟨by decide,λk hk=>?_⟩;simp only[gr,je,zw,or_false]at hk;rcases hk with rfl|rfl|rfl|rfl|rfl|rfl|rfl|rfl<;>exact JF 60 _ true (by kernel_rfl)
theorem jDc:fq sN:=by
 refine⟨by decide,λk hk=>?_⟩;simp only[sN,je,zw,or_false]at hk;rcases hk with rfl|rfl<;>exact JF 60 _ true (by kernel_rfl)
theorem fq.take{l:List ByteArray}(h:fq l)(n:Nat):fq (l.take n):=⟨h.1.sublist (List.take_sublist n l),λk hk=>h.2 k (qe hk)⟩
theorem fq.one{s:ByteArray}(h:j5l s=some true):fq [s]:=⟨by simp,λk hk=>by simp at hk;subst hk;exact h⟩
theorem fq.nil:fq []:=⟨v6,by simp⟩
theorem jDd:j5l (ByteArray.mk #[100,97,121,115])=some true:=JF 60 _ true (by kernel_rfl)
theorem jDe:∀k∈gr,(ByteArray.toList k==ByteArray.toList (ByteArray.mk #[110,111,98,111,100,121]))=false:=by
 intro k hk;simp only[gr,je,zw,or_false]at hk;rcases hk with rfl|rfl|rfl|rfl|rfl|rfl|rfl|rfl<;>kernel_rfl
theorem jAU:((List.range 61).all λi=>jqr 60 (20440+(i:Int))==some true)=true:=by kernel_rfl
theorem QZ{d:Int}(h1:20440<=d)(h2:d<=20500):j0A d=some true:=by
 have h:=jy.1 jAU (d-20440).toNat (yt.2 (by omega));rw[show (20440:Int)+(((d-20440).toNat:Nat):Int)=d by omega]at h;exact jnZ 60 d true (eq_of_beq h)
theorem t60{x:Int}(h:x%60=0):Int.tmod x 60=0:=by
 have:=FT x 60;rw[h]at this;simpa using this
theorem Gb{P:aD->Prop}{r s:aD}(h1:P r)(h2:P s):∀x∈[r,s],P x:=by
 intro x hx;simp at hx;rcases hx with rfl|rfl
 .exact h1
 .exact h2
theorem jDf{L:List Int}{a:Int}(h:dD L a)(nm:ByteArray):∃o rs a',j3U L a nm=some ((nm,(o,rs)),L,a')/\Int.tmod o 60=0/\∀r∈rs,Int.tmod r.2.2.2.2.2.2 60=0:=by
 obtain⟨p,a1,e1,m1,d1⟩:=ow h (xs:=[(0:Int),(4:Int),(-20:Int),(22:Int),(48:Int),(-47:Int)]) (by simp) (by simp);obtain⟨x2,a2,e2,x20,x21,d2⟩:=dj (n:=2) d1 (by omega) (by omega);obtain⟨x3,a3,e3,x30,x31,d3⟩:=dj (n:=3) d2 (by omega) (by omega);obtain⟨y,a4,e4,y0,y1,d4⟩:=dj (n:=2) d3 (by omega) (by omega);obtain⟨q,a5,e5,q0,q1,d5⟩:=dj (n:=4) d4 (by omega) (by omega);have hp : -47<=p/\p<=48:=by simp at m1;omega
 have hmul:0<=x2*x3/\x2*x3<=2:=by
  obtain rfl|rfl:x2=0\/x2=1:=by omega
  all_goals omega
 have mR : -43200<=900*(p+x2*x3):=by omega
 have jK:900*(p+x2*x3)<=45000:=by omega
 have nZ:(900*(p+x2*x3))%60=0:=by omega
 simp only[j3U,e1,e2,e3,e4,e5,j4];rw[ai (x:=x2*x3),ai (x:=p+x2*x3),ai (x:=900*(p+x2*x3)),ai (x:=2025+y)];generalize 900*(p+x2*x3)=o at *;generalize 2025+y=last at *;by_cases Ad:q=1
 .rw[di Ad,j6,ai (x:=o+3600)];exact⟨_,_,_,rfl,t60 nZ,Gb (P:=λr=>Int.tmod r.2.2.2.2.2.2 60=0) (t60 (show (o+3600)%60=0 by omega)) (t60 nZ)⟩
 .rw[bW Ad,j7];by_cases F2:q=2
  .rw[di F2,j6];obtain⟨b1,c1,f1,b10,b11,g1⟩:=dj (n:=4) d5 (by omega) (by omega);obtain⟨b2,c2,f2,Cc,QR,g2⟩:=dj (n:=7) g1 (by omega) (by omega);obtain⟨b3,c3,f3,QS,QT,g3⟩:=dj (n:=24) g2 (by omega) (by omega);obtain⟨b4,c4,f4,b40,b41,g4⟩:=dj (n:=8) g3 (by omega) (by omega);obtain⟨b5,c5,f5,b50,b51,g5⟩:=dj (n:=2) g4 (by omega) (by omega);obtain⟨b6,c6,f6,m6,g6⟩:=ow g5 (xs:=[(2:Int),(3:Int),(5:Int)]) (by simp) (by simp);obtain⟨b7,c7,f7,Zc,b71,g7⟩:=dj (n:=7) g6 (by omega) (by omega);obtain⟨b8,c8,f8,b80,b81,g8⟩:=dj (n:=24) g7 (by omega) (by omega);simp only[f1,f2,f3,f4,f5,f6,f7,f8,j4];rw[ai (x:=1+b4),ai (x:=1800*(1+b4)),ai (x:=o+1800*(1+b4))];exact⟨_,_,_,rfl,t60 nZ,Gb (P:=λr=>Int.tmod r.2.2.2.2.2.2 60=0) (t60 (show (o+1800*(1+b4))%60=0 by omega)) (t60 nZ)⟩
  .rw[bW F2,j7];by_cases F3:q=3
   .rw[di F3,j6];obtain⟨b1,c1,f1,m1,g1⟩:=ow d5 (xs:=[(3600:Int),(-3600:Int),(82800:Int),(-82800:Int),(43200:Int)]) (by simp) (by simp);obtain⟨b2,c2,f2,Cc,QR,g2⟩:=dj (n:=7) g1 (by omega) (by omega);obtain⟨b3,c3,f3,QS,QT,g3⟩:=dj (n:=48) g2 (by omega) (by omega);have eZ : -82800<=b1/\b1<=82800/\b1%60=0:=by simp at m1;omega
    simp only[f1,f2,f3,j4];rw[ai (x:=o+b1)];cases cond (decide (o+b1>64800)) true (decide (o+b1 < -64800)) with
    |true=>exact⟨_,_,_,rfl,t60 nZ,λr hr=>by simp at hr;subst hr;rfl⟩
    |false=>exact⟨_,_,_,rfl,t60 nZ,λr hr=>by simp at hr;subst hr;exact t60 (by dsimp only;omega)⟩
   .rw[bW F3,j7];exact⟨_,_,_,rfl,t60 nZ,by simp⟩
theorem jAV{L:List Int}{a:Int}(h:dD L a)(nm:ByteArray):∃o rs a',j3U L a nm=some ((nm,(o,rs)),L,a')/\MZ o rs/\xj (nm,(o,rs))/\dD L a':=by
 obtain⟨o,rs,a1,e1,m1,d1⟩:=jDb h nm;obtain⟨o',rs',a2,e2,m2,m3⟩:=jDf h nm;have:=e1.symm.trans e2;simp only[j5,j9,qj]at this;obtain⟨⟨rfl,rfl⟩,rfl⟩:=this;have ht:=(m1.tab nm).1;have hl:=m1.len;exact⟨o,rs,a1,e1,m1,⟨by simp only[jeh,show j3t (nm,(o,rs))=_ from ht,j4],m2,m3,by dsimp only;omega⟩,d1⟩
structure Af(zs:List br):Prop where
 ok:∀z∈zs,gg z
 ck:∀z∈zs,xj z
 nm:zs.map (·.1)=sN.take zs.length
theorem JK{l:List ByteArray}{n:Nat}(hn:n<l.length):l.take n++[l.getD n ByteArray.empty]=l.take (n+1):=by
 rw[kq,jk hn];simp[hn]
theorem Zs{L:List Int}:∀(n:Nat)(a:Int)(zs:List br),dD L a->zs.length+n<=2->Af zs->
  ∃Gc a',Ib (n:Int) L a zs=some (L,a',Gc)/\Gc.length=zs.length+n/\Af Gc/\dD L a'
 |0,a,zs,hd,_,hz=>by
  rw[Wj];simp only[j2h];rw[ah (by omega),j7,aW];exact⟨zs,a,rfl,rfl,hz,hd⟩
 |n+1,a,zs,hd,hl,hz=>by
  obtain⟨o,rs,a1,e1,m1,k1,d1⟩:=jAV hd (List.getD sN zs.length ByteArray.empty)
  obtain⟨Gc,a',e2,h2,h3,h4⟩:=Zs n a1 (zs++[(List.getD sN zs.length ByteArray.empty,(o,rs))]) d1 (by simp;omega) ⟨λz wE=>by
   rcases jn.1 wE with h|h
   .exact hz.ok z h
   .simp at h;subst h;exact m1,λz wE=>by
   rcases jn.1 wE with h|h
   .exact hz.ck z h
   .simp at h;subst h;exact k1,by
   rw[za,hz.nm,jg];exact JK (by show zs.length<2;omega)⟩
  rw[Wj];simp only[j2h,show Int.ofNat (List.length zs)=(zs.length:Int) from rfl];rw[ag (by omega),cw (show (0:Int)<=(zs.length:Int) by omega) (by simp;omega)];simp only[j6,j8];rw[show j3U L a (List.getD [(ByteArray.mk #[104,101,114,101]),(ByteArray.mk #[116,104,101,114,101])] zs.length ByteArray.empty)=_ from e1];simp only[j4];rw[ag (by simp[aN];omega),ai (x:=((n+1:Nat):Int)-1)];simp only[j6,aK];rw[show ((n+1:Nat):Int)-1=(n:Int) by omega];exact⟨Gc,a',e2,by rw[h2];simp;omega,h3,h4⟩
structure vF(nz:Nat)(ps:List cZ):Prop where
 ck:∀p∈ps,F8 nz p
 nm:ps.map (·.1)=gr.take ps.length
theorem Zt{n:Int}(h0:0<=n)(h1:n<=168):j4A (w64 (3600*n))=some true:=by
 rw[ai];simp only[j4A,Ce (show 0<=3600*n by omega) (show 3600*n<=604800 by omega),j4,j6];rw[FT,di (show (3600*n)%3600=0 by omega)]
theorem Q0{L:List Int}{zs:List br}(rb:1<=zs.length)(rh:zs.length<=100):∀(n:Nat)(a:Int)(ps:List cZ),dD L a->ps.length+n<=4->vF zs.length ps->
  ∃Ag a',Ic (n:Int) L a zs ps=some (L,a',zs,Ag)/\Ag.length=ps.length+n/\vF zs.length Ag/\dD L a'
 |0,a,ps,hd,_,hp=>by
  rw[Wk];simp only[j2i];rw[ah (by omega),j7,aW];exact⟨ps,a,rfl,rfl,hp,hd⟩
 |n+1,a,ps,hd,hl,hp=>by
  obtain⟨x,a1,e1,x0,x1,d1⟩:=dj (n:=(zs.length:Int)) hd (by omega) (by omega);obtain⟨b,a2,e2,d2⟩:=Cd (n:=3) d1 (by omega) (by omega);obtain⟨c,a3,e3,d3⟩:=Cd (n:=2) d2 (by omega) (by omega);have cb:ps.length<gr.length:=by show ps.length<8;omega
  have ez:gr.getD ps.length ByteArray.empty∈gr:=by rw[List.getD_eq_getElem?_getD,jk cb];exact jf cb
  have ext:∀(w:WL)(p q:Int),ei 0 w->w.length<=14->p∈[(0:Int),(40:Int),(100:Int),(12:Int)]->q∈[(0:Int),(11:Int),(24:Int),(1:Int)]->
    vF zs.length (ps++[(gr.getD ps.length ByteArray.empty,(x,(w,(w64 (3600*p),(w64 (3600*q),b)))))]):=by
   intro w p q hw iD uL Gd;have xI:0<=p/\p<=168:=by simp at uL;omega
   have Bc:0<=q/\q<=168:=by simp at Gd;omega
   refine⟨λr hr=>?_,?_⟩
   .rcases jn.1 hr with h|h
    .exact hp.ck r h
    .simp at h;subst h;exact⟨jDe _ ez,x0,x1,hw,iD,Zt xI.1 xI.2,Zt Bc.1 Bc.2⟩
   .rw[za,hp.nm,jg];exact JK cb
  rw[Wk];simp only[j2i,Zq,j4,show Int.ofNat (List.length ps)=(ps.length:Int) from rfl,show Int.ofNat (List.length zs)=(zs.length:Int) from rfl];rw[ag (by omega),cw (show (0:Int)<=(ps.length:Int) by omega) (by omega)];simp only[j6,e1,e2,e3,j4];rw[ai (x:=((n+1:Nat):Int)-1),show ((n+1:Nat):Int)-1=(n:Int) by omega];cases c with
  |true=>obtain⟨w,a4,e4,hw,iD,d4⟩:=JI d3;obtain⟨p,a5,e5,uL,d5⟩:=ow d4 (xs:=[(0:Int),(40:Int),(100:Int),(12:Int)]) (by simp) (by simp);obtain⟨q,a6,e6,Gd,d6⟩:=ow d5 (xs:=[(0:Int),(11:Int),(24:Int),(1:Int)]) (by simp) (by simp);simp only[j6,e4,e5,e6,j4];rw[ag (by simp[aN];omega)];simp only[j6,aK];obtain⟨Ag,a',e,h1,h2,h3⟩:=Q0 rb rh n a6 _ d6 (by simp;omega) (ext w p q hw (by omega) uL Gd);exact⟨Ag,a',e,by rw[h1];simp;omega,h2,h3⟩
  |false=>obtain⟨p,a5,e5,uL,d5⟩:=ow d3 (xs:=[(0:Int),(40:Int),(100:Int),(12:Int)]) (by simp) (by simp);obtain⟨q,a6,e6,Gd,d6⟩:=ow d5 (xs:=[(0:Int),(11:Int),(24:Int),(1:Int)]) (by simp) (by simp);simp only[j7,e5,e6,j4];rw[ag (by simp[aN];omega)];simp only[j6,aK];obtain⟨Ag,a',e,h1,h2,h3⟩:=Q0 rb rh n a6 _ d6 (by simp;omega) (ext [] p q (show (0:Int)<=604800 by omega) (by simp) uL Gd);exact⟨Ag,a',e,by rw[h1];simp;omega,h2,h3⟩
def Ah(q:Int)(ds:List Int):Prop:=ds.Pairwise (· < ·)/\∀d∈ds,20454<d/\d<=q
theorem Zu{L:List Int}{s:Int}{nm:ByteArray}{z:Int}{zs:List br}{ps:List cZ}{cs:List aX}:∀(n:Nat)(a day:Int)(ds:List Int),dD L a->ds.length+n<=4->20454<=day->day+6*n<=20480->Ah day ds->
  ∃Q1 a',Ie s (n:Int) day L a nm z zs ps cs ds=some (s,L,a',nm,z,zs,ps,cs,Q1)/\Q1.length<=4/\Ah 20480 Q1/\dD L a'
 |0,a,day,ds,hd,hl,hy,Ln,hi=>by
  rw[Wl];simp only[j2j];rw[ah (by omega),j7,aW];exact⟨ds,a,rfl,by omega,⟨hi.1,λd hd=>by have:=hi.2 d hd;omega⟩,hd⟩
 |n+1,a,day,ds,hd,hl,hy,Ln,hi=>by
  obtain⟨x,a1,e1,x0,x1,d1⟩:=dj (n:=6) hd (by omega) (by omega);rw[Wl];simp only[j2j];rw[ag (by omega),ai (x:=((n+1:Nat):Int)-1),show ((n+1:Nat):Int)-1=(n:Int) by omega];simp only[j6,e1,j4];rw[ag (by simp[aN];omega),ai (x:=1+x),ai (x:=day+(1+x))];simp only[j6,aK];refine Zu n a1 _ _ d1 (by simp;omega) (by omega) (by omega) ⟨qw.2 ⟨hi.1,by simp,λu hu v hv=>?_⟩,λd hd=>?_⟩
  .simp at hv;subst hv;have:=hi.2 u hu;omega
  .rcases jn.1 hd with h|h
   .have:=hi.2 d h;omega
   .simp at h;omega
structure Ge(nz:Nat)(cs:List aX):Prop where
 ck:∀c∈cs,pT nz c
 nm:fq (cs.map (·.1))
 len:cs.length<=1
 dl:∀c∈cs,c.2.2.length<=4
theorem jEz{nz:Nat}{nm:ByteArray}{x:Int}{ds:List Int}(x0:0<=x)(x1:x<nz)(hl:ds.length<=64)(hi:Ah 20480 ds):pT nz (nm,(x,ds)):=
 ⟨x0,x1,hl,λd hd=>QZ (by have:=hi.2 d hd;omega) (by have:=hi.2 d hd;omega),hi.1⟩
structure cN(zs:List br)(ps:List cZ)(cs:List aX):Prop where
 so:F6 zs ps cs
 z:Af zs
 p:vF zs.length ps
 c:Ge zs.length cs
theorem jyP{L:List Int}{a:Int}(h:dD L a):∃zs ps cs a',j8Y L a=some ((zs,(ps,(cs,([]:List cF)))),L,a')/\cN zs ps cs/\dD L a':=by
 obtain⟨x,a1,e1,x0,x1,d1⟩:=dj (n:=2) h (by omega) (by omega);obtain⟨zs,a2,e2,l2,k2,d2⟩:=Zs (1+x).toNat a1 [] d1 (by simp;omega) ⟨by simp,by simp,rfl⟩;obtain⟨y,a3,e3,y0,y1,d3⟩:=dj (n:=4) d2 (by omega) (by omega);simp at l2;obtain⟨ps,a4,e4,l4,k4,d4⟩:=Q0 (zs:=zs) (by omega) (by omega) (1+y).toNat a3 [] d3 (by simp;omega) ⟨by simp,rfl⟩;obtain⟨q,a5,e5,q0,q1,d5⟩:=dj (n:=2) d4 (by omega) (by omega);simp at l4
 have cD:∃cs a',Ig q L a5 zs ps []=some (L,a',zs,ps,cs)/\Ge zs.length cs/\dD L a':=by
  by_cases hq:q=0
  .subst hq;rw[Nw];simp only[j1A];rw[ah (by omega),j7,aW];exact⟨[],a5,rfl,⟨by simp,fq.nil,by simp,by simp⟩,d5⟩
  .have Ad:q=1:=by omega
   subst Ad;obtain⟨x,a6,e6,x0,x1,d6⟩:=dj (n:=(zs.length:Int)) d5 (by omega) (by omega);obtain⟨y,a7,e7,y0,y1,d7⟩:=dj (n:=4) d6 (by omega) (by omega);obtain⟨ds,a8,e8,l8,k8,d8⟩:=Zu (s:=(1:Int)) (nm:=ByteArray.mk #[100,97,121,115]) (z:=x) (zs:=zs) (ps:=ps) (cs:=[]) y.toNat a7 20454 [] d7 (by simp;omega) (by omega) (by omega) ⟨by simp,by simp⟩;rw[show ((y.toNat:Nat):Int)=y by omega]at e8;rw[Nw];simp only[j1A,show Int.ofNat (List.length zs)=(zs.length:Int) from rfl];rw[ag (by omega)];simp only[j6,e6,e7,e8,j4];rw[ag (by simp[aN]),ai (x:=(1:Int)-1)];simp only[j6,aK];rw[Nw];simp only[j1A];rw[ah (by omega),j7,aW];refine⟨_,a8,rfl,⟨λc hc=>?_,fq.one jDd,by simp,λc hc=>by simp at hc;subst hc;exact l8⟩,d8⟩;simp at hc;subst hc;exact jEz x0 x1 (by omega) k8
 obtain⟨cs,a6,e6,k6,d6⟩:=cD;rw[show (((1+x).toNat:Nat):Int)=1+x by omega]at e2;rw[show (((1+y).toNat:Nat):Int)=1+y by omega]at e4;simp only[j8Y,e1,j4];rw[ai (x:=1+x)];simp only[e2,e3,j4];rw[ai (x:=1+y)];simp only[e4,e5,e6,j4];exact⟨zs,ps,cs,a6,rfl,⟨⟨by omega,by omega,k2.ok,by omega,by omega,k6.len⟩,k2,k4,k6⟩,d6⟩
end Go.Proofs.Pw
