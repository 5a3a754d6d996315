/- mU 8: eR that are right. -/
import Derived.Test.YtaieocafhcjelaaGreatCPA
import Derived.Test.YtaieocafhcjelaaGreatCPC
import Derived.Test.YtaieocafhcjelaaGreatCPB
import Derived.KernelRfl
open Go Go.Lft
namespace Go.Proofs.Pw
abbrev dE:=Int×(Int×(Int×(Int×Int)))
abbrev mu:=List bU×(List dH×(List bt×List cS))
theorem Av{n lo hi:Int}(h1:lo<=n)(h2:n<=hi):j8A n lo hi=some true:=by
 simp only[j8A];rw[ag (show n>=lo from h1),ag h2];rfl
theorem xV{i n:Int}(h1:0<=i)(h2:i<n):j2W i n=some true:=by
 simp only[j2W];rw[ag (show i>=0 from h1),ag h2];rfl
theorem jEF{i n:Int}(h1:i<0):j2W i n=some false:=by
 simp only[j2W];rw[ah (show¬i>=0 by omega)];rfl
structure uT(z:bU):Prop where
 ck:j9U z=some 0
 o60:Int.tmod z.2.1 60=0
 r60:∀r∈z.2.2,Int.tmod r.2.2.2.2.2.2 60=0
 len:z.2.2.length<=1000
theorem Vs{rs:List aO}(h:∀r∈rs,Int.tmod r.2.2.2.2.2.2 60=0)(hl:rs.length<=1000):∀(n i:Nat),i+n=rs.length->zM rs (rs.length:Int) (i:Int)=some (.inr ())
 |0,i,hi=>by
  rw[Sr];simp only[j0s];rw[ah (by omega),j6,aU]
 |n+1,i,hi=>by
  have aA:i<rs.length:=by omega
  have bj:rs.getD i ((0:Int),((0:Int),((0:Int),((0:Int),((0:Int),((0:Int),(0:Int)))))))=rs[i]:=by simp[aA]
  have:=h rs[i] (je aA);rw[Sr];simp only[j0s,j8P];rw[ag (by omega),aR (by omega) (by omega),aj (x:=(i:Int)+1) (by omega) (by omega)];simp only[j5,j7,bj,j3,this,jj,j6,aJ];exact Vs h hl n (i+1) (by omega)
theorem jEG{z:bU}(h:uT z):j3p z=some 0:=by
 have lp:=Vs h.r60 h.len z.2.2.length 0 (by omega);rw[show ((0:Nat):Int)=0 from rfl]at lp;simp only[j3p,show j9U (z.1,(z.2.1,z.2.2))=_ from h.ck,j3,h.o60,jj,j6,j0o,j0v,show Int.ofNat z.2.2.length=(z.2.2.length:Int) from rfl,lp,jK];rfl
theorem Vt{zs:List bU}(hn:ez (zs.map (·.1)))(hc:∀z∈zs,uT z)(hl:zs.length<=100):∀(n i:Nat),i+n=zs.length->xj zs (zs.length:Int) (i:Int) (nP ((zs.take i).map (·.1)))=some (.inr ())
 |0,i,hi=>by
  rw[Su];simp only[j0K];rw[ah (by omega),j6,aU]
 |n+1,i,hi=>by
  have aA:i<zs.length:=by omega
  have bj:zs.getD i (ByteArray.empty,((0:Int),([]:List aO)))=zs[i]:=by simp[aA]
  have h1:=DO (·.1) hn aA;have h2:=jEG (hc zs[i] (je aA));rw[Su];simp only[j0K,jcg];rw[ag (by omega),aR (by omega) (by omega),aj (x:=(i:Int)+1) (by omega) (by omega)];simp only[j5,j7,bj,j3,h1,jj,j6];rw[show j3p (zs[i].1,(zs[i].2.1,zs[i].2.2))=_ from h2];simp only[j3,jj,j6,aJ];exact Vt hn hc hl n (i+1) (by omega)
theorem jEH{zs:List bU}(hn:ez (zs.map (·.1)))(hc:∀z∈zs,uT z)(hl:zs.length<=100):j2B zs=some 0:=by
 have lp:=Vt hn hc hl zs.length 0 (by omega);simp only[j2B,show Int.ofNat zs.length=(zs.length:Int) from rfl];rw[show xj zs (zs.length:Int) 0 []=_ from lp];rfl
structure D2(nz:Nat)(p:dH):Prop where
 nb:(ByteArray.toList p.1==ByteArray.toList (ByteArray.mk #[110,111,98,111,100,121]))=false
 z0:0<=p.2.1
 z1:p.2.1<nz
 w:gW 0 p.2.2.1
 wl:p.2.2.1.length<=14
 m:j5Q p.2.2.2.1=some true
 r:j5Q p.2.2.2.2.1=some true
theorem jEI{c:mu}{p:dH}(h:D2 c.1.length p):j2h c p=some 0:=by
 have pW:=h.z0;have rD:=h.z1;simp only[j2h,show Int.ofNat c.1.length=(c.1.length:Int) from rfl,xV pW rD,j3,ji,j6,Vr h.w h.wl,jj,h.m,h.r]
theorem Vu{zs:List bU}{ps:List dH}{cs:List bt}{ss:List cS}(hn:ez (ps.map (·.1)))(hc:∀p∈ps,D2 zs.length p)(hl:ps.length<=100):∀(n i:Nat),i+n=ps.length->xn ps (ps.length:Int) (i:Int) zs ps cs ss (nP ((ps.take i).map (·.1)))=some (.inr (zs,ps,cs,ss))
 |0,i,hi=>by
  rw[SF];simp only[j2b];rw[ah (by omega),j6,aU]
 |n+1,i,hi=>by
  have aA:i<ps.length:=by omega
  have bj:ps.getD i (ByteArray.empty,((0:Int),(([]:List (Int×Int)),((0:Int),((0:Int),false)))))=ps[i]:=by simp[aA]
  have h1:=DO (·.1) hn aA;have hp:=hc ps[i] (je aA);have h2:=jEI (c:=(zs,(ps,(cs,ss)))) hp;rw[SF];simp only[j2b];rw[ag (by omega),aR (by omega) (by omega),aj (x:=(i:Int)+1) (by omega) (by omega)];simp only[j5,j7,bj,j3,h1,hp.nb,qj,j6];rw[show j2h (zs,(ps,(cs,ss))) (ps[i].1,(ps[i].2.1,(ps[i].2.2.1,(ps[i].2.2.2.1,(ps[i].2.2.2.2.1,ps[i].2.2.2.2.2)))))=_ from h2];simp only[j3,jj,j6,aJ];exact Vu hn hc hl n (i+1) (by omega)
structure rE(nz:Nat)(c:bt):Prop where
 z0:0<=c.2.1
 z1:c.2.1<nz
 len:c.2.2.length<=64
 day:∀d∈c.2.2,j17 d=some true
 asc:c.2.2.Pairwise (· < ·)
theorem Vv{ds:List Int}(h:∀d∈ds,j17 d=some true)(hl:ds.length<=64):∀(n i:Nat),i+n=ds.length->zO ds (ds.length:Int) (i:Int)=some (.inr ())
 |0,i,hi=>by
  rw[Sw];simp only[j0y];rw[ah (by omega),j6,aU]
 |n+1,i,hi=>by
  have aA:i<ds.length:=by omega
  have bj:ds.getD i (0:Int)=ds[i]:=by simp[aA]
  have:=h ds[i] (je aA);rw[Sw];simp only[j0y,j2H];rw[ag (by omega),aR (by omega) (by omega),aj (x:=(i:Int)+1) (by omega) (by omega)];simp only[j5,j7,bj,this,j3,ji,j6,aJ];exact Vv h hl n (i+1) (by omega)
theorem Vw{nm:ByteArray}{z:Int}{ds:List Int}(h:ds.Pairwise (· < ·))(hl:ds.length<=64):∀(n i:Nat),i+n=ds.length->zP (ds.length:Int) (i:Int) nm z ds=some (.inr ())
 |0,i,hi=>by
  rw[Sz];simp only[j2p];rw[ah (by omega),j6,aU]
 |n+1,i,hi=>by
  have aA:i<ds.length:=by omega
  have bj:ds.getD i (0:Int)=ds[i]:=by simp[aA]
  have ih:=Vw (nm:=nm) (z:=z) h hl n (i+1) (by omega);rw[Sz];simp only[j2p];rw[ag (by omega),aR (i:=(i:Int)) (by omega) (by omega),aj (x:=(i:Int)+1) (by omega) (by omega)];simp only[j5,j7,bj];by_cases h0:i=0
  .subst h0;rw[ah (by omega),j6,aJ];exact ih
  .have hj:i-1<ds.length:=by omega
   have hgj:ds.getD (i-1) (0:Int)=ds[i-1]:=by simp[hj]
   have hp:ds[i-1]<ds[i]:=kr.1 h (i-1) i hj aA (by omega);rw[ag (show (i:Int)>0 by omega),aj (x:=(i:Int)-1) (by omega) (by omega),aR (i:=(i:Int)-1) (by omega) (by omega),show ((i:Int)-1).toNat=i-1 by omega,hgj,ah (show¬ds[i]<=ds[i-1] by omega)];simp only[j5,j6,aJ];exact ih
theorem jEJ{c:mu}{x:bt}(h:rE c.1.length x):j29 c x=some 0:=by
 have pW:=h.z0;have rD:=h.z1;have hl:=h.len;have l1:=Vv h.day hl x.2.2.length 0 (by omega);have l2:=Vw (nm:=x.1) (z:=x.2.1) h.asc hl x.2.2.length 0 (by omega);rw[show ((0:Nat):Int)=0 from rfl]at l1 l2;simp only[j29,show Int.ofNat c.1.length=(c.1.length:Int) from rfl,show Int.ofNat x.2.2.length=(x.2.2.length:Int) from rfl,xV pW rD,j3,ji,j6,j21,j2I,l1,l2,jK];rw[ah (by omega)];rfl
theorem Vx{zs:List bU}{ps:List dH}{cs:List bt}{ss:List cS}(hn:ez (cs.map (·.1)))(hc:∀x∈cs,rE zs.length x)(hl:cs.length<=100):∀(n i:Nat),i+n=cs.length->xk zs ps cs ss cs (cs.length:Int) (i:Int) (nP ((cs.take i).map (·.1)))=some (.inr ())
 |0,i,hi=>by
  rw[SA];simp only[j0t];rw[ah (by omega),j6,aU]
 |n+1,i,hi=>by
  have aA:i<cs.length:=by omega
  have bj:cs.getD i (ByteArray.empty,((0:Int),([]:List Int)))=cs[i]:=by simp[aA]
  have h1:=DO (·.1) hn aA;have h2:=jEJ (c:=(zs,(ps,(cs,ss)))) (hc cs[i] (je aA));rw[SA];simp only[j0t,jci,j5J];rw[ag (by omega),aR (by omega) (by omega),aj (x:=(i:Int)+1) (by omega) (by omega)];simp only[j5,j7,bj,j3,h1,jj,j6];rw[show j29 (zs,(ps,(cs,ss))) (cs[i].1,(cs[i].2.1,cs[i].2.2))=_ from h2];simp only[j3,jj,j6,aJ];exact Vx hn hc hl n (i+1) (by omega)
theorem jEK{zs:List bU}{ps:List dH}{cs:List bt}{ss:List cS}(hn:ez (cs.map (·.1)))(hc:∀x∈cs,rE zs.length x)(hl:cs.length<=100):j1w cs zs ps cs ss=some 0:=by
 have lp:=Vx (ps:=ps) (ss:=ss) hn hc hl cs.length 0 (by omega);simp only[j1w,show Int.ofNat cs.length=(cs.length:Int) from rfl];rw[show xk zs ps cs ss cs (cs.length:Int) 0 []=_ from lp];rfl
structure eD(nz np nc:Nat)(l:bP):Prop where
 z0:0<=l.2.1
 z1:l.2.1<nz
 d0:1<=l.2.2.1.1
 day:j17 l.2.2.1.1=some true
 c0:0<=l.2.2.1.2
 c1:l.2.2.1.2<=86399
 u0:0<=l.2.2.2.1
 u1:l.2.2.2.1<=2
 e0:1<=l.2.2.2.2.1
 e1:l.2.2.2.2.1<=400
 m0:l.2.2.2.2.2.1.length≠0
 m1:l.2.2.2.2.2.1.length<=12
 mem:∀m∈l.2.2.2.2.2.1,0<=m/\m<(np:Int)
 w:gW 0 l.2.2.2.2.2.2.1
 wl:l.2.2.2.2.2.2.1.length<=14
 mode0:0<=l.2.2.2.2.2.2.2.2
 mode1:l.2.2.2.2.2.2.2.2<=2
 cal:l.2.2.2.2.2.2.2.2≠0->0<=l.2.2.2.2.2.2.2.1/\l.2.2.2.2.2.2.2.1<(nc:Int)
 cal0:l.2.2.2.2.2.2.2.2=0->l.2.2.2.2.2.2.2.1=0
theorem Vy{zs:List bU}{ps:List dH}{cs:List bt}{ss:List cS}{ms:List Int}(h:∀m∈ms,0<=m/\m<(ps.length:Int))(hl:ms.length<=12):∀(n i:Nat),i+n=ms.length->zQ ms zs ps cs ss (ms.length:Int) (i:Int)=some (.inr ())
 |0,i,hi=>by
  rw[SB];simp only[j1e];rw[ah (by omega),j6,aU]
 |n+1,i,hi=>by
  have aA:i<ms.length:=by omega
  have bj:ms.getD i (0:Int)=ms[i]:=by simp[aA]
  have hm:=h ms[i] (je aA);rw[SB];simp only[j1e,j82,show Int.ofNat ps.length=(ps.length:Int) from rfl];rw[ag (by omega),aR (by omega) (by omega),aj (x:=(i:Int)+1) (by omega) (by omega)];simp only[j5,j7,bj,xV hm.1 hm.2,j3,ji,j6,aJ];exact Vy h hl n (i+1) (by omega)
theorem jEL{c:mu}{l:bP}(h:eD c.1.length c.2.1.length c.2.2.1.length l):j35 c l=some 0:=by
 have pW:=h.z0;have rD:=h.z1;have D3:=h.d0;have mv:=h.m0;have eZ:=h.m1;have l1:=Vy (zs:=c.1) (cs:=c.2.2.1) (ss:=c.2.2.2) h.mem eZ l.2.2.2.2.2.1.length 0 (by omega);rw[show ((0:Nat):Int)=0 from rfl]at l1
 simp only[j35,show Int.ofNat c.1.length=(c.1.length:Int) from rfl,show Int.ofNat l.2.2.2.2.2.1.length=(l.2.2.2.2.2.1.length:Int) from rfl,show Int.ofNat c.2.2.1.length=(c.2.2.1.length:Int) from rfl,xV pW rD,j3,ji,j6,h.day,Av h.c0 h.c1,Av h.u0 h.u1,Av h.e0 h.e1,Av h.mode0 h.mode1,
  j1m,j22,l1,jK,Vr h.w h.wl,jj]
 rw[ah (show¬l.2.2.1.1<1 by omega),bW (show¬(l.2.2.2.2.2.1.length:Int)=0 by omega),ah (show¬(l.2.2.2.2.2.1.length:Int)>12 by omega),ah (show¬(-1:Int)>=0 by omega)];simp only[j6];by_cases D4:l.2.2.2.2.2.2.2.2=0
 .rw[D4,h.cal0 D4];rfl
 .have hc:=h.cal D4;rw[show (l.2.2.2.2.2.2.2.2 != 0)=true by simp[D4],bW D4,j5,xV hc.1 hc.2];rfl
theorem Vz{zs:List bU}{ps:List dH}{cs:List bt}{ss:List cS}{ls:List bP}(hn:ez (ls.map (·.1)))(hc:∀x∈ls,eD zs.length ps.length cs.length x)(hl:ls.length<=100):∀(n i:Nat),i+n=ls.length->xl zs ps cs ss ls (ls.length:Int) (i:Int) (nP ((ls.take i).map (·.1)))=some (.inr ())
 |0,i,hi=>by
  rw[SC];simp only[j0C];rw[ah (by omega),j6,aU]
 |n+1,i,hi=>by
  have aA:i<ls.length:=by omega
  have bj:ls.getD i (ByteArray.empty,((0:Int),(((0:Int),(0:Int)),((0:Int),((0:Int),(([]:(List Int)),(([]:(List (Int×Int))),((0:Int),(0:Int)))))))))=ls[i]:=by simp[aA]
  have h1:=DO (·.1) hn aA;have h2:=jEL (c:=(zs,(ps,(cs,ss)))) (hc ls[i] (je aA));rw[SC];simp only[j0C,j6D,j2K];rw[ag (by omega),aR (by omega) (by omega),aj (x:=(i:Int)+1) (by omega) (by omega)];simp only[j5,j7,bj,j3,h1,jj,j6];rw[show j35 (zs,(ps,(cs,ss))) (ls[i].1,ls[i].2.1,(ls[i].2.2.1.1,ls[i].2.2.1.2),ls[i].2.2.2.1,ls[i].2.2.2.2.1,ls[i].2.2.2.2.2.1,ls[i].2.2.2.2.2.2.1,ls[i].2.2.2.2.2.2.2.1,ls[i].2.2.2.2.2.2.2.2)=_ from h2];simp only[j3,jj,j6,aJ];exact Vz hn hc hl n (i+1) (by omega)
theorem jEM{zs:List bU}{ps:List dH}{cs:List bt}{ss:List cS}{ls:List bP}(hn:ez (ls.map (·.1)))(hc:∀x∈ls,eD zs.length ps.length cs.length x)(hl:ls.length<=100):j2i ls zs ps cs ss=some 0:=by
 have lp:=Vz (ss:=ss) hn hc hl ls.length 0 (by omega);simp only[j2i,show Int.ofNat ls.length=(ls.length:Int) from rfl];rw[show xl zs ps cs ss ls (ls.length:Int) 0 []=_ from lp];rfl
structure nS(np:Nat)(x:dE):Prop where
 k0:0<=x.1
 k1:x.1<=2
 a:0<=x.2.1/\x.2.1<(np:Int)\/x.1=1/\x.2.1 = -1
 b:x.1=2->0<=x.2.2.1/\x.2.2.1<(np:Int)/\x.2.1≠x.2.2.1
 b0:x.1≠2->x.2.2.1=0
 f0:0<=x.2.2.2.1
 ft:x.2.2.2.1<x.2.2.2.2
 t1:x.2.2.2.2<=1000000000000
 day:j17 (Int.tdiv x.2.2.2.2 86400)=some true
theorem jEN{c:mu}{x:dE}(h:nS c.2.1.length x):j3q c x=some 0:=by
 have nC:=h.f0;have h9:=h.ft;have NI:=h.t1;have nT:=h.day;have GS:w64 (Int.tdiv x.2.2.2.2 86400)=Int.tdiv x.2.2.2.2 86400:=by rw[sW (by omega)];exact aj (by omega) (by omega)
 simp only[j3q,show Int.ofNat c.2.1.length=(c.2.1.length:Int) from rfl,Av h.k0 h.k1,j3,ji,j6,GS,nT];rw[ah (show¬x.2.2.2.1<0 by omega),ah (show¬x.2.2.2.2<0 by omega),ah (show¬x.2.2.2.1>=x.2.2.2.2 by omega)];simp only[j6]
 have hA:∃b,j2W x.2.1 (c.2.1.length:Int)=some b/\cond (!b) (!(cond (x.1==(1:Int)) (x.2.1==(-1:Int)) false)) false=false:=by
  rcases h.a with⟨a1,a2⟩|⟨a1,a2⟩
  .exact⟨true,xV a1 a2,rfl⟩
  .exact⟨false,jEF (by omega),by rw[a1,a2];rfl⟩
 obtain⟨b,e1,e2⟩:=hA;rw[e1];simp only[j3,e2,j6];by_cases h2:x.1=2
 .obtain⟨b1,b2,b3⟩:=h.b h2;rw[cP h2,j5,xV b1 b2,show (x.1 != 2)=false by rw[h2];rfl,bW b3];rfl
 .rw[bW h2,j6,show (x.1 != 2)=true by simp[h2],h.b0 h2];rfl
theorem VA{zs:List bU}{ps:List dH}{cs:List bt}{ss:List cS}{es:List dE}(hc:∀x∈es,nS ps.length x)(hl:es.length<=48):∀(n i:Nat),i+n=es.length->zR es (es.length:Int) (i:Int) zs ps cs ss=some (.inr ())
 |0,i,hi=>by
  rw[SD];simp only[j0Q];rw[ah (by omega),j6,aU]
 |n+1,i,hi=>by
  have aA:i<es.length:=by omega
  have bj:es.getD i ((0:Int),((0:Int),((0:Int),((0:Int),(0:Int)))))=es[i]:=by simp[aA]
  have h2:=jEN (c:=(zs,(ps,(cs,ss)))) (hc es[i] (je aA));rw[SD];simp only[j0Q];rw[ag (by omega),aR (by omega) (by omega),aj (x:=(i:Int)+1) (by omega) (by omega)];simp only[j5,j7,bj];rw[show j3q (zs,(ps,(cs,ss))) (es[i].1,es[i].2.1,es[i].2.2.1,es[i].2.2.2.1,es[i].2.2.2.2)=_ from h2];simp only[j3,jj,j6,aJ];exact VA hc hl n (i+1) (by omega)
structure qK(nz np nc:Nat)(s:cS):Prop where
 nm:ez (s.2.1.map (·.1))
 ly:∀x∈s.2.1,eD nz np nc x
 ll:s.2.1.length<=6
 ed:∀x∈s.2.2,nS np x
 el:s.2.2.length<=48
theorem jEO{c:mu}{s:cS}(h:qK c.1.length c.2.1.length c.2.2.1.length s):j2a c s=some 0:=by
 have gF:=h.ll;have gh:=h.el;have lp:=VA (zs:=c.1) (ps:=c.2.1) (cs:=c.2.2.1) (ss:=c.2.2.2) h.ed gh s.2.2.length 0 (by omega);rw[show ((0:Nat):Int)=0 from rfl]at lp;simp only[j2a,show Int.ofNat s.2.1.length=(s.2.1.length:Int) from rfl,show Int.ofNat s.2.2.length=(s.2.2.length:Int) from rfl];rw[ah (show¬(s.2.1.length:Int)>6 by omega),ah (show¬(s.2.2.length:Int)>48 by omega)];simp only[j6,jEM (zs:=c.1) (ps:=c.2.1) (cs:=c.2.2.1) (ss:=c.2.2.2) h.nm h.ly (by omega),j3,jj,lp,jK]
theorem VC{zs:List bU}{ps:List dH}{cs:List bt}{ss:List cS}(hn:ez (ss.map (·.1)))(hc:∀x∈ss,qK zs.length ps.length cs.length x)(hl:ss.length<=100):∀(n i:Nat),i+n=ss.length->xm zs ps cs ss ss (ss.length:Int) (i:Int) (nP ((ss.take i).map (·.1)))=some (.inr ())
 |0,i,hi=>by
  rw[SE];simp only[j0u];rw[ah (by omega),j6,aU]
 |n+1,i,hi=>by
  have aA:i<ss.length:=by omega
  have bj:ss.getD i (ByteArray.empty,(([]:List bP),([]:List dE)))=ss[i]:=by simp[aA]
  have h1:=DO (·.1) hn aA;have h2:=jEO (c:=(zs,(ps,(cs,ss)))) (hc ss[i] (je aA));rw[SE];simp only[j0u,jcj,j5K];rw[ag (by omega),aR (by omega) (by omega),aj (x:=(i:Int)+1) (by omega) (by omega)];simp only[j5,j7,bj,j3,h1,jj,j6];rw[show j2a (zs,(ps,(cs,ss))) (ss[i].1,(ss[i].2.1,ss[i].2.2))=_ from h2];simp only[j3,jj,j6,aJ];exact VC hn hc hl n (i+1) (by omega)
structure uU(c:mu):Prop where
 zn:ez (c.1.map (·.1))
 zc:∀z∈c.1,uT z
 zl:c.1.length<=16
 pn:ez (c.2.1.map (·.1))
 pc:∀p∈c.2.1,D2 c.1.length p
 pl:c.2.1.length<=32
 cn:ez (c.2.2.1.map (·.1))
 cc:∀x∈c.2.2.1,rE c.1.length x
 cl:c.2.2.1.length<=8
 sn:ez (c.2.2.2.map (·.1))
 sc:∀x∈c.2.2.2,qK c.1.length c.2.1.length c.2.2.1.length x
 sl:c.2.2.2.length<=12
theorem juM{c:mu}(h:uU c):j5T c=some 0:=by
 have iH:=h.zl;have fm:=h.pl;have ei:=h.cl;have ee:=h.sl;have lp:=Vu (zs:=c.1) (cs:=c.2.2.1) (ss:=c.2.2.2) h.pn h.pc (by omega) c.2.1.length 0 (by omega);have ls:=VC (zs:=c.1) (ps:=c.2.1) (cs:=c.2.2.1) h.sn h.sc (by omega) c.2.2.2.length 0 (by omega);simp only[j5T,show Int.ofNat c.1.length=(c.1.length:Int) from rfl,show Int.ofNat c.2.1.length=(c.2.1.length:Int) from rfl,show Int.ofNat c.2.2.1.length=(c.2.2.1.length:Int) from rfl,show Int.ofNat c.2.2.2.length=(c.2.2.2.length:Int) from rfl];rw[ah (show¬(c.1.length:Int)>16 by omega),ah (show¬(c.2.1.length:Int)>32 by omega),ah (show¬(c.2.2.1.length:Int)>8 by omega),ah (show¬(c.2.2.2.length:Int)>12 by omega)];simp only[j6,jEH h.zn h.zc (by omega),j3,jj];rw[show xn c.2.1 (c.2.1.length:Int) 0 c.1 c.2.1 c.2.2.1 c.2.2.2 []=_ from lp];simp only[j3,jK,jEK (zs:=c.1) (ps:=c.2.1) (cs:=c.2.2.1) (ss:=c.2.2.2) h.cn h.cc (by omega),jj,j6,j2g,show Int.ofNat c.2.2.2.length=(c.2.2.2.length:Int) from rfl];rw[show xm c.1 c.2.1 c.2.2.1 c.2.2.2 c.2.2.2 (c.2.2.2.length:Int) 0 []=_ from ls];rfl
def fJ:List ByteArray:=[(ByteArray.mk #[97,100,97]),(ByteArray.mk #[98,111,98]),(ByteArray.mk #[99,108,101,111]),(ByteArray.mk #[100,97,110]),(ByteArray.mk #[101,118,101]),(ByteArray.mk #[102,97,121]),(ByteArray.mk #[103,117,115]),(ByteArray.mk #[104,97,108])]
def qL:List ByteArray:=[(ByteArray.mk #[104,101,114,101]),(ByteArray.mk #[116,104,101,114,101])]
theorem VD:jiv=some fJ:=rfl
theorem VE:ez fJ:=by
 refine⟨by decide,λk hk=>?_⟩;simp only[fJ,jg,vh,or_false]at hk;rcases hk with rfl|rfl|rfl|rfl|rfl|rfl|rfl|rfl<;>exact DV 60 _ true (by kernel_rfl)
theorem jCk:ez qL:=by
 refine⟨by decide,λk hk=>?_⟩;simp only[qL,jg,vh,or_false]at hk;rcases hk with rfl|rfl<;>exact DV 60 _ true (by kernel_rfl)
theorem ez.take{l:List ByteArray}(h:ez l)(n:Nat):ez (l.take n):=⟨h.1.sublist (List.take_sublist n l),λk hk=>h.2 k (qg hk)⟩
theorem ez.one{s:ByteArray}(h:j7F s=some true):ez [s]:=⟨by simp,λk hk=>by simp at hk;subst hk;exact h⟩
theorem ez.nil:ez []:=⟨zw,by simp⟩
theorem jCl:j7F (ByteArray.mk #[100,97,121,115])=some true:=DV 60 _ true (by kernel_rfl)
theorem jCm:∀k∈fJ,(ByteArray.toList k==ByteArray.toList (ByteArray.mk #[110,111,98,111,100,121]))=false:=by
 intro k hk;simp only[fJ,jg,vh,or_false]at hk;rcases hk with rfl|rfl|rfl|rfl|rfl|rfl|rfl|rfl<;>kernel_rfl
theorem jAA:((List.range 61).all λi=>jrr 60 (20440+(i:Int))==some true)=true:=by kernel_rfl
theorem NJ{d:Int}(h1:20440<=d)(h2:d<=20500):j17 d=some true:=by
 have h:=jx.1 jAA (d-20440).toNat (List.mem_range.2 (by omega));rw[show (20440:Int)+(((d-20440).toNat:Nat):Int)=d by omega]at h;exact GO 60 d true (eq_of_beq h)
theorem t60{x:Int}(h:x%60=0):Int.tmod x 60=0:=by
 have:=DN x 60;rw[h]at this;simpa using this
theorem D5{P:aO->Prop}{r s:aO}(h1:P r)(h2:P s):∀x∈[r,s],P x:=by
 intro x hx;simp at hx;rcases hx with rfl|rfl
 .exact h1
 .exact h2
theorem jCn{L:List Int}{a:Int}(h:du L a)(nm:ByteArray):∃o rs a',j5i L a nm=some ((nm,(o,rs)),L,a')/\Int.tmod o 60=0/\∀r∈rs,Int.tmod r.2.2.2.2.2.2 60=0:=by
 obtain⟨p,a1,e1,m1,d1⟩:=mr h (xs:=[(0:Int),(4:Int),(-20:Int),(22:Int),(48:Int),(-47:Int)]) (by simp) (by simp);obtain⟨x2,a2,e2,x20,x21,d2⟩:=cO (n:=2) d1 (by omega) (by omega);obtain⟨x3,a3,e3,x30,x31,d3⟩:=cO (n:=3) d2 (by omega) (by omega);obtain⟨y,a4,e4,y0,y1,d4⟩:=cO (n:=2) d3 (by omega) (by omega);obtain⟨q,a5,e5,q0,q1,d5⟩:=cO (n:=4) d4 (by omega) (by omega);have hp : -47<=p/\p<=48:=by simp at m1;omega
 have hmul:0<=x2*x3/\x2*x3<=2:=by
  obtain rfl|rfl:x2=0\/x2=1:=by omega
  all_goals omega
 have lb : -43200<=900*(p+x2*x3):=by omega
 have jF:900*(p+x2*x3)<=45000:=by omega
 have sg:(900*(p+x2*x3))%60=0:=by omega
 simp only[j5i,e1,e2,e3,e4,e5,j3];rw[aj (x:=x2*x3) (by omega) (by omega),aj (x:=p+x2*x3) (by omega) (by omega),aj (x:=900*(p+x2*x3)) (by omega) (by omega),aj (x:=2025+y) (by omega) (by omega)];generalize 900*(p+x2*x3)=o at *;generalize 2025+y=last at *;by_cases xU:q=1
 .rw[cP xU,j5,aj (x:=o+3600) (by omega) (by omega)];exact⟨_,_,_,rfl,t60 sg,D5 (P:=λr=>Int.tmod r.2.2.2.2.2.2 60=0) (t60 (show (o+3600)%60=0 by omega)) (t60 sg)⟩
 .rw[bW xU,j6];by_cases DZ:q=2
  .rw[cP DZ,j5];obtain⟨b1,c1,f1,b10,b11,g1⟩:=cO (n:=4) d5 (by omega) (by omega);obtain⟨b2,c2,f2,Ar,Nz,g2⟩:=cO (n:=7) g1 (by omega) (by omega);obtain⟨b3,c3,f3,NA,NB,g3⟩:=cO (n:=24) g2 (by omega) (by omega);obtain⟨b4,c4,f4,b40,b41,g4⟩:=cO (n:=8) g3 (by omega) (by omega);obtain⟨b5,c5,f5,b50,b51,g5⟩:=cO (n:=2) g4 (by omega) (by omega);obtain⟨b6,c6,f6,m6,g6⟩:=mr g5 (xs:=[(2:Int),(3:Int),(5:Int)]) (by simp) (by simp);obtain⟨b7,c7,f7,Vn,b71,g7⟩:=cO (n:=7) g6 (by omega) (by omega);obtain⟨b8,c8,f8,b80,b81,g8⟩:=cO (n:=24) g7 (by omega) (by omega);simp only[f1,f2,f3,f4,f5,f6,f7,f8,j3];rw[aj (x:=1+b4) (by omega) (by omega),aj (x:=1800*(1+b4)) (by omega) (by omega),aj (x:=o+1800*(1+b4)) (by omega) (by omega)];exact⟨_,_,_,rfl,t60 sg,D5 (P:=λr=>Int.tmod r.2.2.2.2.2.2 60=0) (t60 (show (o+1800*(1+b4))%60=0 by omega)) (t60 sg)⟩
  .rw[bW DZ,j6];by_cases D0:q=3
   .rw[cP D0,j5];obtain⟨b1,c1,f1,m1,g1⟩:=mr d5 (xs:=[(3600:Int),(-3600:Int),(82800:Int),(-82800:Int),(43200:Int)]) (by simp) (by simp);obtain⟨b2,c2,f2,Ar,Nz,g2⟩:=cO (n:=7) g1 (by omega) (by omega);obtain⟨b3,c3,f3,NA,NB,g3⟩:=cO (n:=48) g2 (by omega) (by omega);have dJ : -82800<=b1/\b1<=82800/\b1%60=0:=by simp at m1;omega
    simp only[f1,f2,f3,j3];rw[aj (x:=o+b1) (by omega) (by omega)];cases cond (decide (o+b1>64800)) true (decide (o+b1 < -64800)) with
    |true=>exact⟨_,_,_,rfl,t60 sg,λr hr=>by simp at hr;subst hr;rfl⟩
    |false=>exact⟨_,_,_,rfl,t60 sg,λr hr=>by simp at hr;subst hr;exact t60 (by dsimp only;omega)⟩
   .rw[bW D0,j6];exact⟨_,_,_,rfl,t60 sg,by simp⟩
theorem jAB{L:List Int}{a:Int}(h:du L a)(nm:ByteArray):∃o rs a',j5i L a nm=some ((nm,(o,rs)),L,a')/\MZ o rs/\uT (nm,(o,rs))/\du L a':=by
 obtain⟨o,rs,a1,e1,m1,d1⟩:=jCj h nm;obtain⟨o',rs',a2,e2,m2,m3⟩:=jCn h nm;have:=e1.symm.trans e2;simp only[j4,j8,qh]at this;obtain⟨⟨rfl,rfl⟩,rfl⟩:=this;have ht:=(m1.tab nm).1;have hl:=m1.len;exact⟨o,rs,a1,e1,m1,⟨by simp only[j9U,show j2V (nm,(o,rs))=_ from ht,j3],m2,m3,by dsimp only;omega⟩,d1⟩
structure xW(zs:List bU):Prop where
 ok:∀z∈zs,iu z
 ck:∀z∈zs,uT z
 nm:zs.map (·.1)=qL.take zs.length
theorem GU{l:List ByteArray}{n:Nat}(hn:n<l.length):l.take n++[l.getD n ByteArray.empty]=l.take (n+1):=by
 rw[ko,jh hn];simp[hn]
theorem VF{L:List Int}:∀(n:Nat)(a:Int)(zs:List bU),du L a->zs.length+n<=2->xW zs->
  ∃D6 a',FX (n:Int) L a zs=some (L,a',D6)/\D6.length=zs.length+n/\xW D6/\du L a'
 |0,a,zs,hd,_,hz=>by
  rw[Tl];simp only[j3O];rw[ah (by omega),j6,aU];exact⟨zs,a,rfl,rfl,hz,hd⟩
 |n+1,a,zs,hd,hl,hz=>by
  obtain⟨o,rs,a1,e1,m1,k1,d1⟩:=jAB hd (List.getD qL zs.length ByteArray.empty)
  obtain⟨D6,a',e2,h2,h3,h4⟩:=VF n a1 (zs++[(List.getD qL zs.length ByteArray.empty,(o,rs))]) d1 (by simp;omega) ⟨λz ud=>by
   rcases jn.1 ud with h|h
   .exact hz.ok z h
   .simp at h;subst h;exact m1,λz ud=>by
   rcases jn.1 ud with h|h
   .exact hz.ck z h
   .simp at h;subst h;exact k1,by
   rw[zq,hz.nm,ja];exact GU (by show zs.length<2;omega)⟩
  rw[Tl];simp only[j3O,show Int.ofNat (List.length zs)=(zs.length:Int) from rfl];rw[ag (by omega),aR (show (0:Int)<=(zs.length:Int) by omega) (by simp;omega)];simp only[j5,j7];rw[show j5i L a (List.getD [(ByteArray.mk #[104,101,114,101]),(ByteArray.mk #[116,104,101,114,101])] zs.length ByteArray.empty)=_ from e1];simp only[j3];rw[ag (by simp[aY];omega),aj (x:=((n+1:Nat):Int)-1) (by omega) (by omega)];simp only[j5,aJ];rw[show ((n+1:Nat):Int)-1=(n:Int) by omega];exact⟨D6,a',e2,by rw[h2];simp;omega,h3,h4⟩
structure ta(nz:Nat)(ps:List dH):Prop where
 ck:∀p∈ps,D2 nz p
 nm:ps.map (·.1)=fJ.take ps.length
theorem VG{n:Int}(h0:0<=n)(h1:n<=168):j5Q (w64 (3600*n))=some true:=by
 rw[aj (by omega) (by omega)];simp only[j5Q,Av (show 0<=3600*n by omega) (show 3600*n<=604800 by omega),j3,j5];rw[DN,cP (show (3600*n)%3600=0 by omega)]
theorem NK{L:List Int}{zs:List bU}(pW:1<=zs.length)(rD:zs.length<=100):∀(n:Nat)(a:Int)(ps:List dH),du L a->ps.length+n<=4->ta zs.length ps->
  ∃xX a',FY (n:Int) L a zs ps=some (L,a',zs,xX)/\xX.length=ps.length+n/\ta zs.length xX/\du L a'
 |0,a,ps,hd,_,hp=>by
  rw[Tm];simp only[j3P];rw[ah (by omega),j6,aU];exact⟨ps,a,rfl,rfl,hp,hd⟩
 |n+1,a,ps,hd,hl,hp=>by
  obtain⟨x,a1,e1,x0,x1,d1⟩:=cO (n:=(zs.length:Int)) hd (by omega) (by omega);obtain⟨b,a2,e2,d2⟩:=Au (n:=3) d1 (by omega) (by omega);obtain⟨c,a3,e3,d3⟩:=Au (n:=2) d2 (by omega) (by omega);have cd:ps.length<fJ.length:=by show ps.length<8;omega
  have er:fJ.getD ps.length ByteArray.empty∈fJ:=by rw[List.getD_eq_getElem?_getD,jh cd];exact je cd
  have ext:∀(w:WL)(p q:Int),gW 0 w->w.length<=14->p∈[(0:Int),(40:Int),(100:Int),(12:Int)]->q∈[(0:Int),(11:Int),(24:Int),(1:Int)]->
    ta zs.length (ps++[(fJ.getD ps.length ByteArray.empty,(x,(w,(w64 (3600*p),(w64 (3600*q),b)))))]):=by
   intro w p q hw jH sr D7;have vS:0<=p/\p<=168:=by simp at sr;omega
   have EX:0<=q/\q<=168:=by simp at D7;omega
   refine⟨λr hr=>?_,?_⟩
   .rcases jn.1 hr with h|h
    .exact hp.ck r h
    .simp at h;subst h;exact⟨jCm _ er,x0,x1,hw,jH,VG vS.1 vS.2,VG EX.1 EX.2⟩
   .rw[zq,hp.nm,ja];exact GU cd
  rw[Tm];simp only[j3P,VD,j3,show Int.ofNat (List.length ps)=(ps.length:Int) from rfl,show Int.ofNat (List.length zs)=(zs.length:Int) from rfl];rw[ag (by omega),aR (show (0:Int)<=(ps.length:Int) by omega) (by omega)];simp only[j5,e1,e2,e3,j3];rw[aj (x:=((n+1:Nat):Int)-1) (by omega) (by omega),show ((n+1:Nat):Int)-1=(n:Int) by omega];cases c with
  |true=>obtain⟨w,a4,e4,hw,jH,d4⟩:=NF d3;obtain⟨p,a5,e5,sr,d5⟩:=mr d4 (xs:=[(0:Int),(40:Int),(100:Int),(12:Int)]) (by simp) (by simp);obtain⟨q,a6,e6,D7,d6⟩:=mr d5 (xs:=[(0:Int),(11:Int),(24:Int),(1:Int)]) (by simp) (by simp);simp only[j5,e4,e5,e6,j3];rw[ag (by simp[aY];omega)];simp only[j5,aJ];obtain⟨xX,a',e,h1,h2,h3⟩:=NK pW rD n a6 _ d6 (by simp;omega) (ext w p q hw (by omega) sr D7);exact⟨xX,a',e,by rw[h1];simp;omega,h2,h3⟩
  |false=>obtain⟨p,a5,e5,sr,d5⟩:=mr d3 (xs:=[(0:Int),(40:Int),(100:Int),(12:Int)]) (by simp) (by simp);obtain⟨q,a6,e6,D7,d6⟩:=mr d5 (xs:=[(0:Int),(11:Int),(24:Int),(1:Int)]) (by simp) (by simp);simp only[j6,e5,e6,j3];rw[ag (by simp[aY];omega)];simp only[j5,aJ];obtain⟨xX,a',e,h1,h2,h3⟩:=NK pW rD n a6 _ d6 (by simp;omega) (ext [] p q (show (0:Int)<=604800 by omega) (by simp) sr D7);exact⟨xX,a',e,by rw[h1];simp;omega,h2,h3⟩
def xY(q:Int)(ds:List Int):Prop:=ds.Pairwise (· < ·)/\∀d∈ds,20454<d/\d<=q
theorem VH{L:List Int}{s:Int}{nm:ByteArray}{z:Int}{zs:List bU}{ps:List dH}{cs:List bt}:∀(n:Nat)(a day:Int)(ds:List Int),du L a->ds.length+n<=4->20454<=day->day+6*n<=20480->xY day ds->
  ∃NL a',FZ s (n:Int) day L a nm z zs ps cs ds=some (s,L,a',nm,z,zs,ps,cs,NL)/\NL.length<=4/\xY 20480 NL/\du L a'
 |0,a,day,ds,hd,hl,hy,IA,hi=>by
  rw[Tn];simp only[j3Q];rw[ah (by omega),j6,aU];exact⟨ds,a,rfl,by omega,⟨hi.1,λd hd=>by have:=hi.2 d hd;omega⟩,hd⟩
 |n+1,a,day,ds,hd,hl,hy,IA,hi=>by
  obtain⟨x,a1,e1,x0,x1,d1⟩:=cO (n:=6) hd (by omega) (by omega);rw[Tn];simp only[j3Q];rw[ag (by omega),aj (x:=((n+1:Nat):Int)-1) (by omega) (by omega),show ((n+1:Nat):Int)-1=(n:Int) by omega];simp only[j5,e1,j3];rw[ag (by simp[aY];omega),aj (x:=1+x) (by omega) (by omega),aj (x:=day+(1+x)) (by omega) (by omega)];simp only[j5,aJ];refine VH n a1 _ _ d1 (by simp;omega) (by omega) (by omega) ⟨qz.2 ⟨hi.1,by simp,λu hu v hv=>?_⟩,λd hd=>?_⟩
  .simp at hv;subst hv;have:=hi.2 u hu;omega
  .rcases jn.1 hd with h|h
   .have:=hi.2 d h;omega
   .simp at h;omega
structure D8(nz:Nat)(cs:List bt):Prop where
 ck:∀c∈cs,rE nz c
 nm:ez (cs.map (·.1))
 len:cs.length<=1
 dl:∀c∈cs,c.2.2.length<=4
theorem jDB{nz:Nat}{nm:ByteArray}{x:Int}{ds:List Int}(x0:0<=x)(x1:x<nz)(hl:ds.length<=64)(hi:xY 20480 ds):rE nz (nm,(x,ds)):=
 ⟨x0,x1,hl,λd hd=>NJ (by have:=hi.2 d hd;omega) (by have:=hi.2 d hd;omega),hi.1⟩
structure fK(zs:List bU)(ps:List dH)(cs:List bt):Prop where
 so:D1 zs ps cs
 z:xW zs
 p:ta zs.length ps
 c:D8 zs.length cs
theorem jyT{L:List Int}{a:Int}(h:du L a):∃zs ps cs a',jaa L a=some ((zs,(ps,(cs,([]:List cS)))),L,a')/\fK zs ps cs/\du L a':=by
 obtain⟨x,a1,e1,x0,x1,d1⟩:=cO (n:=2) h (by omega) (by omega);obtain⟨zs,a2,e2,l2,k2,d2⟩:=VF (1+x).toNat a1 [] d1 (by simp;omega) ⟨by simp,by simp,rfl⟩;obtain⟨y,a3,e3,y0,y1,d3⟩:=cO (n:=4) d2 (by omega) (by omega);simp at l2;obtain⟨ps,a4,e4,l4,k4,d4⟩:=NK (zs:=zs) (by omega) (by omega) (1+y).toNat a3 [] d3 (by simp;omega) ⟨by simp,rfl⟩;obtain⟨q,a5,e5,q0,q1,d5⟩:=cO (n:=2) d4 (by omega) (by omega);simp at l4
 have cL:∃cs a',F0 q L a5 zs ps []=some (L,a',zs,ps,cs)/\D8 zs.length cs/\du L a':=by
  by_cases hq:q=0
  .subst hq;rw[Kp];simp only[j2Y];rw[ah (by omega),j6,aU];exact⟨[],a5,rfl,⟨by simp,ez.nil,by simp,by simp⟩,d5⟩
  .have xU:q=1:=by omega
   subst xU;obtain⟨x,a6,e6,x0,x1,d6⟩:=cO (n:=(zs.length:Int)) d5 (by omega) (by omega);obtain⟨y,a7,e7,y0,y1,d7⟩:=cO (n:=4) d6 (by omega) (by omega);obtain⟨ds,a8,e8,l8,k8,d8⟩:=VH (s:=(1:Int)) (nm:=ByteArray.mk #[100,97,121,115]) (z:=x) (zs:=zs) (ps:=ps) (cs:=[]) y.toNat a7 20454 [] d7 (by simp;omega) (by omega) (by omega) ⟨by simp,by simp⟩;rw[show ((y.toNat:Nat):Int)=y by omega]at e8;rw[Kp];simp only[j2Y,show Int.ofNat (List.length zs)=(zs.length:Int) from rfl];rw[ag (by omega)];simp only[j5,e6,e7,e8,j3];rw[ag (by simp[aY]),aj (x:=(1:Int)-1) (by omega) (by omega)];simp only[j5,aJ];rw[Kp];simp only[j2Y];rw[ah (by omega),j6,aU];refine⟨_,a8,rfl,⟨λc hc=>?_,ez.one jCl,by simp,λc hc=>by simp at hc;subst hc;exact l8⟩,d8⟩;simp at hc;subst hc;exact jDB x0 x1 (by omega) k8
 obtain⟨cs,a6,e6,k6,d6⟩:=cL;rw[show (((1+x).toNat:Nat):Int)=1+x by omega]at e2;rw[show (((1+y).toNat:Nat):Int)=1+y by omega]at e4;simp only[jaa,e1,j3];rw[aj (x:=1+x) (by omega) (by omega)];simp only[e2,e3,j3];rw[aj (x:=1+y) (by omega) (by omega)];simp only[e4,e5,e6,j3];exact⟨zs,ps,cs,a6,rfl,⟨⟨by omega,by omega,k2.ok,by omega,by omega,k6.len⟩,k2,k4,k6⟩,d6⟩
end Go.Proofs.Pw
