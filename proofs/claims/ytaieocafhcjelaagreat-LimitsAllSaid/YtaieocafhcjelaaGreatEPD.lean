/- tO 8: gX that are right. -/
import Derived.Test.YtaieocafhcjelaaGreatEPA
import Derived.Test.YtaieocafhcjelaaGreatEPC
import Derived.Test.YtaieocafhcjelaaGreatEPB
import Derived.KernelRfl
open Go Go.Lft
namespace Go.Proofs.Pw
abbrev eU:=Int×(Int×(Int×(Int×Int)))
abbrev kS:=List bY×(List dB×(List bf×List cA))
theorem Bh{n lo hi:Int}(h1:lo<=n)(h2:n<=hi):j7A n lo hi=some true:=by
 simp only[j7A];rw[aj (show n>=lo from h1),aj h2];rfl
theorem yF{i n:Int}(h1:0<=i)(h2:i<n):j3a i n=some true:=by
 simp only[j3a];rw[aj (show i>=0 from h1),aj h2];rfl
theorem jBo{i n:Int}(h1:i<0):j3a i n=some false:=by
 simp only[j3a];rw[al (show¬i>=0 by omega)];rfl
structure Bi(z:bY):Prop where
 ck:j9R z=some 0
 o60:Int.tmod z.2.1 60=0
 r60:∀r∈z.2.2,Int.tmod r.2.2.2.2.2.2 60=0
 len:z.2.2.length<=1000
theorem UK{rs:List bm}(h:∀r∈rs,Int.tmod r.2.2.2.2.2.2 60=0)(hl:rs.length<=1000):∀(n i:Nat),i+n=rs.length->Ay rs (rs.length:Int) (i:Int)=some (.inr ())
 |0,i,hi=>by
  rw[R1];simp only[j0I];rw[al (by omega),j6,aW]
 |n+1,i,hi=>by
  have aq:i<rs.length:=by omega
  have bh:rs.getD i ((0:Int),((0:Int),((0:Int),((0:Int),((0:Int),((0:Int),(0:Int)))))))=rs[i]:=by simp[aq]
  have:=h rs[i] (jh aq);rw[R1];simp only[j0I,j8R];rw[aj (by omega),aX (by omega) (by omega),ai (x:=(i:Int)+1) (by omega) (by omega)];simp only[j5,j7,bh,j3,this,jp,j6,aJ];exact UK h hl n (i+1) (by omega)
theorem jBp{z:bY}(h:Bi z):j3N z=some 0:=by
 have lp:=UK h.r60 h.len z.2.2.length 0 (by omega);rw[show ((0:Nat):Int)=0 from rfl]at lp;simp only[j3N,show j9R (z.1,(z.2.1,z.2.2))=_ from h.ck,j3,h.o60,jp,j6,j0D,j0O,show Int.ofNat z.2.2.length=(z.2.2.length:Int) from rfl,lp,nV];rfl
theorem UL{zs:List bY}(hn:fS (zs.map (·.1)))(hc:∀z∈zs,Bi z)(hl:zs.length<=100):∀(n i:Nat),i+n=zs.length->xP zs (zs.length:Int) (i:Int) (oa ((zs.take i).map (·.1)))=some (.inr ())
 |0,i,hi=>by
  rw[R2];simp only[j17];rw[al (by omega),j6,aW]
 |n+1,i,hi=>by
  have aq:i<zs.length:=by omega
  have bh:zs.getD i (ByteArray.empty,((0:Int),([]:List bm)))=zs[i]:=by simp[aq]
  have h1:=DV (·.1) hn aq;have h2:=jBp (hc zs[i] (jh aq));rw[R2];simp only[j17,jbV];rw[aj (by omega),aX (by omega) (by omega),ai (x:=(i:Int)+1) (by omega) (by omega)];simp only[j5,j7,bh,j3,h1,jp,j6];rw[show j3N (zs[i].1,(zs[i].2.1,zs[i].2.2))=_ from h2];simp only[j3,jp,j6,aJ];exact UL hn hc hl n (i+1) (by omega)
theorem jBq{zs:List bY}(hn:fS (zs.map (·.1)))(hc:∀z∈zs,Bi z)(hl:zs.length<=100):j2P zs=some 0:=by
 have lp:=UL hn hc hl zs.length 0 (by omega);simp only[j2P,show Int.ofNat zs.length=(zs.length:Int) from rfl];rw[show xP zs (zs.length:Int) 0 []=_ from lp];rfl
structure G0(nz:Nat)(p:dB):Prop where
 nb:(ByteArray.toList p.1==ByteArray.toList (ByteArray.mk #[110,111,98,111,100,121]))=false
 z0:0<=p.2.1
 z1:p.2.1<nz
 w:iP 0 p.2.2.1
 wl:p.2.2.1.length<=14
 m:j5j p.2.2.2.1=some true
 r:j5j p.2.2.2.2.1=some true
theorem jBr{c:kS}{p:dB}(h:G0 c.1.length p):j2C c p=some 0:=by
 have qC:=h.z0;have rW:=h.z1;simp only[j2C,show Int.ofNat c.1.length=(c.1.length:Int) from rfl,yF qC rW,j3,jq,j6,UJ h.w h.wl,jp,h.m,h.r]
theorem UM{zs:List bY}{ps:List dB}{cs:List bf}{ss:List cA}(hn:fS (ps.map (·.1)))(hc:∀p∈ps,G0 zs.length p)(hl:ps.length<=100):∀(n i:Nat),i+n=ps.length->xT ps (ps.length:Int) (i:Int) zs ps cs ss (oa ((ps.take i).map (·.1)))=some (.inr (zs,ps,cs,ss))
 |0,i,hi=>by
  rw[Sb];simp only[j2v];rw[al (by omega),j6,aW]
 |n+1,i,hi=>by
  have aq:i<ps.length:=by omega
  have bh:ps.getD i (ByteArray.empty,((0:Int),(([]:List (Int×Int)),((0:Int),((0:Int),false)))))=ps[i]:=by simp[aq]
  have h1:=DV (·.1) hn aq;have hp:=hc ps[i] (jh aq);have h2:=jBr (c:=(zs,(ps,(cs,ss)))) hp;rw[Sb];simp only[j2v];rw[aj (by omega),aX (by omega) (by omega),ai (x:=(i:Int)+1) (by omega) (by omega)];simp only[j5,j7,bh,j3,h1,hp.nb,vb,j6];rw[show j2C (zs,(ps,(cs,ss))) (ps[i].1,(ps[i].2.1,(ps[i].2.2.1,(ps[i].2.2.2.1,(ps[i].2.2.2.2.1,ps[i].2.2.2.2.2)))))=_ from h2];simp only[j3,jp,j6,aJ];exact UM hn hc hl n (i+1) (by omega)
structure vT(nz:Nat)(c:bf):Prop where
 z0:0<=c.2.1
 z1:c.2.1<nz
 len:c.2.2.length<=64
 day:∀d∈c.2.2,j2k d=some true
 asc:c.2.2.Pairwise (· < ·)
theorem UN{ds:List Int}(h:∀d∈ds,j2k d=some true)(hl:ds.length<=64):∀(n i:Nat),i+n=ds.length->AA ds (ds.length:Int) (i:Int)=some (.inr ())
 |0,i,hi=>by
  rw[R4];simp only[j0U];rw[al (by omega),j6,aW]
 |n+1,i,hi=>by
  have aq:i<ds.length:=by omega
  have bh:ds.getD i (0:Int)=ds[i]:=by simp[aq]
  have:=h ds[i] (jh aq);rw[R4];simp only[j0U,j2V];rw[aj (by omega),aX (by omega) (by omega),ai (x:=(i:Int)+1) (by omega) (by omega)];simp only[j5,j7,bh,this,j3,jq,j6,aJ];exact UN h hl n (i+1) (by omega)
theorem UO{nm:ByteArray}{z:Int}{ds:List Int}(h:ds.Pairwise (· < ·))(hl:ds.length<=64):∀(n i:Nat),i+n=ds.length->AB (ds.length:Int) (i:Int) nm z ds=some (.inr ())
 |0,i,hi=>by
  rw[R5];simp only[j2G];rw[al (by omega),j6,aW]
 |n+1,i,hi=>by
  have aq:i<ds.length:=by omega
  have bh:ds.getD i (0:Int)=ds[i]:=by simp[aq]
  have ih:=UO (nm:=nm) (z:=z) h hl n (i+1) (by omega);rw[R5];simp only[j2G];rw[aj (by omega),aX (i:=(i:Int)) (by omega) (by omega),ai (x:=(i:Int)+1) (by omega) (by omega)];simp only[j5,j7,bh];by_cases h0:i=0
  .subst h0;rw[al (by omega),j6,aJ];exact ih
  .have hj:i-1<ds.length:=by omega
   have hgj:ds.getD (i-1) (0:Int)=ds[i-1]:=by simp[hj]
   have hp:ds[i-1]<ds[i]:=ky.1 h (i-1) i hj aq (by omega);rw[aj (show (i:Int)>0 by omega),ai (x:=(i:Int)-1) (by omega) (by omega),aX (i:=(i:Int)-1) (by omega) (by omega),show ((i:Int)-1).toNat=i-1 by omega,hgj,al (show¬ds[i]<=ds[i-1] by omega)];simp only[j5,j6,aJ];exact ih
theorem jBs{c:kS}{x:bf}(h:vT c.1.length x):j2t c x=some 0:=by
 have qC:=h.z0;have rW:=h.z1;have hl:=h.len;have l1:=UN h.day hl x.2.2.length 0 (by omega);have l2:=UO (nm:=x.1) (z:=x.2.1) h.asc hl x.2.2.length 0 (by omega);rw[show ((0:Nat):Int)=0 from rfl]at l1 l2;simp only[j2t,show Int.ofNat c.1.length=(c.1.length:Int) from rfl,show Int.ofNat x.2.2.length=(x.2.2.length:Int) from rfl,yF qC rW,j3,jq,j6,j2m,j2W,l1,l2,nV];rw[al (by omega)];rfl
theorem UP{zs:List bY}{ps:List dB}{cs:List bf}{ss:List cA}(hn:fS (cs.map (·.1)))(hc:∀x∈cs,vT zs.length x)(hl:cs.length<=100):∀(n i:Nat),i+n=cs.length->xQ zs ps cs ss cs (cs.length:Int) (i:Int) (oa ((cs.take i).map (·.1)))=some (.inr ())
 |0,i,hi=>by
  rw[R6];simp only[j0L];rw[al (by omega),j6,aW]
 |n+1,i,hi=>by
  have aq:i<cs.length:=by omega
  have bh:cs.getD i (ByteArray.empty,((0:Int),([]:List Int)))=cs[i]:=by simp[aq]
  have h1:=DV (·.1) hn aq;have h2:=jBs (c:=(zs,(ps,(cs,ss)))) (hc cs[i] (jh aq));rw[R6];simp only[j0L,jbX,j5Z];rw[aj (by omega),aX (by omega) (by omega),ai (x:=(i:Int)+1) (by omega) (by omega)];simp only[j5,j7,bh,j3,h1,jp,j6];rw[show j2t (zs,(ps,(cs,ss))) (cs[i].1,(cs[i].2.1,cs[i].2.2))=_ from h2];simp only[j3,jp,j6,aJ];exact UP hn hc hl n (i+1) (by omega)
theorem jBt{zs:List bY}{ps:List dB}{cs:List bf}{ss:List cA}(hn:fS (cs.map (·.1)))(hc:∀x∈cs,vT zs.length x)(hl:cs.length<=100):j1V cs zs ps cs ss=some 0:=by
 have lp:=UP (ps:=ps) (ss:=ss) hn hc hl cs.length 0 (by omega);simp only[j1V,show Int.ofNat cs.length=(cs.length:Int) from rfl];rw[show xQ zs ps cs ss cs (cs.length:Int) 0 []=_ from lp];rfl
structure fI(nz np nc:Nat)(l:cg):Prop where
 z0:0<=l.2.1
 z1:l.2.1<nz
 d0:1<=l.2.2.1.1
 day:j2k l.2.2.1.1=some true
 c0:0<=l.2.2.1.2
 c1:l.2.2.1.2<=86399
 u0:0<=l.2.2.2.1
 u1:l.2.2.2.1<=2
 e0:1<=l.2.2.2.2.1
 e1:l.2.2.2.2.1<=400
 m0:l.2.2.2.2.2.1.length≠0
 m1:l.2.2.2.2.2.1.length<=12
 mem:∀m∈l.2.2.2.2.2.1,0<=m/\m<(np:Int)
 w:iP 0 l.2.2.2.2.2.2.1
 wl:l.2.2.2.2.2.2.1.length<=14
 mode0:0<=l.2.2.2.2.2.2.2.2
 mode1:l.2.2.2.2.2.2.2.2<=2
 cal:l.2.2.2.2.2.2.2.2≠0->0<=l.2.2.2.2.2.2.2.1/\l.2.2.2.2.2.2.2.1<(nc:Int)
 cal0:l.2.2.2.2.2.2.2.2=0->l.2.2.2.2.2.2.2.1=0
theorem UQ{zs:List bY}{ps:List dB}{cs:List bf}{ss:List cA}{ms:List Int}(h:∀m∈ms,0<=m/\m<(ps.length:Int))(hl:ms.length<=12):∀(n i:Nat),i+n=ms.length->AD ms zs ps cs ss (ms.length:Int) (i:Int)=some (.inr ())
 |0,i,hi=>by
  rw[R7];simp only[j1D];rw[al (by omega),j6,aW]
 |n+1,i,hi=>by
  have aq:i<ms.length:=by omega
  have bh:ms.getD i (0:Int)=ms[i]:=by simp[aq]
  have hm:=h ms[i] (jh aq);rw[R7];simp only[j1D,j87,show Int.ofNat ps.length=(ps.length:Int) from rfl];rw[aj (by omega),aX (by omega) (by omega),ai (x:=(i:Int)+1) (by omega) (by omega)];simp only[j5,j7,bh,yF hm.1 hm.2,j3,jq,j6,aJ];exact UQ h hl n (i+1) (by omega)
theorem jBu{c:kS}{l:cg}(h:fI c.1.length c.2.1.length c.2.2.1.length l):j3l c l=some 0:=by
 have qC:=h.z0;have rW:=h.z1;have M6:=h.d0;have gI:=h.m0;have gj:=h.m1;have l1:=UQ (zs:=c.1) (cs:=c.2.2.1) (ss:=c.2.2.2) h.mem gj l.2.2.2.2.2.1.length 0 (by omega);rw[show ((0:Nat):Int)=0 from rfl]at l1
 simp only[j3l,show Int.ofNat c.1.length=(c.1.length:Int) from rfl,show Int.ofNat l.2.2.2.2.2.1.length=(l.2.2.2.2.2.1.length:Int) from rfl,show Int.ofNat c.2.2.1.length=(c.2.2.1.length:Int) from rfl,yF qC rW,j3,jq,j6,h.day,Bh h.c0 h.c1,Bh h.u0 h.u1,Bh h.e0 h.e1,Bh h.mode0 h.mode1,
  j1J,j2n,l1,nV,UJ h.w h.wl,jp]
 rw[al (show¬l.2.2.1.1<1 by omega),cP (show¬(l.2.2.2.2.2.1.length:Int)=0 by omega),al (show¬(l.2.2.2.2.2.1.length:Int)>12 by omega),al (show¬(-1:Int)>=0 by omega)];simp only[j6];by_cases Ee:l.2.2.2.2.2.2.2.2=0
 .rw[Ee,h.cal0 Ee];rfl
 .have hc:=h.cal Ee;rw[show (l.2.2.2.2.2.2.2.2 != 0)=true by simp[Ee],cP Ee,j5,yF hc.1 hc.2];rfl
theorem UR{zs:List bY}{ps:List dB}{cs:List bf}{ss:List cA}{ls:List cg}(hn:fS (ls.map (·.1)))(hc:∀x∈ls,fI zs.length ps.length cs.length x)(hl:ls.length<=100):∀(n i:Nat),i+n=ls.length->xR zs ps cs ss ls (ls.length:Int) (i:Int) (oa ((ls.take i).map (·.1)))=some (.inr ())
 |0,i,hi=>by
  rw[R8];simp only[j12];rw[al (by omega),j6,aW]
 |n+1,i,hi=>by
  have aq:i<ls.length:=by omega
  have bh:ls.getD i (ByteArray.empty,((0:Int),(((0:Int),(0:Int)),((0:Int),((0:Int),(([]:(List Int)),(([]:(List (Int×Int))),((0:Int),(0:Int)))))))))=ls[i]:=by simp[aq]
  have h1:=DV (·.1) hn aq;have h2:=jBu (c:=(zs,(ps,(cs,ss)))) (hc ls[i] (jh aq));rw[R8];simp only[j12,j6Q,j2Y];rw[aj (by omega),aX (by omega) (by omega),ai (x:=(i:Int)+1) (by omega) (by omega)];simp only[j5,j7,bh,j3,h1,jp,j6];rw[show j3l (zs,(ps,(cs,ss))) (ls[i].1,ls[i].2.1,(ls[i].2.2.1.1,ls[i].2.2.1.2),ls[i].2.2.2.1,ls[i].2.2.2.2.1,ls[i].2.2.2.2.2.1,ls[i].2.2.2.2.2.2.1,ls[i].2.2.2.2.2.2.2.1,ls[i].2.2.2.2.2.2.2.2)=_ from h2];simp only[j3,jp,j6,aJ];exact UR hn hc hl n (i+1) (by omega)
theorem jBv{zs:List bY}{ps:List dB}{cs:List bf}{ss:List cA}{ls:List cg}(hn:fS (ls.map (·.1)))(hc:∀x∈ls,fI zs.length ps.length cs.length x)(hl:ls.length<=100):j2D ls zs ps cs ss=some 0:=by
 have lp:=UR (ss:=ss) hn hc hl ls.length 0 (by omega);simp only[j2D,show Int.ofNat ls.length=(ls.length:Int) from rfl];rw[show xR zs ps cs ss ls (ls.length:Int) 0 []=_ from lp];rfl
structure qV(np:Nat)(x:eU):Prop where
 k0:0<=x.1
 k1:x.1<=2
 a:0<=x.2.1/\x.2.1<(np:Int)\/x.1=1/\x.2.1 = -1
 b:x.1=2->0<=x.2.2.1/\x.2.2.1<(np:Int)/\x.2.1≠x.2.2.1
 b0:x.1≠2->x.2.2.1=0
 f0:0<=x.2.2.2.1
 ft:x.2.2.2.1<x.2.2.2.2
 t1:x.2.2.2.2<=1000000000000
 day:j2k (Int.tdiv x.2.2.2.2 86400)=some true
theorem jBw{c:kS}{x:eU}(h:qV c.2.1.length x):j3O c x=some 0:=by
 have Fv:=h.f0;have iy:=h.ft;have G1:=h.t1;have yG:=h.day;have G2:w64 (Int.tdiv x.2.2.2.2 86400)=Int.tdiv x.2.2.2.2 86400:=by rw[GN (by omega)];exact ai (by omega) (by omega)
 simp only[j3O,show Int.ofNat c.2.1.length=(c.2.1.length:Int) from rfl,Bh h.k0 h.k1,j3,jq,j6,G2,yG];rw[al (show¬x.2.2.2.1<0 by omega),al (show¬x.2.2.2.2<0 by omega),al (show¬x.2.2.2.1>=x.2.2.2.2 by omega)];simp only[j6]
 have hA:∃b,j3a x.2.1 (c.2.1.length:Int)=some b/\cond (!b) (!(cond (x.1==(1:Int)) (x.2.1==(-1:Int)) false)) false=false:=by
  rcases h.a with⟨a1,a2⟩|⟨a1,a2⟩
  .exact⟨true,yF a1 a2,rfl⟩
  .exact⟨false,jBo (by omega),by rw[a1,a2];rfl⟩
 obtain⟨b,e1,e2⟩:=hA;rw[e1];simp only[j3,e2,j6];by_cases h2:x.1=2
 .obtain⟨b1,b2,b3⟩:=h.b h2;rw[ee h2,j5,yF b1 b2,show (x.1 != 2)=false by rw[h2];rfl,cP b3];rfl
 .rw[cP h2,j6,show (x.1 != 2)=true by simp[h2],h.b0 h2];rfl
theorem US{zs:List bY}{ps:List dB}{cs:List bf}{ss:List cA}{es:List eU}(hc:∀x∈es,qV ps.length x)(hl:es.length<=48):∀(n i:Nat),i+n=es.length->AE es (es.length:Int) (i:Int) zs ps cs ss=some (.inr ())
 |0,i,hi=>by
  rw[R9];simp only[j1f];rw[al (by omega),j6,aW]
 |n+1,i,hi=>by
  have aq:i<es.length:=by omega
  have bh:es.getD i ((0:Int),((0:Int),((0:Int),((0:Int),(0:Int)))))=es[i]:=by simp[aq]
  have h2:=jBw (c:=(zs,(ps,(cs,ss)))) (hc es[i] (jh aq));rw[R9];simp only[j1f];rw[aj (by omega),aX (by omega) (by omega),ai (x:=(i:Int)+1) (by omega) (by omega)];simp only[j5,j7,bh];rw[show j3O (zs,(ps,(cs,ss))) (es[i].1,es[i].2.1,es[i].2.2.1,es[i].2.2.2.1,es[i].2.2.2.2)=_ from h2];simp only[j3,jp,j6,aJ];exact US hc hl n (i+1) (by omega)
structure vU(nz np nc:Nat)(s:cA):Prop where
 nm:fS (s.2.1.map (·.1))
 ly:∀x∈s.2.1,fI nz np nc x
 ll:s.2.1.length<=6
 ed:∀x∈s.2.2,qV np x
 el:s.2.2.length<=48
theorem jBx{c:kS}{s:cA}(h:vU c.1.length c.2.1.length c.2.2.1.length s):j2u c s=some 0:=by
 have ib:=h.ll;have hQ:=h.el;have lp:=US (zs:=c.1) (ps:=c.2.1) (cs:=c.2.2.1) (ss:=c.2.2.2) h.ed hQ s.2.2.length 0 (by omega);rw[show ((0:Nat):Int)=0 from rfl]at lp;simp only[j2u,show Int.ofNat s.2.1.length=(s.2.1.length:Int) from rfl,show Int.ofNat s.2.2.length=(s.2.2.length:Int) from rfl];rw[al (show¬(s.2.1.length:Int)>6 by omega),al (show¬(s.2.2.length:Int)>48 by omega)];simp only[j6,jBv (zs:=c.1) (ps:=c.2.1) (cs:=c.2.2.1) (ss:=c.2.2.2) h.nm h.ly (by omega),j3,jp,lp,nV]
theorem UT{zs:List bY}{ps:List dB}{cs:List bf}{ss:List cA}(hn:fS (ss.map (·.1)))(hc:∀x∈ss,vU zs.length ps.length cs.length x)(hl:ss.length<=100):∀(n i:Nat),i+n=ss.length->xS zs ps cs ss ss (ss.length:Int) (i:Int) (oa ((ss.take i).map (·.1)))=some (.inr ())
 |0,i,hi=>by
  rw[Sa];simp only[j0M];rw[al (by omega),j6,aW]
 |n+1,i,hi=>by
  have aq:i<ss.length:=by omega
  have bh:ss.getD i (ByteArray.empty,(([]:List cg),([]:List eU)))=ss[i]:=by simp[aq]
  have h1:=DV (·.1) hn aq;have h2:=jBx (c:=(zs,(ps,(cs,ss)))) (hc ss[i] (jh aq));rw[Sa];simp only[j0M,jbY,j60];rw[aj (by omega),aX (by omega) (by omega),ai (x:=(i:Int)+1) (by omega) (by omega)];simp only[j5,j7,bh,j3,h1,jp,j6];rw[show j2u (zs,(ps,(cs,ss))) (ss[i].1,(ss[i].2.1,ss[i].2.2))=_ from h2];simp only[j3,jp,j6,aJ];exact UT hn hc hl n (i+1) (by omega)
structure tP(c:kS):Prop where
 zn:fS (c.1.map (·.1))
 zc:∀z∈c.1,Bi z
 zl:c.1.length<=16
 pn:fS (c.2.1.map (·.1))
 pc:∀p∈c.2.1,G0 c.1.length p
 pl:c.2.1.length<=32
 cn:fS (c.2.2.1.map (·.1))
 cc:∀x∈c.2.2.1,vT c.1.length x
 cl:c.2.2.1.length<=8
 sn:fS (c.2.2.2.map (·.1))
 sc:∀x∈c.2.2.2,vU c.1.length c.2.1.length c.2.2.1.length x
 sl:c.2.2.2.length<=12
theorem jrN{c:kS}(h:tP c):j68 c=some 0:=by
 have mc:=h.zl;have fv:=h.pl;have fp:=h.cl;have eu:=h.sl;have lp:=UM (zs:=c.1) (cs:=c.2.2.1) (ss:=c.2.2.2) h.pn h.pc (by omega) c.2.1.length 0 (by omega);have ls:=UT (zs:=c.1) (ps:=c.2.1) (cs:=c.2.2.1) h.sn h.sc (by omega) c.2.2.2.length 0 (by omega);simp only[j68,show Int.ofNat c.1.length=(c.1.length:Int) from rfl,show Int.ofNat c.2.1.length=(c.2.1.length:Int) from rfl,show Int.ofNat c.2.2.1.length=(c.2.2.1.length:Int) from rfl,show Int.ofNat c.2.2.2.length=(c.2.2.2.length:Int) from rfl];rw[al (show¬(c.1.length:Int)>16 by omega),al (show¬(c.2.1.length:Int)>32 by omega),al (show¬(c.2.2.1.length:Int)>8 by omega),al (show¬(c.2.2.2.length:Int)>12 by omega)];simp only[j6,jBq h.zn h.zc (by omega),j3,jp];rw[show xT c.2.1 (c.2.1.length:Int) 0 c.1 c.2.1 c.2.2.1 c.2.2.2 []=_ from lp];simp only[j3,nV,jBt (zs:=c.1) (ps:=c.2.1) (cs:=c.2.2.1) (ss:=c.2.2.2) h.cn h.cc (by omega),jp,j6,j2B,show Int.ofNat c.2.2.2.length=(c.2.2.2.length:Int) from rfl];rw[show xS c.1 c.2.1 c.2.2.1 c.2.2.2 c.2.2.2 (c.2.2.2.length:Int) 0 []=_ from ls];rfl
def fJ:List ByteArray:=[(ByteArray.mk #[97,100,97]),(ByteArray.mk #[98,111,98]),(ByteArray.mk #[99,108,101,111]),(ByteArray.mk #[100,97,110]),(ByteArray.mk #[101,118,101]),(ByteArray.mk #[102,97,121]),(ByteArray.mk #[103,117,115]),(ByteArray.mk #[104,97,108])]
def qW:List ByteArray:=[(ByteArray.mk #[104,101,114,101]),(ByteArray.mk #[116,104,101,114,101])]
theorem UU:jha=some fJ:=rfl
theorem UW:fS fJ:=by
 refine⟨by decide,λk hk=>?_⟩;simp only[fJ,je,vc,or_false]at hk;rcases hk with rfl|rfl|rfl|rfl|rfl|rfl|rfl|rfl<;>exact DY 60 _ true (by kernel_rfl)
theorem jyZ:fS qW:=by
 refine⟨by decide,λk hk=>?_⟩;simp only[qW,je,vc,or_false]at hk;rcases hk with rfl|rfl<;>exact DY 60 _ true (by kernel_rfl)
theorem fS.take{l:List ByteArray}(h:fS l)(n:Nat):fS (l.take n):=⟨h.1.sublist (List.take_sublist n l),λk hk=>h.2 k (qf hk)⟩
theorem fS.one{s:ByteArray}(h:j9Q s=some true):fS [s]:=⟨by simp,λk hk=>by simp at hk;subst hk;exact h⟩
theorem fS.nil:fS []:=⟨zi,by simp⟩
theorem jz0:j9Q (ByteArray.mk #[100,97,121,115])=some true:=DY 60 _ true (by kernel_rfl)
theorem jz1:∀k∈fJ,(ByteArray.toList k==ByteArray.toList (ByteArray.mk #[110,111,98,111,100,121]))=false:=by
 intro k hk;simp only[fJ,je,vc,or_false]at hk;rcases hk with rfl|rfl|rfl|rfl|rfl|rfl|rfl|rfl<;>kernel_rfl
theorem jxc:((List.range 61).all λi=>jp5 60 (20440+(i:Int))==some true)=true:=by kernel_rfl
theorem M7{d:Int}(h1:20440<=d)(h2:d<=20500):j2k d=some true:=by
 have h:=jz.1 jxc (d-20440).toNat (List.mem_range.2 (by omega));rw[show (20440:Int)+(((d-20440).toNat:Nat):Int)=d by omega]at h;exact GV 60 d true (eq_of_beq h)
theorem t60{x:Int}(h:x%60=0):Int.tmod x 60=0:=by
 have:=DU x 60;rw[h]at this;simpa using this
theorem Ef{P:bm->Prop}{r s:bm}(h1:P r)(h2:P s):∀x∈[r,s],P x:=by
 intro x hx;simp at hx;rcases hx with rfl|rfl
 .exact h1
 .exact h2
theorem jz2{L:List Int}{a:Int}(h:dp L a)(nm:ByteArray):∃o rs a',j5y L a nm=some ((nm,(o,rs)),L,a')/\Int.tmod o 60=0/\∀r∈rs,Int.tmod r.2.2.2.2.2.2 60=0:=by
 obtain⟨p,a1,e1,m1,d1⟩:=mG h (xs:=[(0:Int),(4:Int),(-20:Int),(22:Int),(48:Int),(-47:Int)]) (by simp) (by simp);obtain⟨x2,a2,e2,x20,x21,d2⟩:=cK (n:=2) d1 (by omega) (by omega);obtain⟨x3,a3,e3,x30,x31,d3⟩:=cK (n:=3) d2 (by omega) (by omega);obtain⟨y,a4,e4,y0,y1,d4⟩:=cK (n:=2) d3 (by omega) (by omega);obtain⟨q,a5,e5,q0,q1,d5⟩:=cK (n:=4) d4 (by omega) (by omega);have hp : -47<=p/\p<=48:=by simp at m1;omega
 have hmul:0<=x2*x3/\x2*x3<=2:=by
  obtain rfl|rfl:x2=0\/x2=1:=by omega
  all_goals omega
 have nn : -43200<=900*(p+x2*x3):=by omega
 have lN:900*(p+x2*x3)<=45000:=by omega
 have sS:(900*(p+x2*x3))%60=0:=by omega
 simp only[j5y,e1,e2,e3,e4,e5,j3];rw[ai (x:=x2*x3) (by omega) (by omega),ai (x:=p+x2*x3) (by omega) (by omega),ai (x:=900*(p+x2*x3)) (by omega) (by omega),ai (x:=2025+y) (by omega) (by omega)];generalize 900*(p+x2*x3)=o at *;generalize 2025+y=last at *;by_cases yE:q=1
 .rw[ee yE,j5,ai (x:=o+3600) (by omega) (by omega)];exact⟨_,_,_,rfl,t60 sS,Ef (P:=λr=>Int.tmod r.2.2.2.2.2.2 60=0) (t60 (show (o+3600)%60=0 by omega)) (t60 sS)⟩
 .rw[cP yE,j6];by_cases Ea:q=2
  .rw[ee Ea,j5];obtain⟨b1,c1,f1,b10,b11,g1⟩:=cK (n:=4) d5 (by omega) (by omega);obtain⟨b2,c2,f2,Bf,M0,g2⟩:=cK (n:=7) g1 (by omega) (by omega);obtain⟨b3,c3,f3,M1,M3,g3⟩:=cK (n:=24) g2 (by omega) (by omega);obtain⟨b4,c4,f4,b40,b41,g4⟩:=cK (n:=8) g3 (by omega) (by omega);obtain⟨b5,c5,f5,b50,b51,g5⟩:=cK (n:=2) g4 (by omega) (by omega);obtain⟨b6,c6,f6,m6,g6⟩:=mG g5 (xs:=[(2:Int),(3:Int),(5:Int)]) (by simp) (by simp);obtain⟨b7,c7,f7,UE,b71,g7⟩:=cK (n:=7) g6 (by omega) (by omega);obtain⟨b8,c8,f8,b80,b81,g8⟩:=cK (n:=24) g7 (by omega) (by omega);simp only[f1,f2,f3,f4,f5,f6,f7,f8,j3];rw[ai (x:=1+b4) (by omega) (by omega),ai (x:=1800*(1+b4)) (by omega) (by omega),ai (x:=o+1800*(1+b4)) (by omega) (by omega)];exact⟨_,_,_,rfl,t60 sS,Ef (P:=λr=>Int.tmod r.2.2.2.2.2.2 60=0) (t60 (show (o+1800*(1+b4))%60=0 by omega)) (t60 sS)⟩
  .rw[cP Ea,j6];by_cases Eb:q=3
   .rw[ee Eb,j5];obtain⟨b1,c1,f1,m1,g1⟩:=mG d5 (xs:=[(3600:Int),(-3600:Int),(82800:Int),(-82800:Int),(43200:Int)]) (by simp) (by simp);obtain⟨b2,c2,f2,Bf,M0,g2⟩:=cK (n:=7) g1 (by omega) (by omega);obtain⟨b3,c3,f3,M1,M3,g3⟩:=cK (n:=48) g2 (by omega) (by omega);have da : -82800<=b1/\b1<=82800/\b1%60=0:=by simp at m1;omega
    simp only[f1,f2,f3,j3];rw[ai (x:=o+b1) (by omega) (by omega)];cases cond (decide (o+b1>64800)) true (decide (o+b1 < -64800)) with
    |true=>exact⟨_,_,_,rfl,t60 sS,λr hr=>by simp at hr;subst hr;rfl⟩
    |false=>exact⟨_,_,_,rfl,t60 sS,λr hr=>by simp at hr;subst hr;exact t60 (by dsimp only;omega)⟩
   .rw[cP Eb,j6];exact⟨_,_,_,rfl,t60 sS,by simp⟩
theorem jxd{L:List Int}{a:Int}(h:dp L a)(nm:ByteArray):∃o rs a',j5y L a nm=some ((nm,(o,rs)),L,a')/\MZ o rs/\Bi (nm,(o,rs))/\dp L a':=by
 obtain⟨o,rs,a1,e1,m1,d1⟩:=jyY h nm;obtain⟨o',rs',a2,e2,m2,m3⟩:=jz2 h nm;have:=e1.symm.trans e2;simp only[j4,j8,qi]at this;obtain⟨⟨rfl,rfl⟩,rfl⟩:=this;have ht:=(m1.tab nm).1;have hl:=m1.len;exact⟨o,rs,a1,e1,m1,⟨by simp only[j9R,show j38 (nm,(o,rs))=_ from ht,j3],m2,m3,by dsimp only;omega⟩,d1⟩
structure yH(zs:List bY):Prop where
 ok:∀z∈zs,nq z
 ck:∀z∈zs,Bi z
 nm:zs.map (·.1)=qW.take zs.length
theorem G3{l:List ByteArray}{n:Nat}(hn:n<l.length):l.take n++[l.getD n ByteArray.empty]=l.take (n+1):=by
 rw[ko,jj hn];simp[hn]
theorem UX{L:List Int}:∀(n:Nat)(a:Int)(zs:List bY),dp L a->zs.length+n<=2->yH zs->
  ∃Eg a',Gh (n:Int) L a zs=some (L,a',Eg)/\Eg.length=zs.length+n/\yH Eg/\dp L a'
 |0,a,zs,hd,_,hz=>by
  rw[Tk];simp only[j47];rw[al (by omega),j6,aW];exact⟨zs,a,rfl,rfl,hz,hd⟩
 |n+1,a,zs,hd,hl,hz=>by
  obtain⟨o,rs,a1,e1,m1,k1,d1⟩:=jxd hd (List.getD qW zs.length ByteArray.empty)
  obtain⟨Eg,a',e2,h2,h3,h4⟩:=UX n a1 (zs++[(List.getD qW zs.length ByteArray.empty,(o,rs))]) d1 (by simp;omega) ⟨λz CF=>by
   rcases jn.1 CF with h|h
   .exact hz.ok z h
   .simp at h;subst h;exact m1,λz CF=>by
   rcases jn.1 CF with h|h
   .exact hz.ck z h
   .simp at h;subst h;exact k1,by
   rw[zr,hz.nm,ja];exact G3 (by show zs.length<2;omega)⟩
  rw[Tk];simp only[j47,show Int.ofNat (List.length zs)=(zs.length:Int) from rfl];rw[aj (by omega),aX (show (0:Int)<=(zs.length:Int) by omega) (by simp;omega)];simp only[j5,j7];rw[show j5y L a (List.getD [(ByteArray.mk #[104,101,114,101]),(ByteArray.mk #[116,104,101,114,101])] zs.length ByteArray.empty)=_ from e1];simp only[j3];rw[aj (by simp[aR];omega),ai (x:=((n+1:Nat):Int)-1) (by omega) (by omega)];simp only[j5,aJ];rw[show ((n+1:Nat):Int)-1=(n:Int) by omega];exact⟨Eg,a',e2,by rw[h2];simp;omega,h3,h4⟩
structure tQ(nz:Nat)(ps:List dB):Prop where
 ck:∀p∈ps,G0 nz p
 nm:ps.map (·.1)=fJ.take ps.length
theorem UY{n:Int}(h0:0<=n)(h1:n<=168):j5j (w64 (3600*n))=some true:=by
 rw[ai (by omega) (by omega)];simp only[j5j,Bh (show 0<=3600*n by omega) (show 3600*n<=604800 by omega),j3,j5];rw[DU,ee (show (3600*n)%3600=0 by omega)]
theorem M8{L:List Int}{zs:List bY}(qC:1<=zs.length)(rW:zs.length<=100):∀(n:Nat)(a:Int)(ps:List dB),dp L a->ps.length+n<=4->tQ zs.length ps->
  ∃yI a',Gj (n:Int) L a zs ps=some (L,a',zs,yI)/\yI.length=ps.length+n/\tQ zs.length yI/\dp L a'
 |0,a,ps,hd,_,hp=>by
  rw[Tl];simp only[j48];rw[al (by omega),j6,aW];exact⟨ps,a,rfl,rfl,hp,hd⟩
 |n+1,a,ps,hd,hl,hp=>by
  obtain⟨x,a1,e1,x0,x1,d1⟩:=cK (n:=(zs.length:Int)) hd (by omega) (by omega);obtain⟨b,a2,e2,d2⟩:=Bg (n:=3) d1 (by omega) (by omega);obtain⟨c,a3,e3,d3⟩:=Bg (n:=2) d2 (by omega) (by omega);have bW:ps.length<fJ.length:=by show ps.length<8;omega
  have dY:fJ.getD ps.length ByteArray.empty∈fJ:=by rw[List.getD_eq_getElem?_getD,jj bW];exact jh bW
  have ext:∀(w:WL)(p q:Int),iP 0 w->w.length<=14->p∈[(0:Int),(40:Int),(100:Int),(12:Int)]->q∈[(0:Int),(11:Int),(24:Int),(1:Int)]->
    tQ zs.length (ps++[(fJ.getD ps.length ByteArray.empty,(x,(w,(w64 (3600*p),(w64 (3600*q),b)))))]):=by
   intro w p q hw kG sV Eh;have wC:0<=p/\p<=168:=by simp at sV;omega
   have Fg:0<=q/\q<=168:=by simp at Eh;omega
   refine⟨λr hr=>?_,?_⟩
   .rcases jn.1 hr with h|h
    .exact hp.ck r h
    .simp at h;subst h;exact⟨jz1 _ dY,x0,x1,hw,kG,UY wC.1 wC.2,UY Fg.1 Fg.2⟩
   .rw[zr,hp.nm,ja];exact G3 bW
  rw[Tl];simp only[j48,UU,j3,show Int.ofNat (List.length ps)=(ps.length:Int) from rfl,show Int.ofNat (List.length zs)=(zs.length:Int) from rfl];rw[aj (by omega),aX (show (0:Int)<=(ps.length:Int) by omega) (by omega)];simp only[j5,e1,e2,e3,j3];rw[ai (x:=((n+1:Nat):Int)-1) (by omega) (by omega),show ((n+1:Nat):Int)-1=(n:Int) by omega];cases c with
  |true=>obtain⟨w,a4,e4,hw,kG,d4⟩:=M4 d3;obtain⟨p,a5,e5,sV,d5⟩:=mG d4 (xs:=[(0:Int),(40:Int),(100:Int),(12:Int)]) (by simp) (by simp);obtain⟨q,a6,e6,Eh,d6⟩:=mG d5 (xs:=[(0:Int),(11:Int),(24:Int),(1:Int)]) (by simp) (by simp);simp only[j5,e4,e5,e6,j3];rw[aj (by simp[aR];omega)];simp only[j5,aJ];obtain⟨yI,a',e,h1,h2,h3⟩:=M8 qC rW n a6 _ d6 (by simp;omega) (ext w p q hw (by omega) sV Eh);exact⟨yI,a',e,by rw[h1];simp;omega,h2,h3⟩
  |false=>obtain⟨p,a5,e5,sV,d5⟩:=mG d3 (xs:=[(0:Int),(40:Int),(100:Int),(12:Int)]) (by simp) (by simp);obtain⟨q,a6,e6,Eh,d6⟩:=mG d5 (xs:=[(0:Int),(11:Int),(24:Int),(1:Int)]) (by simp) (by simp);simp only[j6,e5,e6,j3];rw[aj (by simp[aR];omega)];simp only[j5,aJ];obtain⟨yI,a',e,h1,h2,h3⟩:=M8 qC rW n a6 _ d6 (by simp;omega) (ext [] p q (show (0:Int)<=604800 by omega) (by simp) sV Eh);exact⟨yI,a',e,by rw[h1];simp;omega,h2,h3⟩
def yJ(q:Int)(ds:List Int):Prop:=ds.Pairwise (· < ·)/\∀d∈ds,20454<d/\d<=q
theorem UZ{L:List Int}{s:Int}{nm:ByteArray}{z:Int}{zs:List bY}{ps:List dB}{cs:List bf}:∀(n:Nat)(a day:Int)(ds:List Int),dp L a->ds.length+n<=4->20454<=day->day+6*n<=20480->yJ day ds->
  ∃M9 a',Gk s (n:Int) day L a nm z zs ps cs ds=some (s,L,a',nm,z,zs,ps,cs,M9)/\M9.length<=4/\yJ 20480 M9/\dp L a'
 |0,a,day,ds,hd,hl,hy,IF,hi=>by
  rw[Tm];simp only[j49];rw[al (by omega),j6,aW];exact⟨ds,a,rfl,by omega,⟨hi.1,λd hd=>by have:=hi.2 d hd;omega⟩,hd⟩
 |n+1,a,day,ds,hd,hl,hy,IF,hi=>by
  obtain⟨x,a1,e1,x0,x1,d1⟩:=cK (n:=6) hd (by omega) (by omega);rw[Tm];simp only[j49];rw[aj (by omega),ai (x:=((n+1:Nat):Int)-1) (by omega) (by omega),show ((n+1:Nat):Int)-1=(n:Int) by omega];simp only[j5,e1,j3];rw[aj (by simp[aR];omega),ai (x:=1+x) (by omega) (by omega),ai (x:=day+(1+x)) (by omega) (by omega)];simp only[j5,aJ];refine UZ n a1 _ _ d1 (by simp;omega) (by omega) (by omega) ⟨qh.2 ⟨hi.1,by simp,λu hu v hv=>?_⟩,λd hd=>?_⟩
  .simp at hv;subst hv;have:=hi.2 u hu;omega
  .rcases jn.1 hd with h|h
   .have:=hi.2 d h;omega
   .simp at h;omega
structure Ei(nz:Nat)(cs:List bf):Prop where
 ck:∀c∈cs,vT nz c
 nm:fS (cs.map (·.1))
 len:cs.length<=1
 dl:∀c∈cs,c.2.2.length<=4
theorem jAp{nz:Nat}{nm:ByteArray}{x:Int}{ds:List Int}(x0:0<=x)(x1:x<nz)(hl:ds.length<=64)(hi:yJ 20480 ds):vT nz (nm,(x,ds)):=
 ⟨x0,x1,hl,λd hd=>M7 (by have:=hi.2 d hd;omega) (by have:=hi.2 d hd;omega),hi.1⟩
structure eX(zs:List bY)(ps:List dB)(cs:List bf):Prop where
 so:Ed zs ps cs
 z:yH zs
 p:tQ zs.length ps
 c:Ei zs.length cs
theorem jvw{L:List Int}{a:Int}(h:dp L a):∃zs ps cs a',jab L a=some ((zs,(ps,(cs,([]:List cA)))),L,a')/\eX zs ps cs/\dp L a':=by
 obtain⟨x,a1,e1,x0,x1,d1⟩:=cK (n:=2) h (by omega) (by omega);obtain⟨zs,a2,e2,l2,k2,d2⟩:=UX (1+x).toNat a1 [] d1 (by simp;omega) ⟨by simp,by simp,rfl⟩;obtain⟨y,a3,e3,y0,y1,d3⟩:=cK (n:=4) d2 (by omega) (by omega);simp at l2;obtain⟨ps,a4,e4,l4,k4,d4⟩:=M8 (zs:=zs) (by omega) (by omega) (1+y).toNat a3 [] d3 (by simp;omega) ⟨by simp,rfl⟩;obtain⟨q,a5,e5,q0,q1,d5⟩:=cK (n:=2) d4 (by omega) (by omega);simp at l4
 have dz:∃cs a',Gl q L a5 zs ps []=some (L,a',zs,ps,cs)/\Ei zs.length cs/\dp L a':=by
  by_cases hq:q=0
  .subst hq;rw[Kw];simp only[j3c];rw[al (by omega),j6,aW];exact⟨[],a5,rfl,⟨by simp,fS.nil,by simp,by simp⟩,d5⟩
  .have yE:q=1:=by omega
   subst yE;obtain⟨x,a6,e6,x0,x1,d6⟩:=cK (n:=(zs.length:Int)) d5 (by omega) (by omega);obtain⟨y,a7,e7,y0,y1,d7⟩:=cK (n:=4) d6 (by omega) (by omega);obtain⟨ds,a8,e8,l8,k8,d8⟩:=UZ (s:=(1:Int)) (nm:=ByteArray.mk #[100,97,121,115]) (z:=x) (zs:=zs) (ps:=ps) (cs:=[]) y.toNat a7 20454 [] d7 (by simp;omega) (by omega) (by omega) ⟨by simp,by simp⟩;rw[show ((y.toNat:Nat):Int)=y by omega]at e8;rw[Kw];simp only[j3c,show Int.ofNat (List.length zs)=(zs.length:Int) from rfl];rw[aj (by omega)];simp only[j5,e6,e7,e8,j3];rw[aj (by simp[aR]),ai (x:=(1:Int)-1) (by omega) (by omega)];simp only[j5,aJ];rw[Kw];simp only[j3c];rw[al (by omega),j6,aW];refine⟨_,a8,rfl,⟨λc hc=>?_,fS.one jz0,by simp,λc hc=>by simp at hc;subst hc;exact l8⟩,d8⟩;simp at hc;subst hc;exact jAp x0 x1 (by omega) k8
 obtain⟨cs,a6,e6,k6,d6⟩:=dz;rw[show (((1+x).toNat:Nat):Int)=1+x by omega]at e2;rw[show (((1+y).toNat:Nat):Int)=1+y by omega]at e4;simp only[jab,e1,j3];rw[ai (x:=1+x) (by omega) (by omega)];simp only[e2,e3,j3];rw[ai (x:=1+y) (by omega) (by omega)];simp only[e4,e5,e6,j3];exact⟨zs,ps,cs,a6,rfl,⟨⟨by omega,by omega,k2.ok,by omega,by omega,k6.len⟩,k2,k4,k6⟩,d6⟩
end Go.Proofs.Pw
