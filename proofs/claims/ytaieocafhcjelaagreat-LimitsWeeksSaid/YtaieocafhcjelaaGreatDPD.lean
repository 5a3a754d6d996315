/- tJ 8: gS that are right. -/
import Derived.Test.YtaieocafhcjelaaGreatDPA
import Derived.Test.YtaieocafhcjelaaGreatDPC
import Derived.Test.YtaieocafhcjelaaGreatDPB
import Derived.KernelRfl
open Go Go.Lft
namespace Go.Proofs.Pw
abbrev eJ:=Int×(Int×(Int×(Int×Int)))
abbrev kN:=List cg×(List dP×(List bk×List cM))
theorem Ba{n lo hi:Int}(h1:lo<=n)(h2:n<=hi):j7y n lo hi=some true:=by
 simp only[j7y];rw[aj (show n>=lo from h1),aj h2];rfl
theorem yx{i n:Int}(h1:0<=i)(h2:i<n):j3a i n=some true:=by
 simp only[j3a];rw[aj (show i>=0 from h1),aj h2];rfl
theorem jB6{i n:Int}(h1:i<0):j3a i n=some false:=by
 simp only[j3a];rw[ak (show¬i>=0 by omega)];rfl
structure Bb(z:cg):Prop where
 ck:j9M z=some 0
 o60:Int.tmod z.2.1 60=0
 r60:∀r∈z.2.2,Int.tmod r.2.2.2.2.2.2 60=0
 len:z.2.2.length<=1000
theorem Uy{rs:List bj}(h:∀r∈rs,Int.tmod r.2.2.2.2.2.2 60=0)(hl:rs.length<=1000):∀(n i:Nat),i+n=rs.length->Ap rs (rs.length:Int) (i:Int)=some (.inr ())
 |0,i,hi=>by
  rw[RK];simp only[j0I];rw[ak (by omega),j6,aW]
 |n+1,i,hi=>by
  have an:i<rs.length:=by omega
  have bf:rs.getD i ((0:Int),((0:Int),((0:Int),((0:Int),((0:Int),((0:Int),(0:Int)))))))=rs[i]:=by simp[an]
  have:=h rs[i] (jg an);rw[RK];simp only[j0I,j8O];rw[aj (by omega),aU (by omega) (by omega),ah (x:=(i:Int)+1) (by omega) (by omega)];simp only[j5,j7,bf,j3,this,jp,j6,aF];exact Uy h hl n (i+1) (by omega)
theorem jB7{z:cg}(h:Bb z):j3N z=some 0:=by
 have lp:=Uy h.r60 h.len z.2.2.length 0 (by omega);rw[show ((0:Nat):Int)=0 from rfl]at lp;simp only[j3N,show j9M (z.1,(z.2.1,z.2.2))=_ from h.ck,j3,h.o60,jp,j6,j0D,j0N,show Int.ofNat z.2.2.length=(z.2.2.length:Int) from rfl,lp,qA];rfl
theorem Uz{zs:List cg}(hn:fN (zs.map (·.1)))(hc:∀z∈zs,Bb z)(hl:zs.length<=100):∀(n i:Nat),i+n=zs.length->xH zs (zs.length:Int) (i:Int) (nU ((zs.take i).map (·.1)))=some (.inr ())
 |0,i,hi=>by
  rw[RM];simp only[j15];rw[ak (by omega),j6,aW]
 |n+1,i,hi=>by
  have an:i<zs.length:=by omega
  have bf:zs.getD i (ByteArray.empty,((0:Int),([]:List bj)))=zs[i]:=by simp[an]
  have h1:=DI (·.1) hn an;have h2:=jB7 (hc zs[i] (jg an));rw[RM];simp only[j15,jbP];rw[aj (by omega),aU (by omega) (by omega),ah (x:=(i:Int)+1) (by omega) (by omega)];simp only[j5,j7,bf,j3,h1,jp,j6];rw[show j3N (zs[i].1,(zs[i].2.1,zs[i].2.2))=_ from h2];simp only[j3,jp,j6,aF];exact Uz hn hc hl n (i+1) (by omega)
theorem jB8{zs:List cg}(hn:fN (zs.map (·.1)))(hc:∀z∈zs,Bb z)(hl:zs.length<=100):j2O zs=some 0:=by
 have lp:=Uz hn hc hl zs.length 0 (by omega);simp only[j2O,show Int.ofNat zs.length=(zs.length:Int) from rfl];rw[show xH zs (zs.length:Int) 0 []=_ from lp];rfl
structure GS(nz:Nat)(p:dP):Prop where
 nb:(ByteArray.toList p.1==ByteArray.toList (ByteArray.mk #[110,111,98,111,100,121]))=false
 z0:0<=p.2.1
 z1:p.2.1<nz
 w:iJ 0 p.2.2.1
 wl:p.2.2.1.length<=14
 m:j5k p.2.2.2.1=some true
 r:j5k p.2.2.2.2.1=some true
theorem jB9{c:kN}{p:dP}(h:GS c.1.length p):j2A c p=some 0:=by
 have qB:=h.z0;have rT:=h.z1;simp only[j2A,show Int.ofNat c.1.length=(c.1.length:Int) from rfl,yx qB rT,j3,jr,j6,Ux h.w h.wl,jp,h.m,h.r]
theorem UA{zs:List cg}{ps:List dP}{cs:List bk}{ss:List cM}(hn:fN (ps.map (·.1)))(hc:∀p∈ps,GS zs.length p)(hl:ps.length<=100):∀(n i:Nat),i+n=ps.length->xL ps (ps.length:Int) (i:Int) zs ps cs ss (nU ((ps.take i).map (·.1)))=some (.inr (zs,ps,cs,ss))
 |0,i,hi=>by
  rw[RW];simp only[j2s];rw[ak (by omega),j6,aW]
 |n+1,i,hi=>by
  have an:i<ps.length:=by omega
  have bf:ps.getD i (ByteArray.empty,((0:Int),(([]:List (Int×Int)),((0:Int),((0:Int),false)))))=ps[i]:=by simp[an]
  have h1:=DI (·.1) hn an;have hp:=hc ps[i] (jg an);have h2:=jB9 (c:=(zs,(ps,(cs,ss)))) hp;rw[RW];simp only[j2s];rw[aj (by omega),aU (by omega) (by omega),ah (x:=(i:Int)+1) (by omega) (by omega)];simp only[j5,j7,bf,j3,h1,hp.nb,beq_self_eq_true,j6];rw[show j2A (zs,(ps,(cs,ss))) (ps[i].1,(ps[i].2.1,(ps[i].2.2.1,(ps[i].2.2.2.1,(ps[i].2.2.2.2.1,ps[i].2.2.2.2.2)))))=_ from h2];simp only[j3,jp,j6,aF];exact UA hn hc hl n (i+1) (by omega)
structure vN(nz:Nat)(c:bk):Prop where
 z0:0<=c.2.1
 z1:c.2.1<nz
 len:c.2.2.length<=64
 day:∀d∈c.2.2,j2f d=some true
 asc:c.2.2.Pairwise (· < ·)
theorem UB{ds:List Int}(h:∀d∈ds,j2f d=some true)(hl:ds.length<=64):∀(n i:Nat),i+n=ds.length->Ar ds (ds.length:Int) (i:Int)=some (.inr ())
 |0,i,hi=>by
  rw[RO];simp only[j0T];rw[ak (by omega),j6,aW]
 |n+1,i,hi=>by
  have an:i<ds.length:=by omega
  have bf:ds.getD i (0:Int)=ds[i]:=by simp[an]
  have:=h ds[i] (jg an);rw[RO];simp only[j0T,j2U];rw[aj (by omega),aU (by omega) (by omega),ah (x:=(i:Int)+1) (by omega) (by omega)];simp only[j5,j7,bf,this,j3,jr,j6,aF];exact UB h hl n (i+1) (by omega)
theorem UC{nm:ByteArray}{z:Int}{ds:List Int}(h:ds.Pairwise (· < ·))(hl:ds.length<=64):∀(n i:Nat),i+n=ds.length->As (ds.length:Int) (i:Int) nm z ds=some (.inr ())
 |0,i,hi=>by
  rw[RP];simp only[j2E];rw[ak (by omega),j6,aW]
 |n+1,i,hi=>by
  have an:i<ds.length:=by omega
  have bf:ds.getD i (0:Int)=ds[i]:=by simp[an]
  have ih:=UC (nm:=nm) (z:=z) h hl n (i+1) (by omega);rw[RP];simp only[j2E];rw[aj (by omega),aU (i:=(i:Int)) (by omega) (by omega),ah (x:=(i:Int)+1) (by omega) (by omega)];simp only[j5,j7,bf];by_cases h0:i=0
  .subst h0;rw[ak (by omega),j6,aF];exact ih
  .have hj:i-1<ds.length:=by omega
   have hgj:ds.getD (i-1) (0:Int)=ds[i-1]:=by simp[hj]
   have hp:ds[i-1]<ds[i]:=kx.1 h (i-1) i hj an (by omega);rw[aj (show (i:Int)>0 by omega),ah (x:=(i:Int)-1) (by omega) (by omega),aU (i:=(i:Int)-1) (by omega) (by omega),show ((i:Int)-1).toNat=i-1 by omega,hgj,ak (show¬ds[i]<=ds[i-1] by omega)];simp only[j5,j6,aF];exact ih
theorem jBa{c:kN}{x:bk}(h:vN c.1.length x):j2q c x=some 0:=by
 have qB:=h.z0;have rT:=h.z1;have hl:=h.len;have l1:=UB h.day hl x.2.2.length 0 (by omega);have l2:=UC (nm:=x.1) (z:=x.2.1) h.asc hl x.2.2.length 0 (by omega);rw[show ((0:Nat):Int)=0 from rfl]at l1 l2;simp only[j2q,show Int.ofNat c.1.length=(c.1.length:Int) from rfl,show Int.ofNat x.2.2.length=(x.2.2.length:Int) from rfl,yx qB rT,j3,jr,j6,j2h,j2V,l1,l2,qA];rw[ak (by omega)];rfl
theorem UD{zs:List cg}{ps:List dP}{cs:List bk}{ss:List cM}(hn:fN (cs.map (·.1)))(hc:∀x∈cs,vN zs.length x)(hl:cs.length<=100):∀(n i:Nat),i+n=cs.length->xI zs ps cs ss cs (cs.length:Int) (i:Int) (nU ((cs.take i).map (·.1)))=some (.inr ())
 |0,i,hi=>by
  rw[RQ];simp only[j0L];rw[ak (by omega),j6,aW]
 |n+1,i,hi=>by
  have an:i<cs.length:=by omega
  have bf:cs.getD i (ByteArray.empty,((0:Int),([]:List Int)))=cs[i]:=by simp[an]
  have h1:=DI (·.1) hn an;have h2:=jBa (c:=(zs,(ps,(cs,ss)))) (hc cs[i] (jg an));rw[RQ];simp only[j0L,jbR,j61];rw[aj (by omega),aU (by omega) (by omega),ah (x:=(i:Int)+1) (by omega) (by omega)];simp only[j5,j7,bf,j3,h1,jp,j6];rw[show j2q (zs,(ps,(cs,ss))) (cs[i].1,(cs[i].2.1,cs[i].2.2))=_ from h2];simp only[j3,jp,j6,aF];exact UD hn hc hl n (i+1) (by omega)
theorem jBb{zs:List cg}{ps:List dP}{cs:List bk}{ss:List cM}(hn:fN (cs.map (·.1)))(hc:∀x∈cs,vN zs.length x)(hl:cs.length<=100):j1T cs zs ps cs ss=some 0:=by
 have lp:=UD (ps:=ps) (ss:=ss) hn hc hl cs.length 0 (by omega);simp only[j1T,show Int.ofNat cs.length=(cs.length:Int) from rfl];rw[show xI zs ps cs ss cs (cs.length:Int) 0 []=_ from lp];rfl
structure fD(nz np nc:Nat)(l:cb):Prop where
 z0:0<=l.2.1
 z1:l.2.1<nz
 d0:1<=l.2.2.1.1
 day:j2f l.2.2.1.1=some true
 c0:0<=l.2.2.1.2
 c1:l.2.2.1.2<=86399
 u0:0<=l.2.2.2.1
 u1:l.2.2.2.1<=2
 e0:1<=l.2.2.2.2.1
 e1:l.2.2.2.2.1<=400
 m0:l.2.2.2.2.2.1.length≠0
 m1:l.2.2.2.2.2.1.length<=12
 mem:∀m∈l.2.2.2.2.2.1,0<=m/\m<(np:Int)
 w:iJ 0 l.2.2.2.2.2.2.1
 wl:l.2.2.2.2.2.2.1.length<=14
 mode0:0<=l.2.2.2.2.2.2.2.2
 mode1:l.2.2.2.2.2.2.2.2<=2
 cal:l.2.2.2.2.2.2.2.2≠0->0<=l.2.2.2.2.2.2.2.1/\l.2.2.2.2.2.2.2.1<(nc:Int)
 cal0:l.2.2.2.2.2.2.2.2=0->l.2.2.2.2.2.2.2.1=0
theorem UE{zs:List cg}{ps:List dP}{cs:List bk}{ss:List cM}{ms:List Int}(h:∀m∈ms,0<=m/\m<(ps.length:Int))(hl:ms.length<=12):∀(n i:Nat),i+n=ms.length->Au ms zs ps cs ss (ms.length:Int) (i:Int)=some (.inr ())
 |0,i,hi=>by
  rw[RR];simp only[j1B];rw[ak (by omega),j6,aW]
 |n+1,i,hi=>by
  have an:i<ms.length:=by omega
  have bf:ms.getD i (0:Int)=ms[i]:=by simp[an]
  have hm:=h ms[i] (jg an);rw[RR];simp only[j1B,j84,show Int.ofNat ps.length=(ps.length:Int) from rfl];rw[aj (by omega),aU (by omega) (by omega),ah (x:=(i:Int)+1) (by omega) (by omega)];simp only[j5,j7,bf,yx hm.1 hm.2,j3,jr,j6,aF];exact UE h hl n (i+1) (by omega)
theorem jBc{c:kN}{l:cb}(h:fD c.1.length c.2.1.length c.2.2.1.length l):j3i c l=some 0:=by
 have qB:=h.z0;have rT:=h.z1;have MR:=h.d0;have gj:=h.m0;have fF:=h.m1;have l1:=UE (zs:=c.1) (cs:=c.2.2.1) (ss:=c.2.2.2) h.mem fF l.2.2.2.2.2.1.length 0 (by omega);rw[show ((0:Nat):Int)=0 from rfl]at l1
 simp only[j3i,show Int.ofNat c.1.length=(c.1.length:Int) from rfl,show Int.ofNat l.2.2.2.2.2.1.length=(l.2.2.2.2.2.1.length:Int) from rfl,show Int.ofNat c.2.2.1.length=(c.2.2.1.length:Int) from rfl,yx qB rT,j3,jr,j6,h.day,Ba h.c0 h.c1,Ba h.u0 h.u1,Ba h.e0 h.e1,Ba h.mode0 h.mode1,
  j1H,j2i,l1,qA,Ux h.w h.wl,jp]
 rw[ak (show¬l.2.2.1.1<1 by omega),cJ (show¬(l.2.2.2.2.2.1.length:Int)=0 by omega),ak (show¬(l.2.2.2.2.2.1.length:Int)>12 by omega),ak (show¬(-1:Int)>=0 by omega)];simp only[j6];by_cases D1:l.2.2.2.2.2.2.2.2=0
 .rw[D1,h.cal0 D1];rfl
 .have hc:=h.cal D1;rw[show (l.2.2.2.2.2.2.2.2 != 0)=true by simp[D1],cJ D1,j5,yx hc.1 hc.2];rfl
theorem UF{zs:List cg}{ps:List dP}{cs:List bk}{ss:List cM}{ls:List cb}(hn:fN (ls.map (·.1)))(hc:∀x∈ls,fD zs.length ps.length cs.length x)(hl:ls.length<=100):∀(n i:Nat),i+n=ls.length->xJ zs ps cs ss ls (ls.length:Int) (i:Int) (nU ((ls.take i).map (·.1)))=some (.inr ())
 |0,i,hi=>by
  rw[RS];simp only[j11];rw[ak (by omega),j6,aW]
 |n+1,i,hi=>by
  have an:i<ls.length:=by omega
  have bf:ls.getD i (ByteArray.empty,((0:Int),(((0:Int),(0:Int)),((0:Int),((0:Int),(([]:(List Int)),(([]:(List (Int×Int))),((0:Int),(0:Int)))))))))=ls[i]:=by simp[an]
  have h1:=DI (·.1) hn an;have h2:=jBc (c:=(zs,(ps,(cs,ss)))) (hc ls[i] (jg an));rw[RS];simp only[j11,j6N,j2X];rw[aj (by omega),aU (by omega) (by omega),ah (x:=(i:Int)+1) (by omega) (by omega)];simp only[j5,j7,bf,j3,h1,jp,j6];rw[show j3i (zs,(ps,(cs,ss))) (ls[i].1,ls[i].2.1,(ls[i].2.2.1.1,ls[i].2.2.1.2),ls[i].2.2.2.1,ls[i].2.2.2.2.1,ls[i].2.2.2.2.2.1,ls[i].2.2.2.2.2.2.1,ls[i].2.2.2.2.2.2.2.1,ls[i].2.2.2.2.2.2.2.2)=_ from h2];simp only[j3,jp,j6,aF];exact UF hn hc hl n (i+1) (by omega)
theorem jBd{zs:List cg}{ps:List dP}{cs:List bk}{ss:List cM}{ls:List cb}(hn:fN (ls.map (·.1)))(hc:∀x∈ls,fD zs.length ps.length cs.length x)(hl:ls.length<=100):j2B ls zs ps cs ss=some 0:=by
 have lp:=UF (ss:=ss) hn hc hl ls.length 0 (by omega);simp only[j2B,show Int.ofNat ls.length=(ls.length:Int) from rfl];rw[show xJ zs ps cs ss ls (ls.length:Int) 0 []=_ from lp];rfl
structure qT(np:Nat)(x:eJ):Prop where
 k0:0<=x.1
 k1:x.1<=2
 a:0<=x.2.1/\x.2.1<(np:Int)\/x.1=1/\x.2.1 = -1
 b:x.1=2->0<=x.2.2.1/\x.2.2.1<(np:Int)/\x.2.1≠x.2.2.1
 b0:x.1≠2->x.2.2.1=0
 f0:0<=x.2.2.2.1
 ft:x.2.2.2.1<x.2.2.2.2
 t1:x.2.2.2.2<=1000000000000
 day:j2f (Int.tdiv x.2.2.2.2 86400)=some true
theorem jBe{c:kN}{x:eJ}(h:qT c.2.1.length x):j3O c x=some 0:=by
 have Fh:=h.f0;have ir:=h.ft;have GU:=h.t1;have yy:=h.day;have GV:w64 (Int.tdiv x.2.2.2.2 86400)=Int.tdiv x.2.2.2.2 86400:=by rw[GG (by omega)];exact ah (by omega) (by omega)
 simp only[j3O,show Int.ofNat c.2.1.length=(c.2.1.length:Int) from rfl,Ba h.k0 h.k1,j3,jr,j6,GV,yy];rw[ak (show¬x.2.2.2.1<0 by omega),ak (show¬x.2.2.2.2<0 by omega),ak (show¬x.2.2.2.1>=x.2.2.2.2 by omega)];simp only[j6]
 have hA:∃b,j3a x.2.1 (c.2.1.length:Int)=some b/\cond (!b) (!(cond (x.1==(1:Int)) (x.2.1==(-1:Int)) false)) false=false:=by
  rcases h.a with⟨a1,a2⟩|⟨a1,a2⟩
  .exact⟨true,yx a1 a2,rfl⟩
  .exact⟨false,jB6 (by omega),by rw[a1,a2];rfl⟩
 obtain⟨b,e1,e2⟩:=hA;rw[e1];simp only[j3,e2,j6];by_cases h2:x.1=2
 .obtain⟨b1,b2,b3⟩:=h.b h2;rw[dT h2,j5,yx b1 b2,show (x.1 != 2)=false by rw[h2];rfl,cJ b3];rfl
 .rw[cJ h2,j6,show (x.1 != 2)=true by simp[h2],h.b0 h2];rfl
theorem UG{zs:List cg}{ps:List dP}{cs:List bk}{ss:List cM}{es:List eJ}(hc:∀x∈es,qT ps.length x)(hl:es.length<=48):∀(n i:Nat),i+n=es.length->Av es (es.length:Int) (i:Int) zs ps cs ss=some (.inr ())
 |0,i,hi=>by
  rw[RT];simp only[j1c];rw[ak (by omega),j6,aW]
 |n+1,i,hi=>by
  have an:i<es.length:=by omega
  have bf:es.getD i ((0:Int),((0:Int),((0:Int),((0:Int),(0:Int)))))=es[i]:=by simp[an]
  have h2:=jBe (c:=(zs,(ps,(cs,ss)))) (hc es[i] (jg an));rw[RT];simp only[j1c];rw[aj (by omega),aU (by omega) (by omega),ah (x:=(i:Int)+1) (by omega) (by omega)];simp only[j5,j7,bf];rw[show j3O (zs,(ps,(cs,ss))) (es[i].1,es[i].2.1,es[i].2.2.1,es[i].2.2.2.1,es[i].2.2.2.2)=_ from h2];simp only[j3,jp,j6,aF];exact UG hc hl n (i+1) (by omega)
structure nY(nz np nc:Nat)(s:cM):Prop where
 nm:fN (s.2.1.map (·.1))
 ly:∀x∈s.2.1,fD nz np nc x
 ll:s.2.1.length<=6
 ed:∀x∈s.2.2,qT np x
 el:s.2.2.length<=48
theorem jBf{c:kN}{s:cM}(h:nY c.1.length c.2.1.length c.2.2.1.length s):j2r c s=some 0:=by
 have gZ:=h.ll;have gI:=h.el;have lp:=UG (zs:=c.1) (ps:=c.2.1) (cs:=c.2.2.1) (ss:=c.2.2.2) h.ed gI s.2.2.length 0 (by omega);rw[show ((0:Nat):Int)=0 from rfl]at lp;simp only[j2r,show Int.ofNat s.2.1.length=(s.2.1.length:Int) from rfl,show Int.ofNat s.2.2.length=(s.2.2.length:Int) from rfl];rw[ak (show¬(s.2.1.length:Int)>6 by omega),ak (show¬(s.2.2.length:Int)>48 by omega)];simp only[j6,jBd (zs:=c.1) (ps:=c.2.1) (cs:=c.2.2.1) (ss:=c.2.2.2) h.nm h.ly (by omega),j3,jp,lp,qA]
theorem UH{zs:List cg}{ps:List dP}{cs:List bk}{ss:List cM}(hn:fN (ss.map (·.1)))(hc:∀x∈ss,nY zs.length ps.length cs.length x)(hl:ss.length<=100):∀(n i:Nat),i+n=ss.length->xK zs ps cs ss ss (ss.length:Int) (i:Int) (nU ((ss.take i).map (·.1)))=some (.inr ())
 |0,i,hi=>by
  rw[RU];simp only[j0M];rw[ak (by omega),j6,aW]
 |n+1,i,hi=>by
  have an:i<ss.length:=by omega
  have bf:ss.getD i (ByteArray.empty,(([]:List cb),([]:List eJ)))=ss[i]:=by simp[an]
  have h1:=DI (·.1) hn an;have h2:=jBf (c:=(zs,(ps,(cs,ss)))) (hc ss[i] (jg an));rw[RU];simp only[j0M,jbS,j62];rw[aj (by omega),aU (by omega) (by omega),ah (x:=(i:Int)+1) (by omega) (by omega)];simp only[j5,j7,bf,j3,h1,jp,j6];rw[show j2r (zs,(ps,(cs,ss))) (ss[i].1,(ss[i].2.1,ss[i].2.2))=_ from h2];simp only[j3,jp,j6,aF];exact UH hn hc hl n (i+1) (by omega)
structure tK(c:kN):Prop where
 zn:fN (c.1.map (·.1))
 zc:∀z∈c.1,Bb z
 zl:c.1.length<=16
 pn:fN (c.2.1.map (·.1))
 pc:∀p∈c.2.1,GS c.1.length p
 pl:c.2.1.length<=32
 cn:fN (c.2.2.1.map (·.1))
 cc:∀x∈c.2.2.1,vN c.1.length x
 cl:c.2.2.1.length<=8
 sn:fN (c.2.2.2.map (·.1))
 sc:∀x∈c.2.2.2,nY c.1.length c.2.1.length c.2.2.1.length x
 sl:c.2.2.2.length<=12
theorem jrE{c:kN}(h:tK c):j6a c=some 0:=by
 have l7:=h.zl;have eY:=h.pl;have fj:=h.cl;have eU:=h.sl;have lp:=UA (zs:=c.1) (cs:=c.2.2.1) (ss:=c.2.2.2) h.pn h.pc (by omega) c.2.1.length 0 (by omega);have ls:=UH (zs:=c.1) (ps:=c.2.1) (cs:=c.2.2.1) h.sn h.sc (by omega) c.2.2.2.length 0 (by omega);simp only[j6a,show Int.ofNat c.1.length=(c.1.length:Int) from rfl,show Int.ofNat c.2.1.length=(c.2.1.length:Int) from rfl,show Int.ofNat c.2.2.1.length=(c.2.2.1.length:Int) from rfl,show Int.ofNat c.2.2.2.length=(c.2.2.2.length:Int) from rfl];rw[ak (show¬(c.1.length:Int)>16 by omega),ak (show¬(c.2.1.length:Int)>32 by omega),ak (show¬(c.2.2.1.length:Int)>8 by omega),ak (show¬(c.2.2.2.length:Int)>12 by omega)];simp only[j6,jB8 h.zn h.zc (by omega),j3,jp];rw[show xL c.2.1 (c.2.1.length:Int) 0 c.1 c.2.1 c.2.2.1 c.2.2.2 []=_ from lp];simp only[j3,qA,jBb (zs:=c.1) (ps:=c.2.1) (cs:=c.2.2.1) (ss:=c.2.2.2) h.cn h.cc (by omega),jp,j6,j2z,show Int.ofNat c.2.2.2.length=(c.2.2.2.length:Int) from rfl];rw[show xK c.1 c.2.1 c.2.2.1 c.2.2.2 c.2.2.2 (c.2.2.2.length:Int) 0 []=_ from ls];rfl
def fE:List ByteArray:=[(ByteArray.mk #[97,100,97]),(ByteArray.mk #[98,111,98]),(ByteArray.mk #[99,108,101,111]),(ByteArray.mk #[100,97,110]),(ByteArray.mk #[101,118,101]),(ByteArray.mk #[102,97,121]),(ByteArray.mk #[103,117,115]),(ByteArray.mk #[104,97,108])]
def qU:List ByteArray:=[(ByteArray.mk #[104,101,114,101]),(ByteArray.mk #[116,104,101,114,101])]
theorem UI:jh3=some fE:=rfl
theorem UJ:fN fE:=by
 refine⟨by decide,λk hk=>?_⟩;simp only[fE,je,va,or_false]at hk;rcases hk with rfl|rfl|rfl|rfl|rfl|rfl|rfl|rfl<;>exact DL 60 _ true (by kernel_rfl)
theorem jyM:fN qU:=by
 refine⟨by decide,λk hk=>?_⟩;simp only[qU,je,va,or_false]at hk;rcases hk with rfl|rfl<;>exact DL 60 _ true (by kernel_rfl)
theorem fN.take{l:List ByteArray}(h:fN l)(n:Nat):fN (l.take n):=⟨h.1.sublist (List.take_sublist n l),λk hk=>h.2 k (qf hk)⟩
theorem fN.one{s:ByteArray}(h:j9L s=some true):fN [s]:=⟨by simp,λk hk=>by simp at hk;subst hk;exact h⟩
theorem fN.nil:fN []:=⟨zg,by simp⟩
theorem jyN:j9L (ByteArray.mk #[100,97,121,115])=some true:=DL 60 _ true (by kernel_rfl)
theorem jyO:∀k∈fE,(ByteArray.toList k==ByteArray.toList (ByteArray.mk #[110,111,98,111,100,121]))=false:=by
 intro k hk;simp only[fE,je,va,or_false]at hk;rcases hk with rfl|rfl|rfl|rfl|rfl|rfl|rfl|rfl<;>kernel_rfl
theorem jx1:((List.range 61).all λi=>joX 60 (20440+(i:Int))==some true)=true:=by kernel_rfl
theorem MS{d:Int}(h1:20440<=d)(h2:d<=20500):j2f d=some true:=by
 have h:=k5.1 jx1 (d-20440).toNat (List.mem_range.2 (by omega));rw[show (20440:Int)+(((d-20440).toNat:Nat):Int)=d by omega]at h;exact GN 60 d true (eq_of_beq h)
theorem t60{x:Int}(h:x%60=0):Int.tmod x 60=0:=by
 have:=DH x 60;rw[h]at this;simpa using this
theorem D2{P:bj->Prop}{r s:bj}(h1:P r)(h2:P s):∀x∈[r,s],P x:=by
 intro x hx;simp at hx;rcases hx with rfl|rfl
 .exact h1
 .exact h2
theorem jyP{L:List Int}{a:Int}(h:dm L a)(nm:ByteArray):∃o rs a',j5z L a nm=some ((nm,(o,rs)),L,a')/\Int.tmod o 60=0/\∀r∈rs,Int.tmod r.2.2.2.2.2.2 60=0:=by
 obtain⟨p,a1,e1,m1,d1⟩:=mD h (xs:=[(0:Int),(4:Int),(-20:Int),(22:Int),(48:Int),(-47:Int)]) (by simp) (by simp);obtain⟨x2,a2,e2,x20,x21,d2⟩:=cH (n:=2) d1 (by omega) (by omega);obtain⟨x3,a3,e3,x30,x31,d3⟩:=cH (n:=3) d2 (by omega) (by omega);obtain⟨y,a4,e4,y0,y1,d4⟩:=cH (n:=2) d3 (by omega) (by omega);obtain⟨q,a5,e5,q0,q1,d5⟩:=cH (n:=4) d4 (by omega) (by omega);have hp : -47<=p/\p<=48:=by simp at m1;omega
 have hmul:0<=x2*x3/\x2*x3<=2:=by
  obtain rfl|rfl:x2=0\/x2=1:=by omega
  all_goals omega
 have nh : -43200<=900*(p+x2*x3):=by omega
 have lI:900*(p+x2*x3)<=45000:=by omega
 have sP:(900*(p+x2*x3))%60=0:=by omega
 simp only[j5z,e1,e2,e3,e4,e5,j3];rw[ah (x:=x2*x3) (by omega) (by omega),ah (x:=p+x2*x3) (by omega) (by omega),ah (x:=900*(p+x2*x3)) (by omega) (by omega),ah (x:=2025+y) (by omega) (by omega)];generalize 900*(p+x2*x3)=o at *;generalize 2025+y=last at *;by_cases yw:q=1
 .rw[dT yw,j5,ah (x:=o+3600) (by omega) (by omega)];exact⟨_,_,_,rfl,t60 sP,D2 (P:=λr=>Int.tmod r.2.2.2.2.2.2 60=0) (t60 (show (o+3600)%60=0 by omega)) (t60 sP)⟩
 .rw[cJ yw,j6];by_cases DX:q=2
  .rw[dT DX,j5];obtain⟨b1,c1,f1,b10,b11,g1⟩:=cH (n:=4) d5 (by omega) (by omega);obtain⟨b2,c2,f2,AY,MM,g2⟩:=cH (n:=7) g1 (by omega) (by omega);obtain⟨b3,c3,f3,MN,MO,g3⟩:=cH (n:=24) g2 (by omega) (by omega);obtain⟨b4,c4,f4,b40,b41,g4⟩:=cH (n:=8) g3 (by omega) (by omega);obtain⟨b5,c5,f5,b50,b51,g5⟩:=cH (n:=2) g4 (by omega) (by omega);obtain⟨b6,c6,f6,m6,g6⟩:=mD g5 (xs:=[(2:Int),(3:Int),(5:Int)]) (by simp) (by simp);obtain⟨b7,c7,f7,Us,b71,g7⟩:=cH (n:=7) g6 (by omega) (by omega);obtain⟨b8,c8,f8,b80,b81,g8⟩:=cH (n:=24) g7 (by omega) (by omega);simp only[f1,f2,f3,f4,f5,f6,f7,f8,j3];rw[ah (x:=1+b4) (by omega) (by omega),ah (x:=1800*(1+b4)) (by omega) (by omega),ah (x:=o+1800*(1+b4)) (by omega) (by omega)];exact⟨_,_,_,rfl,t60 sP,D2 (P:=λr=>Int.tmod r.2.2.2.2.2.2 60=0) (t60 (show (o+1800*(1+b4))%60=0 by omega)) (t60 sP)⟩
  .rw[cJ DX,j6];by_cases DY:q=3
   .rw[dT DY,j5];obtain⟨b1,c1,f1,m1,g1⟩:=mD d5 (xs:=[(3600:Int),(-3600:Int),(82800:Int),(-82800:Int),(43200:Int)]) (by simp) (by simp);obtain⟨b2,c2,f2,AY,MM,g2⟩:=cH (n:=7) g1 (by omega) (by omega);obtain⟨b3,c3,f3,MN,MO,g3⟩:=cH (n:=48) g2 (by omega) (by omega);have da : -82800<=b1/\b1<=82800/\b1%60=0:=by simp at m1;omega
    simp only[f1,f2,f3,j3];rw[ah (x:=o+b1) (by omega) (by omega)];cases cond (decide (o+b1>64800)) true (decide (o+b1 < -64800)) with
    |true=>exact⟨_,_,_,rfl,t60 sP,λr hr=>by simp at hr;subst hr;rfl⟩
    |false=>exact⟨_,_,_,rfl,t60 sP,λr hr=>by simp at hr;subst hr;exact t60 (by dsimp only;omega)⟩
   .rw[cJ DY,j6];exact⟨_,_,_,rfl,t60 sP,by simp⟩
theorem jx2{L:List Int}{a:Int}(h:dm L a)(nm:ByteArray):∃o rs a',j5z L a nm=some ((nm,(o,rs)),L,a')/\MZ o rs/\Bb (nm,(o,rs))/\dm L a':=by
 obtain⟨o,rs,a1,e1,m1,d1⟩:=jyL h nm;obtain⟨o',rs',a2,e2,m2,m3⟩:=jyP h nm;have:=e1.symm.trans e2;simp only[j4,j8,qh]at this;obtain⟨⟨rfl,rfl⟩,rfl⟩:=this;have ht:=(m1.tab nm).1;have hl:=m1.len;exact⟨o,rs,a1,e1,m1,⟨by simp only[j9M,show j38 (nm,(o,rs))=_ from ht,j3],m2,m3,by dsimp only;omega⟩,d1⟩
structure yz(zs:List cg):Prop where
 ok:∀z∈zs,ni z
 ck:∀z∈zs,Bb z
 nm:zs.map (·.1)=qU.take zs.length
theorem GW{l:List ByteArray}{n:Nat}(hn:n<l.length):l.take n++[l.getD n ByteArray.empty]=l.take (n+1):=by
 rw[ko,ji hn];simp[hn]
theorem UK{L:List Int}:∀(n:Nat)(a:Int)(zs:List cg),dm L a->zs.length+n<=2->yz zs->
  ∃D3 a',F5 (n:Int) L a zs=some (L,a',D3)/\D3.length=zs.length+n/\yz D3/\dm L a'
 |0,a,zs,hd,_,hz=>by
  rw[SY];simp only[j47];rw[ak (by omega),j6,aW];exact⟨zs,a,rfl,rfl,hz,hd⟩
 |n+1,a,zs,hd,hl,hz=>by
  obtain⟨o,rs,a1,e1,m1,k1,d1⟩:=jx2 hd (List.getD qU zs.length ByteArray.empty)
  obtain⟨D3,a',e2,h2,h3,h4⟩:=UK n a1 (zs++[(List.getD qU zs.length ByteArray.empty,(o,rs))]) d1 (by simp;omega) ⟨λz Cy=>by
   rcases jn.1 Cy with h|h
   .exact hz.ok z h
   .simp at h;subst h;exact m1,λz Cy=>by
   rcases jn.1 Cy with h|h
   .exact hz.ck z h
   .simp at h;subst h;exact k1,by
   rw[zq,hz.nm,ja];exact GW (by show zs.length<2;omega)⟩
  rw[SY];simp only[j47,show Int.ofNat (List.length zs)=(zs.length:Int) from rfl];rw[aj (by omega),aU (show (0:Int)<=(zs.length:Int) by omega) (by simp;omega)];simp only[j5,j7];rw[show j5z L a (List.getD [(ByteArray.mk #[104,101,114,101]),(ByteArray.mk #[116,104,101,114,101])] zs.length ByteArray.empty)=_ from e1];simp only[j3];rw[aj (by simp[aS];omega),ah (x:=((n+1:Nat):Int)-1) (by omega) (by omega)];simp only[j5,aF];rw[show ((n+1:Nat):Int)-1=(n:Int) by omega];exact⟨D3,a',e2,by rw[h2];simp;omega,h3,h4⟩
structure tL(nz:Nat)(ps:List dP):Prop where
 ck:∀p∈ps,GS nz p
 nm:ps.map (·.1)=fE.take ps.length
theorem UL{n:Int}(h0:0<=n)(h1:n<=168):j5k (w64 (3600*n))=some true:=by
 rw[ah (by omega) (by omega)];simp only[j5k,Ba (show 0<=3600*n by omega) (show 3600*n<=604800 by omega),j3,j5];rw[DH,dT (show (3600*n)%3600=0 by omega)]
theorem MT{L:List Int}{zs:List cg}(qB:1<=zs.length)(rT:zs.length<=100):∀(n:Nat)(a:Int)(ps:List dP),dm L a->ps.length+n<=4->tL zs.length ps->
  ∃yA a',F6 (n:Int) L a zs ps=some (L,a',zs,yA)/\yA.length=ps.length+n/\tL zs.length yA/\dm L a'
 |0,a,ps,hd,_,hp=>by
  rw[SZ];simp only[j48];rw[ak (by omega),j6,aW];exact⟨ps,a,rfl,rfl,hp,hd⟩
 |n+1,a,ps,hd,hl,hp=>by
  obtain⟨x,a1,e1,x0,x1,d1⟩:=cH (n:=(zs.length:Int)) hd (by omega) (by omega);obtain⟨b,a2,e2,d2⟩:=AZ (n:=3) d1 (by omega) (by omega);obtain⟨c,a3,e3,d3⟩:=AZ (n:=2) d2 (by omega) (by omega);have bV:ps.length<fE.length:=by show ps.length<8;omega
  have dV:fE.getD ps.length ByteArray.empty∈fE:=by rw[List.getD_eq_getElem?_getD,ji bV];exact jg bV
  have ext:∀(w:WL)(p q:Int),iJ 0 w->w.length<=14->p∈[(0:Int),(40:Int),(100:Int),(12:Int)]->q∈[(0:Int),(11:Int),(24:Int),(1:Int)]->
    tL zs.length (ps++[(fE.getD ps.length ByteArray.empty,(x,(w,(w64 (3600*p),(w64 (3600*q),b)))))]):=by
   intro w p q hw kB sS D4;have uq:0<=p/\p<=168:=by simp at sS;omega
   have E3:0<=q/\q<=168:=by simp at D4;omega
   refine⟨λr hr=>?_,?_⟩
   .rcases jn.1 hr with h|h
    .exact hp.ck r h
    .simp at h;subst h;exact⟨jyO _ dV,x0,x1,hw,kB,UL uq.1 uq.2,UL E3.1 E3.2⟩
   .rw[zq,hp.nm,ja];exact GW bV
  rw[SZ];simp only[j48,UI,j3,show Int.ofNat (List.length ps)=(ps.length:Int) from rfl,show Int.ofNat (List.length zs)=(zs.length:Int) from rfl];rw[aj (by omega),aU (show (0:Int)<=(ps.length:Int) by omega) (by omega)];simp only[j5,e1,e2,e3,j3];rw[ah (x:=((n+1:Nat):Int)-1) (by omega) (by omega),show ((n+1:Nat):Int)-1=(n:Int) by omega];cases c with
  |true=>obtain⟨w,a4,e4,hw,kB,d4⟩:=MP d3;obtain⟨p,a5,e5,sS,d5⟩:=mD d4 (xs:=[(0:Int),(40:Int),(100:Int),(12:Int)]) (by simp) (by simp);obtain⟨q,a6,e6,D4,d6⟩:=mD d5 (xs:=[(0:Int),(11:Int),(24:Int),(1:Int)]) (by simp) (by simp);simp only[j5,e4,e5,e6,j3];rw[aj (by simp[aS];omega)];simp only[j5,aF];obtain⟨yA,a',e,h1,h2,h3⟩:=MT qB rT n a6 _ d6 (by simp;omega) (ext w p q hw (by omega) sS D4);exact⟨yA,a',e,by rw[h1];simp;omega,h2,h3⟩
  |false=>obtain⟨p,a5,e5,sS,d5⟩:=mD d3 (xs:=[(0:Int),(40:Int),(100:Int),(12:Int)]) (by simp) (by simp);obtain⟨q,a6,e6,D4,d6⟩:=mD d5 (xs:=[(0:Int),(11:Int),(24:Int),(1:Int)]) (by simp) (by simp);simp only[j6,e5,e6,j3];rw[aj (by simp[aS];omega)];simp only[j5,aF];obtain⟨yA,a',e,h1,h2,h3⟩:=MT qB rT n a6 _ d6 (by simp;omega) (ext [] p q (show (0:Int)<=604800 by omega) (by simp) sS D4);exact⟨yA,a',e,by rw[h1];simp;omega,h2,h3⟩
def yB(q:Int)(ds:List Int):Prop:=ds.Pairwise (· < ·)/\∀d∈ds,20454<d/\d<=q
theorem UM{L:List Int}{s:Int}{nm:ByteArray}{z:Int}{zs:List cg}{ps:List dP}{cs:List bk}:∀(n:Nat)(a day:Int)(ds:List Int),dm L a->ds.length+n<=4->20454<=day->day+6*n<=20480->yB day ds->
  ∃MU a',F7 s (n:Int) day L a nm z zs ps cs ds=some (s,L,a',nm,z,zs,ps,cs,MU)/\MU.length<=4/\yB 20480 MU/\dm L a'
 |0,a,day,ds,hd,hl,hy,Ix,hi=>by
  rw[S7];simp only[j49];rw[ak (by omega),j6,aW];exact⟨ds,a,rfl,by omega,⟨hi.1,λd hd=>by have:=hi.2 d hd;omega⟩,hd⟩
 |n+1,a,day,ds,hd,hl,hy,Ix,hi=>by
  obtain⟨x,a1,e1,x0,x1,d1⟩:=cH (n:=6) hd (by omega) (by omega);rw[S7];simp only[j49];rw[aj (by omega),ah (x:=((n+1:Nat):Int)-1) (by omega) (by omega),show ((n+1:Nat):Int)-1=(n:Int) by omega];simp only[j5,e1,j3];rw[aj (by simp[aS];omega),ah (x:=1+x) (by omega) (by omega),ah (x:=day+(1+x)) (by omega) (by omega)];simp only[j5,aF];refine UM n a1 _ _ d1 (by simp;omega) (by omega) (by omega) ⟨ql.2 ⟨hi.1,by simp,λu hu v hv=>?_⟩,λd hd=>?_⟩
  .simp at hv;subst hv;have:=hi.2 u hu;omega
  .rcases jn.1 hd with h|h
   .have:=hi.2 d h;omega
   .simp at h;omega
structure D5(nz:Nat)(cs:List bk):Prop where
 ck:∀c∈cs,vN nz c
 nm:fN (cs.map (·.1))
 len:cs.length<=1
 dl:∀c∈cs,c.2.2.length<=4
theorem jA9{nz:Nat}{nm:ByteArray}{x:Int}{ds:List Int}(x0:0<=x)(x1:x<nz)(hl:ds.length<=64)(hi:yB 20480 ds):vN nz (nm,(x,ds)):=
 ⟨x0,x1,hl,λd hd=>MS (by have:=hi.2 d hd;omega) (by have:=hi.2 d hd;omega),hi.1⟩
structure fe(zs:List cg)(ps:List dP)(cs:List bk):Prop where
 so:D0 zs ps cs
 z:yz zs
 p:tL zs.length ps
 c:D5 zs.length cs
theorem jvn{L:List Int}{a:Int}(h:dm L a):∃zs ps cs a',ja7 L a=some ((zs,(ps,(cs,([]:List cM)))),L,a')/\fe zs ps cs/\dm L a':=by
 obtain⟨x,a1,e1,x0,x1,d1⟩:=cH (n:=2) h (by omega) (by omega);obtain⟨zs,a2,e2,l2,k2,d2⟩:=UK (1+x).toNat a1 [] d1 (by simp;omega) ⟨by simp,by simp,rfl⟩;obtain⟨y,a3,e3,y0,y1,d3⟩:=cH (n:=4) d2 (by omega) (by omega);simp at l2;obtain⟨ps,a4,e4,l4,k4,d4⟩:=MT (zs:=zs) (by omega) (by omega) (1+y).toNat a3 [] d3 (by simp;omega) ⟨by simp,rfl⟩;obtain⟨q,a5,e5,q0,q1,d5⟩:=cH (n:=2) d4 (by omega) (by omega);simp at l4
 have dv:∃cs a',F8 q L a5 zs ps []=some (L,a',zs,ps,cs)/\D5 zs.length cs/\dm L a':=by
  by_cases hq:q=0
  .subst hq;rw[Kp];simp only[j3c];rw[ak (by omega),j6,aW];exact⟨[],a5,rfl,⟨by simp,fN.nil,by simp,by simp⟩,d5⟩
  .have yw:q=1:=by omega
   subst yw;obtain⟨x,a6,e6,x0,x1,d6⟩:=cH (n:=(zs.length:Int)) d5 (by omega) (by omega);obtain⟨y,a7,e7,y0,y1,d7⟩:=cH (n:=4) d6 (by omega) (by omega);obtain⟨ds,a8,e8,l8,k8,d8⟩:=UM (s:=(1:Int)) (nm:=ByteArray.mk #[100,97,121,115]) (z:=x) (zs:=zs) (ps:=ps) (cs:=[]) y.toNat a7 20454 [] d7 (by simp;omega) (by omega) (by omega) ⟨by simp,by simp⟩;rw[show ((y.toNat:Nat):Int)=y by omega]at e8;rw[Kp];simp only[j3c,show Int.ofNat (List.length zs)=(zs.length:Int) from rfl];rw[aj (by omega)];simp only[j5,e6,e7,e8,j3];rw[aj (by simp[aS]),ah (x:=(1:Int)-1) (by omega) (by omega)];simp only[j5,aF];rw[Kp];simp only[j3c];rw[ak (by omega),j6,aW];refine⟨_,a8,rfl,⟨λc hc=>?_,fN.one jyN,by simp,λc hc=>by simp at hc;subst hc;exact l8⟩,d8⟩;simp at hc;subst hc;exact jA9 x0 x1 (by omega) k8
 obtain⟨cs,a6,e6,k6,d6⟩:=dv;rw[show (((1+x).toNat:Nat):Int)=1+x by omega]at e2;rw[show (((1+y).toNat:Nat):Int)=1+y by omega]at e4;simp only[ja7,e1,j3];rw[ah (x:=1+x) (by omega) (by omega)];simp only[e2,e3,j3];rw[ah (x:=1+y) (by omega) (by omega)];simp only[e4,e5,e6,j3];exact⟨zs,ps,cs,a6,rfl,⟨⟨by omega,by omega,k2.ok,by omega,by omega,k6.len⟩,k2,k4,k6⟩,d6⟩
end Go.Proofs.Pw
