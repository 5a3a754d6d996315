/- jR 8: eW that are right. -/
import Derived.Test.YtpbnnhakjhalaaaGreatLWPA
import Derived.Test.YtpbnnhakjhalaaaGreatLWPB
import Derived.KernelRfl
open Go Go.Lft
namespace Go.Proofs.Pw
abbrev cR:=Int×(Int×(Int×(Int×Int)))
abbrev mK:=List bI×(List c9×(List aW×List dA))
theorem yJ{n lo hi:Int}(h1:lo<=n)(h2:n<=hi):j6D n lo hi=some true:=by
 simp only[j6D];rw[ag (show n>=lo from h1),ag h2];rfl
theorem xb{i n:Int}(h1:0<=i)(h2:i<n):j1u i n=some true:=by
 simp only[j1u];rw[ag (show i>=0 from h1),ag h2];rfl
theorem jzw{i n:Int}(h1:i<0):j1u i n=some false:=by
 simp only[j1u];rw[aj (show¬i>=0 by omega)];rfl
structure uD(z:bI):Prop where
 ck:jcj z=some 0
 o60:Int.tmod z.2.1 60=0
 r60:∀r∈z.2.2,Int.tmod r.2.2.2.2.2.2 60=0
 len:z.2.2.length<=1000
theorem T8{rs:List aU}(h:∀r∈rs,Int.tmod r.2.2.2.2.2.2 60=0)(hl:rs.length<=1000):∀(n i:Nat),i+n=rs.length->Ff rs (rs.length:Int) (i:Int)=some (.inr ())
 |0,i,hi=>by
  rw[R9];simp only[j0f];rw[aj (by omega),j6,aY]
 |n+1,i,hi=>by
  have au:i<rs.length:=by omega
  have bh:rs.getD i ((0:Int),((0:Int),((0:Int),((0:Int),((0:Int),((0:Int),(0:Int)))))))=rs[i]:=by simp[au]
  have:=h rs[i] (jh au);rw[R9];simp only[j0f,j6S];rw[ag (by omega),aZ (by omega) (by omega),ah (x:=(i:Int)+1) (by omega) (by omega)];simp only[j5,j7,bh,j3,this,ji,j6,aQ];exact T8 h hl n (i+1) (by omega)
theorem jzx{z:bI}(h:uD z):j4Z z=some 0:=by
 have lp:=T8 h.r60 h.len z.2.2.length 0 (by omega);rw[show ((0:Nat):Int)=0 from rfl]at lp;simp only[j4Z,show jcj (z.1,(z.2.1,z.2.2))=_ from h.ck,j3,h.o60,ji,j6,j11,j1e,show Int.ofNat z.2.2.length=(z.2.2.length:Int) from rfl,lp,lT];rfl
theorem T9{zs:List bI}(hn:eG (zs.map (·.1)))(hc:∀z∈zs,uD z)(hl:zs.length<=100):∀(n i:Nat),i+n=zs.length->Cb zs (zs.length:Int) (i:Int) (nQ ((zs.take i).map (·.1)))=some (.inr ())
 |0,i,hi=>by
  rw[Sa];simp only[j16];rw[aj (by omega),j6,aY]
 |n+1,i,hi=>by
  have au:i<zs.length:=by omega
  have bh:zs.getD i (ByteArray.empty,((0:Int),([]:List aU)))=zs[i]:=by simp[au]
  have h1:=CW (·.1) hn au;have h2:=jzx (hc zs[i] (jh au));rw[Sa];simp only[j16,j9v];rw[ag (by omega),aZ (by omega) (by omega),ah (x:=(i:Int)+1) (by omega) (by omega)];simp only[j5,j7,bh,j3,h1,ji,j6];rw[show j4Z (zs[i].1,(zs[i].2.1,zs[i].2.2))=_ from h2];simp only[j3,ji,j6,aQ];exact T9 hn hc hl n (i+1) (by omega)
theorem jzy{zs:List bI}(hn:eG (zs.map (·.1)))(hc:∀z∈zs,uD z)(hl:zs.length<=100):j3Z zs=some 0:=by
 have lp:=T9 hn hc hl zs.length 0 (by omega);simp only[j3Z,show Int.ofNat zs.length=(zs.length:Int) from rfl];rw[show Cb zs (zs.length:Int) 0 []=_ from lp];rfl
structure C9(nz:Nat)(p:c9):Prop where
 nb:(ByteArray.toList p.1==ByteArray.toList (ByteArray.mk #[110,111,98,111,100,121]))=false
 z0:0<=p.2.1
 z1:p.2.1<nz
 w:iq 0 p.2.2.1
 wl:p.2.2.1.length<=14
 m:j4i p.2.2.2.1=some true
 r:j4i p.2.2.2.2.1=some true
theorem jzz{c:mK}{p:c9}(h:C9 c.1.length p):j2B c p=some 0:=by
 have mj:=h.z0;have rq:=h.z1;simp only[j2B,show Int.ofNat c.1.length=(c.1.length:Int) from rfl,xb mj rq,j3,jn,j6,MX h.w h.wl,ji,h.m,h.r]
theorem Ua{zs:List bI}{ps:List c9}{cs:List aW}{ss:List dA}(hn:eG (ps.map (·.1)))(hc:∀p∈ps,C9 zs.length p)(hl:ps.length<=100):∀(n i:Nat),i+n=ps.length->Cf ps (ps.length:Int) (i:Int) zs ps cs ss (nQ ((ps.take i).map (·.1)))=some (.inr (zs,ps,cs,ss))
 |0,i,hi=>by
  rw[Sk];simp only[j2U];rw[aj (by omega),j6,aY]
 |n+1,i,hi=>by
  have au:i<ps.length:=by omega
  have bh:ps.getD i (ByteArray.empty,((0:Int),(([]:List (Int×Int)),((0:Int),((0:Int),false)))))=ps[i]:=by simp[au]
  have h1:=CW (·.1) hn au;have hp:=hc ps[i] (jh au);have h2:=jzz (c:=(zs,(ps,(cs,ss)))) hp;rw[Sk];simp only[j2U];rw[ag (by omega),aZ (by omega) (by omega),ah (x:=(i:Int)+1) (by omega) (by omega)];simp only[j5,j7,bh,j3,h1,hp.nb,zj,j6];rw[show j2B (zs,(ps,(cs,ss))) (ps[i].1,(ps[i].2.1,(ps[i].2.2.1,(ps[i].2.2.2.1,(ps[i].2.2.2.2.1,ps[i].2.2.2.2.2)))))=_ from h2];simp only[j3,ji,j6,aQ];exact Ua hn hc hl n (i+1) (by omega)
structure sM(nz:Nat)(c:aW):Prop where
 z0:0<=c.2.1
 z1:c.2.1<nz
 len:c.2.2.length<=64
 day:∀d∈c.2.2,j0t d=some true
 asc:c.2.2.Pairwise (· < ·)
theorem Ub{ds:List Int}(h:∀d∈ds,j0t d=some true)(hl:ds.length<=64):∀(n i:Nat),i+n=ds.length->Fh ds (ds.length:Int) (i:Int)=some (.inr ())
 |0,i,hi=>by
  rw[Sc];simp only[j0Z];rw[aj (by omega),j6,aY]
 |n+1,i,hi=>by
  have au:i<ds.length:=by omega
  have bh:ds.getD i (0:Int)=ds[i]:=by simp[au]
  have:=h ds[i] (jh au);rw[Sc];simp only[j0Z,j50];rw[ag (by omega),aZ (by omega) (by omega),ah (x:=(i:Int)+1) (by omega) (by omega)];simp only[j5,j7,bh,this,j3,jn,j6,aQ];exact Ub h hl n (i+1) (by omega)
theorem Uc{nm:ByteArray}{z:Int}{ds:List Int}(h:ds.Pairwise (· < ·))(hl:ds.length<=64):∀(n i:Nat),i+n=ds.length->Fi (ds.length:Int) (i:Int) nm z ds=some (.inr ())
 |0,i,hi=>by
  rw[Sd];simp only[j1f];rw[aj (by omega),j6,aY]
 |n+1,i,hi=>by
  have au:i<ds.length:=by omega
  have bh:ds.getD i (0:Int)=ds[i]:=by simp[au]
  have ih:=Uc (nm:=nm) (z:=z) h hl n (i+1) (by omega);rw[Sd];simp only[j1f];rw[ag (by omega),aZ (i:=(i:Int)) (by omega) (by omega),ah (x:=(i:Int)+1) (by omega) (by omega)];simp only[j5,j7,bh];by_cases h0:i=0
  .subst h0;rw[aj (by omega),j6,aQ];exact ih
  .have hj:i-1<ds.length:=by omega
   have hgj:ds.getD (i-1) (0:Int)=ds[i-1]:=by simp[hj]
   have hp:ds[i-1]<ds[i]:=q7.1 h (i-1) i hj au (by omega);rw[ag (show (i:Int)>0 by omega),ah (x:=(i:Int)-1) (by omega) (by omega),aZ (i:=(i:Int)-1) (by omega) (by omega),show ((i:Int)-1).toNat=i-1 by omega,hgj,aj (show¬ds[i]<=ds[i-1] by omega)];simp only[j5,j6,aQ];exact ih
theorem jzA{c:mK}{x:aW}(h:sM c.1.length x):j2R c x=some 0:=by
 have mj:=h.z0;have rq:=h.z1;have hl:=h.len;have l1:=Ub h.day hl x.2.2.length 0 (by omega);have l2:=Uc (nm:=x.1) (z:=x.2.1) h.asc hl x.2.2.length 0 (by omega);rw[show ((0:Nat):Int)=0 from rfl]at l1 l2;simp only[j2R,show Int.ofNat c.1.length=(c.1.length:Int) from rfl,show Int.ofNat x.2.2.length=(x.2.2.length:Int) from rfl,xb mj rq,j3,jn,j6,j3O,j51,l1,l2,lT];rw[aj (by omega)];rfl
theorem Ud{zs:List bI}{ps:List c9}{cs:List aW}{ss:List dA}(hn:eG (cs.map (·.1)))(hc:∀x∈cs,sM zs.length x)(hl:cs.length<=100):∀(n i:Nat),i+n=cs.length->Cc zs ps cs ss cs (cs.length:Int) (i:Int) (nQ ((cs.take i).map (·.1)))=some (.inr ())
 |0,i,hi=>by
  rw[Se];simp only[j0L];rw[aj (by omega),j6,aY]
 |n+1,i,hi=>by
  have au:i<cs.length:=by omega
  have bh:cs.getD i (ByteArray.empty,((0:Int),([]:List Int)))=cs[i]:=by simp[au]
  have h1:=CW (·.1) hn au;have h2:=jzA (c:=(zs,(ps,(cs,ss)))) (hc cs[i] (jh au));rw[Se];simp only[j0L,j9x,j9y];rw[ag (by omega),aZ (by omega) (by omega),ah (x:=(i:Int)+1) (by omega) (by omega)];simp only[j5,j7,bh,j3,h1,ji,j6];rw[show j2R (zs,(ps,(cs,ss))) (cs[i].1,(cs[i].2.1,cs[i].2.2))=_ from h2];simp only[j3,ji,j6,aQ];exact Ud hn hc hl n (i+1) (by omega)
theorem jzB{zs:List bI}{ps:List c9}{cs:List aW}{ss:List dA}(hn:eG (cs.map (·.1)))(hc:∀x∈cs,sM zs.length x)(hl:cs.length<=100):j2u cs zs ps cs ss=some 0:=by
 have lp:=Ud (ps:=ps) (ss:=ss) hn hc hl cs.length 0 (by omega);simp only[j2u,show Int.ofNat cs.length=(cs.length:Int) from rfl];rw[show Cc zs ps cs ss cs (cs.length:Int) 0 []=_ from lp];rfl
structure eX(nz np nc:Nat)(l:bM):Prop where
 z0:0<=l.2.1
 z1:l.2.1<nz
 d0:1<=l.2.2.1.1
 day:j0t l.2.2.1.1=some true
 c0:0<=l.2.2.1.2
 c1:l.2.2.1.2<=86399
 u0:0<=l.2.2.2.1
 u1:l.2.2.2.1<=2
 e0:1<=l.2.2.2.2.1
 e1:l.2.2.2.2.1<=400
 m0:l.2.2.2.2.2.1.length≠0
 m1:l.2.2.2.2.2.1.length<=12
 mem:∀m∈l.2.2.2.2.2.1,0<=m/\m<(np:Int)
 w:iq 0 l.2.2.2.2.2.2.1
 wl:l.2.2.2.2.2.2.1.length<=14
 mode0:0<=l.2.2.2.2.2.2.2.2
 mode1:l.2.2.2.2.2.2.2.2<=2
 cal:l.2.2.2.2.2.2.2.2≠0->0<=l.2.2.2.2.2.2.2.1/\l.2.2.2.2.2.2.2.1<(nc:Int)
 cal0:l.2.2.2.2.2.2.2.2=0->l.2.2.2.2.2.2.2.1=0
 w3:l.2.2.2.2.2.2.1.length<=3
 h6:l.2.2.2.1=0->6<=l.2.2.2.2.1
theorem Ue{zs:List bI}{ps:List c9}{cs:List aW}{ss:List dA}{ms:List Int}(h:∀m∈ms,0<=m/\m<(ps.length:Int))(hl:ms.length<=12):∀(n i:Nat),i+n=ms.length->Fj ms zs ps cs ss (ms.length:Int) (i:Int)=some (.inr ())
 |0,i,hi=>by
  rw[Sf];simp only[j0F];rw[aj (by omega),j6,aY]
 |n+1,i,hi=>by
  have au:i<ms.length:=by omega
  have bh:ms.getD i (0:Int)=ms[i]:=by simp[au]
  have hm:=h ms[i] (jh au);rw[Sf];simp only[j0F,j6l,show Int.ofNat ps.length=(ps.length:Int) from rfl];rw[ag (by omega),aZ (by omega) (by omega),ah (x:=(i:Int)+1) (by omega) (by omega)];simp only[j5,j7,bh,xb hm.1 hm.2,j3,jn,j6,aQ];exact Ue h hl n (i+1) (by omega)
theorem jzC{c:mK}{l:bM}(h:eX c.1.length c.2.1.length c.2.2.1.length l):j4l c l=some 0:=by
 have mj:=h.z0;have rq:=h.z1;have MY:=h.d0;have uE:=h.m0;have gf:=h.m1;have l1:=Ue (zs:=c.1) (cs:=c.2.2.1) (ss:=c.2.2.2) h.mem gf l.2.2.2.2.2.1.length 0 (by omega);rw[show ((0:Nat):Int)=0 from rfl]at l1
 simp only[j4l,show Int.ofNat c.1.length=(c.1.length:Int) from rfl,show Int.ofNat l.2.2.2.2.2.1.length=(l.2.2.2.2.2.1.length:Int) from rfl,show Int.ofNat c.2.2.1.length=(c.2.2.1.length:Int) from rfl,xb mj rq,j3,jn,j6,h.day,yJ h.c0 h.c1,yJ h.u0 h.u1,yJ h.e0 h.e1,yJ h.mode0 h.mode1,
  j2S,j3P,l1,lT,MX h.w h.wl,ji]
 rw[aj (show¬l.2.2.1.1<1 by omega),cB (show¬(l.2.2.2.2.2.1.length:Int)=0 by omega),aj (show¬(l.2.2.2.2.2.1.length:Int)>12 by omega),aj (show¬(-1:Int)>=0 by omega)];simp only[j6];by_cases Da:l.2.2.2.2.2.2.2.2=0
 .rw[Da,h.cal0 Da];rfl
 .have hc:=h.cal Da;rw[show (l.2.2.2.2.2.2.2.2 != 0)=true by simp[Da],cB Da,j5,xb hc.1 hc.2];rfl
theorem Uf{zs:List bI}{ps:List c9}{cs:List aW}{ss:List dA}{ls:List bM}(hn:eG (ls.map (·.1)))(hc:∀x∈ls,eX zs.length ps.length cs.length x)(hl:ls.length<=100):∀(n i:Nat),i+n=ls.length->Cd zs ps cs ss ls (ls.length:Int) (i:Int) (nQ ((ls.take i).map (·.1)))=some (.inr ())
 |0,i,hi=>by
  rw[Sh];simp only[j12];rw[aj (by omega),j6,aY]
 |n+1,i,hi=>by
  have au:i<ls.length:=by omega
  have bh:ls.getD i (ByteArray.empty,((0:Int),(((0:Int),(0:Int)),((0:Int),((0:Int),(([]:(List Int)),(([]:(List (Int×Int))),((0:Int),(0:Int)))))))))=ls[i]:=by simp[au]
  have h1:=CW (·.1) hn au;have h2:=jzC (c:=(zs,(ps,(cs,ss)))) (hc ls[i] (jh au));rw[Sh];simp only[j12,j52,j53];rw[ag (by omega),aZ (by omega) (by omega),ah (x:=(i:Int)+1) (by omega) (by omega)];simp only[j5,j7,bh,j3,h1,ji,j6];rw[show j4l (zs,(ps,(cs,ss))) (ls[i].1,ls[i].2.1,(ls[i].2.2.1.1,ls[i].2.2.1.2),ls[i].2.2.2.1,ls[i].2.2.2.2.1,ls[i].2.2.2.2.2.1,ls[i].2.2.2.2.2.2.1,ls[i].2.2.2.2.2.2.2.1,ls[i].2.2.2.2.2.2.2.2)=_ from h2];simp only[j3,ji,j6,aQ];exact Uf hn hc hl n (i+1) (by omega)
theorem jzD{zs:List bI}{ps:List c9}{cs:List aW}{ss:List dA}{ls:List bM}(hn:eG (ls.map (·.1)))(hc:∀x∈ls,eX zs.length ps.length cs.length x)(hl:ls.length<=100):j3u ls zs ps cs ss=some 0:=by
 have lp:=Uf (ss:=ss) hn hc hl ls.length 0 (by omega);simp only[j3u,show Int.ofNat ls.length=(ls.length:Int) from rfl];rw[show Cd zs ps cs ss ls (ls.length:Int) 0 []=_ from lp];rfl
structure kF(np:Nat)(x:cR):Prop where
 k0:0<=x.1
 k1:x.1<=2
 a:0<=x.2.1/\x.2.1<(np:Int)\/x.1=1/\x.2.1 = -1
 b:x.1=2->0<=x.2.2.1/\x.2.2.1<(np:Int)/\x.2.1≠x.2.2.1
 b0:x.1≠2->x.2.2.1=0
 f0:0<=x.2.2.2.1
 ft:x.2.2.2.1<x.2.2.2.2
 t1:x.2.2.2.2<=1000000000000
 day:j0t (Int.tdiv x.2.2.2.2 86400)=some true
theorem jzE{c:mK}{x:cR}(h:kF c.2.1.length x):j54 c x=some 0:=by
 have AF:=h.f0;have ir:=h.ft;have M0:=h.t1;have xc:=h.day;have F8:w64 (Int.tdiv x.2.2.2.2 86400)=Int.tdiv x.2.2.2.2 86400:=by rw[sG (by omega)];exact ah (by omega) (by omega)
 simp only[j54,show Int.ofNat c.2.1.length=(c.2.1.length:Int) from rfl,yJ h.k0 h.k1,j3,jn,j6,F8,xc];rw[aj (show¬x.2.2.2.1<0 by omega),aj (show¬x.2.2.2.2<0 by omega),aj (show¬x.2.2.2.1>=x.2.2.2.2 by omega)];simp only[j6]
 have hA:∃b,j1u x.2.1 (c.2.1.length:Int)=some b/\cond (!b) (!(cond (x.1==(1:Int)) (x.2.1==(-1:Int)) false)) false=false:=by
  rcases h.a with⟨a1,a2⟩|⟨a1,a2⟩
  .exact⟨true,xb a1 a2,rfl⟩
  .exact⟨false,jzw (by omega),by rw[a1,a2];rfl⟩
 obtain⟨b,e1,e2⟩:=hA;rw[e1];simp only[j3,e2,j6];by_cases h2:x.1=2
 .obtain⟨b1,b2,b3⟩:=h.b h2;rw[eA h2,j5,xb b1 b2,show (x.1 != 2)=false by rw[h2];rfl,cB b3];rfl
 .rw[cB h2,j6,show (x.1 != 2)=true by simp[h2],h.b0 h2];rfl
theorem Ug{zs:List bI}{ps:List c9}{cs:List aW}{ss:List dA}{es:List cR}(hc:∀x∈es,kF ps.length x)(hl:es.length<=48):∀(n i:Nat),i+n=es.length->Fk es (es.length:Int) (i:Int) zs ps cs ss=some (.inr ())
 |0,i,hi=>by
  rw[Si];simp only[j1h];rw[aj (by omega),j6,aY]
 |n+1,i,hi=>by
  have au:i<es.length:=by omega
  have bh:es.getD i ((0:Int),((0:Int),((0:Int),((0:Int),(0:Int)))))=es[i]:=by simp[au]
  have h2:=jzE (c:=(zs,(ps,(cs,ss)))) (hc es[i] (jh au));rw[Si];simp only[j1h];rw[ag (by omega),aZ (by omega) (by omega),ah (x:=(i:Int)+1) (by omega) (by omega)];simp only[j5,j7,bh];rw[show j54 (zs,(ps,(cs,ss))) (es[i].1,es[i].2.1,es[i].2.2.1,es[i].2.2.2.1,es[i].2.2.2.2)=_ from h2];simp only[j3,ji,j6,aQ];exact Ug hc hl n (i+1) (by omega)
structure rr(nz np nc:Nat)(s:dA):Prop where
 nm:eG (s.2.1.map (·.1))
 ly:∀x∈s.2.1,eX nz np nc x
 ll:s.2.1.length<=6
 ed:∀x∈s.2.2,kF np x
 el:s.2.2.length<=48
theorem jzF{c:mK}{s:dA}(h:rr c.1.length c.2.1.length c.2.2.1.length s):j2T c s=some 0:=by
 have gM:=h.ll;have fZ:=h.el;have lp:=Ug (zs:=c.1) (ps:=c.2.1) (cs:=c.2.2.1) (ss:=c.2.2.2) h.ed fZ s.2.2.length 0 (by omega);rw[show ((0:Nat):Int)=0 from rfl]at lp;simp only[j2T,show Int.ofNat s.2.1.length=(s.2.1.length:Int) from rfl,show Int.ofNat s.2.2.length=(s.2.2.length:Int) from rfl];rw[aj (show¬(s.2.1.length:Int)>6 by omega),aj (show¬(s.2.2.length:Int)>48 by omega)];simp only[j6,jzD (zs:=c.1) (ps:=c.2.1) (cs:=c.2.2.1) (ss:=c.2.2.2) h.nm h.ly (by omega),j3,ji,lp,lT]
theorem Uh{zs:List bI}{ps:List c9}{cs:List aW}{ss:List dA}(hn:eG (ss.map (·.1)))(hc:∀x∈ss,rr zs.length ps.length cs.length x)(hl:ss.length<=100):∀(n i:Nat),i+n=ss.length->Ce zs ps cs ss ss (ss.length:Int) (i:Int) (nQ ((ss.take i).map (·.1)))=some (.inr ())
 |0,i,hi=>by
  rw[Sj];simp only[j0M];rw[aj (by omega),j6,aY]
 |n+1,i,hi=>by
  have au:i<ss.length:=by omega
  have bh:ss.getD i (ByteArray.empty,(([]:List bM),([]:List cR)))=ss[i]:=by simp[au]
  have h1:=CW (·.1) hn au;have h2:=jzF (c:=(zs,(ps,(cs,ss)))) (hc ss[i] (jh au));rw[Sj];simp only[j0M,j9z,j9A];rw[ag (by omega),aZ (by omega) (by omega),ah (x:=(i:Int)+1) (by omega) (by omega)];simp only[j5,j7,bh,j3,h1,ji,j6];rw[show j2T (zs,(ps,(cs,ss))) (ss[i].1,(ss[i].2.1,ss[i].2.2))=_ from h2];simp only[j3,ji,j6,aQ];exact Uh hn hc hl n (i+1) (by omega)
structure mL(c:mK):Prop where
 zn:eG (c.1.map (·.1))
 zc:∀z∈c.1,uD z
 zl:c.1.length<=16
 pn:eG (c.2.1.map (·.1))
 pc:∀p∈c.2.1,C9 c.1.length p
 pl:c.2.1.length<=32
 cn:eG (c.2.2.1.map (·.1))
 cc:∀x∈c.2.2.1,sM c.1.length x
 cl:c.2.2.1.length<=8
 sn:eG (c.2.2.2.map (·.1))
 sc:∀x∈c.2.2.2,rr c.1.length c.2.1.length c.2.2.1.length x
 sl:c.2.2.2.length<=12
theorem jq9{c:mK}(h:mL c):j7X c=some 0:=by
 have gD:=h.zl;have iY:=h.pl;have dE:=h.cl;have dU:=h.sl;have lp:=Ua (zs:=c.1) (cs:=c.2.2.1) (ss:=c.2.2.2) h.pn h.pc (by omega) c.2.1.length 0 (by omega);have ls:=Uh (zs:=c.1) (ps:=c.2.1) (cs:=c.2.2.1) h.sn h.sc (by omega) c.2.2.2.length 0 (by omega);simp only[j7X,show Int.ofNat c.1.length=(c.1.length:Int) from rfl,show Int.ofNat c.2.1.length=(c.2.1.length:Int) from rfl,show Int.ofNat c.2.2.1.length=(c.2.2.1.length:Int) from rfl,show Int.ofNat c.2.2.2.length=(c.2.2.2.length:Int) from rfl];rw[aj (show¬(c.1.length:Int)>16 by omega),aj (show¬(c.2.1.length:Int)>32 by omega),aj (show¬(c.2.2.1.length:Int)>8 by omega),aj (show¬(c.2.2.2.length:Int)>12 by omega)];simp only[j6,jzy h.zn h.zc (by omega),j3,ji];rw[show Cf c.2.1 (c.2.1.length:Int) 0 c.1 c.2.1 c.2.2.1 c.2.2.2 []=_ from lp];simp only[j3,lT,jzB (zs:=c.1) (ps:=c.2.1) (cs:=c.2.2.1) (ss:=c.2.2.2) h.cn h.cc (by omega),ji,j6,j45,show Int.ofNat c.2.2.2.length=(c.2.2.2.length:Int) from rfl];rw[show Ce c.1 c.2.1 c.2.2.1 c.2.2.2 c.2.2.2 (c.2.2.2.length:Int) 0 []=_ from ls];rfl
def fG:List ByteArray:=[(ByteArray.mk #[97,100,97]),(ByteArray.mk #[98,111,98]),(ByteArray.mk #[99,108,101,111]),(ByteArray.mk #[100,97,110]),(ByteArray.mk #[101,118,101]),(ByteArray.mk #[102,97,121]),(ByteArray.mk #[103,117,115]),(ByteArray.mk #[104,97,108])]
def qE:List ByteArray:=[(ByteArray.mk #[104,101,114,101]),(ByteArray.mk #[116,104,101,114,101])]
theorem Ui:jeL=some fG:=rfl
theorem Uj:eG fG:=by
 refine⟨by decide,λk hk=>?_⟩;simp only[fG,jd,vd,or_false]at hk;rcases hk with rfl|rfl|rfl|rfl|rfl|rfl|rfl|rfl<;>exact F4 60 _ true (by kernel_rfl)
theorem jxo:eG qE:=by
 refine⟨by decide,λk hk=>?_⟩;simp only[qE,jd,vd,or_false]at hk;rcases hk with rfl|rfl<;>exact F4 60 _ true (by kernel_rfl)
theorem eG.take{l:List ByteArray}(h:eG l)(n:Nat):eG (l.take n):=⟨h.1.sublist (List.take_sublist n l),λk hk=>h.2 k (ky hk)⟩
theorem eG.one{s:ByteArray}(h:j4Y s=some true):eG [s]:=⟨by simp,λk hk=>by simp at hk;subst hk;exact h⟩
theorem eG.nil:eG []:=⟨zh,by simp⟩
theorem jxp:j4Y (ByteArray.mk #[100,97,121,115])=some true:=F4 60 _ true (by kernel_rfl)
theorem jxq:∀k∈fG,(ByteArray.toList k==ByteArray.toList (ByteArray.mk #[110,111,98,111,100,121]))=false:=by
 intro k hk;simp only[fG,jd,vd,or_false]at hk;rcases hk with rfl|rfl|rfl|rfl|rfl|rfl|rfl|rfl<;>kernel_rfl
theorem jvK:((List.range 61).all λi=>jmZ 60 (20440+(i:Int))==some true)=true:=by kernel_rfl
theorem F9{d:Int}(h1:20440<=d)(h2:d<=20500):j0t d=some true:=by
 have h:=jp.1 jvK (d-20440).toNat (List.mem_range.2 (by omega));rw[show (20440:Int)+(((d-20440).toNat:Nat):Int)=d by omega]at h;exact jkP 60 d true (eq_of_beq h)
theorem t60{x:Int}(h:x%60=0):Int.tmod x 60=0:=by
 have:=CV x 60;rw[h]at this;simpa using this
theorem Db{P:aU->Prop}{r s:aU}(h1:P r)(h2:P s):∀x∈[r,s],P x:=by
 intro x hx;simp at hx;rcases hx with rfl|rfl
 .exact h1
 .exact h2
theorem jxr{L:List Int}{a:Int}(h:dv L a)(nm:ByteArray):∃o rs a',j3C L a nm=some ((nm,(o,rs)),L,a')/\Int.tmod o 60=0/\∀r∈rs,Int.tmod r.2.2.2.2.2.2 60=0:=by
 obtain⟨p,a1,e1,m1,d1⟩:=mJ h (xs:=[(0:Int),(4:Int),(-20:Int),(22:Int),(48:Int),(-47:Int)]) (by simp) (by simp);obtain⟨x2,a2,e2,x20,x21,d2⟩:=cM (n:=2) d1 (by omega) (by omega);obtain⟨x3,a3,e3,x30,x31,d3⟩:=cM (n:=3) d2 (by omega) (by omega);obtain⟨y,a4,e4,y0,y1,d4⟩:=cM (n:=2) d3 (by omega) (by omega);obtain⟨q,a5,e5,q0,q1,d5⟩:=cM (n:=4) d4 (by omega) (by omega);have hp : -47<=p/\p<=48:=by simp at m1;omega
 have hmul:0<=x2*x3/\x2*x3<=2:=by
  obtain rfl|rfl:x2=0\/x2=1:=by omega
  all_goals omega
 have lx : -43200<=900*(p+x2*x3):=by omega
 have jO:900*(p+x2*x3)<=45000:=by omega
 have nF:(900*(p+x2*x3))%60=0:=by omega
 simp only[j3C,e1,e2,e3,e4,e5,j3];rw[ah (x:=x2*x3) (by omega) (by omega),ah (x:=p+x2*x3) (by omega) (by omega),ah (x:=900*(p+x2*x3)) (by omega) (by omega),ah (x:=2025+y) (by omega) (by omega)];generalize 900*(p+x2*x3)=o at *;generalize 2025+y=last at *;by_cases xa:q=1
 .rw[eA xa,j5,ah (x:=o+3600) (by omega) (by omega)];exact⟨_,_,_,rfl,t60 nF,Db (P:=λr=>Int.tmod r.2.2.2.2.2.2 60=0) (t60 (show (o+3600)%60=0 by omega)) (t60 nF)⟩
 .rw[cB xa,j6];by_cases C5:q=2
  .rw[eA C5,j5];obtain⟨b1,c1,f1,b10,b11,g1⟩:=cM (n:=4) d5 (by omega) (by omega);obtain⟨b2,c2,f2,yG,MQ,g2⟩:=cM (n:=7) g1 (by omega) (by omega);obtain⟨b3,c3,f3,MR,MS,g3⟩:=cM (n:=24) g2 (by omega) (by omega);obtain⟨b4,c4,f4,b40,b41,g4⟩:=cM (n:=8) g3 (by omega) (by omega);obtain⟨b5,c5,f5,b50,b51,g5⟩:=cM (n:=2) g4 (by omega) (by omega);obtain⟨b6,c6,f6,m6,g6⟩:=mJ g5 (xs:=[(2:Int),(3:Int),(5:Int)]) (by simp) (by simp);obtain⟨b7,c7,f7,T4,b71,g7⟩:=cM (n:=7) g6 (by omega) (by omega);obtain⟨b8,c8,f8,b80,b81,g8⟩:=cM (n:=24) g7 (by omega) (by omega);simp only[f1,f2,f3,f4,f5,f6,f7,f8,j3];rw[ah (x:=1+b4) (by omega) (by omega),ah (x:=1800*(1+b4)) (by omega) (by omega),ah (x:=o+1800*(1+b4)) (by omega) (by omega)];exact⟨_,_,_,rfl,t60 nF,Db (P:=λr=>Int.tmod r.2.2.2.2.2.2 60=0) (t60 (show (o+1800*(1+b4))%60=0 by omega)) (t60 nF)⟩
  .rw[cB C5,j6];by_cases C6:q=3
   .rw[eA C6,j5];obtain⟨b1,c1,f1,m1,g1⟩:=mJ d5 (xs:=[(3600:Int),(-3600:Int),(82800:Int),(-82800:Int),(43200:Int)]) (by simp) (by simp);obtain⟨b2,c2,f2,yG,MQ,g2⟩:=cM (n:=7) g1 (by omega) (by omega);obtain⟨b3,c3,f3,MR,MS,g3⟩:=cM (n:=48) g2 (by omega) (by omega);have cO : -82800<=b1/\b1<=82800/\b1%60=0:=by simp at m1;omega
    simp only[f1,f2,f3,j3];rw[ah (x:=o+b1) (by omega) (by omega)];cases cond (decide (o+b1>64800)) true (decide (o+b1 < -64800)) with
    |true=>exact⟨_,_,_,rfl,t60 nF,λr hr=>by simp at hr;subst hr;rfl⟩
    |false=>exact⟨_,_,_,rfl,t60 nF,λr hr=>by simp at hr;subst hr;exact t60 (by dsimp only;omega)⟩
   .rw[cB C6,j6];exact⟨_,_,_,rfl,t60 nF,by simp⟩
theorem jvL{L:List Int}{a:Int}(h:dv L a)(nm:ByteArray):∃o rs a',j3C L a nm=some ((nm,(o,rs)),L,a')/\MZ o rs/\uD (nm,(o,rs))/\dv L a':=by
 obtain⟨o,rs,a1,e1,m1,d1⟩:=jxn h nm;obtain⟨o',rs',a2,e2,m2,m3⟩:=jxr h nm;have:=e1.symm.trans e2;simp only[j4,j8,kp]at this;obtain⟨⟨rfl,rfl⟩,rfl⟩:=this;have ht:=(m1.tab nm).1;have hl:=m1.len;exact⟨o,rs,a1,e1,m1,⟨by simp only[jcj,show j3d (nm,(o,rs))=_ from ht,j3],m2,m3,by dsimp only;omega⟩,d1⟩
structure xd(zs:List bI):Prop where
 ok:∀z∈zs,kE z
 ck:∀z∈zs,uD z
 nm:zs.map (·.1)=qE.take zs.length
theorem Ga{l:List ByteArray}{n:Nat}(hn:n<l.length):l.take n++[l.getD n ByteArray.empty]=l.take (n+1):=by
 rw[km,jj hn];simp[hn]
theorem Uk{L:List Int}:∀(n:Nat)(a:Int)(zs:List bI),dv L a->zs.length+n<=2->xd zs->
  ∃xT a',EW (n:Int) L a zs=some (L,a',xT)/\xT.length=zs.length+n/\xd xT/\dv L a'
 |0,a,zs,hd,_,hz=>by
  rw[RA];simp only[j2c];rw[aj (by omega),j6,aY];exact⟨zs,a,rfl,rfl,hz,hd⟩
 |n+1,a,zs,hd,hl,hz=>by
  obtain⟨o,rs,a1,e1,m1,k1,d1⟩:=jvL hd (List.getD qE zs.length ByteArray.empty)
  obtain⟨xT,a',e2,h2,h3,h4⟩:=Uk n a1 (zs++[(List.getD qE zs.length ByteArray.empty,(o,rs))]) d1 (by simp;omega) ⟨λz tJ=>by
   rcases js.1 tJ with h|h
   .exact hz.ok z h
   .simp at h;subst h;exact m1,λz tJ=>by
   rcases js.1 tJ with h|h
   .exact hz.ck z h
   .simp at h;subst h;exact k1,by
   rw[z8,hz.nm,je];exact Ga (by show zs.length<2;omega)⟩
  rw[RA];simp only[j2c,show Int.ofNat (List.length zs)=(zs.length:Int) from rfl];rw[ag (by omega),aZ (show (0:Int)<=(zs.length:Int) by omega) (by simp;omega)];simp only[j5,j7];rw[show j3C L a (List.getD [(ByteArray.mk #[104,101,114,101]),(ByteArray.mk #[116,104,101,114,101])] zs.length ByteArray.empty)=_ from e1];simp only[j3];rw[ag (by simp[aP];omega),ah (x:=((n+1:Nat):Int)-1) (by omega) (by omega)];simp only[j5,aQ];rw[show ((n+1:Nat):Int)-1=(n:Int) by omega];exact⟨xT,a',e2,by rw[h2];simp;omega,h3,h4⟩
structure sN(nz:Nat)(ps:List c9):Prop where
 ck:∀p∈ps,C9 nz p
 nm:ps.map (·.1)=fG.take ps.length
theorem Ul{n:Int}(h0:0<=n)(h1:n<=168):j4i (w64 (3600*n))=some true:=by
 rw[ah (by omega) (by omega)];simp only[j4i,yJ (show 0<=3600*n by omega) (show 3600*n<=604800 by omega),j3,j5];rw[CV,eA (show (3600*n)%3600=0 by omega)]
theorem M1{L:List Int}{zs:List bI}(mj:1<=zs.length)(rq:zs.length<=100):∀(n:Nat)(a:Int)(ps:List c9),dv L a->ps.length+n<=4->sN zs.length ps->
  ∃xe a',EX (n:Int) L a zs ps=some (L,a',zs,xe)/\xe.length=ps.length+n/\sN zs.length xe/\dv L a'
 |0,a,ps,hd,_,hp=>by
  rw[RB];simp only[j2d];rw[aj (by omega),j6,aY];exact⟨ps,a,rfl,rfl,hp,hd⟩
 |n+1,a,ps,hd,hl,hp=>by
  obtain⟨x,a1,e1,x0,x1,d1⟩:=cM (n:=(zs.length:Int)) hd (by omega) (by omega);obtain⟨b,a2,e2,d2⟩:=yI (n:=3) d1 (by omega) (by omega);obtain⟨c,a3,e3,d3⟩:=yI (n:=2) d2 (by omega) (by omega);have bT:ps.length<fG.length:=by show ps.length<8;omega
  have eF:fG.getD ps.length ByteArray.empty∈fG:=by rw[List.getD_eq_getElem?_getD,jj bT];exact jh bT
  have ext:∀(w:WL)(p q:Int),iq 0 w->w.length<=14->p∈[(0:Int),(40:Int),(100:Int),(12:Int)]->q∈[(0:Int),(11:Int),(24:Int),(1:Int)]->
    sN zs.length (ps++[(fG.getD ps.length ByteArray.empty,(x,(w,(w64 (3600*p),(w64 (3600*q),b)))))]):=by
   intro w p q hw iX wx Dc;have rN:0<=p/\p<=168:=by simp at wx;omega
   have xN:0<=q/\q<=168:=by simp at Dc;omega
   refine⟨λr hr=>?_,?_⟩
   .rcases js.1 hr with h|h
    .exact hp.ck r h
    .simp at h;subst h;exact⟨jxq _ eF,x0,x1,hw,iX,Ul rN.1 rN.2,Ul xN.1 xN.2⟩
   .rw[z8,hp.nm,je];exact Ga bT
  rw[RB];simp only[j2d,Ui,j3,show Int.ofNat (List.length ps)=(ps.length:Int) from rfl,show Int.ofNat (List.length zs)=(zs.length:Int) from rfl];rw[ag (by omega),aZ (show (0:Int)<=(ps.length:Int) by omega) (by omega)];simp only[j5,e1,e2,e3,j3];rw[ah (x:=((n+1:Nat):Int)-1) (by omega) (by omega),show ((n+1:Nat):Int)-1=(n:Int) by omega];cases c with
  |true=>obtain⟨w,a4,e4,hw,iX,d4⟩:=MV d3;obtain⟨p,a5,e5,wx,d5⟩:=mJ d4 (xs:=[(0:Int),(40:Int),(100:Int),(12:Int)]) (by simp) (by simp);obtain⟨q,a6,e6,Dc,d6⟩:=mJ d5 (xs:=[(0:Int),(11:Int),(24:Int),(1:Int)]) (by simp) (by simp);simp only[j5,e4,e5,e6,j3];rw[ag (by simp[aP];omega)];simp only[j5,aQ];obtain⟨xe,a',e,h1,h2,h3⟩:=M1 mj rq n a6 _ d6 (by simp;omega) (ext w p q hw (by omega) wx Dc);exact⟨xe,a',e,by rw[h1];simp;omega,h2,h3⟩
  |false=>obtain⟨p,a5,e5,wx,d5⟩:=mJ d3 (xs:=[(0:Int),(40:Int),(100:Int),(12:Int)]) (by simp) (by simp);obtain⟨q,a6,e6,Dc,d6⟩:=mJ d5 (xs:=[(0:Int),(11:Int),(24:Int),(1:Int)]) (by simp) (by simp);simp only[j6,e5,e6,j3];rw[ag (by simp[aP];omega)];simp only[j5,aQ];obtain⟨xe,a',e,h1,h2,h3⟩:=M1 mj rq n a6 _ d6 (by simp;omega) (ext [] p q (show (0:Int)<=604800 by omega) (by simp) wx Dc);exact⟨xe,a',e,by rw[h1];simp;omega,h2,h3⟩
def xf(q:Int)(ds:List Int):Prop:=ds.Pairwise (· < ·)/\∀d∈ds,20454<d/\d<=q
theorem Um{L:List Int}{s:Int}{nm:ByteArray}{z:Int}{zs:List bI}{ps:List c9}{cs:List aW}:∀(n:Nat)(a day:Int)(ds:List Int),dv L a->ds.length+n<=4->20454<=day->day+6*n<=20480->xf day ds->
  ∃M3 a',EY s (n:Int) day L a nm z zs ps cs ds=some (s,L,a',nm,z,zs,ps,cs,M3)/\M3.length<=4/\xf 20480 M3/\dv L a'
 |0,a,day,ds,hd,hl,hy,HU,hi=>by
  rw[RC];simp only[j2e];rw[aj (by omega),j6,aY];exact⟨ds,a,rfl,by omega,⟨hi.1,λd hd=>by have:=hi.2 d hd;omega⟩,hd⟩
 |n+1,a,day,ds,hd,hl,hy,HU,hi=>by
  obtain⟨x,a1,e1,x0,x1,d1⟩:=cM (n:=6) hd (by omega) (by omega);rw[RC];simp only[j2e];rw[ag (by omega),ah (x:=((n+1:Nat):Int)-1) (by omega) (by omega),show ((n+1:Nat):Int)-1=(n:Int) by omega];simp only[j5,e1,j3];rw[ag (by simp[aP];omega),ah (x:=1+x) (by omega) (by omega),ah (x:=day+(1+x)) (by omega) (by omega)];simp only[j5,aQ];refine Um n a1 _ _ d1 (by simp;omega) (by omega) (by omega) ⟨List.pairwise_append.2 ⟨hi.1,by simp,λu hu v hv=>?_⟩,λd hd=>?_⟩
  .simp at hv;subst hv;have:=hi.2 u hu;omega
  .rcases js.1 hd with h|h
   .have:=hi.2 d h;omega
   .simp at h;omega
structure Dd(nz:Nat)(cs:List aW):Prop where
 ck:∀c∈cs,sM nz c
 nm:eG (cs.map (·.1))
 len:cs.length<=1
 dl:∀c∈cs,c.2.2.length<=4
theorem jyD{nz:Nat}{nm:ByteArray}{x:Int}{ds:List Int}(x0:0<=x)(x1:x<nz)(hl:ds.length<=64)(hi:xf 20480 ds):sM nz (nm,(x,ds)):=
 ⟨x0,x1,hl,λd hd=>F9 (by have:=hi.2 d hd;omega) (by have:=hi.2 d hd;omega),hi.1⟩
structure cW(zs:List bI)(ps:List c9)(cs:List aW):Prop where
 so:C7 zs ps cs
 z:xd zs
 p:sN zs.length ps
 c:Dd zs.length cs
theorem jtX{L:List Int}{a:Int}(h:dv L a):∃zs ps cs a',j7S L a=some ((zs,(ps,(cs,([]:List dA)))),L,a')/\cW zs ps cs/\dv L a':=by
 obtain⟨x,a1,e1,x0,x1,d1⟩:=cM (n:=2) h (by omega) (by omega);obtain⟨zs,a2,e2,l2,k2,d2⟩:=Uk (1+x).toNat a1 [] d1 (by simp;omega) ⟨by simp,by simp,rfl⟩;obtain⟨y,a3,e3,y0,y1,d3⟩:=cM (n:=4) d2 (by omega) (by omega);simp at l2;obtain⟨ps,a4,e4,l4,k4,d4⟩:=M1 (zs:=zs) (by omega) (by omega) (1+y).toNat a3 [] d3 (by simp;omega) ⟨by simp,rfl⟩;obtain⟨q,a5,e5,q0,q1,d5⟩:=cM (n:=2) d4 (by omega) (by omega);simp at l4
 have dj:∃cs a',EZ q L a5 zs ps []=some (L,a',zs,ps,cs)/\Dd zs.length cs/\dv L a':=by
  by_cases hq:q=0
  .subst hq;rw[J0];simp only[j1t];rw[aj (by omega),j6,aY];exact⟨[],a5,rfl,⟨by simp,eG.nil,by simp,by simp⟩,d5⟩
  .have xa:q=1:=by omega
   subst xa;obtain⟨x,a6,e6,x0,x1,d6⟩:=cM (n:=(zs.length:Int)) d5 (by omega) (by omega);obtain⟨y,a7,e7,y0,y1,d7⟩:=cM (n:=4) d6 (by omega) (by omega);obtain⟨ds,a8,e8,l8,k8,d8⟩:=Um (s:=(1:Int)) (nm:=ByteArray.mk #[100,97,121,115]) (z:=x) (zs:=zs) (ps:=ps) (cs:=[]) y.toNat a7 20454 [] d7 (by simp;omega) (by omega) (by omega) ⟨by simp,by simp⟩;rw[show ((y.toNat:Nat):Int)=y by omega]at e8;rw[J0];simp only[j1t,show Int.ofNat (List.length zs)=(zs.length:Int) from rfl];rw[ag (by omega)];simp only[j5,e6,e7,e8,j3];rw[ag (by simp[aP]),ah (x:=(1:Int)-1) (by omega) (by omega)];simp only[j5,aQ];rw[J0];simp only[j1t];rw[aj (by omega),j6,aY];refine⟨_,a8,rfl,⟨λc hc=>?_,eG.one jxp,by simp,λc hc=>by simp at hc;subst hc;exact l8⟩,d8⟩;simp at hc;subst hc;exact jyD x0 x1 (by omega) k8
 obtain⟨cs,a6,e6,k6,d6⟩:=dj;rw[show (((1+x).toNat:Nat):Int)=1+x by omega]at e2;rw[show (((1+y).toNat:Nat):Int)=1+y by omega]at e4;simp only[j7S,e1,j3];rw[ah (x:=1+x) (by omega) (by omega)];simp only[e2,e3,j3];rw[ah (x:=1+y) (by omega) (by omega)];simp only[e4,e5,e6,j3];exact⟨zs,ps,cs,a6,rfl,⟨⟨by omega,by omega,k2.ok,by omega,by omega,k6.len⟩,k2,k4,k6⟩,d6⟩
end Go.Proofs.Pw
