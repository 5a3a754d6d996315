/- mB 8: ga that are right. -/
import Derived.Test.YtgfoijaggkhgnaaGreatLXPA
import Derived.Test.YtgfoijaggkhgnaaGreatLXPB
import Derived.Test.YtgfoijaggkhgnaaGreatLXFns
import Derived.Test.YtgfoijaggkhgnaaGreatLXLD
import Derived.KernelRfl
open _root_ renaming Int->j,List->A,Nat->G,ByteArray->H
open Int renaming ofNat->B,tmod->J,tdiv->S
open ByteArray renaming mk->D,empty->E,toList->I
open Option renaming some->F
open List renaming length->M,getD->R
open Bool renaming true->N,false->O
open Go Go.Lft
namespace Go.Proofs.Pw
abbrev dV:=j×(j×(j×(j×j)))
abbrev po:=A bF×(A cR×(A aV×A cW))
theorem Dd{n lo hi:j}(h1:lo<=n)(h2:n<=hi):j88 n lo hi=F true:=by
 simp only[j88];rw[ah (show n>=lo from h1),ah h2];rfl
theorem Bo{i n:j}(h1:0<=i)(h2:i<n):j1N i n=F true:=by
 simp only[j1N];rw[ah (show i>=0 from h1),ah h2];rfl
theorem jI8{i n:j}(h1:i<0):j1N i n=F false:=by
 simp only[j1N];rw[aj (show¬i>=0 by omega)];rfl
structure x8(z:bF):Prop where
 ck:jfp z=F 0
 o60:J z.2.1 60=0
 r60:∀r∈z.2.2,J r.2.2.2.2.2.2 60=0
 len:z.2.2.length<=1000
theorem B_{rs:A aL}(h:∀r∈rs,J r.2.2.2.2.2.2 60=0)(hl:rs.length<=1000):∀(n i:G),i+n=rs.length->JZ rs (rs.length:j) (i:j)=F (.inr ())
 |0,i,hi=>by
  rw[YP];simp only[j0h];rw[aj aa,j7,aS]
 |n+1,i,hi=>by
  have an:i<rs.length:=aa;have aR:rs.getD i ((0:j),((0:j),((0:j),((0:j),((0:j),((0:j),(0:j)))))))=rs[i]:=by simp[an]
  have:=h rs[i] (jg an);rw[YP];simp only[j0h,j8p];rw[ah aa,bD,al (x:=(i:j)+1)];simp only[j6,j8,aR,j4,this,jh,j7,aH];exact B_ h hl n (i+1) aa
theorem jI9{z:bF}(h:x8 z):j5N z=F 0:=by
 have lp:=B_ h.r60 h.len z.2.2.length 0 aa;rw[show ((0:G):j)=0 from rfl]at lp;simp only[j5N,show jfp (z.1,(z.2.1,z.2.2))=_ from h.ck,j4,h.o60,jh,j7,j1c,j1t,show B z.2.2.length=(z.2.2.length:j) from rfl,lp,oc];rfl
theorem C_{zs:A bF}(hn:fJ (zs.map (·.1)))(hc:∀z∈zs,x8 z)(hl:zs.length<=100):∀(n i:G),i+n=zs.length->FP zs (zs.length:j) (i:j) (qY ((zs.take i).map (·.1)))=F (.inr ())
 |0,i,hi=>by
  rw[YQ];simp only[j1i];rw[aj aa,j7,aS]
 |n+1,i,hi=>by
  have an:i<zs.length:=aa;have aR:zs.getD i (E,((0:j),([]:A aL)))=zs[i]:=by simp[an]
  have h1:=Hm (·.1) hn an;have h2:=jI9 (hc zs[i] (jg an));rw[YQ];simp only[j1i,jbY];rw[ah aa,bD,al (x:=(i:j)+1)];simp only[j6,j8,aR,j4,h1,jh,j7];rw[show j5N (zs[i].1,(zs[i].2.1,zs[i].2.2))=_ from h2];simp only[j4,jh,j7,aH];exact C_ hn hc hl n (i+1) aa
theorem jIa{zs:A bF}(hn:fJ (zs.map (·.1)))(hc:∀z∈zs,x8 z)(hl:zs.length<=100):j4F zs=F 0:=by
 have lp:=C_ hn hc hl zs.length 0 aa;simp only[j4F,show B zs.length=(zs.length:j) from rfl];rw[show FP zs (zs.length:j) 0 []=_ from lp];rfl
structure Hz(nz:G)(p:cR):Prop where
 nb:(I p.1==I (D #[110,111,98,111,100,121]))=O
 z0:0<=p.2.1
 z1:p.2.1<nz
 w:eN 0 p.2.2.1
 wl:p.2.2.1.length<=14
 m:j4T p.2.2.2.1=F N
 r:j4T p.2.2.2.2.1=F N
theorem jIb{c:po}{p:cR}(h:Hz c.1.length p):j33 c p=F 0:=by
 have my:=h.z0;have pY:=h.z1;simp only[j33,show B c.1.length=(c.1.length:j) from rfl,Bo my pY,j4,jl,j7,A_ h.w h.wl,jh,h.m,h.r]
theorem D_{zs:A bF}{ps:A cR}{cs:A aV}{ss:A cW}(hn:fJ (ps.map (·.1)))(hc:∀p∈ps,Hz zs.length p)(hl:ps.length<=100):∀(n i:G),i+n=ps.length->FV ps (ps.length:j) (i:j) zs ps cs ss (qY ((ps.take i).map (·.1)))=F (.inr (zs,ps,cs,ss))
 |0,i,hi=>by
  rw[YY];simp only[j3k];rw[aj aa,j7,aS]
 |n+1,i,hi=>by
  have an:i<ps.length:=aa;have aR:ps.getD i (E,((0:j),(([]:A (j×j)),((0:j),((0:j),O)))))=ps[i]:=by simp[an]
  have h1:=Hm (·.1) hn an;have hp:=hc ps[i] (jg an);have h2:=jIb (c:=(zs,(ps,(cs,ss)))) hp;rw[YY];simp only[j3k];rw[ah aa,bD,al (x:=(i:j)+1)];simp only[j6,j8,aR,j4,h1,hp.nb,kq,j7];rw[show j33 (zs,(ps,(cs,ss))) (ps[i].1,(ps[i].2.1,(ps[i].2.2.1,(ps[i].2.2.2.1,(ps[i].2.2.2.2.1,ps[i].2.2.2.2.2)))))=_ from h2];simp only[j4,jh,j7,aH];exact D_ hn hc hl n (i+1) aa
structure ra(nz:G)(c:aV):Prop where
 z0:0<=c.2.1
 z1:c.2.1<nz
 len:c.2.2.length<=64
 day:∀d∈c.2.2,j0W d=F N
 asc:c.2.2.Pairwise (· < ·)
theorem E_{ds:A j}(h:∀d∈ds,j0W d=F N)(hl:ds.length<=64):∀(n i:G),i+n=ds.length->J1 ds (ds.length:j) (i:j)=F (.inr ())
 |0,i,hi=>by
  rw[YR];simp only[j18];rw[aj aa,j7,aS]
 |n+1,i,hi=>by
  have an:i<ds.length:=aa;have aR:ds.getD i (0:j)=ds[i]:=by simp[an]
  have:=h ds[i] (jg an);rw[YR];simp only[j18,j5O];rw[ah aa,bD,al (x:=(i:j)+1)];simp only[j6,j8,aR,this,j4,jl,j7,aH];exact E_ h hl n (i+1) aa
theorem F_{nm:H}{z:j}{ds:A j}(h:ds.Pairwise (· < ·))(hl:ds.length<=64):∀(n i:G),i+n=ds.length->J2 (ds.length:j) (i:j) nm z ds=F (.inr ())
 |0,i,hi=>by
  rw[YS];simp only[j1u];rw[aj aa,j7,aS]
 |n+1,i,hi=>by
  have an:i<ds.length:=aa;have aR:ds.getD i (0:j)=ds[i]:=by simp[an]
  have ih:=F_ (nm:=nm) (z:=z) h hl n (i+1) aa;rw[YS];simp only[j1u];rw[ah aa,bY (i:=(i:j)) aa aa,al (x:=(i:j)+1)];simp only[j6,j8,aR];by_cases h0:i=0
  .subst h0;rw[aj aa,j7,aH];exact ih
  .have hj:i-1<ds.length:=aa;have hgj:ds.getD (i-1) (0:j)=ds[i-1]:=by simp[hj]
   have hp:ds[i-1]<ds[i]:=q9.1 h (i-1) i hj an aa;rw[ah (show (i:j)>0 by omega),al (x:=(i:j)-1),bY (i:=(i:j)-1) aa aa,show ((i:j)-1).toNat=i-1 by omega,hgj,aj (show¬ds[i]<=ds[i-1] by omega)];simp only[j6,j7,aH];exact ih
theorem jIc{c:po}{x:aV}(h:ra c.1.length x):j3h c x=F 0:=by
 have my:=h.z0;have pY:=h.z1;have hl:=h.len;have l1:=E_ h.day hl x.2.2.length 0 aa;have l2:=F_ (nm:=x.1) (z:=x.2.1) h.asc hl x.2.2.length 0 aa;rw[show ((0:G):j)=0 from rfl]at l1 l2;simp only[j3h,show B c.1.length=(c.1.length:j) from rfl,show B x.2.2.length=(x.2.2.length:j) from rfl,Bo my pY,j4,jl,j7,j4r,j5P,l1,l2,oc];rw[aj aa];rfl
theorem G_{zs:A bF}{ps:A cR}{cs:A aV}{ss:A cW}(hn:fJ (cs.map (·.1)))(hc:∀x∈cs,ra zs.length x)(hl:cs.length<=100):∀(n i:G),i+n=cs.length->FQ zs ps cs ss cs (cs.length:j) (i:j) (qY ((cs.take i).map (·.1)))=F (.inr ())
 |0,i,hi=>by
  rw[YT];simp only[j0R];rw[aj aa,j7,aS]
 |n+1,i,hi=>by
  have an:i<cs.length:=aa;have aR:cs.getD i (E,((0:j),([]:A j)))=cs[i]:=by simp[an]
  have h1:=Hm (·.1) hn an;have h2:=jIc (c:=(zs,(ps,(cs,ss)))) (hc cs[i] (jg an));rw[YT];simp only[j0R,jc0,jc1];rw[ah aa,bD,al (x:=(i:j)+1)];simp only[j6,j8,aR,j4,h1,jh,j7];rw[show j3h (zs,(ps,(cs,ss))) (cs[i].1,(cs[i].2.1,cs[i].2.2))=_ from h2];simp only[j4,jh,j7,aH];exact G_ hn hc hl n (i+1) aa
theorem jId{zs:A bF}{ps:A cR}{cs:A aV}{ss:A cW}(hn:fJ (cs.map (·.1)))(hc:∀x∈cs,ra zs.length x)(hl:cs.length<=100):j2S cs zs ps cs ss=F 0:=by
 have lp:=G_ (ps:=ps) (ss:=ss) hn hc hl cs.length 0 aa;simp only[j2S,show B cs.length=(cs.length:j) from rfl];rw[show FQ zs ps cs ss cs (cs.length:j) 0 []=_ from lp];rfl
structure fh(nz np nc:G)(l:bZ):Prop where
 z0:0<=l.2.1
 z1:l.2.1<nz
 d0:1<=l.2.2.1.1
 day:j0W l.2.2.1.1=F N
 c0:0<=l.2.2.1.2
 c1:l.2.2.1.2<=86399
 u0:0<=l.2.2.2.1
 u1:l.2.2.2.1<=2
 e0:1<=l.2.2.2.2.1
 e1:l.2.2.2.2.1<=400
 m0:l.2.2.2.2.2.1.length≠0
 m1:l.2.2.2.2.2.1.length<=12
 mem:∀m∈l.2.2.2.2.2.1,0<=m/\m<(np:j)
 w:eN 0 l.2.2.2.2.2.2.1
 wl:l.2.2.2.2.2.2.1.length<=14
 mode0:0<=l.2.2.2.2.2.2.2.2
 mode1:l.2.2.2.2.2.2.2.2<=2
 cal:l.2.2.2.2.2.2.2.2≠0->0<=l.2.2.2.2.2.2.2.1/\l.2.2.2.2.2.2.2.1<(nc:j)
 cal0:l.2.2.2.2.2.2.2.2=0->l.2.2.2.2.2.2.2.1=0
 w3:l.2.2.2.2.2.2.1.length<=3
 h6:l.2.2.2.1=0->6<=l.2.2.2.2.1
theorem H_{zs:A bF}{ps:A cR}{cs:A aV}{ss:A cW}{ms:A j}(h:∀m∈ms,0<=m/\m<(ps.length:j))(hl:ms.length<=12):∀(n i:G),i+n=ms.length->J3 ms zs ps cs ss (ms.length:j) (i:j)=F (.inr ())
 |0,i,hi=>by
  rw[YU];simp only[j0K];rw[aj aa,j7,aS]
 |n+1,i,hi=>by
  have an:i<ms.length:=aa;have aR:ms.getD i (0:j)=ms[i]:=by simp[an]
  have hm:=h ms[i] (jg an);rw[YU];simp only[j0K,j7z,show B ps.length=(ps.length:j) from rfl];rw[ah aa,bD,al (x:=(i:j)+1)];simp only[j6,j8,aR,Bo hm.1 hm.2,j4,jl,j7,aH];exact H_ h hl n (i+1) aa
theorem jIe{c:po}{l:bZ}(h:fh c.1.length c.2.1.length c.2.2.1.length l):j4V c l=F 0:=by
 have my:=h.z0;have pY:=h.z1;have HA:=h.d0;have mS:=h.m0;have fH:=h.m1;have l1:=H_ (zs:=c.1) (cs:=c.2.2.1) (ss:=c.2.2.2) h.mem fH l.2.2.2.2.2.1.length 0 aa;rw[show ((0:G):j)=0 from rfl]at l1
 simp only[j4V,show B c.1.length=(c.1.length:j) from rfl,show B l.2.2.2.2.2.1.length=(l.2.2.2.2.2.1.length:j) from rfl,show B c.2.2.1.length=(c.2.2.1.length:j) from rfl,Bo my pY,j4,jl,j7,h.day,Dd h.c0 h.c1,Dd h.u0 h.u1,Dd h.e0 h.e1,Dd h.mode0 h.mode1,
  j3i,j4s,l1,oc,A_ h.w h.wl,jh]
 rw[aj (show¬l.2.2.1.1<1 by omega),cj (show¬(l.2.2.2.2.2.1.length:j)=0 by omega),aj (show¬(l.2.2.2.2.2.1.length:j)>12 by omega),aj (show¬(-1:j)>=0 by omega)];simp only[j7];by_cases HB:l.2.2.2.2.2.2.2.2=0
 .rw[HB,h.cal0 HB];rfl
 .have hc:=h.cal HB;rw[show (l.2.2.2.2.2.2.2.2 != 0)=N by simp[HB],cj HB,j6,Bo hc.1 hc.2];rfl
theorem I_{zs:A bF}{ps:A cR}{cs:A aV}{ss:A cW}{ls:A bZ}(hn:fJ (ls.map (·.1)))(hc:∀x∈ls,fh zs.length ps.length cs.length x)(hl:ls.length<=100):∀(n i:G),i+n=ls.length->FT zs ps cs ss ls (ls.length:j) (i:j) (qY ((ls.take i).map (·.1)))=F (.inr ())
 |0,i,hi=>by
  rw[YV];simp only[j1d];rw[aj aa,j7,aS]
 |n+1,i,hi=>by
  have an:i<ls.length:=aa;have aR:ls.getD i (E,((0:j),(((0:j),(0:j)),((0:j),((0:j),(([]:(A j)),(([]:(A (j×j))),((0:j),(0:j)))))))))=ls[i]:=by simp[an]
  have h1:=Hm (·.1) hn an;have h2:=jIe (c:=(zs,(ps,(cs,ss)))) (hc ls[i] (jg an));rw[YV];simp only[j1d,j5Q,j5R];rw[ah aa,bD,al (x:=(i:j)+1)];simp only[j6,j8,aR,j4,h1,jh,j7];rw[show j4V (zs,(ps,(cs,ss))) (ls[i].1,ls[i].2.1,(ls[i].2.2.1.1,ls[i].2.2.1.2),ls[i].2.2.2.1,ls[i].2.2.2.2.1,ls[i].2.2.2.2.2.1,ls[i].2.2.2.2.2.2.1,ls[i].2.2.2.2.2.2.2.1,ls[i].2.2.2.2.2.2.2.2)=_ from h2];simp only[j4,jh,j7,aH];exact I_ hn hc hl n (i+1) aa
theorem jIf{zs:A bF}{ps:A cR}{cs:A aV}{ss:A cW}{ls:A bZ}(hn:fJ (ls.map (·.1)))(hc:∀x∈ls,fh zs.length ps.length cs.length x)(hl:ls.length<=100):j4a ls zs ps cs ss=F 0:=by
 have lp:=I_ (ss:=ss) hn hc hl ls.length 0 aa;simp only[j4a,show B ls.length=(ls.length:j) from rfl];rw[show FT zs ps cs ss ls (ls.length:j) 0 []=_ from lp];rfl
structure pq(np:G)(x:dV):Prop where
 k0:0<=x.1
 k1:x.1<=2
 a:0<=x.2.1/\x.2.1<(np:j)\/x.1=1/\x.2.1 = -1
 b:x.1=2->0<=x.2.2.1/\x.2.2.1<(np:j)/\x.2.1≠x.2.2.1
 b0:x.1≠2->x.2.2.1=0
 f0:0<=x.2.2.2.1
 ft:x.2.2.2.1<x.2.2.2.2
 t1:x.2.2.2.2<=1000000000000
 day:j0W (S x.2.2.2.2 86400)=F N
theorem jIg{c:po}{x:dV}(h:pq c.2.1.length x):j5S c x=F 0:=by
 have nr:=h.f0;have jV:=h.ft;have Tc:=h.t1;have rb:=h.day;have Lm:w64 (S x.2.2.2.2 86400)=S x.2.2.2.2 86400:=by rw[pj aa];exact al
 simp only[j5S,show B c.2.1.length=(c.2.1.length:j) from rfl,Dd h.k0 h.k1,j4,jl,j7,Lm,rb];rw[aj (show¬x.2.2.2.1<0 by omega),aj (show¬x.2.2.2.2<0 by omega),aj (show¬x.2.2.2.1>=x.2.2.2.2 by omega)];simp only[j7]
 have hA:∃b,j1N x.2.1 (c.2.1.length:j)=F b/\cond (!b) (!(cond (x.1==(1:j)) (x.2.1==(-1:j)) O)) O=false:=by
  rcases h.a with⟨a1,a2⟩|⟨a1,a2⟩
  .exact⟨N,Bo a1 a2,rfl⟩
  .exact⟨O,jI8 aa,by rw[a1,a2];rfl⟩
 obtain⟨b,e1,e2⟩:=hA;rw[e1];simp only[j4,e2,j7];by_cases h2:x.1=2
 .obtain⟨b1,b2,b3⟩:=h.b h2;rw[dC h2,j6,Bo b1 b2,show (x.1 != 2)=O by rw[h2];rfl,cj b3];rfl
 .rw[cj h2,j7,show (x.1 != 2)=N by simp[h2],h.b0 h2];rfl
theorem J_{zs:A bF}{ps:A cR}{cs:A aV}{ss:A cW}{es:A dV}(hc:∀x∈es,pq ps.length x)(hl:es.length<=48):∀(n i:G),i+n=es.length->J4 es (es.length:j) (i:j) zs ps cs ss=F (.inr ())
 |0,i,hi=>by
  rw[YW];simp only[j1w];rw[aj aa,j7,aS]
 |n+1,i,hi=>by
  have an:i<es.length:=aa;have aR:es.getD i ((0:j),((0:j),((0:j),((0:j),(0:j)))))=es[i]:=by simp[an]
  have h2:=jIg (c:=(zs,(ps,(cs,ss)))) (hc es[i] (jg an));rw[YW];simp only[j1w];rw[ah aa,bD,al (x:=(i:j)+1)];simp only[j6,j8,aR];rw[show j5S (zs,(ps,(cs,ss))) (es[i].1,es[i].2.1,es[i].2.2.1,es[i].2.2.2.1,es[i].2.2.2.2)=_ from h2];simp only[j4,jh,j7,aH];exact J_ hc hl n (i+1) aa
structure uK(nz np nc:G)(s:cW):Prop where
 nm:fJ (s.2.1.map (·.1))
 ly:∀x∈s.2.1,fh nz np nc x
 ll:s.2.1.length<=6
 ed:∀x∈s.2.2,pq np x
 el:s.2.2.length<=48
theorem jIh{c:po}{s:cW}(h:uK c.1.length c.2.1.length c.2.2.1.length s):j3j c s=F 0:=by
 have fw:=h.ll;have fE:=h.el;have lp:=J_ (zs:=c.1) (ps:=c.2.1) (cs:=c.2.2.1) (ss:=c.2.2.2) h.ed fE s.2.2.length 0 aa;rw[show ((0:G):j)=0 from rfl]at lp;simp only[j3j,show B s.2.1.length=(s.2.1.length:j) from rfl,show B s.2.2.length=(s.2.2.length:j) from rfl];rw[aj (show¬(s.2.1.length:j)>6 by omega),aj (show¬(s.2.2.length:j)>48 by omega)];simp only[j7,jIf (zs:=c.1) (ps:=c.2.1) (cs:=c.2.2.1) (ss:=c.2.2.2) h.nm h.ly aa,j4,jh,lp,oc]
theorem K_{zs:A bF}{ps:A cR}{cs:A aV}{ss:A cW}(hn:fJ (ss.map (·.1)))(hc:∀x∈ss,uK zs.length ps.length cs.length x)(hl:ss.length<=100):∀(n i:G),i+n=ss.length->FU zs ps cs ss ss (ss.length:j) (i:j) (qY ((ss.take i).map (·.1)))=F (.inr ())
 |0,i,hi=>by
  rw[YX];simp only[j0S];rw[aj aa,j7,aS]
 |n+1,i,hi=>by
  have an:i<ss.length:=aa;have aR:ss.getD i (E,(([]:A bZ),([]:A dV)))=ss[i]:=by simp[an]
  have h1:=Hm (·.1) hn an;have h2:=jIh (c:=(zs,(ps,(cs,ss)))) (hc ss[i] (jg an));rw[YX];simp only[j0S,jc2,jc3];rw[ah aa,bD,al (x:=(i:j)+1)];simp only[j6,j8,aR,j4,h1,jh,j7];rw[show j3j (zs,(ps,(cs,ss))) (ss[i].1,(ss[i].2.1,ss[i].2.2))=_ from h2];simp only[j4,jh,j7,aH];exact K_ hn hc hl n (i+1) aa
structure oe(c:po):Prop where
 zn:fJ (c.1.map (·.1))
 zc:∀z∈c.1,x8 z
 zl:c.1.length<=16
 pn:fJ (c.2.1.map (·.1))
 pc:∀p∈c.2.1,Hz c.1.length p
 pl:c.2.1.length<=32
 cn:fJ (c.2.2.1.map (·.1))
 cc:∀x∈c.2.2.1,ra c.1.length x
 cl:c.2.2.1.length<=8
 sn:fJ (c.2.2.2.map (·.1))
 sc:∀x∈c.2.2.2,uK c.1.length c.2.1.length c.2.2.1.length x
 sl:c.2.2.2.length<=12
theorem jvT{c:po}(h:oe c):j9S c=F 0:=by
 have lE:=h.zl;have lP:=h.pl;have fk:=h.cl;have eP:=h.sl;have lp:=D_ (zs:=c.1) (cs:=c.2.2.1) (ss:=c.2.2.2) h.pn h.pc aa c.2.1.length 0 aa;have ls:=K_ (zs:=c.1) (ps:=c.2.1) (cs:=c.2.2.1) h.sn h.sc aa c.2.2.2.length 0 aa;simp only[j9S,show B c.1.length=(c.1.length:j) from rfl,show B c.2.1.length=(c.2.1.length:j) from rfl,show B c.2.2.1.length=(c.2.2.1.length:j) from rfl,show B c.2.2.2.length=(c.2.2.2.length:j) from rfl];rw[aj (show¬(c.1.length:j)>16 by omega),aj (show¬(c.2.1.length:j)>32 by omega),aj (show¬(c.2.2.1.length:j)>8 by omega),aj (show¬(c.2.2.2.length:j)>12 by omega)];simp only[j7,jIa h.zn h.zc aa,j4,jh];rw[show FV c.2.1 (c.2.1.length:j) 0 c.1 c.2.1 c.2.2.1 c.2.2.2 []=_ from lp];simp only[j4,oc,jId (zs:=c.1) (ps:=c.2.1) (cs:=c.2.2.1) (ss:=c.2.2.2) h.cn h.cc aa,jh,j7,j4K,show B c.2.2.2.length=(c.2.2.2.length:j) from rfl];rw[show FU c.1 c.2.1 c.2.2.1 c.2.2.2 c.2.2.2 (c.2.2.2.length:j) 0 []=_ from ls];rfl
def gP:A ByteArray:=[(D #[97,100,97]),(D #[98,111,98]),(D #[99,108,101,111]),(D #[100,97,110]),(D #[101,118,101]),(D #[102,97,121]),(D #[103,117,115]),(D #[104,97,108])]
def tM:A ByteArray:=[(D #[104,101,114,101]),(D #[116,104,101,114,101])]
theorem L_:jiD=F gP:=rfl
theorem M_:fJ gP:=by
 refine⟨by decide,λk hk=>?_⟩;simp only[gP,je,vk,or_false]at hk;rcases hk with rfl|rfl|rfl|rfl|rfl|rfl|rfl|rfl<;>kernel_rfl
theorem jFt:fJ tM:=by
 refine⟨by decide,λk hk=>?_⟩;simp only[tM,je,vk,or_false]at hk;rcases hk with rfl|rfl<;>kernel_rfl
theorem fJ.take{l:A H}(h:fJ l)(n:G):fJ (l.take n):=⟨h.1.sublist (List.take_sublist n l),λk hk=>h.2 k (qb hk)⟩
theorem fJ.one{s:H}(h:j9w s=F N):fJ [s]:=⟨ae,λk hk=>by simp at hk;subst hk;exact h⟩
theorem fJ.nil:fJ []:=⟨vc,ae⟩
theorem jFu:j9w (D #[100,97,121,115])=F true:=by kernel_rfl
theorem jFv:∀k∈gP,(I k==I (D #[110,111,98,111,100,121]))=false:=by
 intro k hk;simp only[gP,je,vk,or_false]at hk;rcases hk with rfl|rfl|rfl|rfl|rfl|rfl|rfl|rfl<;>kernel_rfl
theorem jCX:((List.range 61).all λi=>j0W (20440+(i:j))==F N)=true:=by kernel_rfl
theorem Td{d:j}(h1:20440<=d)(h2:d<=20500):j0W d=F true:=by
 have h:=jz.1 jCX (d-20440).toNat (List.mem_range.2 aa);rw[show (20440:j)+(((d-20440).toNat:G):j)=d by omega]at h;exact eq_of_beq h
theorem t60{x:j}(h:x%60=0):J x 60=0:=by
 have:=Hl x 60;rw[h]at this;simpa using this
theorem HC{P:aL->Prop}{r s:aL}(h1:P r)(h2:P s):∀x∈[r,s],P x:=by
 intro x hx;simp at hx;rcases hx with rfl|rfl
 .exact h1
 .exact h2
theorem jFw{L:A j}{a:j}(h:c9 L a)(nm:H):∃o rs a',j4h L a nm=F ((nm,(o,rs)),L,a')/\J o 60=0/\∀r∈rs,J r.2.2.2.2.2.2 60=0:=by
 obtain⟨p,a1,e1,m1,d1⟩:=mR h (xs:=[(0:j),(4:j),(-20:j),(22:j),(48:j),(-47:j)]) ae ae;obtain⟨x2,a2,e2,x20,x21,d2⟩:=dh (n:=2) d1 aa aa;obtain⟨x3,a3,e3,x30,x31,d3⟩:=dh (n:=3) d2 aa aa;obtain⟨y,a4,e4,y0,y1,d4⟩:=dh (n:=2) d3 aa aa;obtain⟨q,a5,e5,q0,q1,d5⟩:=dh (n:=4) d4 aa aa;have hp : -47<=p/\p<=48:=by simp at m1;omega
 have hmul:0<=x2*x3/\x2*x3<=2:=by obtain rfl|rfl:x2=0\/x2=1:=aa;all_goals omega
 have nH : -43200<=900*(p+x2*x3):=aa;have kG:900*(p+x2*x3)<=45000:=aa;have oP:(900*(p+x2*x3))%60=0:=aa;simp only[j4h,e1,e2,e3,e4,e5,j4];rw[al (x:=x2*x3),al (x:=p+x2*x3),al (x:=900*(p+x2*x3)),al (x:=2025+y)];generalize 900*(p+x2*x3)=o at *;generalize 2025+y=last at *;by_cases Bn:q=1
 .rw[dC Bn,j6,al (x:=o+3600)];exact⟨_,_,_,rfl,t60 oP,HC (P:=λr=>J r.2.2.2.2.2.2 60=0) (t60 (show (o+3600)%60=0 by omega)) (t60 oP)⟩
 .rw[cj Bn,j7];by_cases Hu:q=2
  .rw[dC Hu,j6];obtain⟨b1,c1,f1,b10,b11,g1⟩:=dh (n:=4) d5 aa aa;obtain⟨b2,c2,f2,Db,SZ,g2⟩:=dh (n:=7) g1 aa aa;obtain⟨b3,c3,f3,S7,S8,g3⟩:=dh (n:=24) g2 aa aa;obtain⟨b4,c4,f4,b40,b41,g4⟩:=dh (n:=8) g3 aa aa;obtain⟨b5,c5,f5,b50,b51,g5⟩:=dh (n:=2) g4 aa aa;obtain⟨b6,c6,f6,m6,g6⟩:=mR g5 (xs:=[(2:j),(3:j),(5:j)]) ae ae;obtain⟨b7,c7,f7,w_,b71,g7⟩:=dh (n:=7) g6 aa aa;obtain⟨b8,c8,f8,b80,b81,g8⟩:=dh (n:=24) g7 aa aa;simp only[f1,f2,f3,f4,f5,f6,f7,f8,j4];rw[al (x:=1+b4),al (x:=1800*(1+b4)),al (x:=o+1800*(1+b4))];exact⟨_,_,_,rfl,t60 oP,HC (P:=λr=>J r.2.2.2.2.2.2 60=0) (t60 (show (o+1800*(1+b4))%60=0 by omega)) (t60 oP)⟩
  .rw[cj Hu,j7];by_cases Hv:q=3
   .rw[dC Hv,j6];obtain⟨b1,c1,f1,m1,g1⟩:=mR d5 (xs:=[(3600:j),(-3600:j),(82800:j),(-82800:j),(43200:j)]) ae ae;obtain⟨b2,c2,f2,Db,SZ,g2⟩:=dh (n:=7) g1 aa aa;obtain⟨b3,c3,f3,S7,S8,g3⟩:=dh (n:=48) g2 aa aa;have fc : -82800<=b1/\b1<=82800/\b1%60=0:=by simp at m1;omega
    simp only[f1,f2,f3,j4];rw[al (x:=o+b1)];cases cond (decide (o+b1>64800)) N (decide (o+b1 < -64800)) with
    |true=>exact⟨_,_,_,rfl,t60 oP,λr hr=>by simp at hr;subst hr;rfl⟩
    |false=>exact⟨_,_,_,rfl,t60 oP,λr hr=>by simp at hr;subst hr;exact t60 (by dsimp only;omega)⟩
   .rw[cj Hv,j7];exact⟨_,_,_,rfl,t60 oP,ae⟩
theorem jCY{L:A j}{a:j}(h:c9 L a)(nm:H):∃o rs a',j4h L a nm=F ((nm,(o,rs)),L,a')/\MZ o rs/\x8 (nm,(o,rs))/\c9 L a':=by
 obtain⟨o,rs,a1,e1,m1,d1⟩:=jFs h nm;obtain⟨o',rs',a2,e2,m2,m3⟩:=jFw h nm;have:=e1.symm.trans e2;simp only[j5,j9,qr]at this;obtain⟨⟨rfl,rfl⟩,rfl⟩:=this;have ht:=(m1.tab nm).1;have hl:=m1.len;exact⟨o,rs,a1,e1,m1,⟨by simp only[jfp,show j3O (nm,(o,rs))=_ from ht,j4],m2,m3,by dsimp only;omega⟩,d1⟩
structure Bp(zs:A bF):Prop where
 ok:∀z∈zs,gx z
 ck:∀z∈zs,x8 z
 nm:zs.map (·.1)=tM.take zs.length
theorem Ln{l:A H}{n:G}(hn:n<l.length):l.take n++[l.getD n E]=l.take (n+1):=by
 rw[q8,jp hn];simp[hn]
theorem N_{L:A j}:∀(n:G)(a:j)(zs:A bF),c9 L a->zs.length+n<=2->Bp zs->
  ∃HD a',JL (n:j) L a zs=F (L,a',HD)/\HD.length=zs.length+n/\Bp HD/\c9 L a'
 |0,a,zs,hd,_,hz=>by
  rw[Yx];simp only[j2v];rw[aj aa,j7,aS];exact⟨zs,a,rfl,rfl,hz,hd⟩
 |n+1,a,zs,hd,hl,hz=>by
  obtain⟨o,rs,a1,e1,m1,k1,d1⟩:=jCY hd (R tM zs.length E)
  obtain⟨HD,a',e2,h2,h3,h4⟩:=N_ n a1 (zs++[(R tM zs.length E,(o,rs))]) d1 ax ⟨λz xp=>by
   rcases jn.1 xp with h|h
   .exact hz.ok z h
   .simp at h;subst h;exact m1,λz xp=>by
   rcases jn.1 xp with h|h
   .exact hz.ck z h
   .simp at h;subst h;exact k1,by
   rw[qc,hz.nm,jf];exact Ln (by show zs.length<2;omega)⟩
  rw[Yx];simp only[j2v,show B (M zs)=(zs.length:j) from rfl];rw[ah aa,bY (show (0:j)<=(zs.length:j) by omega) ax];simp only[j6,j8];rw[show j4h L a (R [(D #[104,101,114,101]),(D #[116,104,101,114,101])] zs.length E)=_ from e1];simp only[j4];rw[ah (by simp[aM];omega),al (x:=((n+1:G):j)-1)];simp only[j6,aH];rw[show ((n+1:G):j)-1=(n:j) by omega];exact⟨HD,a',e2,by rw[h2];simp;omega,h3,h4⟩
structure wG(nz:G)(ps:A cR):Prop where
 ck:∀p∈ps,Hz nz p
 nm:ps.map (·.1)=gP.take ps.length
theorem O_{n:j}(h0:0<=n)(h1:n<=168):j4T (w64 (3600*n))=F true:=by
 rw[al];simp only[j4T,Dd (show 0<=3600*n by omega) (show 3600*n<=604800 by omega),j4,j6];rw[Hl,dC (show (3600*n)%3600=0 by omega)]
theorem Te{L:A j}{zs:A bF}(my:1<=zs.length)(pY:zs.length<=100):∀(n:G)(a:j)(ps:A cR),c9 L a->ps.length+n<=4->wG zs.length ps->
  ∃Bq a',JM (n:j) L a zs ps=F (L,a',zs,Bq)/\Bq.length=ps.length+n/\wG zs.length Bq/\c9 L a'
 |0,a,ps,hd,_,hp=>by
  rw[Yy];simp only[j2w];rw[aj aa,j7,aS];exact⟨ps,a,rfl,rfl,hp,hd⟩
 |n+1,a,ps,hd,hl,hp=>by
  obtain⟨x,a1,e1,x0,x1,d1⟩:=dh (n:=(zs.length:j)) hd aa aa;obtain⟨b,a2,e2,d2⟩:=Dc (n:=3) d1 aa aa;obtain⟨c,a3,e3,d3⟩:=Dc (n:=2) d2 aa aa;have cG:ps.length<gP.length:=by show ps.length<8;omega
  have ez:gP.getD ps.length E∈gP:=by rw[List.getD_eq_getElem?_getD,jp cG];exact jg cG
  have ext:∀(w:WL)(p q:j),eN 0 w->w.length<=14->p∈[(0:j),(40:j),(100:j),(12:j)]->q∈[(0:j),(11:j),(24:j),(1:j)]->
    wG zs.length (ps++[(gP.getD ps.length E,(x,(w,(w64 (3600*p),(w64 (3600*q),b)))))]):=by
   intro w p q hw iG vY HE;have zB:0<=p/\p<=168:=by simp at vY;omega
   have Ce:0<=q/\q<=168:=by simp at HE;omega
   refine⟨λr hr=>?_,?_⟩
   .rcases jn.1 hr with h|h
    .exact hp.ck r h
    .simp at h;subst h;exact⟨jFv _ ez,x0,x1,hw,iG,O_ zB.1 zB.2,O_ Ce.1 Ce.2⟩
   .rw[qc,hp.nm,jf];exact Ln cG
  rw[Yy];simp only[j2w,L_,j4,show B (M ps)=(ps.length:j) from rfl,show B (M zs)=(zs.length:j) from rfl];rw[ah aa,bY (show (0:j)<=(ps.length:j) by omega) aa];simp only[j6,e1,e2,e3,j4];rw[al (x:=((n+1:G):j)-1),show ((n+1:G):j)-1=(n:j) by omega];cases c with
  |true=>obtain⟨w,a4,e4,hw,iG,d4⟩:=Ll d3;obtain⟨p,a5,e5,vY,d5⟩:=mR d4 (xs:=[(0:j),(40:j),(100:j),(12:j)]) ae ae;obtain⟨q,a6,e6,HE,d6⟩:=mR d5 (xs:=[(0:j),(11:j),(24:j),(1:j)]) ae ae;simp only[j6,e4,e5,e6,j4];rw[ah (by simp[aM];omega)];simp only[j6,aH];obtain⟨Bq,a',e,h1,h2,h3⟩:=Te my pY n a6 _ d6 ax (ext w p q hw aa vY HE);exact⟨Bq,a',e,by rw[h1];simp;omega,h2,h3⟩
  |false=>obtain⟨p,a5,e5,vY,d5⟩:=mR d3 (xs:=[(0:j),(40:j),(100:j),(12:j)]) ae ae;obtain⟨q,a6,e6,HE,d6⟩:=mR d5 (xs:=[(0:j),(11:j),(24:j),(1:j)]) ae ae;simp only[j7,e5,e6,j4];rw[ah (by simp[aM];omega)];simp only[j6,aH];obtain⟨Bq,a',e,h1,h2,h3⟩:=Te my pY n a6 _ d6 ax (ext [] p q (show (0:j)<=604800 by omega) ae vY HE);exact⟨Bq,a',e,by rw[h1];simp;omega,h2,h3⟩
def Br(q:j)(ds:A j):Prop:=ds.Pairwise (· < ·)/\∀d∈ds,20454<d/\d<=q
theorem P_{L:A j}{s:j}{nm:H}{z:j}{zs:A bF}{ps:A cR}{cs:A aV}:∀(n:G)(a day:j)(ds:A j),c9 L a->ds.length+n<=4->20454<=day->day+6*n<=20480->Br day ds->
  ∃Tf a',JN s (n:j) day L a nm z zs ps cs ds=F (s,L,a',nm,z,zs,ps,cs,Tf)/\Tf.length<=4/\Br 20480 Tf/\c9 L a'
 |0,a,day,ds,hd,hl,hy,Nh,hi=>by
  rw[Yz];simp only[j2x];rw[aj aa,j7,aS];exact⟨ds,a,rfl,aa,⟨hi.1,λd hd=>by have:=hi.2 d hd;omega⟩,hd⟩
 |n+1,a,day,ds,hd,hl,hy,Nh,hi=>by
  obtain⟨x,a1,e1,x0,x1,d1⟩:=dh (n:=6) hd aa aa;rw[Yz];simp only[j2x];rw[ah aa,al (x:=((n+1:G):j)-1),show ((n+1:G):j)-1=(n:j) by omega];simp only[j6,e1,j4];rw[ah (by simp[aM];omega),al (x:=1+x),al (x:=day+(1+x))];simp only[j6,aH];refine P_ n a1 _ _ d1 ax aa aa ⟨zk.2 ⟨hi.1,ae,λu hu v hv=>?_⟩,λd hd=>?_⟩
  .simp at hv;subst hv;have:=hi.2 u hu;omega
  .rcases jn.1 hd with h|h
   .have:=hi.2 d h;omega
   .simp at h;omega
structure HF(nz:G)(cs:A aV):Prop where
 ck:∀c∈cs,ra nz c
 nm:fJ (cs.map (·.1))
 len:cs.length<=1
 dl:∀c∈cs,c.2.2.length<=4
theorem jGN{nz:G}{nm:H}{x:j}{ds:A j}(x0:0<=x)(x1:x<nz)(hl:ds.length<=64)(hi:Br 20480 ds):ra nz (nm,(x,ds)):=
 ⟨x0,x1,hl,λd hd=>Td (by have:=hi.2 d hd;omega) (by have:=hi.2 d hd;omega),hi.1⟩
structure db(zs:A bF)(ps:A cR)(cs:A aV):Prop where
 so:Hx zs ps cs
 z:Bp zs
 p:wG zs.length ps
 c:HF zs.length cs
theorem jAN{L:A j}{a:j}(h:c9 L a):∃zs ps cs a',j9L L a=F ((zs,(ps,(cs,([]:A cW)))),L,a')/\db zs ps cs/\c9 L a':=by
 obtain⟨x,a1,e1,x0,x1,d1⟩:=dh (n:=2) h aa aa;obtain⟨zs,a2,e2,l2,k2,d2⟩:=N_ (1+x).toNat a1 [] d1 ax ⟨ae,ae,rfl⟩;obtain⟨y,a3,e3,y0,y1,d3⟩:=dh (n:=4) d2 aa aa;simp at l2;obtain⟨ps,a4,e4,l4,k4,d4⟩:=Te (zs:=zs) aa aa (1+y).toNat a3 [] d3 ax ⟨ae,rfl⟩;obtain⟨q,a5,e5,q0,q1,d5⟩:=dh (n:=2) d4 aa aa;simp at l4
 have cN:∃cs a',JO q L a5 zs ps []=F (L,a',zs,ps,cs)/\HF zs.length cs/\c9 L a':=by
  by_cases hq:q=0
  .subst hq;rw[Ps];simp only[j1L];rw[aj aa,j7,aS];exact⟨[],a5,rfl,⟨ae,fJ.nil,ae,ae⟩,d5⟩
  .have Bn:q=1:=aa;subst Bn;obtain⟨x,a6,e6,x0,x1,d6⟩:=dh (n:=(zs.length:j)) d5 aa aa;obtain⟨y,a7,e7,y0,y1,d7⟩:=dh (n:=4) d6 aa aa;obtain⟨ds,a8,e8,l8,k8,d8⟩:=P_ (s:=(1:j)) (nm:=D #[100,97,121,115]) (z:=x) (zs:=zs) (ps:=ps) (cs:=[]) y.toNat a7 20454 [] d7 ax aa aa ⟨ae,ae⟩;rw[show ((y.toNat:G):j)=y by omega]at e8;rw[Ps];simp only[j1L,show B (M zs)=(zs.length:j) from rfl];rw[ah aa];simp only[j6,e6,e7,e8,j4];rw[ah (by simp[aM]),al (x:=(1:j)-1)];simp only[j6,aH];rw[Ps];simp only[j1L];rw[aj aa,j7,aS];refine⟨_,a8,rfl,⟨λc hc=>?_,fJ.one jFu,ae,λc hc=>by simp at hc;subst hc;exact l8⟩,d8⟩;simp at hc;subst hc;exact jGN x0 x1 aa k8
 obtain⟨cs,a6,e6,k6,d6⟩:=cN;rw[show (((1+x).toNat:G):j)=1+x by omega]at e2;rw[show (((1+y).toNat:G):j)=1+y by omega]at e4;simp only[j9L,e1,j4];rw[al (x:=1+x)];simp only[e2,e3,j4];rw[al (x:=1+y)];simp only[e4,e5,e6,j4];exact⟨zs,ps,cs,a6,rfl,⟨⟨aa,aa,k2.ok,aa,aa,k6.len⟩,k2,k4,k6⟩,d6⟩
end Go.Proofs.Pw
