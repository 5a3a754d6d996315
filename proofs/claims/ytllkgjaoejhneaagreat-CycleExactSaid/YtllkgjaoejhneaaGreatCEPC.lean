/- The T5 and the M5 that the dice make. -/
import Derived.Test.YtllkgjaoejhneaaGreatCEPB
import Derived.Test.YtllkgjaoejhneaaGreatCEPA
open _root_ renaming Int->A,List->B,Nat->H,ByteArray->I
open Option renaming some->D
open ByteArray renaming empty->E,mk->G,toList->M
open List renaming length->F,getD->K
open Int renaming ofNat->J,toNat->S,tmod->W
open Bool renaming true->N,false->R
open Go Go.Lft
namespace Go.Proofs.Pw
abbrev bz:=I×(A×B aP)
abbrev cZ:=I×(A×(WL×(A×(A×Bool))))
abbrev aT:=I×(A×B A)
abbrev bh:=I×(A×((A×A)×(A×(A×(B A×(WL×(A×A)))))))
abbrev cL:=I×(B bh×B (A×(A×(A×(A×A)))))
def fA(z:bz):Prop:=MZ z.2.1 z.2.2
theorem sq{L:B A}{a n:A}(h:cD L a)(hn:1<=n)(xR:n<=1000000):∃b a',j11 L a n=D (b,L,a')/\cD L a':=by
 obtain⟨x,a1,e1,x0,x1,d1⟩:=di (n:=n) h aa aa;simp only[j11,e1,ja];exact⟨_,_,rfl,d1⟩
theorem T6{L:B A}:∀(n:H)(a:A)(zs:B bz),cD L a->zs.length+n<=2->(∀z∈zs,fA z)->
  ∃xX a',Fp (n:A) L a zs=D (L,a',xX)/\xX.length=zs.length+n/\(∀z∈xX,fA z)/\cD L a'
 |0,a,zs,hd,_,hz=>by
  rw[R1];simp only[j2h];rw[al aa,jd,bd];exact⟨zs,a,rfl,rfl,hz,hd⟩
 |n+1,a,zs,hd,hl,hz=>by
  obtain⟨o,rs,a1,e1,m1,d1⟩:=jwM hd (K [(G #[104,101,114,101]),(G #[116,104,101,114,101])] zs.length E)
  obtain⟨xX,a',e2,h2,h3,h4⟩:=T6 n a1 (zs++[(K [(G #[104,101,114,101]),(G #[116,104,101,114,101])] zs.length E,(o,rs))]) d1 aN (λz Ij=>by
   rcases jx.1 Ij with h|h
   .exact hz z h
   .simp at h;subst h;exact m1)
  rw[R1];simp only[j2h,show J (F zs)=(zs.length:A) from rfl];rw[ai aa,cG (show (0:A)<=(zs.length:A) by omega) aN];simp only[jc,je,e1,ja];rw[ai (by simp[aR];omega),au (x:=((n+1:H):A)-1)];simp only[jc,aZ];rw[show ((n+1:H):A)-1=(n:A) by omega];exact⟨xX,a',e2,by rw[h2];simp;omega,h3,h4⟩
theorem jv0:∃l,jbR=D l/\4<=l.length:=⟨_,rfl,af⟩
theorem M6{L:B A}{zs:B bz}(oO:1<=zs.length)(sr:zs.length<=100):∀(n:H)(a:A)(ps:B cZ),cD L a->ps.length+n<=4->
  ∃yT a',Fq (n:A) L a zs ps=D (L,a',zs,yT)/\yT.length=ps.length+n/\cD L a'
 |0,a,ps,hd,_=>by
  rw[R2];simp only[j2i];rw[al aa,jd,bd];exact⟨ps,a,rfl,rfl,hd⟩
 |n+1,a,ps,hd,hl=>by
  obtain⟨nl,en,yl⟩:=jv0;obtain⟨x,a1,e1,x0,x1,d1⟩:=di (n:=(zs.length:A)) hd aa aa;obtain⟨b,a2,e2,d2⟩:=sq (n:=3) d1 aa aa;obtain⟨c,a3,e3,d3⟩:=sq (n:=2) d2 aa aa;rw[R2];simp only[j2i,en,ja,show J (F ps)=(ps.length:A) from rfl,show J (F zs)=(zs.length:A) from rfl];rw[ai aa,cG (show (0:A)<=(ps.length:A) by omega) aa];simp only[jc,e1,e2,e3,ja];rw[au (x:=((n+1:H):A)-1),show ((n+1:H):A)-1=(n:A) by omega];cases c with
  |true=>obtain⟨w,a4,e4,_,_,d4⟩:=M3 d3;obtain⟨p,a5,e5,_,d5⟩:=mq d4 (xs:=[(0:A),(40:A),(100:A),(12:A)]) af af;obtain⟨q,a6,e6,_,d6⟩:=mq d5 (xs:=[(0:A),(11:A),(24:A),(1:A)]) af af;simp only[jc,e4,e5,e6,ja];rw[ai (by simp[aR];omega)];simp only[jc,aZ];obtain⟨yT,a',e,h1,h2⟩:=M6 oO sr n a6 (ps++[(K nl (S (ps.length:A)) E,(x,(w,(w64 (3600*p),(w64 (3600*q),b)))))]) d6 aN;exact⟨yT,a',e,by rw[h1];simp;omega,h2⟩
  |false=>obtain⟨p,a5,e5,_,d5⟩:=mq d3 (xs:=[(0:A),(40:A),(100:A),(12:A)]) af af;obtain⟨q,a6,e6,_,d6⟩:=mq d5 (xs:=[(0:A),(11:A),(24:A),(1:A)]) af af;simp only[jd,e5,e6,ja];rw[ai (by simp[aR];omega)];simp only[jc,aZ];obtain⟨yT,a',e,h1,h2⟩:=M6 oO sr n a6 (ps++[(K nl (S (ps.length:A)) E,(x,(([]:WL),(w64 (3600*p),(w64 (3600*q),b)))))]) d6 aN;exact⟨yT,a',e,by rw[h1];simp;omega,h2⟩
theorem T7{L:B A}{s:A}{nm:I}{z:A}{zs:B bz}{ps:B cZ}{cs:B aT}:∀(n:H)(a day:A)(ds:B A),cD L a->ds.length+n<=4->
  ∃ds' a',Fs s (n:A) day L a nm z zs ps cs ds=D (s,L,a',nm,z,zs,ps,cs,ds')/\cD L a'
 |0,a,day,ds,hd,_=>by
  rw[R3];simp only[j2j];rw[al aa,jd,bd];exact⟨ds,a,rfl,hd⟩
 |n+1,a,day,ds,hd,hl=>by
  obtain⟨x,a1,e1,x0,x1,d1⟩:=di (n:=6) hd aa aa;rw[R3];simp only[j2j];rw[ai aa,au (x:=((n+1:H):A)-1),show ((n+1:H):A)-1=(n:A) by omega];simp only[jc,e1,ja];rw[ai (by simp[aR];omega)];simp only[jc,aZ];exact T7 n a1 _ _ d1 aN
theorem T8{L:B A}{zs:B bz}{ps:B cZ}(oO:1<=zs.length)(sr:zs.length<=100):∀(n:H)(a:A)(cs:B aT),cD L a->cs.length+n<=4->
  ∃kJ a',Ft (n:A) L a zs ps cs=D (L,a',zs,ps,kJ)/\kJ.length=cs.length+n/\cD L a'
 |0,a,cs,hd,_=>by
  rw[R4];simp only[j2k];rw[al aa,jd,bd];exact⟨cs,a,rfl,rfl,hd⟩
 |n+1,a,cs,hd,hl=>by
  obtain⟨x,a1,e1,x0,x1,d1⟩:=di (n:=(zs.length:A)) hd aa aa;obtain⟨y,a2,e2,y0,y1,d2⟩:=di (n:=4) d1 aa aa;obtain⟨ds,a3,e3,d3⟩:=T7 (s:=((n+1:H):A)) (nm:=G #[100,97,121,115]) (z:=x) (zs:=zs) (ps:=ps) (cs:=cs) y.toNat a2 20454 [] d2 aN;rw[show ((y.toNat:H):A)=y by omega]at e3;rw[R4];simp only[j2k,show J (F zs)=(zs.length:A) from rfl];rw[ai aa];simp only[jc,e1,e2,e3,ja];rw[ai (by simp[aR];omega),au (x:=((n+1:H):A)-1),show ((n+1:H):A)-1=(n:A) by omega];simp only[jc,aZ];obtain⟨kJ,a',e,h1,h2⟩:=T8 (ps:=ps) oO sr n a3 (cs++[(G #[100,97,121,115],(x,ds))]) d3 aN;exact⟨kJ,a',e,by rw[h1];simp;omega,h2⟩
structure og(zs:B bz)(ps:B cZ)(cs:B aT):Prop where
 z0:1<=zs.length
 z1:zs.length<=2
 ok:∀z∈zs,fA z
 p0:1<=ps.length
 p1:ps.length<=4
 c1:cs.length<=1
theorem jv1{L:B A}{a:A}(h:cD L a):∃zs ps cs a',j7t L a=D ((zs,(ps,(cs,([]:B cL)))),L,a')/\og zs ps cs/\cD L a':=by
 obtain⟨x,a1,e1,x0,x1,d1⟩:=di (n:=2) h aa aa;obtain⟨zs,a2,e2,l2,k2,d2⟩:=T6 (1+x).toNat a1 [] d1 aN af;obtain⟨y,a3,e3,y0,y1,d3⟩:=di (n:=4) d2 aa aa;simp at l2;obtain⟨ps,a4,e4,l4,d4⟩:=M6 (zs:=zs) aa aa (1+y).toNat a3 [] d3 aN;obtain⟨q,a5,e5,q0,q1,d5⟩:=di (n:=2) d4 aa aa;obtain⟨cs,a6,e6,l6,d6⟩:=T8 (zs:=zs) (ps:=ps) aa aa q.toNat a5 [] d5 aN;simp at l4 l6;rw[show (((1+x).toNat:H):A)=1+x by omega]at e2;rw[show (((1+y).toNat:H):A)=1+y by omega]at e4;rw[show ((q.toNat:H):A)=q by omega]at e6;simp only[j7t,e1,ja];rw[au (x:=1+x)];simp only[e2,e3,ja];rw[au (x:=1+y)];simp only[e4,e5,e6,ja];exact⟨zs,ps,cs,a6,rfl,⟨aa,aa,k2,aa,aa,aa⟩,d6⟩
structure GC(l:bh):Prop where
 d0:20452<=l.2.2.1.1
 d1:l.2.2.1.1<=20457
 c0:0<=l.2.2.1.2
 c1:l.2.2.1.2<=79200
 u0:0<=l.2.2.2.1
 u1:l.2.2.2.1<=2
 e0:1<=l.2.2.2.2.1
 e1:l.2.2.2.2.1<=49
 e2:l.2.2.2.1≠0->l.2.2.2.2.1<=2
 m0:1<=l.2.2.2.2.2.1.length
 m1:l.2.2.2.2.2.1.length<=3
 w3:l.2.2.2.2.2.2.1.length<=3
theorem M7{L:B A}{zs:B bz}{ps:B cZ}{cs:B aT}{ss:B cL}(mK:1<=ps.length)(pZ:ps.length<=100){x0 y0:I}{x1 x2 x3 x4 x5 x6 x7 y1 y2 y3 y4 y5 y6 y7:A}:∀(n:H)(a:A)(ms:B A),cD L a->ms.length+n<=4->
  ∃GD a',Cq (n:A) L a zs ps cs ss x0 x1 x2 x3 x4 x5 x6 x7 y0 y1 y2 y3 y4 y5 y6 y7 ms=D (L,a',zs,ps,cs,ss,x0,x1,x2,x3,x4,x5,x6,x7,y0,y1,y2,y3,y4,y5,y6,y7,GD)/\GD.length=ms.length+n/\cD L a'
 |0,a,ms,hd,_=>by
  rw[R5];simp only[j2l];rw[al aa,jd,bd];exact⟨ms,a,rfl,rfl,hd⟩
 |n+1,a,ms,hd,hl=>by
  obtain⟨x,a1,e1,_,_,d1⟩:=di (n:=(ps.length:A)) hd aa aa;rw[R5];simp only[j2l,show J (F ps)=(ps.length:A) from rfl];rw[ai aa,au (x:=((n+1:H):A)-1),show ((n+1:H):A)-1=(n:A) by omega];simp only[jc,e1,ja];rw[ai (by simp[aR];omega)];simp only[jc,aZ];obtain⟨GD,a',e,h1,h2⟩:=M7 (zs:=zs) (cs:=cs) (ss:=ss) mK pZ (x0:=x0) (x1:=x1) (x2:=x2) (x3:=x3) (x4:=x4) (x5:=x5) (x6:=x6) (x7:=x7) (y0:=y0) (y1:=y1) (y2:=y2) (y3:=y3) (y4:=y4) (y5:=y5) (y6:=y6) (y7:=y7) n a1 (ms++[x]) d1 aN;exact⟨GD,a',e,by rw[h1];simp;omega,h2⟩
theorem jv2{L:B A}{a:A}(h:cD L a){zs:B bz}{ps:B cZ}{cs:B aT}{ss:B cL}(hs:og zs ps cs)(nm:I) :
  ∃l a',j7u L a (zs,(ps,(cs,ss))) nm=D (l,L,a')/\GC l/\0<=l.2.1/\l.2.1<(zs.length:A)/\cD L a':=by
 have oO:=hs.z0;have sr:=hs.z1;have mK:=hs.p0;have pZ:=hs.p1;have eg:=hs.c1;obtain⟨z,a1,e1,z0,z1,d1⟩:=di (n:=(zs.length:A)) h aa aa;obtain⟨x,a2,e2,x0,x1,d2⟩:=di (n:=6) d1 aa aa;obtain⟨s,a3,e3,m3,d3⟩:=mq d2 (xs:=[(0:A),(32400:A),(7200:A),(9000:A),(79200:A),(1:A)]) af af;obtain⟨u,a4,e4,u0,u1,d4⟩:=di (n:=3) d3 aa aa;obtain⟨v,a5,e5,v0,v1,d5⟩:=di (n:=2) d4 aa aa;have eU:0<=s/\s<=79200:=by simp at m3;omega
 simp only[j7u,show J (F zs)=(zs.length:A) from rfl,e1,e2,e3,e4,e5,ja];rw[au (x:=20454+x),au (x:=20454+x-2),au (x:=1+v)]
 have fin:∀(ev a6:A),cD L a6->1<=ev->ev<=49->(u≠0->ev<=2)->∀ms:B A,1<=ms.length->ms.length<=3->∀(w:WL),w.length<=3->∀(c m:A)(a':A),cD L a'->∃l Dg,D ((nm,(z,((20454+x-2,s),(u,(ev,(ms,(w,(c,m)))))))),L,a')=D (l,L,Dg)/\GC l/\0<=l.2.1/\l.2.1<(zs.length:A)/\cD L Dg:=
  λev a6 _ h1 h2 h3 ms h4 h5 w hw c m a' hd=>⟨_,_,rfl,⟨by dsimp only;omega,by dsimp only;omega,eU.1,eU.2,u0,by dsimp only;omega,h1,h2,h3,h4,h5,hw⟩,z0,z1,hd⟩
 by_cases hu:u=0
 .rw[fi hu,jc];obtain⟨ev,a6,e6,m6,d6⟩:=mq d5 (xs:=[(6:A),(8:A),(12:A),(24:A),(23:A),(49:A)]) af af;have lC:1<=ev/\ev<=49:=by simp at m6;omega
  obtain⟨n,a7,e7,n0,n1,d7⟩:=di (n:=3) d6 aa aa;obtain⟨ms,a8,e8,l8,d8⟩:=M7 (L:=L) (zs:=zs) (ps:=ps) (cs:=cs) (ss:=ss) mK aa (x0:=E) (x1:=0) (x2:=0) (x3:=0) (x4:=0) (x5:=0) (x6:=0) (x7:=0) (y0:=nm) (y1:=z) (y2:=20454+x-2) (y3:=s) (y4:=u) (y5:=ev) (y6:=0) (y7:=0) (1+n).toNat a7 [] d7 aN;rw[show (((1+n).toNat:H):A)=1+n by omega]at e8;simp at l8;obtain⟨b,a9,e9,d9⟩:=sq (n:=2) d8 aa aa;simp only[e6,e7,ja];rw[au (x:=1+n)];simp only[e8,e9,ja,show J (F cs)=(cs.length:A) from rfl];cases b with
  |true=>
   obtain⟨w,a10,M8,_,hw,d10⟩:=M3 d9;obtain⟨c,M9,wZ,d11⟩:=sq (n:=4) d10 aa aa;simp only[jc,M8,wZ,ja];by_cases kA:c=N/\(cs.length:A)>0
   .obtain⟨i,a12,sa,_,_,d12⟩:=di (n:=(cs.length:A)) d11 aa aa;obtain⟨j,Na,xa,_,_,d13⟩:=di (n:=2) d12 aa aa;rw[kA.1,ai kA.2];simp only[jc,sa,xa,ja];exact fin ev a6 d6 lC.1 lC.2 (λh=>absurd hu h) ms aa aa _ hw _ _ _ d13
   .have gn:cond c (decide ((cs.length:A)>0)) R=false:=by
     cases c with
     |true=>exact al (λh=>kA ⟨rfl,h⟩)
     |false=>rfl
    rw[gn];simp only[jd];exact fin ev a6 d6 lC.1 lC.2 (λh=>absurd hu h) ms aa aa _ hw _ _ _ d11
  |false=>
   obtain⟨c,M9,wZ,d11⟩:=sq (n:=4) d9 aa aa;simp only[jd,wZ,ja];by_cases kA:c=N/\(cs.length:A)>0
   .obtain⟨i,a12,sa,_,_,d12⟩:=di (n:=(cs.length:A)) d11 aa aa;obtain⟨j,Na,xa,_,_,d13⟩:=di (n:=2) d12 aa aa;rw[kA.1,ai kA.2];simp only[jc,sa,xa,ja];exact fin ev a6 d6 lC.1 lC.2 (λh=>absurd hu h) ms aa aa _ af _ _ _ d13
   .have gn:cond c (decide ((cs.length:A)>0)) R=false:=by
     cases c with
     |true=>exact al (λh=>kA ⟨rfl,h⟩)
     |false=>rfl
    rw[gn];simp only[jd];exact fin ev a6 d6 lC.1 lC.2 (λh=>absurd hu h) ms aa aa _ af _ _ _ d11
 .rw[cN hu,jd];obtain⟨n,a7,e7,n0,n1,d7⟩:=di (n:=3) d5 aa aa;obtain⟨ms,a8,e8,l8,d8⟩:=M7 (L:=L) (zs:=zs) (ps:=ps) (cs:=cs) (ss:=ss) mK aa (x0:=E) (x1:=0) (x2:=0) (x3:=0) (x4:=0) (x5:=0) (x6:=0) (x7:=0) (y0:=nm) (y1:=z) (y2:=20454+x-2) (y3:=s) (y4:=u) (y5:=1+v) (y6:=0) (y7:=0) (1+n).toNat a7 [] d7 aN;rw[show (((1+n).toNat:H):A)=1+n by omega]at e8;simp at l8;obtain⟨b,a9,e9,d9⟩:=sq (n:=2) d8 aa aa;simp only[e7,ja];rw[au (x:=1+n)];simp only[e8,e9,ja,show J (F cs)=(cs.length:A) from rfl];cases b with
  |true=>
   obtain⟨w,a10,M8,_,hw,d10⟩:=M3 d9;obtain⟨c,M9,wZ,d11⟩:=sq (n:=4) d10 aa aa;simp only[jc,M8,wZ,ja];by_cases kA:c=N/\(cs.length:A)>0
   .obtain⟨i,a12,sa,_,_,d12⟩:=di (n:=(cs.length:A)) d11 aa aa;obtain⟨j,Na,xa,_,_,d13⟩:=di (n:=2) d12 aa aa;rw[kA.1,ai kA.2];simp only[jc,sa,xa,ja];exact fin (1+v) a5 d5 aa aa aa ms aa aa _ hw _ _ _ d13
   .have gn:cond c (decide ((cs.length:A)>0)) R=false:=by
     cases c with
     |true=>exact al (λh=>kA ⟨rfl,h⟩)
     |false=>rfl
    rw[gn];simp only[jd];exact fin (1+v) a5 d5 aa aa aa ms aa aa _ hw _ _ _ d11
  |false=>
   obtain⟨c,M9,wZ,d11⟩:=sq (n:=4) d9 aa aa;simp only[jd,wZ,ja];by_cases kA:c=N/\(cs.length:A)>0
   .obtain⟨i,a12,sa,_,_,d12⟩:=di (n:=(cs.length:A)) d11 aa aa;obtain⟨j,Na,xa,_,_,d13⟩:=di (n:=2) d12 aa aa;rw[kA.1,ai kA.2];simp only[jc,sa,xa,ja];exact fin (1+v) a5 d5 aa aa aa ms aa aa _ af _ _ _ d13
   .have gn:cond c (decide ((cs.length:A)>0)) R=false:=by
     cases c with
     |true=>exact al (λh=>kA ⟨rfl,h⟩)
     |false=>rfl
    rw[gn];simp only[jd];exact fin (1+v) a5 d5 aa aa aa ms aa aa _ af _ _ _ d11
abbrev cO:=A×(A×(A×(A×A)))
abbrev eA:=B bz×(B cZ×(B aT×B cL))
structure ZCk(z:bz):Prop where
 ck:jbM z=D 0
 o60:W z.2.1 60=0
 r60:∀r∈z.2.2,W r.2.2.2.2.2.2 60=0
 len:z.2.2.length<=1000
structure PCk(nz:H)(p:cZ):Prop where
 nb:(M p.1==M (G #[110,111,98,111,100,121]))=R
 z0:0<=p.2.1
 z1:p.2.1<nz
 w:jV 0 p.2.2.1
 wl:p.2.2.1.length<=14
 m:j4R p.2.2.2.1=D N
 r:j4R p.2.2.2.2.1=D N
structure oh(nz:H)(c:aT):Prop where
 z0:0<=c.2.1
 z1:c.2.1<nz
 len:c.2.2.length<=64
 day:∀d∈c.2.2,j1o d=D N
 asc:c.2.2.Pairwise (· < ·)
structure LCk(nz np nc:H)(l:bh):Prop where
 z0:0<=l.2.1
 z1:l.2.1<nz
 d0:1<=l.2.2.1.1
 day:j1o l.2.2.1.1=D N
 c0:0<=l.2.2.1.2
 c1:l.2.2.1.2<=86399
 u0:0<=l.2.2.2.1
 u1:l.2.2.2.1<=2
 e0:1<=l.2.2.2.2.1
 e1:l.2.2.2.2.1<=400
 m0:l.2.2.2.2.2.1.length≠0
 m1:l.2.2.2.2.2.1.length<=12
 mem:∀m∈l.2.2.2.2.2.1,0<=m/\m<(np:A)
 w:jV 0 l.2.2.2.2.2.2.1
 wl:l.2.2.2.2.2.2.1.length<=14
 Dh:0<=l.2.2.2.2.2.2.2.2
 Di:l.2.2.2.2.2.2.2.2<=2
 cal:l.2.2.2.2.2.2.2.2≠0->0<=l.2.2.2.2.2.2.2.1/\l.2.2.2.2.2.2.2.1<(nc:A)
 Nb:l.2.2.2.2.2.2.2.2=0->l.2.2.2.2.2.2.2.1=0
 w3:l.2.2.2.2.2.2.1.length<=3
 h6:l.2.2.2.1=0->6<=l.2.2.2.2.1
structure ECk(np:H)(x:cO):Prop where
 k0:0<=x.1
 k1:x.1<=2
 a:0<=x.2.1/\x.2.1<(np:A)\/x.1=1/\x.2.1 = -1
 b:x.1=2->0<=x.2.2.1/\x.2.2.1<(np:A)/\x.2.1≠x.2.2.1
 b0:x.1≠2->x.2.2.1=0
 f0:0<=x.2.2.2.1
 ft:x.2.2.2.1<x.2.2.2.2
 t1:x.2.2.2.2<=1000000000000
 day:j1o (Int.tdiv x.2.2.2.2 86400)=D N
structure SCk(nz np nc:H)(s:cL):Prop where
 nm:C5 (s.2.1.map (·.1))
 ly:∀x∈s.2.1,LCk nz np nc x
 ll:s.2.1.length<=6
 ed:∀x∈s.2.2,ECk np x
 el:s.2.2.length<=48
structure jyP(c:eA):Prop where
 zn:C5 (c.1.map (·.1))
 zc:∀z∈c.1,ZCk z
 zl:c.1.length<=16
 pn:C5 (c.2.1.map (·.1))
 pc:∀p∈c.2.1,PCk c.1.length p
 pl:c.2.1.length<=32
 cn:C5 (c.2.2.1.map (·.1))
 cc:∀x∈c.2.2.1,oh c.1.length x
 cl:c.2.2.1.length<=8
 sn:C5 (c.2.2.2.map (·.1))
 sc:∀x∈c.2.2.2,SCk c.1.length c.2.1.length c.2.2.1.length x
 sl:c.2.2.2.length<=12
structure mR(o:A)(l:aW)(s t:A)(k:H):Prop where
 hk:k<=l.length
 hks:s-bL o l k<ba l (k+1)
 bef:∀j,j<k->ba l (j+1)<=s-bL o l j
 ht:t=max (ba l k) (s-bL o l k)
def Nc(o:A)(l:aW):Prop:=∀i,i<l.length -> -86400<bL o l (i+1)-bL o l i/\bL o l (i+1)-bL o l i<86400
section
variable{o:A}{l:aW}(h:gv o l)
include h
theorem mR.piece{s t:A}{k:H}(f:mR o l s t k):ba l k<=t/\t<ba l (k+1)/\s<=t+bL o l k:=by
 have h1:=h.frm_lt f.hk;have h2:=f.hks;have h3:=f.ht;omega
theorem mR.up{s s' t t':A}{k k':H}(hd:Nc o l)(hs:200000<s)(he:s+86400<=s')(f:mR o l s t k)(g:mR o l s' t' k'):t<t':=by
 obtain⟨p1,p2,p3⟩:=f.piece h;obtain⟨q1,q2,q3⟩:=g.piece h;have g1:=g.hks;have g2:=g.ht;have f2:=f.ht;have hkN:=f.hk;have hkN':=g.hk;rcases vr k k' with ay|heq|yU
 .have m1:=h.frm_le (i:=k+1) (j:=k') aa aa;omega
 .subst heq;by_cases h0:k=0
  .subst h0;have e0:ba l 0=0:=mn;have o1:=h.of1 0 aa;omega
  .obtain⟨j,rfl⟩:∃j,k=j+1:=⟨k-1,aa⟩;have b:=f.bef j aa;have d:=hd j aa;omega
 .have:=f.bef k' yU;omega
end
noncomputable def Dj(o:A)(l:aW)(s:A):Int:=open Classical in if h:∃t k,mR o l s t k then Classical.choose h else 0
def dx(L:bh):Int:=if L.2.2.2.1=2 then 7*L.2.2.2.2.1 else L.2.2.2.2.1
def dy(L:bh)(k:A):Int:=(L.2.2.1.1+k*dx L)*86400+L.2.2.1.2
noncomputable def vB(o:A)(l:aW)(L:bh)(k:A):Int:=if L.2.2.2.1=0 then Dj o l (dy L 0)+3600*L.2.2.2.2.1*k else Dj o l (dy L k)
structure LR(L:bh):Prop where
 d0:100<=L.2.2.1.1
 d1:L.2.2.1.1<=30000
 c0:0<=L.2.2.1.2
 c1:L.2.2.1.2<=86399
 u0:0<=L.2.2.2.1
 u1:L.2.2.2.1<=2
 e0:1<=L.2.2.2.2.1
 e1:L.2.2.2.2.1<=49
 m0:1<=L.2.2.2.2.2.1.length
 m1:L.2.2.2.2.2.1.length<=1000
theorem GC.lr{L:bh}(h:GC L):LR L:=⟨by have:=h.d0;omega,by have:=h.d1;omega,h.c0,by have:=h.c1;omega,h.u0,h.u1,h.e0,h.e1,h.m0,by have:=h.m1;omega⟩
theorem LR.step{L:bh}(h:LR L):1<=dx L/\dx L<=343:=by
 have:=h.e0;have:=h.e1;unfold dx;split<;>omega
section
variable{o:A}{l:aW}(h:gv o l)
include h
end
theorem jps(y:A):j1i y=D (sk y):=TK y
theorem GF(y m:A):jci y m=D (dT y m):=by
 by_cases h:m<1\/12<m
 .have hk:∀k:A,1<=k->k<=12->(m==k)=false:=λk h1 h2=>cN aa;have:dT y m=0:=if_pos h;rw[this]
  simp only[jci,hk 1 aa aa,hk 2 aa aa,hk 3 aa aa,hk 4 aa aa,hk 5 aa aa,hk 6 aa aa,hk 7 aa aa,
   hk 8 aa aa,hk 9 aa aa,hk 10 aa aa,hk 11 aa aa,hk 12 aa aa,jd]
 .obtain rfl|rfl|rfl|rfl|rfl|rfl|rfl|rfl|rfl|rfl|rfl|rfl:m=1\/m=2\/m=3\/m=4\/m=5\/m=6\/m=7\/m=8\/m=9\/m=10\/m=11\/m=12:=aa
  case inr.inl=>have e:jci y 2=(j1i y).bind λr=>cond r (D (29:A)) (D (28:A)):=rfl;rw[e,jps,dT,TJ];simp only[ja];cases sk y<;>rfl
  all_goals rfl
theorem jnY(y m d:A):jfU (y,m,d)=D (decide (oe y m d)):=by
 simp only[jfU,GF,ja];by_cases hv:oe y m d
 .have hm:=Db hv;have gp:=hv;obtain⟨a1,a2,a3,a4⟩:=hv;rw[ai (show y>=1970 from a1),ai a2,ai (show m>=1 from hm.1),ai hm.2,ai (show d>=1 from a3),ai a4,ai gp];rfl
 .rw[al hv];by_cases a1:y>=1970
  .by_cases a2:y<=2240
   .by_cases a3:m>=1
    .by_cases a4:m<=12
     .by_cases a5:d>=1
      .rw[ai a1,ai a2,ai a3,ai a4,ai a5,al (show¬d<=dT y m fromλh=>hv ⟨a1,a2,a5,h⟩)];rfl
      .rw[ai a1,ai a2,ai a3,ai a4,al a5];rfl
     .rw[ai a1,ai a2,ai a3,al a4];rfl
    .rw[ai a1,ai a2,al a3];rfl
   .rw[ai a1,al a2];rfl
  .rw[al a1];rfl
theorem jpt(y:A)(h1:1969<=y)(h2:y<=1000000000):jfV y=D (cY y):=by
 simp only[jfV];rw[au (x:=y-1970),au (x:=y-1969),au (x:=y-1901),au (x:=y-1601)];rw[qS (show 0<=y-1969 by omega),qS (show 0<=y-1901 by omega),qS (show 0<=y-1601 by omega)];simp (disch:=omega) only[gu];congr 1;unfold cY;omega
theorem T9(y m d:A)(hm:m<=13):∀(n:H)(s k:A),1<=k->k+n=m -> -1000000000000<=s->s+31*n<=1000000000000->Fz s k y m d=D (s+cQ y m-cQ y k,y,m,d)
 |0,s,k,hk,hn,_,_=>by
  rw[Sb];have:k=m:=aa;subst this;simp only[j5z,al (show¬k<k by omega),jd,bd];congr 2;omega
 |n+1,s,k,hk,hn,h1,h2=>by
  rw[Sb];have hd:=lF y k;have hc:=wU y k hk aa;simp only[j5z,GF,ja,ai (show k<m by omega),jc,aZ];rw[au (x:=s+dT y k),au (x:=k+1)];rw[T9 y m d hm n (s+dT y k) (k+1) aa aa aa aa];congr 2;omega
theorem fI{y m d:A}(hv:oe y m d):jlx (y,m,d)=D (num y m d,0):=by
 have hm:=Db hv;have hd:=lF y m;have hb : -1000000000<=cY y/\cY y<=1000000000:=by have:=hv.1;have:=hv.2.1;unfold cY;omega
 have hc:=wV y m;obtain⟨h1,h2,h3,h4⟩:=id hv;simp only[jlx,jnY,ai hv,ja,jl,jd,jpt y aa aa,T9 y m d aa (m-1).toNat (cY y) 1 aa aa aa aa];have:cQ y 1=0:=rfl;rw[au (x:=cY y+cQ y m-cQ y 1+d),au];unfold num;congr 2;omega
theorem Ua(d:A):jcj d=j4P d:=rfl
theorem Ub(y m k w n e:A)(h9:0<=n)(lD:n<=1000000)(Nd:e<=6)(GG:(n+e+3)%7=w) :
  ∀(j:H)(s:A),0<=s->s+j=e->FA y m k w n (n+s)=D (y,m,k,n,n+e)
 |0,s,hs,hj=>by
  rw[Sc];have:s=e:=aa;subst this;have hb:((n+s+3)%7 != w)=false:=by simp[GG]
  simp only[j5A,Ua,MQ (n+s) aa,ja,hb,jd,bd]
 |j+1,s,hs,hj=>by
  rw[Sc];have hb:((n+s+3)%7 != w)=true:=by simp only[bne_iff_ne,ne_eq];omega
  simp only[j5A,Ua,MQ (n+s) aa,ja,hb,jc,aZ];rw[au (x:=n+s+1),show n+s+1=n+(s+1) by omega];exact Ub y m k w n e h9 lD Nd GG j (s+1) aa aa
theorem Nf(y m n t:A)(h9:0<=n)(lD:n<=1000000)(ht1:t<n+dT y m)(ht2:n+dT y m<=t+7)(su : -1000<=t) :
  ∀(j:H)(s:A),s+7*j=t -> -1000<=s->FB y m n s=D t
 |0,s,hs,_=>by
  have hd:=lF y m;rw[Sd];have:s=t:=aa;subst this;simp only[j5B,GF,ja];rw[au (x:=s+7),au (x:=n+dT y m),al (show¬s+7<n+dT y m by omega),jd,bd]
 |j+1,s,hs,h1=>by
  have hd:=lF y m;rw[Sd];simp only[j5B,GF,ja];rw[au (x:=s+7),au (x:=n+dT y m),ai (show s+7<n+dT y m by omega),jc,aZ];exact Nf y m n t h9 lD ht1 ht2 su j (s+7) aa aa
theorem fJ(y m k w:A)(h1:1970<=y)(h2:y<=2240)(gq:1<=m)(gO:m<=12)(df:1<=k)(eb:k<=5)(H3:0<=w)(J8:w<=6):jly y m k w=D (nth y m k w,0):=by
 have hv:=yS y m h1 h2 gq gO;have hr:=wW hv;have hd:=C9 y m gq gO;have ir:=lF y m;simp only[jly,fI hv,ja,ji];rw[al (show¬k<1 by omega),al (show¬k>5 by omega),al (show¬w<0 by omega),al (show¬w>6 by omega)];simp only[jd];unfold nth;generalize num y m 1=n at *;obtain⟨e,qQ,Nd,GG,BC⟩:∃e,0<=e/\e<=6/\(n+e+3)%7=w/\n+(w-(n+3)%7+7)%7=n+e:=⟨(w-(n+3)%7+7)%7,aa,aa,aa,rfl⟩;rw[BC];have hl:=Ub y m k w n e hr.1 aa Nd GG e.toNat 0 aa aa;rw[Int.add_zero]at hl;simp only[hl,ja];by_cases hk:k<5
 .rw[ai hk,jc,au (x:=k-1),au (x:=7*(k-1)),au,if_neg aa]
 .have pB:k=5:=aa;subst pB;rw[al hk,jd];by_cases hc:n+e+7*(5-1)>=n+dT y m
  .rw[Nf y m n (n+e+21) hr.1 aa aa aa aa 3 (n+e) aa aa,if_pos hc];simp only[ja];congr 2;omega
  .rw[Nf y m n (n+e+28) hr.1 aa aa aa aa 4 (n+e) aa aa,if_neg hc];simp only[ja];congr 2
theorem Uc{x y:A×A}:∀{l:aW},y∈iB x l->y=x\/y∈l
 |[],h=>by simp[iB]at h;exact .inl h
 |z::zs,h=>by
  unfold iB at h;split at h
  .rcases jm.1 h with rfl|h
   .exact .inr af
   .rcases Uc h with h|h
    .exact .inl h
    .exact .inr (by simp[h])
  .rcases jm.1 h with rfl|h
   .exact .inl rfl
   .exact .inr h
theorem Ud{y:A×A}:∀{l acc:aW},y∈iC l acc->y∈l\/y∈acc
 |[],_,h=> .inr h
 |x::xs,acc,h=>by
  rcases Ud (l:=xs) h with h|h
  .exact .inl (by simp[h])
  .rcases Uc h with rfl|h
   .exact .inl af
   .exact .inr h
theorem Ue{y:A×A}{l:aW}(h:y∈dD l):y∈l:=by
 rcases Ud (List.mem_reverse.1 h) with h|h
 .exact h
 .simp at h
theorem Uf{x:A×A}{l:B aP}(h:x∈occs l):∃r∈l,∃j:H,(j:A)<=r.2.1-r.1/\x=cd r (r.1+(j:A)):=by
 obtain⟨r,hr,hx⟩:=List.mem_flatMap.1 h;obtain⟨i,hi,rfl⟩:=qg.1 hx;have hi:=List.mem_range.1 hi;exact⟨r,hr,i,aa,rfl⟩
end Go.Proofs.Pw
