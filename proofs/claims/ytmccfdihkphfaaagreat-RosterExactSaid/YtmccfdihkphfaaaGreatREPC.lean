/- The _E and the sF that the dice make. -/
import Derived.Test.YtmccfdihkphfaaaGreatREPB
import Derived.Test.YtmccfdihkphfaaaGreatREPA
open _root_ renaming Int->A,List->B,Nat->H,ByteArray->I
open Option renaming some->D
open ByteArray renaming empty->E,mk->G,toList->M
open List renaming length->F,getD->K
open Int renaming ofNat->J,toNat->S,tmod->W
open Bool renaming true->N,false->R
open Go Go.Lft
namespace Go.Proofs.Pw
abbrev bH:=I×(A×B aL)
abbrev dr:=I×(A×(WL×(A×(A×Bool))))
abbrev bd:=I×(A×B A)
abbrev bA:=I×(A×((A×A)×(A×(A×(B A×(WL×(A×A)))))))
abbrev cN:=I×(B bA×B (A×(A×(A×(A×A)))))
def gj(z:bH):Prop:=MZ z.2.1 z.2.2
theorem vH{L:B A}{a n:A}(h:dg L a)(hn:1<=n)(yp:n<=1000000):∃b a',j1i L a n=D (b,L,a')/\dg L a':=by
 obtain⟨x,a1,e1,x0,x1,d1⟩:=dT (n:=n) h aa aa;simp only[j1i,e1,j4];exact⟨_,_,rfl,d1⟩
theorem _F{L:B A}:∀(n:H)(a:A)(zs:B bH),dg L a->zs.length+n<=2->(∀z∈zs,gj z)->
  ∃BG a',I2 (n:A) L a zs=D (L,a',BG)/\BG.length=zs.length+n/\(∀z∈BG,gj z)/\dg L a'
 |0,a,zs,hd,_,hz=>by
  rw[Yf];simp only[j2O];rw[an aa,j7,aW];exact⟨zs,a,rfl,rfl,hz,hd⟩
 |n+1,a,zs,hd,hl,hz=>by
  obtain⟨o,rs,a1,e1,m1,d1⟩:=jE4 hd (K [(G #[104,101,114,101]),(G #[116,104,101,114,101])] zs.length E)
  obtain⟨BG,a',e2,h2,h3,h4⟩:=_F n a1 (zs++[(K [(G #[104,101,114,101]),(G #[116,104,101,114,101])] zs.length E,(o,rs))]) d1 az (λz hz'=>by
   rcases jm.1 hz' with h|h
   .exact hz z h
   .simp at h;subst h;exact m1)
  rw[Yf];simp only[j2O,show J (F zs)=(zs.length:A) from rfl];rw[ag aa,bU (show (0:A)<=(zs.length:A) by omega) az];simp only[j6,j8,e1,j4];rw[ag (by simp[aG];omega),ar (x:=((n+1:H):A)-1)];simp only[j6,aS];rw[show ((n+1:H):A)-1=(n:A) by omega];exact⟨BG,a',e2,by rw[h2];simp;omega,h3,h4⟩
theorem jBO:∃l,jfe=D l/\4<=l.length:=⟨_,rfl,ae⟩
theorem RN{L:B A}{zs:B bH}(oK:1<=zs.length)(xr:zs.length<=100):∀(n:H)(a:A)(ps:B dr),dg L a->ps.length+n<=4->(∀p∈ps,p.2.2.1.length<=3)->
  ∃AA a',I3 (n:A) L a zs ps=D (L,a',zs,AA)/\AA.length=ps.length+n/\(∀p∈AA,p.2.2.1.length<=3)/\dg L a'
 |0,a,ps,hd,_,hw=>by
  rw[Yg];simp only[j2P];rw[an aa,j7,aW];exact⟨ps,a,rfl,rfl,hw,hd⟩
 |n+1,a,ps,hd,hl,hw=>by
  obtain⟨nl,en,BX⟩:=jBO;obtain⟨x,a1,e1,x0,x1,d1⟩:=dT (n:=(zs.length:A)) hd aa aa;obtain⟨b,a2,e2,d2⟩:=vH (n:=3) d1 aa aa;obtain⟨c,a3,e3,d3⟩:=vH (n:=2) d2 aa aa;rw[Yg];simp only[j2P,en,j4,show J (F ps)=(ps.length:A) from rfl,show J (F zs)=(zs.length:A) from rfl];rw[ag aa,bU (show (0:A)<=(ps.length:A) by omega) aa];simp only[j6,e1,e2,e3,j4];rw[ar (x:=((n+1:H):A)-1),show ((n+1:H):A)-1=(n:A) by omega];cases c with
  |true=>
   obtain⟨w,a4,e4,_,_G,d4⟩:=RM d3;obtain⟨p,a5,e5,_,d5⟩:=pQ d4 (xs:=[(0:A),(40:A),(100:A),(12:A)]) ae ae;obtain⟨q,a6,e6,_,d6⟩:=pQ d5 (xs:=[(0:A),(11:A),(24:A),(1:A)]) ae ae;simp only[j6,e4,e5,e6,j4];rw[ag (by simp[aG];omega)];simp only[j6,aS]
   obtain⟨AA,a',e,h1,h2⟩:=RN oK xr n a6 (ps++[(K nl (S (ps.length:A)) E,(x,(w,(w64 (3600*p),(w64 (3600*q),b)))))]) d6 az (λp hp=>by
    rcases jm.1 hp with hp|hp
    .exact hw p hp
    .rw[ki.1 hp];first|exact _G|simp)
   exact⟨AA,a',e,by rw[h1];simp;omega,h2⟩
  |false=>
   obtain⟨p,a5,e5,_,d5⟩:=pQ d3 (xs:=[(0:A),(40:A),(100:A),(12:A)]) ae ae;obtain⟨q,a6,e6,_,d6⟩:=pQ d5 (xs:=[(0:A),(11:A),(24:A),(1:A)]) ae ae;simp only[j7,e5,e6,j4];rw[ag (by simp[aG];omega)];simp only[j6,aS]
   obtain⟨AA,a',e,h1,h2⟩:=RN oK xr n a6 (ps++[(K nl (S (ps.length:A)) E,(x,(([]:WL),(w64 (3600*p),(w64 (3600*q),b)))))]) d6 az (λp hp=>by
    rcases jm.1 hp with hp|hp
    .exact hw p hp
    .rw[ki.1 hp];first|exact _G|simp)
   exact⟨AA,a',e,by rw[h1];simp;omega,h2⟩
theorem _H{L:B A}{s:A}{nm:I}{z:A}{zs:B bH}{ps:B dr}{cs:B bd}:∀(n:H)(a day:A)(ds:B A),dg L a->ds.length+n<=4->
  ∃ds' a',I4 s (n:A) day L a nm z zs ps cs ds=D (s,L,a',nm,z,zs,ps,cs,ds')/\dg L a'
 |0,a,day,ds,hd,_=>by
  rw[Yh];simp only[j2Q];rw[an aa,j7,aW];exact⟨ds,a,rfl,hd⟩
 |n+1,a,day,ds,hd,hl=>by
  obtain⟨x,a1,e1,x0,x1,d1⟩:=dT (n:=6) hd aa aa;rw[Yh];simp only[j2Q];rw[ag aa,ar (x:=((n+1:H):A)-1),show ((n+1:H):A)-1=(n:A) by omega];simp only[j6,e1,j4];rw[ag (by simp[aG];omega)];simp only[j6,aS];exact _H n a1 _ _ d1 az
theorem _I{L:B A}{zs:B bH}{ps:B dr}(oK:1<=zs.length)(xr:zs.length<=100):∀(n:H)(a:A)(cs:B bd),dg L a->cs.length+n<=4->
  ∃mO a',I5 (n:A) L a zs ps cs=D (L,a',zs,ps,mO)/\mO.length=cs.length+n/\dg L a'
 |0,a,cs,hd,_=>by
  rw[Yi];simp only[j2R];rw[an aa,j7,aW];exact⟨cs,a,rfl,rfl,hd⟩
 |n+1,a,cs,hd,hl=>by
  obtain⟨x,a1,e1,x0,x1,d1⟩:=dT (n:=(zs.length:A)) hd aa aa;obtain⟨y,a2,e2,y0,y1,d2⟩:=dT (n:=4) d1 aa aa;obtain⟨ds,a3,e3,d3⟩:=_H (s:=((n+1:H):A)) (nm:=G #[100,97,121,115]) (z:=x) (zs:=zs) (ps:=ps) (cs:=cs) y.toNat a2 20454 [] d2 az;rw[show ((y.toNat:H):A)=y by omega]at e3;rw[Yi];simp only[j2R,show J (F zs)=(zs.length:A) from rfl];rw[ag aa];simp only[j6,e1,e2,e3,j4];rw[ag (by simp[aG];omega),ar (x:=((n+1:H):A)-1),show ((n+1:H):A)-1=(n:A) by omega];simp only[j6,aS];obtain⟨mO,a',e,h1,h2⟩:=_I (ps:=ps) oK xr n a3 (cs++[(G #[100,97,121,115],(x,ds))]) d3 az;exact⟨mO,a',e,by rw[h1];simp;omega,h2⟩
structure sG(zs:B bH)(ps:B dr)(cs:B bd):Prop where
 z0:1<=zs.length
 z1:zs.length<=2
 ok:∀z∈zs,gj z
 p0:1<=ps.length
 p1:ps.length<=4
 c1:cs.length<=1
 pw:∀p∈ps,p.2.2.1.length<=3
theorem jBP{L:B A}{a:A}(h:dg L a):∃zs ps cs a',j9N L a=D ((zs,(ps,(cs,([]:B cN)))),L,a')/\sG zs ps cs/\dg L a':=by
 obtain⟨x,a1,e1,x0,x1,d1⟩:=dT (n:=2) h aa aa;obtain⟨zs,a2,e2,l2,k2,d2⟩:=_F (1+x).toNat a1 [] d1 az ae;obtain⟨y,a3,e3,y0,y1,d3⟩:=dT (n:=4) d2 aa aa;simp at l2;obtain⟨ps,a4,e4,l4,w4,d4⟩:=RN (zs:=zs) aa aa (1+y).toNat a3 [] d3 az ae;obtain⟨q,a5,e5,q0,q1,d5⟩:=dT (n:=2) d4 aa aa;obtain⟨cs,a6,e6,l6,d6⟩:=_I (zs:=zs) (ps:=ps) aa aa q.toNat a5 [] d5 az;simp at l4 l6;rw[show (((1+x).toNat:H):A)=1+x by omega]at e2;rw[show (((1+y).toNat:H):A)=1+y by omega]at e4;rw[show ((q.toNat:H):A)=q by omega]at e6;simp only[j9N,e1,j4];rw[ar (x:=1+x)];simp only[e2,e3,j4];rw[ar (x:=1+y)];simp only[e4,e5,e6,j4];exact⟨zs,ps,cs,a6,rfl,⟨aa,aa,k2,aa,aa,aa,w4⟩,d6⟩
structure KF(l:bA):Prop where
 d0:20452<=l.2.2.1.1
 d1:l.2.2.1.1<=20457
 c0:0<=l.2.2.1.2
 c1:l.2.2.1.2<=79200
 u0:0<=l.2.2.2.1
 u1:l.2.2.2.1<=2
 e0:1<=l.2.2.2.2.1
 e1:l.2.2.2.2.1<=49
 e2:l.2.2.2.1≠0->l.2.2.2.2.1<=2
 m0:1<=l.2.2.2.2.2.1.length
 m1:l.2.2.2.2.2.1.length<=3
 w3:l.2.2.2.2.2.2.1.length<=3
theorem RO{L:B A}{zs:B bH}{ps:B dr}{cs:B bd}{ss:B cN}(kN:1<=ps.length)(rh:ps.length<=100){x0 y0:I}{x1 x2 x3 x4 x5 x6 x7 y1 y2 y3 y4 y5 y6 y7:A}:∀(n:H)(a:A)(ms:B A),dg L a->ms.length+n<=4->
  ∃KG a',Ft (n:A) L a zs ps cs ss x0 x1 x2 x3 x4 x5 x6 x7 y0 y1 y2 y3 y4 y5 y6 y7 ms=D (L,a',zs,ps,cs,ss,x0,x1,x2,x3,x4,x5,x6,x7,y0,y1,y2,y3,y4,y5,y6,y7,KG)/\KG.length=ms.length+n/\dg L a'
 |0,a,ms,hd,_=>by
  rw[Yj];simp only[j2S];rw[an aa,j7,aW];exact⟨ms,a,rfl,rfl,hd⟩
 |n+1,a,ms,hd,hl=>by
  obtain⟨x,a1,e1,_,_,d1⟩:=dT (n:=(ps.length:A)) hd aa aa;rw[Yj];simp only[j2S,show J (F ps)=(ps.length:A) from rfl];rw[ag aa,ar (x:=((n+1:H):A)-1),show ((n+1:H):A)-1=(n:A) by omega];simp only[j6,e1,j4];rw[ag (by simp[aG];omega)];simp only[j6,aS];obtain⟨KG,a',e,h1,h2⟩:=RO (zs:=zs) (cs:=cs) (ss:=ss) kN rh (x0:=x0) (x1:=x1) (x2:=x2) (x3:=x3) (x4:=x4) (x5:=x5) (x6:=x6) (x7:=x7) (y0:=y0) (y1:=y1) (y2:=y2) (y3:=y3) (y4:=y4) (y5:=y5) (y6:=y6) (y7:=y7) n a1 (ms++[x]) d1 az;exact⟨KG,a',e,by rw[h1];simp;omega,h2⟩
theorem jBQ{L:B A}{a:A}(h:dg L a){zs:B bH}{ps:B dr}{cs:B bd}{ss:B cN}(hs:sG zs ps cs)(nm:I) :
  ∃l a',j9O L a (zs,(ps,(cs,ss))) nm=D (l,L,a')/\KF l/\0<=l.2.1/\l.2.1<(zs.length:A)/\dg L a':=by
 have oK:=hs.z0;have xr:=hs.z1;have kN:=hs.p0;have rh:=hs.p1;have eU:=hs.c1;obtain⟨z,a1,e1,z0,z1,d1⟩:=dT (n:=(zs.length:A)) h aa aa;obtain⟨x,a2,e2,x0,x1,d2⟩:=dT (n:=6) d1 aa aa;obtain⟨s,a3,e3,m3,d3⟩:=pQ d2 (xs:=[(0:A),(32400:A),(7200:A),(9000:A),(79200:A),(1:A)]) ae ae;obtain⟨u,a4,e4,u0,u1,d4⟩:=dT (n:=3) d3 aa aa;obtain⟨v,a5,e5,v0,v1,d5⟩:=dT (n:=2) d4 aa aa;have eE:0<=s/\s<=79200:=by simp at m3;omega
 simp only[j9O,show J (F zs)=(zs.length:A) from rfl,e1,e2,e3,e4,e5,j4];rw[ar (x:=20454+x),ar (x:=20454+x-2),ar (x:=1+v)]
 have fin:∀(ev a6:A),dg L a6->1<=ev->ev<=49->(u≠0->ev<=2)->∀ms:B A,1<=ms.length->ms.length<=3->∀(w:WL),w.length<=3->∀(c m:A)(a':A),dg L a'->∃l Gg,D ((nm,(z,((20454+x-2,s),(u,(ev,(ms,(w,(c,m)))))))),L,a')=D (l,L,Gg)/\KF l/\0<=l.2.1/\l.2.1<(zs.length:A)/\dg L Gg:=
  λev a6 _ h1 h2 h3 ms h4 h5 w hw c m a' hd=>⟨_,_,rfl,⟨by dsimp only;omega,by dsimp only;omega,eE.1,eE.2,u0,by dsimp only;omega,h1,h2,h3,h4,h5,hw⟩,z0,z1,hd⟩
 by_cases hu:u=0
 .rw[dI hu,j6];obtain⟨ev,a6,e6,m6,d6⟩:=pQ d5 (xs:=[(6:A),(8:A),(12:A),(24:A),(23:A),(49:A)]) ae ae;have nC:1<=ev/\ev<=49:=by simp at m6;omega
  obtain⟨n,a7,e7,n0,n1,d7⟩:=dT (n:=3) d6 aa aa;obtain⟨ms,a8,e8,l8,d8⟩:=RO (L:=L) (zs:=zs) (ps:=ps) (cs:=cs) (ss:=ss) kN aa (x0:=E) (x1:=0) (x2:=0) (x3:=0) (x4:=0) (x5:=0) (x6:=0) (x7:=0) (y0:=nm) (y1:=z) (y2:=20454+x-2) (y3:=s) (y4:=u) (y5:=ev) (y6:=0) (y7:=0) (1+n).toNat a7 [] d7 az;rw[show (((1+n).toNat:H):A)=1+n by omega]at e8;simp at l8;obtain⟨b,a9,e9,d9⟩:=vH (n:=2) d8 aa aa;simp only[e6,e7,j4];rw[ar (x:=1+n)];simp only[e8,e9,j4,show J (F cs)=(cs.length:A) from rfl];cases b with
  |true=>
   obtain⟨w,a10,RP,_,hw,d10⟩:=RM d9;obtain⟨c,RQ,AB,d11⟩:=vH (n:=4) d10 aa aa;simp only[j6,RP,AB,j4];by_cases kC:c=N/\(cs.length:A)>0
   .obtain⟨i,a12,uZ,_,_,d12⟩:=dT (n:=(cs.length:A)) d11 aa aa;obtain⟨j,RR,AD,_,_,d13⟩:=dT (n:=2) d12 aa aa;rw[kC.1,ag kC.2];simp only[j6,uZ,AD,j4];exact fin ev a6 d6 nC.1 nC.2 (λh=>absurd hu h) ms aa aa _ hw _ _ _ d13
   .have gT:cond c (decide ((cs.length:A)>0)) R=false:=by
     cases c with
     |true=>exact an (λh=>kC ⟨rfl,h⟩)
     |false=>rfl
    rw[gT];simp only[j7];exact fin ev a6 d6 nC.1 nC.2 (λh=>absurd hu h) ms aa aa _ hw _ _ _ d11
  |false=>
   obtain⟨c,RQ,AB,d11⟩:=vH (n:=4) d9 aa aa;simp only[j7,AB,j4];by_cases kC:c=N/\(cs.length:A)>0
   .obtain⟨i,a12,uZ,_,_,d12⟩:=dT (n:=(cs.length:A)) d11 aa aa;obtain⟨j,RR,AD,_,_,d13⟩:=dT (n:=2) d12 aa aa;rw[kC.1,ag kC.2];simp only[j6,uZ,AD,j4];exact fin ev a6 d6 nC.1 nC.2 (λh=>absurd hu h) ms aa aa _ ae _ _ _ d13
   .have gT:cond c (decide ((cs.length:A)>0)) R=false:=by
     cases c with
     |true=>exact an (λh=>kC ⟨rfl,h⟩)
     |false=>rfl
    rw[gT];simp only[j7];exact fin ev a6 d6 nC.1 nC.2 (λh=>absurd hu h) ms aa aa _ ae _ _ _ d11
 .rw[cG hu,j7];obtain⟨n,a7,e7,n0,n1,d7⟩:=dT (n:=3) d5 aa aa;obtain⟨ms,a8,e8,l8,d8⟩:=RO (L:=L) (zs:=zs) (ps:=ps) (cs:=cs) (ss:=ss) kN aa (x0:=E) (x1:=0) (x2:=0) (x3:=0) (x4:=0) (x5:=0) (x6:=0) (x7:=0) (y0:=nm) (y1:=z) (y2:=20454+x-2) (y3:=s) (y4:=u) (y5:=1+v) (y6:=0) (y7:=0) (1+n).toNat a7 [] d7 az;rw[show (((1+n).toNat:H):A)=1+n by omega]at e8;simp at l8;obtain⟨b,a9,e9,d9⟩:=vH (n:=2) d8 aa aa;simp only[e7,j4];rw[ar (x:=1+n)];simp only[e8,e9,j4,show J (F cs)=(cs.length:A) from rfl];cases b with
  |true=>
   obtain⟨w,a10,RP,_,hw,d10⟩:=RM d9;obtain⟨c,RQ,AB,d11⟩:=vH (n:=4) d10 aa aa;simp only[j6,RP,AB,j4];by_cases kC:c=N/\(cs.length:A)>0
   .obtain⟨i,a12,uZ,_,_,d12⟩:=dT (n:=(cs.length:A)) d11 aa aa;obtain⟨j,RR,AD,_,_,d13⟩:=dT (n:=2) d12 aa aa;rw[kC.1,ag kC.2];simp only[j6,uZ,AD,j4];exact fin (1+v) a5 d5 aa aa aa ms aa aa _ hw _ _ _ d13
   .have gT:cond c (decide ((cs.length:A)>0)) R=false:=by
     cases c with
     |true=>exact an (λh=>kC ⟨rfl,h⟩)
     |false=>rfl
    rw[gT];simp only[j7];exact fin (1+v) a5 d5 aa aa aa ms aa aa _ hw _ _ _ d11
  |false=>
   obtain⟨c,RQ,AB,d11⟩:=vH (n:=4) d9 aa aa;simp only[j7,AB,j4];by_cases kC:c=N/\(cs.length:A)>0
   .obtain⟨i,a12,uZ,_,_,d12⟩:=dT (n:=(cs.length:A)) d11 aa aa;obtain⟨j,RR,AD,_,_,d13⟩:=dT (n:=2) d12 aa aa;rw[kC.1,ag kC.2];simp only[j6,uZ,AD,j4];exact fin (1+v) a5 d5 aa aa aa ms aa aa _ ae _ _ _ d13
   .have gT:cond c (decide ((cs.length:A)>0)) R=false:=by
     cases c with
     |true=>exact an (λh=>kC ⟨rfl,h⟩)
     |false=>rfl
    rw[gT];simp only[j7];exact fin (1+v) a5 d5 aa aa aa ms aa aa _ ae _ _ _ d11
abbrev cO:=A×(A×(A×(A×A)))
abbrev fP:=B bH×(B dr×(B bd×B cN))
structure ZCk(z:bH):Prop where
 ck:jf8 z=D 0
 o60:W z.2.1 60=0
 r60:∀r∈z.2.2,W r.2.2.2.2.2.2 60=0
 len:z.2.2.length<=1000
structure PCk(nz:H)(p:dr):Prop where
 nb:(M p.1==M (G #[110,111,98,111,100,121]))=R
 z0:0<=p.2.1
 z1:p.2.1<nz
 w:gO 0 p.2.2.1
 wl:p.2.2.1.length<=14
 m:j6i p.2.2.2.1=D N
 r:j6i p.2.2.2.2.1=D N
structure qP(nz:H)(c:bd):Prop where
 z0:0<=c.2.1
 z1:c.2.1<nz
 len:c.2.2.length<=64
 day:∀d∈c.2.2,j1g d=D N
 asc:c.2.2.Pairwise (· < ·)
structure LCk(nz np nc:H)(l:bA):Prop where
 z0:0<=l.2.1
 z1:l.2.1<nz
 d0:1<=l.2.2.1.1
 day:j1g l.2.2.1.1=D N
 c0:0<=l.2.2.1.2
 c1:l.2.2.1.2<=86399
 u0:0<=l.2.2.2.1
 u1:l.2.2.2.1<=2
 e0:1<=l.2.2.2.2.1
 e1:l.2.2.2.2.1<=400
 m0:l.2.2.2.2.2.1.length≠0
 m1:l.2.2.2.2.2.1.length<=12
 mem:∀m∈l.2.2.2.2.2.1,0<=m/\m<(np:A)
 w:gO 0 l.2.2.2.2.2.2.1
 wl:l.2.2.2.2.2.2.1.length<=14
 mode0:0<=l.2.2.2.2.2.2.2.2
 mode1:l.2.2.2.2.2.2.2.2<=2
 cal:l.2.2.2.2.2.2.2.2≠0->0<=l.2.2.2.2.2.2.2.1/\l.2.2.2.2.2.2.2.1<(nc:A)
 RS:l.2.2.2.2.2.2.2.2=0->l.2.2.2.2.2.2.2.1=0
 w3:l.2.2.2.2.2.2.1.length<=3
 h6:l.2.2.2.1=0->6<=l.2.2.2.2.1
structure ECk(np:H)(x:cO):Prop where
 k0:0<=x.1
 k1:x.1<=2
 a:0<=x.2.1/\x.2.1<(np:A)\/x.1=1/\x.2.1 = -1
 b:x.1=2->0<=x.2.2.1/\x.2.2.1<(np:A)/\x.2.1≠x.2.2.1
 b0:x.1≠2->x.2.2.1=0
 f0:0<=x.2.2.2.1
 ft:x.2.2.2.1<x.2.2.2.2
 t1:x.2.2.2.2<=1000000000000
 day:j1g (Int.tdiv x.2.2.2.2 86400)=D N
structure SCk(nz np nc:H)(s:cN):Prop where
 nm:F9 (s.2.1.map (·.1))
 ly:∀x∈s.2.1,LCk nz np nc x
 ll:s.2.1.length<=6
 ed:∀x∈s.2.2,ECk np x
 el:s.2.2.length<=48
structure jGY(c:fP):Prop where
 zn:F9 (c.1.map (·.1))
 zc:∀z∈c.1,ZCk z
 zl:c.1.length<=16
 pn:F9 (c.2.1.map (·.1))
 pc:∀p∈c.2.1,PCk c.1.length p
 pl:c.2.1.length<=32
 cn:F9 (c.2.2.1.map (·.1))
 cc:∀x∈c.2.2.1,qP c.1.length x
 cl:c.2.2.1.length<=8
 sn:F9 (c.2.2.2.map (·.1))
 sc:∀x∈c.2.2.2,SCk c.1.length c.2.1.length c.2.2.1.length x
 sl:c.2.2.2.length<=12
structure nG(o:A)(l:bh)(s t:A)(k:H):Prop where
 hk:k<=l.length
 hks:s-bm o l k<aX l (k+1)
 bef:∀j,j<k->aX l (j+1)<=s-bm o l j
 ht:t=max (aX l k) (s-bm o l k)
def RT(o:A)(l:bh):Prop:=∀i,i<l.length -> -86400<bm o l (i+1)-bm o l i/\bm o l (i+1)-bm o l i<86400
section
variable{o:A}{l:bh}(h:iF o l)
include h
theorem nG.piece{s t:A}{k:H}(f:nG o l s t k):aX l k<=t/\t<aX l (k+1)/\s<=t+bm o l k:=by
 have h1:=h.frm_lt f.hk;have h2:=f.hks;have h3:=f.ht;omega
theorem nG.up{s s' t t':A}{k k':H}(hd:RT o l)(hs:200000<s)(he:s+86400<=s')(f:nG o l s t k)(g:nG o l s' t' k'):t<t':=by
 obtain⟨p1,p2,p3⟩:=f.piece h;obtain⟨q1,q2,q3⟩:=g.piece h;have g1:=g.hks;have g2:=g.ht;have f2:=f.ht;have CI:=f.hk;have hkN':=g.hk;rcases v8 k k' with aq|heq|CJ
 .have m1:=h.frm_le (i:=k+1) (j:=k') aa aa;omega
 .subst heq;by_cases h0:k=0
  .subst h0;have e0:aX l 0=0:=mi;have o1:=h.of1 0 aa;omega
  .obtain⟨j,rfl⟩:∃j,k=j+1:=⟨k-1,aa⟩;have b:=f.bef j aa;have d:=hd j aa;omega
 .have:=f.bef k' CJ;omega
end
noncomputable def Gj(o:A)(l:bh)(s:A):Int:=open Classical in if h:∃t k,nG o l s t k then Classical.choose h else 0
def dG(L:bA):Int:=if L.2.2.2.1=2 then 7*L.2.2.2.2.1 else L.2.2.2.2.1
def dx(L:bA)(k:A):Int:=(L.2.2.1.1+k*dG L)*86400+L.2.2.1.2
noncomputable def BA(o:A)(l:bh)(L:bA)(k:A):Int:=if L.2.2.2.1=0 then Gj o l (dx L 0)+3600*L.2.2.2.2.1*k else Gj o l (dx L k)
structure LR(L:bA):Prop where
 d0:100<=L.2.2.1.1
 d1:L.2.2.1.1<=30000
 c0:0<=L.2.2.1.2
 c1:L.2.2.1.2<=86399
 u0:0<=L.2.2.2.1
 u1:L.2.2.2.1<=2
 e0:1<=L.2.2.2.2.1
 e1:L.2.2.2.2.1<=49
 m0:1<=L.2.2.2.2.2.1.length
 m1:L.2.2.2.2.2.1.length<=1000
theorem KF.lr{L:bA}(h:KF L):LR L:=⟨by have:=h.d0;omega,by have:=h.d1;omega,h.c0,by have:=h.c1;omega,h.u0,h.u1,h.e0,h.e1,h.m0,by have:=h.m1;omega⟩
theorem LR.step{L:bA}(h:LR L):1<=dG L/\dG L<=343:=by
 have:=h.e0;have:=h.e1;unfold dG;split<;>omega
section
variable{o:A}{l:bh}(h:iF o l)
include h
end
theorem jvd(y:A):j1C y=D (vE y):=_i y
theorem KH(y m:A):jfR y m=D (fa y m):=by
 by_cases h:m<1\/12<m
 .have hk:∀k:A,1<=k->k<=12->(m==k)=false:=λk h1 h2=>cG aa;have:fa y m=0:=if_pos h;rw[this]
  simp only[jfR,hk 1 aa aa,hk 2 aa aa,hk 3 aa aa,hk 4 aa aa,hk 5 aa aa,hk 6 aa aa,hk 7 aa aa,
   hk 8 aa aa,hk 9 aa aa,hk 10 aa aa,hk 11 aa aa,hk 12 aa aa,j7]
 .obtain rfl|rfl|rfl|rfl|rfl|rfl|rfl|rfl|rfl|rfl|rfl|rfl:m=1\/m=2\/m=3\/m=4\/m=5\/m=6\/m=7\/m=8\/m=9\/m=10\/m=11\/m=12:=aa
  case inr.inl=>have e:jfR y 2=(j1C y).bind λr=>cond r (D (29:A)) (D (28:A)):=rfl;rw[e,jvd,fa,_g];simp only[j4];cases vE y<;>rfl
  all_goals rfl
theorem jts(y m d:A):jkc (y,m,d)=D (decide (qO y m d)):=by
 simp only[jkc,KH,j4];by_cases hv:qO y m d
 .have hm:=Ge hv;have gC:=hv;obtain⟨a1,a2,a3,a4⟩:=hv;rw[ag (show y>=1970 from a1),ag a2,ag (show m>=1 from hm.1),ag hm.2,ag (show d>=1 from a3),ag a4,ag gC];rfl
 .rw[an hv];by_cases a1:y>=1970
  .by_cases a2:y<=2240
   .by_cases a3:m>=1
    .by_cases a4:m<=12
     .by_cases a5:d>=1
      .rw[ag a1,ag a2,ag a3,ag a4,ag a5,an (show¬d<=fa y m fromλh=>hv ⟨a1,a2,a5,h⟩)];rfl
      .rw[ag a1,ag a2,ag a3,ag a4,an a5];rfl
     .rw[ag a1,ag a2,ag a3,an a4];rfl
    .rw[ag a1,ag a2,an a3];rfl
   .rw[ag a1,an a2];rfl
  .rw[an a1];rfl
theorem jve(y:A)(h1:1969<=y)(h2:y<=1000000000):jkd y=D (dN y):=by
 simp only[jkd];rw[ar (x:=y-1970),ar (x:=y-1969),ar (x:=y-1901),ar (x:=y-1601)];rw[vC (show 0<=y-1969 by omega),vC (show 0<=y-1901 by omega),vC (show 0<=y-1601 by omega)];simp (disch:=omega) only[gX];congr 1;unfold dN;omega
theorem _J(y m d:A)(hm:m<=13):∀(n:H)(s k:A),1<=k->k+n=m -> -1000000000000<=s->s+31*n<=1000000000000->Jc s k y m d=D (s+dB y m-dB y k,y,m,d)
 |0,s,k,hk,hn,_,_=>by
  rw[Yp];have:k=m:=aa;subst this;simp only[j7r,an (show¬k<k by omega),j7,aW];congr 2;omega
 |n+1,s,k,hk,hn,h1,h2=>by
  rw[Yp];have hd:=nF y k;have hc:=Au y k hk aa;simp only[j7r,KH,j4,ag (show k<m by omega),j6,aS];rw[ar (x:=s+fa y k),ar (x:=k+1)];rw[_J y m d hm n (s+fa y k) (k+1) aa aa aa aa];congr 2;omega
theorem gH{y m d:A}(hv:qO y m d):jqN (y,m,d)=D (num y m d,0):=by
 have hm:=Ge hv;have hd:=nF y m;have hb : -1000000000<=dN y/\dN y<=1000000000:=by have:=hv.1;have:=hv.2.1;unfold dN;omega
 have hc:=Av y m;obtain⟨h1,h2,h3,h4⟩:=id hv;simp only[jqN,jts,ag hv,j4,jc,j7,jve y aa aa,_J y m d aa (m-1).toNat (dN y) 1 aa aa aa aa];have:dB y 1=0:=rfl;rw[ar (x:=dN y+dB y m-dB y 1+d),ar];unfold num;congr 2;omega
theorem _K(d:A):jcW d=j6g d:=rfl
theorem _L(y m k w n e:A)(iE:0<=n)(om:n<=1000000)(RU:e<=6)(KI:(n+e+3)%7=w) :
  ∀(j:H)(s:A),0<=s->s+j=e->Jd y m k w n (n+s)=D (y,m,k,n,n+e)
 |0,s,hs,hj=>by
  rw[Yq];have:s=e:=aa;subst this;have hb:((n+s+3)%7 != w)=false:=by simp[KI]
  simp only[j7s,_K,Kz (n+s) aa,j4,hb,j7,aW]
 |j+1,s,hs,hj=>by
  rw[Yq];have hb:((n+s+3)%7 != w)=true:=by simp only[bne_iff_ne,ne_eq];omega
  simp only[j7s,_K,Kz (n+s) aa,j4,hb,j6,aS];rw[ar (x:=n+s+1),show n+s+1=n+(s+1) by omega];exact _L y m k w n e iE om RU KI j (s+1) aa aa
theorem RW(y m n t:A)(iE:0<=n)(om:n<=1000000)(ht1:t<n+fa y m)(ht2:n+fa y m<=t+7)(oX : -1000<=t) :
  ∀(j:H)(s:A),s+7*j=t -> -1000<=s->Jf y m n s=D t
 |0,s,hs,_=>by
  have hd:=nF y m;rw[Yr];have:s=t:=aa;subst this;simp only[j7t,KH,j4];rw[ar (x:=s+7),ar (x:=n+fa y m),an (show¬s+7<n+fa y m by omega),j7,aW]
 |j+1,s,hs,h1=>by
  have hd:=nF y m;rw[Yr];simp only[j7t,KH,j4];rw[ar (x:=s+7),ar (x:=n+fa y m),ag (show s+7<n+fa y m by omega),j6,aS];exact RW y m n t iE om ht1 ht2 oX j (s+7) aa aa
theorem gI(y m k w:A)(h1:1970<=y)(h2:y<=2240)(ic:1<=m)(ie:m<=12)(dj:1<=k)(fp:k<=5)(Mb:0<=w)(hw2:w<=6):jqO y m k w=D (nth y m k w,0):=by
 have hv:=CH y m h1 h2 ic ie;have hr:=Aw hv;have hd:=Gc y m ic ie;have iC:=nF y m;simp only[jqO,gH hv,j4,jf];rw[an (show¬k<1 by omega),an (show¬k>5 by omega),an (show¬w<0 by omega),an (show¬w>6 by omega)];simp only[j7];unfold nth;generalize num y m 1=n at *;obtain⟨e,pO,RU,KI,El⟩:∃e,0<=e/\e<=6/\(n+e+3)%7=w/\n+(w-(n+3)%7+7)%7=n+e:=⟨(w-(n+3)%7+7)%7,aa,aa,aa,rfl⟩;rw[El];have hl:=_L y m k w n e hr.1 aa RU KI e.toNat 0 aa aa;rw[Int.add_zero]at hl;simp only[hl,j4];by_cases hk:k<5
 .rw[ag hk,j6,ar (x:=k-1),ar (x:=7*(k-1)),ar,if_neg aa]
 .have pI:k=5:=aa;subst pI;rw[an hk,j7];by_cases hc:n+e+7*(5-1)>=n+fa y m
  .rw[RW y m n (n+e+21) hr.1 aa aa aa aa 3 (n+e) aa aa,if_pos hc];simp only[j4];congr 2;omega
  .rw[RW y m n (n+e+28) hr.1 aa aa aa aa 4 (n+e) aa aa,if_neg hc];simp only[j4];congr 2
theorem _M{x y:A×A}:∀{l:bh},y∈kS x l->y=x\/y∈l
 |[],h=>by simp[kS]at h;exact .inl h
 |z::zs,h=>by
  unfold kS at h;split at h
  .rcases je.1 h with rfl|h
   .exact .inr ae
   .rcases _M h with h|h
    .exact .inl h
    .exact .inr (by simp[h])
  .rcases je.1 h with rfl|h
   .exact .inl rfl
   .exact .inr h
theorem _N{y:A×A}:∀{l acc:bh},y∈kT l acc->y∈l\/y∈acc
 |[],_,h=> .inr h
 |x::xs,acc,h=>by
  rcases _N (l:=xs) h with h|h
  .exact .inl (by simp[h])
  .rcases _M h with rfl|h
   .exact .inl ae
   .exact .inr h
theorem _O{y:A×A}{l:bh}(h:y∈dM l):y∈l:=by
 rcases _N (List.mem_reverse.1 h) with h|h
 .exact h
 .simp at h
theorem _P{x:A×A}{l:B aL}(h:x∈occs l):∃r∈l,∃j:H,(j:A)<=r.2.1-r.1/\x=cQ r (r.1+(j:A)):=by
 obtain⟨r,hr,hx⟩:=q8.1 h;obtain⟨i,hi,rfl⟩:=jx.1 hx;have hi:=List.mem_range.1 hi;exact⟨r,hr,i,aa,rfl⟩
end Go.Proofs.Pw
