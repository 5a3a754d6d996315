/- The X7 and the rW that the dice make. -/
import Derived.Test.YtllkgjaoejhneaaGreatSEPB
import Derived.Test.YtllkgjaoejhneaaGreatSEPA
open _root_ renaming Int->A,List->B,Nat->H,ByteArray->I
open Option renaming some->D
open ByteArray renaming empty->E,mk->G,toList->M
open List renaming length->F,getD->K
open Int renaming ofNat->J,toNat->S,tmod->W
open Bool renaming true->N,false->R
open Go Go.Lft
namespace Go.Proofs.Pw
abbrev bS:=I×(A×B aH)
abbrev eu:=I×(A×(WL×(A×(A×Bool))))
abbrev bq:=I×(A×B A)
abbrev bC:=I×(A×((A×A)×(A×(A×(B A×(WL×(A×A)))))))
abbrev dC:=I×(B bC×B (A×(A×(A×(A×A)))))
def fR(z:bS):Prop:=MZ z.2.1 z.2.2
theorem uD{L:B A}{a n:A}(h:di L a)(hn:1<=n)(xD:n<=1000000):∃b a',j1d L a n=D (b,L,a')/\di L a':=by
 obtain⟨x,a1,e1,x0,x1,d1⟩:=dH (n:=n) h aa aa;simp only[j1d,e1,ja];exact⟨_,_,rfl,d1⟩
theorem X8{L:B A}:∀(n:H)(a:A)(zs:B bS),di L a->zs.length+n<=2->(∀z∈zs,fR z)->
  ∃AY a',HI (n:A) L a zs=D (L,a',AY)/\AY.length=zs.length+n/\(∀z∈AY,fR z)/\di L a'
 |0,a,zs,hd,_,hz=>by
  rw[VQ];simp only[j2y];rw[ak aa,jd,ba];exact⟨zs,a,rfl,rfl,hz,hd⟩
 |n+1,a,zs,hd,hl,hz=>by
  obtain⟨o,rs,a1,e1,m1,d1⟩:=jAy hd (K [(G #[104,101,114,101]),(G #[116,104,101,114,101])] zs.length E)
  obtain⟨AY,a',e2,h2,h3,h4⟩:=X8 n a1 (zs++[(K [(G #[104,101,114,101]),(G #[116,104,101,114,101])] zs.length E,(o,rs))]) d1 ay (λz Le=>by
   rcases js.1 Le with h|h
   .exact hz z h
   .simp at h;subst h;exact m1)
  rw[VQ];simp only[j2y,show J (F zs)=(zs.length:A) from rfl];rw[ah aa,cb (show (0:A)<=(zs.length:A) by omega) ay];simp only[jc,je,e1,ja];rw[ah (by simp[aF];omega),ar (x:=((n+1:H):A)-1)];simp only[jc,aV];rw[show ((n+1:H):A)-1=(n:A) by omega];exact⟨AY,a',e2,by rw[h2];simp;omega,h3,h4⟩
theorem jyl:∃l,jdD=D l/\4<=l.length:=⟨_,rfl,af⟩
theorem Qe{L:B A}{zs:B bS}(qU:1<=zs.length)(zU:zs.length<=100):∀(n:H)(a:A)(ps:B eu),di L a->ps.length+n<=4->
  ∃B9 a',HJ (n:A) L a zs ps=D (L,a',zs,B9)/\B9.length=ps.length+n/\di L a'
 |0,a,ps,hd,_=>by
  rw[VR];simp only[j2z];rw[ak aa,jd,ba];exact⟨ps,a,rfl,rfl,hd⟩
 |n+1,a,ps,hd,hl=>by
  obtain⟨nl,en,Bp⟩:=jyl;obtain⟨x,a1,e1,x0,x1,d1⟩:=dH (n:=(zs.length:A)) hd aa aa;obtain⟨b,a2,e2,d2⟩:=uD (n:=3) d1 aa aa;obtain⟨c,a3,e3,d3⟩:=uD (n:=2) d2 aa aa;rw[VR];simp only[j2z,en,ja,show J (F ps)=(ps.length:A) from rfl,show J (F zs)=(zs.length:A) from rfl];rw[ah aa,cb (show (0:A)<=(ps.length:A) by omega) aa];simp only[jc,e1,e2,e3,ja];rw[ar (x:=((n+1:H):A)-1),show ((n+1:H):A)-1=(n:A) by omega];cases c with
  |true=>obtain⟨w,a4,e4,_,_,d4⟩:=Qd d3;obtain⟨p,a5,e5,_,d5⟩:=oY d4 (xs:=[(0:A),(40:A),(100:A),(12:A)]) af af;obtain⟨q,a6,e6,_,d6⟩:=oY d5 (xs:=[(0:A),(11:A),(24:A),(1:A)]) af af;simp only[jc,e4,e5,e6,ja];rw[ah (by simp[aF];omega)];simp only[jc,aV];obtain⟨B9,a',e,h1,h2⟩:=Qe qU zU n a6 (ps++[(K nl (S (ps.length:A)) E,(x,(w,(w64 (3600*p),(w64 (3600*q),b)))))]) d6 ay;exact⟨B9,a',e,by rw[h1];simp;omega,h2⟩
  |false=>obtain⟨p,a5,e5,_,d5⟩:=oY d3 (xs:=[(0:A),(40:A),(100:A),(12:A)]) af af;obtain⟨q,a6,e6,_,d6⟩:=oY d5 (xs:=[(0:A),(11:A),(24:A),(1:A)]) af af;simp only[jd,e5,e6,ja];rw[ah (by simp[aF];omega)];simp only[jc,aV];obtain⟨B9,a',e,h1,h2⟩:=Qe qU zU n a6 (ps++[(K nl (S (ps.length:A)) E,(x,(([]:WL),(w64 (3600*p),(w64 (3600*q),b)))))]) d6 ay;exact⟨B9,a',e,by rw[h1];simp;omega,h2⟩
theorem X9{L:B A}{s:A}{nm:I}{z:A}{zs:B bS}{ps:B eu}{cs:B bq}:∀(n:H)(a day:A)(ds:B A),di L a->ds.length+n<=4->
  ∃ds' a',HK s (n:A) day L a nm z zs ps cs ds=D (s,L,a',nm,z,zs,ps,cs,ds')/\di L a'
 |0,a,day,ds,hd,_=>by
  rw[VS];simp only[j2A];rw[ak aa,jd,ba];exact⟨ds,a,rfl,hd⟩
 |n+1,a,day,ds,hd,hl=>by
  obtain⟨x,a1,e1,x0,x1,d1⟩:=dH (n:=6) hd aa aa;rw[VS];simp only[j2A];rw[ah aa,ar (x:=((n+1:H):A)-1),show ((n+1:H):A)-1=(n:A) by omega];simp only[jc,e1,ja];rw[ah (by simp[aF];omega)];simp only[jc,aV];exact X9 n a1 _ _ d1 ay
theorem Ya{L:B A}{zs:B bS}{ps:B eu}(qU:1<=zs.length)(zU:zs.length<=100):∀(n:H)(a:A)(cs:B bq),di L a->cs.length+n<=4->
  ∃mc a',HM (n:A) L a zs ps cs=D (L,a',zs,ps,mc)/\mc.length=cs.length+n/\di L a'
 |0,a,cs,hd,_=>by
  rw[VT];simp only[j2B];rw[ak aa,jd,ba];exact⟨cs,a,rfl,rfl,hd⟩
 |n+1,a,cs,hd,hl=>by
  obtain⟨x,a1,e1,x0,x1,d1⟩:=dH (n:=(zs.length:A)) hd aa aa;obtain⟨y,a2,e2,y0,y1,d2⟩:=dH (n:=4) d1 aa aa;obtain⟨ds,a3,e3,d3⟩:=X9 (s:=((n+1:H):A)) (nm:=G #[100,97,121,115]) (z:=x) (zs:=zs) (ps:=ps) (cs:=cs) y.toNat a2 20454 [] d2 ay;rw[show ((y.toNat:H):A)=y by omega]at e3;rw[VT];simp only[j2B,show J (F zs)=(zs.length:A) from rfl];rw[ah aa];simp only[jc,e1,e2,e3,ja];rw[ah (by simp[aF];omega),ar (x:=((n+1:H):A)-1),show ((n+1:H):A)-1=(n:A) by omega];simp only[jc,aV];obtain⟨mc,a',e,h1,h2⟩:=Ya (ps:=ps) qU zU n a3 (cs++[(G #[100,97,121,115],(x,ds))]) d3 ay;exact⟨mc,a',e,by rw[h1];simp;omega,h2⟩
structure sU(zs:B bS)(ps:B eu)(cs:B bq):Prop where
 z0:1<=zs.length
 z1:zs.length<=2
 ok:∀z∈zs,fR z
 p0:1<=ps.length
 p1:ps.length<=4
 c1:cs.length<=1
theorem jym{L:B A}{a:A}(h:di L a):∃zs ps cs a',j8I L a=D ((zs,(ps,(cs,([]:B dC)))),L,a')/\sU zs ps cs/\di L a':=by
 obtain⟨x,a1,e1,x0,x1,d1⟩:=dH (n:=2) h aa aa;obtain⟨zs,a2,e2,l2,k2,d2⟩:=X8 (1+x).toNat a1 [] d1 ay af;obtain⟨y,a3,e3,y0,y1,d3⟩:=dH (n:=4) d2 aa aa;simp at l2;obtain⟨ps,a4,e4,l4,d4⟩:=Qe (zs:=zs) aa aa (1+y).toNat a3 [] d3 ay;obtain⟨q,a5,e5,q0,q1,d5⟩:=dH (n:=2) d4 aa aa;obtain⟨cs,a6,e6,l6,d6⟩:=Ya (zs:=zs) (ps:=ps) aa aa q.toNat a5 [] d5 ay;simp at l4 l6;rw[show (((1+x).toNat:H):A)=1+x by omega]at e2;rw[show (((1+y).toNat:H):A)=1+y by omega]at e4;rw[show ((q.toNat:H):A)=q by omega]at e6;simp only[j8I,e1,ja];rw[ar (x:=1+x)];simp only[e2,e3,ja];rw[ar (x:=1+y)];simp only[e4,e5,e6,ja];exact⟨zs,ps,cs,a6,rfl,⟨aa,aa,k2,aa,aa,aa⟩,d6⟩
structure Jm(l:bC):Prop where
 d0:20452<=l.2.2.1.1
 d1:l.2.2.1.1<=20457
 c0:0<=l.2.2.1.2
 c1:l.2.2.1.2<=79200
 u0:0<=l.2.2.2.1
 u1:l.2.2.2.1<=2
 e0:1<=l.2.2.2.2.1
 e1:l.2.2.2.2.1<=49
 e2:l.2.2.2.1≠0->l.2.2.2.2.1<=2
 m0:1<=l.2.2.2.2.2.1.length
 m1:l.2.2.2.2.2.1.length<=3
 w3:l.2.2.2.2.2.2.1.length<=3
theorem Qf{L:B A}{zs:B bS}{ps:B eu}{cs:B bq}{ss:B dC}(nW:1<=ps.length)(sk:ps.length<=100){x0 y0:I}{x1 x2 x3 x4 x5 x6 x7 y1 y2 y3 y4 y5 y6 y7:A}:∀(n:H)(a:A)(ms:B A),di L a->ms.length+n<=4->
  ∃Jn a',EL (n:A) L a zs ps cs ss x0 x1 x2 x3 x4 x5 x6 x7 y0 y1 y2 y3 y4 y5 y6 y7 ms=D (L,a',zs,ps,cs,ss,x0,x1,x2,x3,x4,x5,x6,x7,y0,y1,y2,y3,y4,y5,y6,y7,Jn)/\Jn.length=ms.length+n/\di L a'
 |0,a,ms,hd,_=>by
  rw[VU];simp only[j2C];rw[ak aa,jd,ba];exact⟨ms,a,rfl,rfl,hd⟩
 |n+1,a,ms,hd,hl=>by
  obtain⟨x,a1,e1,_,_,d1⟩:=dH (n:=(ps.length:A)) hd aa aa;rw[VU];simp only[j2C,show J (F ps)=(ps.length:A) from rfl];rw[ah aa,ar (x:=((n+1:H):A)-1),show ((n+1:H):A)-1=(n:A) by omega];simp only[jc,e1,ja];rw[ah (by simp[aF];omega)];simp only[jc,aV];obtain⟨Jn,a',e,h1,h2⟩:=Qf (zs:=zs) (cs:=cs) (ss:=ss) nW sk (x0:=x0) (x1:=x1) (x2:=x2) (x3:=x3) (x4:=x4) (x5:=x5) (x6:=x6) (x7:=x7) (y0:=y0) (y1:=y1) (y2:=y2) (y3:=y3) (y4:=y4) (y5:=y5) (y6:=y6) (y7:=y7) n a1 (ms++[x]) d1 ay;exact⟨Jn,a',e,by rw[h1];simp;omega,h2⟩
theorem jyn{L:B A}{a:A}(h:di L a){zs:B bS}{ps:B eu}{cs:B bq}{ss:B dC}(hs:sU zs ps cs)(nm:I) :
  ∃l a',j8J L a (zs,(ps,(cs,ss))) nm=D (l,L,a')/\Jm l/\0<=l.2.1/\l.2.1<(zs.length:A)/\di L a':=by
 have qU:=hs.z0;have zU:=hs.z1;have nW:=hs.p0;have sk:=hs.p1;have eS:=hs.c1;obtain⟨z,a1,e1,z0,z1,d1⟩:=dH (n:=(zs.length:A)) h aa aa;obtain⟨x,a2,e2,x0,x1,d2⟩:=dH (n:=6) d1 aa aa;obtain⟨s,a3,e3,m3,d3⟩:=oY d2 (xs:=[(0:A),(32400:A),(7200:A),(9000:A),(79200:A),(1:A)]) af af;obtain⟨u,a4,e4,u0,u1,d4⟩:=dH (n:=3) d3 aa aa;obtain⟨v,a5,e5,v0,v1,d5⟩:=dH (n:=2) d4 aa aa;have dy:0<=s/\s<=79200:=by simp at m3;omega
 simp only[j8J,show J (F zs)=(zs.length:A) from rfl,e1,e2,e3,e4,e5,ja];rw[ar (x:=20454+x),ar (x:=20454+x-2),ar (x:=1+v)]
 have fin:∀(ev a6:A),di L a6->1<=ev->ev<=49->(u≠0->ev<=2)->∀ms:B A,1<=ms.length->ms.length<=3->∀(w:WL),w.length<=3->∀(c m:A)(a':A),di L a'->∃l Fp,D ((nm,(z,((20454+x-2,s),(u,(ev,(ms,(w,(c,m)))))))),L,a')=D (l,L,Fp)/\Jm l/\0<=l.2.1/\l.2.1<(zs.length:A)/\di L Fp:=
  λev a6 _ h1 h2 h3 ms h4 h5 w hw c m a' hd=>⟨_,_,rfl,⟨by dsimp only;omega,by dsimp only;omega,dy.1,dy.2,u0,by dsimp only;omega,h1,h2,h3,h4,h5,hw⟩,z0,z1,hd⟩
 by_cases hu:u=0
 .rw[fh hu,jc];obtain⟨ev,a6,e6,m6,d6⟩:=oY d5 (xs:=[(6:A),(8:A),(12:A),(24:A),(23:A),(49:A)]) af af;have mO:1<=ev/\ev<=49:=by simp at m6;omega
  obtain⟨n,a7,e7,n0,n1,d7⟩:=dH (n:=3) d6 aa aa;obtain⟨ms,a8,e8,l8,d8⟩:=Qf (L:=L) (zs:=zs) (ps:=ps) (cs:=cs) (ss:=ss) nW aa (x0:=E) (x1:=0) (x2:=0) (x3:=0) (x4:=0) (x5:=0) (x6:=0) (x7:=0) (y0:=nm) (y1:=z) (y2:=20454+x-2) (y3:=s) (y4:=u) (y5:=ev) (y6:=0) (y7:=0) (1+n).toNat a7 [] d7 ay;rw[show (((1+n).toNat:H):A)=1+n by omega]at e8;simp at l8;obtain⟨b,a9,e9,d9⟩:=uD (n:=2) d8 aa aa;simp only[e6,e7,ja];rw[ar (x:=1+n)];simp only[e8,e9,ja,show J (F cs)=(cs.length:A) from rfl];cases b with
  |true=>
   obtain⟨w,a10,Qg,_,hw,d10⟩:=Qd d9;obtain⟨c,Qh,zV,d11⟩:=uD (n:=4) d10 aa aa;simp only[jc,Qg,zV,ja];by_cases jH:c=N/\(cs.length:A)>0
   .obtain⟨i,a12,um,_,_,d12⟩:=dH (n:=(cs.length:A)) d11 aa aa;obtain⟨j,Qi,zW,_,_,d13⟩:=dH (n:=2) d12 aa aa;rw[jH.1,ah jH.2];simp only[jc,um,zW,ja];exact fin ev a6 d6 mO.1 mO.2 (λh=>absurd hu h) ms aa aa _ hw _ _ _ d13
   .have gI:cond c (decide ((cs.length:A)>0)) R=false:=by
     cases c with
     |true=>exact ak (λh=>jH ⟨rfl,h⟩)
     |false=>rfl
    rw[gI];simp only[jd];exact fin ev a6 d6 mO.1 mO.2 (λh=>absurd hu h) ms aa aa _ hw _ _ _ d11
  |false=>
   obtain⟨c,Qh,zV,d11⟩:=uD (n:=4) d9 aa aa;simp only[jd,zV,ja];by_cases jH:c=N/\(cs.length:A)>0
   .obtain⟨i,a12,um,_,_,d12⟩:=dH (n:=(cs.length:A)) d11 aa aa;obtain⟨j,Qi,zW,_,_,d13⟩:=dH (n:=2) d12 aa aa;rw[jH.1,ah jH.2];simp only[jc,um,zW,ja];exact fin ev a6 d6 mO.1 mO.2 (λh=>absurd hu h) ms aa aa _ af _ _ _ d13
   .have gI:cond c (decide ((cs.length:A)>0)) R=false:=by
     cases c with
     |true=>exact ak (λh=>jH ⟨rfl,h⟩)
     |false=>rfl
    rw[gI];simp only[jd];exact fin ev a6 d6 mO.1 mO.2 (λh=>absurd hu h) ms aa aa _ af _ _ _ d11
 .rw[cU hu,jd];obtain⟨n,a7,e7,n0,n1,d7⟩:=dH (n:=3) d5 aa aa;obtain⟨ms,a8,e8,l8,d8⟩:=Qf (L:=L) (zs:=zs) (ps:=ps) (cs:=cs) (ss:=ss) nW aa (x0:=E) (x1:=0) (x2:=0) (x3:=0) (x4:=0) (x5:=0) (x6:=0) (x7:=0) (y0:=nm) (y1:=z) (y2:=20454+x-2) (y3:=s) (y4:=u) (y5:=1+v) (y6:=0) (y7:=0) (1+n).toNat a7 [] d7 ay;rw[show (((1+n).toNat:H):A)=1+n by omega]at e8;simp at l8;obtain⟨b,a9,e9,d9⟩:=uD (n:=2) d8 aa aa;simp only[e7,ja];rw[ar (x:=1+n)];simp only[e8,e9,ja,show J (F cs)=(cs.length:A) from rfl];cases b with
  |true=>
   obtain⟨w,a10,Qg,_,hw,d10⟩:=Qd d9;obtain⟨c,Qh,zV,d11⟩:=uD (n:=4) d10 aa aa;simp only[jc,Qg,zV,ja];by_cases jH:c=N/\(cs.length:A)>0
   .obtain⟨i,a12,um,_,_,d12⟩:=dH (n:=(cs.length:A)) d11 aa aa;obtain⟨j,Qi,zW,_,_,d13⟩:=dH (n:=2) d12 aa aa;rw[jH.1,ah jH.2];simp only[jc,um,zW,ja];exact fin (1+v) a5 d5 aa aa aa ms aa aa _ hw _ _ _ d13
   .have gI:cond c (decide ((cs.length:A)>0)) R=false:=by
     cases c with
     |true=>exact ak (λh=>jH ⟨rfl,h⟩)
     |false=>rfl
    rw[gI];simp only[jd];exact fin (1+v) a5 d5 aa aa aa ms aa aa _ hw _ _ _ d11
  |false=>
   obtain⟨c,Qh,zV,d11⟩:=uD (n:=4) d9 aa aa;simp only[jd,zV,ja];by_cases jH:c=N/\(cs.length:A)>0
   .obtain⟨i,a12,um,_,_,d12⟩:=dH (n:=(cs.length:A)) d11 aa aa;obtain⟨j,Qi,zW,_,_,d13⟩:=dH (n:=2) d12 aa aa;rw[jH.1,ah jH.2];simp only[jc,um,zW,ja];exact fin (1+v) a5 d5 aa aa aa ms aa aa _ af _ _ _ d13
   .have gI:cond c (decide ((cs.length:A)>0)) R=false:=by
     cases c with
     |true=>exact ak (λh=>jH ⟨rfl,h⟩)
     |false=>rfl
    rw[gI];simp only[jd];exact fin (1+v) a5 d5 aa aa aa ms aa aa _ af _ _ _ d11
abbrev dA:=A×(A×(A×(A×A)))
abbrev gw:=B bS×(B eu×(B bq×B dC))
structure ZCk(z:bS):Prop where
 ck:jdy z=D 0
 o60:W z.2.1 60=0
 r60:∀r∈z.2.2,W r.2.2.2.2.2.2 60=0
 len:z.2.2.length<=1000
structure PCk(nz:H)(p:eu):Prop where
 nb:(M p.1==M (G #[110,111,98,111,100,121]))=R
 z0:0<=p.2.1
 z1:p.2.1<nz
 w:gF 0 p.2.2.1
 wl:p.2.2.1.length<=14
 m:j5z p.2.2.2.1=D N
 r:j5z p.2.2.2.2.1=D N
structure pV(nz:H)(c:bq):Prop where
 z0:0<=c.2.1
 z1:c.2.1<nz
 len:c.2.2.length<=64
 day:∀d∈c.2.2,j1c d=D N
 asc:c.2.2.Pairwise (· < ·)
structure LCk(nz np nc:H)(l:bC):Prop where
 z0:0<=l.2.1
 z1:l.2.1<nz
 d0:1<=l.2.2.1.1
 day:j1c l.2.2.1.1=D N
 c0:0<=l.2.2.1.2
 c1:l.2.2.1.2<=86399
 u0:0<=l.2.2.2.1
 u1:l.2.2.2.1<=2
 e0:1<=l.2.2.2.2.1
 e1:l.2.2.2.2.1<=400
 m0:l.2.2.2.2.2.1.length≠0
 m1:l.2.2.2.2.2.1.length<=12
 mem:∀m∈l.2.2.2.2.2.1,0<=m/\m<(np:A)
 w:gF 0 l.2.2.2.2.2.2.1
 wl:l.2.2.2.2.2.2.1.length<=14
 mode0:0<=l.2.2.2.2.2.2.2.2
 mode1:l.2.2.2.2.2.2.2.2<=2
 cal:l.2.2.2.2.2.2.2.2≠0->0<=l.2.2.2.2.2.2.2.1/\l.2.2.2.2.2.2.2.1<(nc:A)
 Qj:l.2.2.2.2.2.2.2.2=0->l.2.2.2.2.2.2.2.1=0
 w3:l.2.2.2.2.2.2.1.length<=3
 h6:l.2.2.2.1=0->6<=l.2.2.2.2.1
structure ECk(np:H)(x:dA):Prop where
 k0:0<=x.1
 k1:x.1<=2
 a:0<=x.2.1/\x.2.1<(np:A)\/x.1=1/\x.2.1 = -1
 b:x.1=2->0<=x.2.2.1/\x.2.2.1<(np:A)/\x.2.1≠x.2.2.1
 b0:x.1≠2->x.2.2.1=0
 f0:0<=x.2.2.2.1
 ft:x.2.2.2.1<x.2.2.2.2
 t1:x.2.2.2.2<=1000000000000
 day:j1c (Int.tdiv x.2.2.2.2 86400)=D N
structure SCk(nz np nc:H)(s:dC):Prop where
 nm:Fh (s.2.1.map (·.1))
 ly:∀x∈s.2.1,LCk nz np nc x
 ll:s.2.1.length<=6
 ed:∀x∈s.2.2,ECk np x
 el:s.2.2.length<=48
structure jD1(c:gw):Prop where
 zn:Fh (c.1.map (·.1))
 zc:∀z∈c.1,ZCk z
 zl:c.1.length<=16
 pn:Fh (c.2.1.map (·.1))
 pc:∀p∈c.2.1,PCk c.1.length p
 pl:c.2.1.length<=32
 cn:Fh (c.2.2.1.map (·.1))
 cc:∀x∈c.2.2.1,pV c.1.length x
 cl:c.2.2.1.length<=8
 sn:Fh (c.2.2.2.map (·.1))
 sc:∀x∈c.2.2.2,SCk c.1.length c.2.1.length c.2.2.1.length x
 sl:c.2.2.2.length<=12
structure mQ(o:A)(l:bg)(s t:A)(k:H):Prop where
 hk:k<=l.length
 hks:s-bj o l k<aS l (k+1)
 bef:∀j,j<k->aS l (j+1)<=s-bj o l j
 ht:t=max (aS l k) (s-bj o l k)
def Qk(o:A)(l:bg):Prop:=∀i,i<l.length -> -86400<bj o l (i+1)-bj o l i/\bj o l (i+1)-bj o l i<86400
section
variable{o:A}{l:bg}(h:iD o l)
include h
theorem mQ.piece{s t:A}{k:H}(f:mQ o l s t k):aS l k<=t/\t<aS l (k+1)/\s<=t+bj o l k:=by
 have h1:=h.frm_lt f.hk;have h2:=f.hks;have h3:=f.ht;omega
theorem mQ.up{s s' t t':A}{k k':H}(hd:Qk o l)(hs:200000<s)(he:s+86400<=s')(f:mQ o l s t k)(g:mQ o l s' t' k'):t<t':=by
 obtain⟨p1,p2,p3⟩:=f.piece h;obtain⟨q1,q2,q3⟩:=g.piece h;have g1:=g.hks;have g2:=g.ht;have f2:=f.ht;have Ca:=f.hk;have hkN':=g.hk;rcases vp k k' with au|heq|Cb
 .have m1:=h.frm_le (i:=k+1) (j:=k') aa aa;omega
 .subst heq;by_cases h0:k=0
  .subst h0;have e0:aS l 0=0:=lD;have o1:=h.of1 0 aa;omega
  .obtain⟨j,rfl⟩:∃j,k=j+1:=⟨k-1,aa⟩;have b:=f.bef j aa;have d:=hd j aa;omega
 .have:=f.bef k' Cb;omega
end
noncomputable def Fq(o:A)(l:bg)(s:A):Int:=open Classical in if h:∃t k,mQ o l s t k then Classical.choose h else 0
def dB(L:bC):Int:=if L.2.2.2.1=2 then 7*L.2.2.2.2.1 else L.2.2.2.2.1
def dp(L:bC)(k:A):Int:=(L.2.2.1.1+k*dB L)*86400+L.2.2.1.2
noncomputable def xB(o:A)(l:bg)(L:bC)(k:A):Int:=if L.2.2.2.1=0 then Fq o l (dp L 0)+3600*L.2.2.2.2.1*k else Fq o l (dp L k)
structure LR(L:bC):Prop where
 d0:100<=L.2.2.1.1
 d1:L.2.2.1.1<=30000
 c0:0<=L.2.2.1.2
 c1:L.2.2.1.2<=86399
 u0:0<=L.2.2.2.1
 u1:L.2.2.2.1<=2
 e0:1<=L.2.2.2.2.1
 e1:L.2.2.2.2.1<=49
 m0:1<=L.2.2.2.2.2.1.length
 m1:L.2.2.2.2.2.1.length<=1000
theorem Jm.lr{L:bC}(h:Jm L):LR L:=⟨by have:=h.d0;omega,by have:=h.d1;omega,h.c0,by have:=h.c1;omega,h.u0,h.u1,h.e0,h.e1,h.m0,by have:=h.m1;omega⟩
theorem LR.step{L:bC}(h:LR L):1<=dB L/\dB L<=343:=by
 have:=h.e0;have:=h.e1;unfold dB;split<;>omega
section
variable{o:A}{l:bg}(h:iD o l)
include h
end
theorem jsl(y:A):j1w y=D (uB y):=XL y
theorem Jo(y m:A):jea y m=D (eQ y m):=by
 by_cases h:m<1\/12<m
 .have hk:∀k:A,1<=k->k<=12->(m==k)=false:=λk h1 h2=>cU aa;have:eQ y m=0:=if_pos h;rw[this]
  simp only[jea,hk 1 aa aa,hk 2 aa aa,hk 3 aa aa,hk 4 aa aa,hk 5 aa aa,hk 6 aa aa,hk 7 aa aa,
   hk 8 aa aa,hk 9 aa aa,hk 10 aa aa,hk 11 aa aa,hk 12 aa aa,jd]
 .obtain rfl|rfl|rfl|rfl|rfl|rfl|rfl|rfl|rfl|rfl|rfl|rfl:m=1\/m=2\/m=3\/m=4\/m=5\/m=6\/m=7\/m=8\/m=9\/m=10\/m=11\/m=12:=aa
  case inr.inl=>have e:jea y 2=(j1w y).bind λr=>cond r (D (29:A)) (D (28:A)):=rfl;rw[e,jsl,eQ,XK];simp only[ja];cases uB y<;>rfl
  all_goals rfl
theorem jqH(y m d:A):ji2 (y,m,d)=D (decide (pU y m d)):=by
 simp only[ji2,Jo,ja];by_cases hv:pU y m d
 .have hm:=Fm hv;have gn:=hv;obtain⟨a1,a2,a3,a4⟩:=hv;rw[ah (show y>=1970 from a1),ah a2,ah (show m>=1 from hm.1),ah hm.2,ah (show d>=1 from a3),ah a4,ah gn];rfl
 .rw[ak hv];by_cases a1:y>=1970
  .by_cases a2:y<=2240
   .by_cases a3:m>=1
    .by_cases a4:m<=12
     .by_cases a5:d>=1
      .rw[ah a1,ah a2,ah a3,ah a4,ah a5,ak (show¬d<=eQ y m fromλh=>hv ⟨a1,a2,a5,h⟩)];rfl
      .rw[ah a1,ah a2,ah a3,ah a4,ak a5];rfl
     .rw[ah a1,ah a2,ah a3,ak a4];rfl
    .rw[ah a1,ah a2,ak a3];rfl
   .rw[ah a1,ak a2];rfl
  .rw[ak a1];rfl
theorem jsm(y:A)(h1:1969<=y)(h2:y<=1000000000):ji3 y=D (dF y):=by
 simp only[ji3];rw[ar (x:=y-1970),ar (x:=y-1969),ar (x:=y-1901),ar (x:=y-1601)];rw[uz (show 0<=y-1969 by omega),uz (show 0<=y-1901 by omega),uz (show 0<=y-1601 by omega)];simp (disch:=omega) only[ik];congr 1;unfold dF;omega
theorem Yb(y m d:A)(hm:m<=13):∀(n:H)(s k:A),1<=k->k+n=m -> -1000000000000<=s->s+31*n<=1000000000000->HS s k y m d=D (s+du y m-du y k,y,m,d)
 |0,s,k,hk,hn,_,_=>by
  rw[V0];have:k=m:=aa;subst this;simp only[j6B,ak (show¬k<k by omega),jd,ba];congr 2;omega
 |n+1,s,k,hk,hn,h1,h2=>by
  rw[V0];have hd:=mP y k;have hc:=zO y k hk aa;simp only[j6B,Jo,ja,ah (show k<m by omega),jc,aV];rw[ar (x:=s+eQ y k),ar (x:=k+1)];rw[Yb y m d hm n (s+eQ y k) (k+1) aa aa aa aa];congr 2;omega
theorem gu{y m d:A}(hv:pU y m d):jo8 (y,m,d)=D (num y m d,0):=by
 have hm:=Fm hv;have hd:=mP y m;have hb : -1000000000<=dF y/\dF y<=1000000000:=by have:=hv.1;have:=hv.2.1;unfold dF;omega
 have hc:=zP y m;obtain⟨h1,h2,h3,h4⟩:=id hv;simp only[jo8,jqH,ah hv,ja,jk,jd,jsm y aa aa,Yb y m d aa (m-1).toNat (dF y) 1 aa aa aa aa];have:du y 1=0:=rfl;rw[ar (x:=dF y+du y m-du y 1+d),ar];unfold num;congr 2;omega
theorem Yc(d:A):jbv d=j5x d:=rfl
theorem Yd(y m k w n e:A)(kK:0<=n)(nA:n<=1000000)(Ql:e<=6)(Jp:(n+e+3)%7=w) :
  ∀(j:H)(s:A),0<=s->s+j=e->HT y m k w n (n+s)=D (y,m,k,n,n+e)
 |0,s,hs,hj=>by
  rw[V1];have:s=e:=aa;subst this;have hb:((n+s+3)%7 != w)=false:=by simp[Jp]
  simp only[j6C,Yc,Jf (n+s) aa,ja,hb,jd,ba]
 |j+1,s,hs,hj=>by
  rw[V1];have hb:((n+s+3)%7 != w)=true:=by simp only[bne_iff_ne,ne_eq];omega
  simp only[j6C,Yc,Jf (n+s) aa,ja,hb,jc,aV];rw[ar (x:=n+s+1),show n+s+1=n+(s+1) by omega];exact Yd y m k w n e kK nA Ql Jp j (s+1) aa aa
theorem Qm(y m n t:A)(kK:0<=n)(nA:n<=1000000)(ht1:t<n+eQ y m)(ht2:n+eQ y m<=t+7)(pb : -1000<=t) :
  ∀(j:H)(s:A),s+7*j=t -> -1000<=s->HU y m n s=D t
 |0,s,hs,_=>by
  have hd:=mP y m;rw[V2];have:s=t:=aa;subst this;simp only[j6D,Jo,ja];rw[ar (x:=s+7),ar (x:=n+eQ y m),ak (show¬s+7<n+eQ y m by omega),jd,ba]
 |j+1,s,hs,h1=>by
  have hd:=mP y m;rw[V2];simp only[j6D,Jo,ja];rw[ar (x:=s+7),ar (x:=n+eQ y m),ah (show s+7<n+eQ y m by omega),jc,aV];exact Qm y m n t kK nA ht1 ht2 pb j (s+7) aa aa
theorem gv(y m k w:A)(h1:1970<=y)(h2:y<=2240)(gZ:1<=m)(gV:m<=12)(dm:1<=k)(eR:k<=5)(KV:0<=w)(hw2:w<=6):jo9 y m k w=D (nth y m k w,0):=by
 have hv:=B8 y m h1 h2 gZ gV;have hr:=zQ hv;have hd:=Fk y m gZ gV;have ig:=mP y m;simp only[jo9,gu hv,ja,jm];rw[ak (show¬k<1 by omega),ak (show¬k>5 by omega),ak (show¬w<0 by omega),ak (show¬w>6 by omega)];simp only[jd];unfold nth;generalize num y m 1=n at *;obtain⟨e,sR,Ql,Jp,DR⟩:∃e,0<=e/\e<=6/\(n+e+3)%7=w/\n+(w-(n+3)%7+7)%7=n+e:=⟨(w-(n+3)%7+7)%7,aa,aa,aa,rfl⟩;rw[DR];have hl:=Yd y m k w n e hr.1 aa Ql Jp e.toNat 0 aa aa;rw[Int.add_zero]at hl;simp only[hl,ja];by_cases hk:k<5
 .rw[ah hk,jc,ar (x:=k-1),ar (x:=7*(k-1)),ar,if_neg aa]
 .have rD:k=5:=aa;subst rD;rw[ak hk,jd];by_cases hc:n+e+7*(5-1)>=n+eQ y m
  .rw[Qm y m n (n+e+21) hr.1 aa aa aa aa 3 (n+e) aa aa,if_pos hc];simp only[ja];congr 2;omega
  .rw[Qm y m n (n+e+28) hr.1 aa aa aa aa 4 (n+e) aa aa,if_neg hc];simp only[ja];congr 2
theorem Ye{x y:A×A}:∀{l:bg},y∈jY x l->y=x\/y∈l
 |[],h=>by simp[jY]at h;exact .inl h
 |z::zs,h=>by
  unfold jY at h;split at h
  .rcases jl.1 h with rfl|h
   .exact .inr af
   .rcases Ye h with h|h
    .exact .inl h
    .exact .inr (by simp[h])
  .rcases jl.1 h with rfl|h
   .exact .inl rfl
   .exact .inr h
theorem Yf{y:A×A}:∀{l acc:bg},y∈jZ l acc->y∈l\/y∈acc
 |[],_,h=> .inr h
 |x::xs,acc,h=>by
  rcases Yf (l:=xs) h with h|h
  .exact .inl (by simp[h])
  .rcases Ye h with rfl|h
   .exact .inl af
   .exact .inr h
theorem Yg{y:A×A}{l:bg}(h:y∈dE l):y∈l:=by
 rcases Yf (List.mem_reverse.1 h) with h|h
 .exact h
 .simp at h
theorem Yh{x:A×A}{l:B aH}(h:x∈occs l):∃r∈l,∃j:H,(j:A)<=r.2.1-r.1/\x=cM r (r.1+(j:A)):=by
 obtain⟨r,hr,hx⟩:=qy.1 h;obtain⟨i,hi,rfl⟩:=ki.1 hx;have hi:=List.mem_range.1 hi;exact⟨r,hr,i,aa,rfl⟩
end Go.Proofs.Pw
