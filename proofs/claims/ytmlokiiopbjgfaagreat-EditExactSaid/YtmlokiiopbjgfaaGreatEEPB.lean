/- The staff and the layers that the dice make. -/
import Derived.Test.YtmlokiiopbjgfaaGreatEEPA
open _root_ renaming Int->B,List->F,ByteArray->G,Nat->H,Option->É
open Option renaming some->E
open List renaming length->I,drop_eq_getElem_cons->O,drop_of_length_le->W,drop->X,getD->Y,getElem_mem->Á,append_nil->Â,range->Ä,drop_zero->Å
open Int renaming ofNat->J,toNat->Ë,tmod->Ì
open ByteArray renaming empty->M,mk->N,toList->Z
open Decidable renaming decide->R
open Nat renaming lt_trichotomy->S
open Bool renaming not_true->U,true->Ã,false->Æ,true_or->È
noncomputable section
open Go Go.Lft
namespace Go.Proofs.Pw
abbrev j0O:=G×B×F Rule
abbrev j0r:=G×B×WL×B×B×Bool
abbrev CalT:=G×B×F B
abbrev j0c:=G×B×(B×B)×B×B×F B×WL×B×B
abbrev j0q:=G×F j0c×F (B×B×B×B×B)
def ZOk(z:j0O):Prop:=MZ z.2.1 z.2.2
theorem jb1{L:F B}{a n:B}(h:DOk L a)(hn:1<=n)(hn2:n<=1000000):∃b a',j0Y L a n=E (b,L,a')/\DOk L a':=by
 obtain⟨x,a1,e1,x0,x1,d1⟩:=j0F (n:=n) h omg_ omg_;simp only[j0Y,e1,j0];exact⟨_,_,rfl,d1⟩
theorem jmp{L:F B}:∀(n:H)(a:B)(zs:F j0O),DOk L a->zs.length+n<=2->(∀z∈zs,ZOk z)->
  ∃zs' a',j5g (n:B) L a zs=E (L,a',zs')/\zs'.length=zs.length+n/\(∀z∈zs',ZOk z)/\DOk L a'
 |0,a,zs,hd,_,hz=>by
  grind[j7K,j2l,S0]
 |n+1,a,zs,hd,hl,hz=>by
  obtain⟨o,rs,a1,e1,m1,d1⟩:=jsC hd (Y [(N #[104,101,114,101]),(N #[116,104,101,114,101])] zs.length M)
  obtain⟨zs',a',e2,h2,h3,h4⟩:=jmp n a1 (zs++[(Y [(N #[104,101,114,101]),(N #[116,104,101,114,101])] zs.length M,o,rs)]) d1 sqo_ (λz hz'=>by
   rcases List.mem_append.1 hz' with h|h
   .exact hz z h
   .simp at h;subst h;exact m1)
  rw[j7K];simp(disch:=omega)only[j2l,e1,S0];grind
theorem jqR:∃l,jab=E l/\4<=l.length:=⟨_,rfl,smp_⟩
theorem jiP{L:F B}{zs:F j0O}(hz0:1<=zs.length)(hz1:zs.length<=100):∀(n:H)(a:B)(ps:F j0r),DOk L a->ps.length+n<=4->(∀p∈ps,p.2.2.1.length<=3)->
  ∃ps' a',j5h (n:B) L a zs ps=E (L,a',zs,ps')/\ps'.length=ps.length+n/\(∀p∈ps',p.2.2.1.length<=3)/\DOk L a'
 |0,a,ps,hd,_,hw=>by
  grind[j7L,j2m,S0]
 |n+1,a,ps,hd,hl,hw=>by
  obtain⟨nl,en,hnl⟩:=jqR;obtain⟨x,a1,e1,x0,x1,d1⟩:=j0F (n:=(zs.length:B)) hd omg_ omg_;obtain⟨b,a2,e2,d2⟩:=jb1 (n:=3) d1 omg_ omg_;obtain⟨c,a3,e3,d3⟩:=jb1 (n:=2) d2 omg_ omg_;rw[j7L];simp only[j2m,en,j0,show J (I ps)=(ps.length:B) from rfl,show J (I zs)=(zs.length:B) from rfl];rw[j00 omg_,j2M (show (0:B)<=(ps.length:B) by omega) omg_];simp only[j4,e1,e2,e3,j0];rw[j0d (x:=((n+1:H):B)-1),show ((n+1:H):B)-1=(n:B) by omega];cases c with
  |true=>
   obtain⟨w,a4,e4,_,hw4,d4⟩:=jeT d3;obtain⟨p,a5,e5,_,d5⟩:=j7x d4 (xs:=[(0:B),(40:B),(100:B),(12:B)]) smp_ smp_;obtain⟨q,a6,e6,_,d6⟩:=j7x d5 (xs:=[(0:B),(11:B),(24:B),(1:B)]) smp_ smp_;simp only[j4,e4,e5,e6,j0];rw[j00 (by simp[j06];omega)];simp only[j4,j08]
   obtain⟨ps',a',e,h1,h2⟩:=jiP hz0 hz1 n a6 (ps++[(Y nl (Ë (ps.length:B)) M,x,w,w64 (3600*p),w64 (3600*q),b)]) d6 sqo_ (λp hp=>by
    grind)
   grind
  |false=>
   obtain⟨p,a5,e5,_,d5⟩:=j7x d3 (xs:=[(0:B),(40:B),(100:B),(12:B)]) smp_ smp_;obtain⟨q,a6,e6,_,d6⟩:=j7x d5 (xs:=[(0:B),(11:B),(24:B),(1:B)]) smp_ smp_;simp only[j5,e5,e6,j0];rw[j00 (by simp[j06];omega)];simp only[j4,j08]
   obtain⟨ps',a',e,h1,h2⟩:=jiP hz0 hz1 n a6 (ps++[(Y nl (Ë (ps.length:B)) M,x,([]:WL),w64 (3600*p),w64 (3600*q),b)]) d6 sqo_ (λp hp=>by
    grind)
   grind
theorem jmq{L:F B}{s:B}{nm:G}{z:B}{zs:F j0O}{ps:F j0r}{cs:F CalT}:∀(n:H)(a day:B)(ds:F B),DOk L a->ds.length+n<=4->
  ∃ds' a',j6S s (n:B) day L a nm z zs ps cs ds=E (s,L,a',nm,z,zs,ps,cs,ds')/\DOk L a'
 |0,a,day,ds,hd,_=>by
  rw[j7M];simp(disch:=omega)only[j2n,S0];grind
 |n+1,a,day,ds,hd,hl=>by
  obtain⟨x,a1,e1,x0,x1,d1⟩:=j0F (n:=6) hd omg_ omg_;rw[j7M];simp only[j2n];rw[j00 omg_,j0d (x:=((n+1:H):B)-1),show ((n+1:H):B)-1=(n:B) by omega];simp(disch:=omega)only[e1,S0];exact jmq n a1 _ _ d1 sqo_
theorem jmr{L:F B}{zs:F j0O}{ps:F j0r}(hz0:1<=zs.length)(hz1:zs.length<=100):∀(n:H)(a:B)(cs:F CalT),DOk L a->cs.length+n<=4->
  ∃cs' a',j5i (n:B) L a zs ps cs=E (L,a',zs,ps,cs')/\cs'.length=cs.length+n/\DOk L a'
 |0,a,cs,hd,_=>by
  grind[j7N,j2o,j0f]
 |n+1,a,cs,hd,hl=>by
  obtain⟨x,a1,e1,x0,x1,d1⟩:=j0F (n:=(zs.length:B)) hd omg_ omg_;obtain⟨y,a2,e2,y0,y1,d2⟩:=j0F (n:=4) d1 omg_ omg_;obtain⟨ds,a3,e3,d3⟩:=jmq (s:=((n+1:H):B)) (nm:=N #[100,97,121,115]) (z:=x) (zs:=zs) (ps:=ps) (cs:=cs) y.toNat a2 20454 [] d2 sqo_;rw[show ((y.toNat:H):B)=y by omega]at e3;rw[j7N];simp only[j2o,show J (I zs)=(zs.length:B) from rfl];rw[j00 omg_];simp only[j4,e1,e2,e3,j0];rw[j00 (by simp[j06];omega),j0d (x:=((n+1:H):B)-1),show ((n+1:H):B)-1=(n:B) by omega];simp only[j4,j08];obtain⟨cs',a',e,h1,h2⟩:=jmr (ps:=ps) hz0 hz1 n a3 (cs++[(N #[100,97,121,115],x,ds)]) d3 sqo_;grind
structure SOk(zs:F j0O)(ps:F j0r)(cs:F CalT):Prop where
 z0:1<=zs.length
 z1:zs.length<=2
 ok:∀z∈zs,ZOk z
 p0:1<=ps.length
 p1:ps.length<=4
 c1:cs.length<=1
 pw:∀p∈ps,p.2.2.1.length<=3
theorem jqS{L:F B}{a:B}(h:DOk L a):∃zs ps cs a',j6T L a=E ((zs,ps,cs,([]:F j0q)),L,a')/\SOk zs ps cs/\DOk L a':=by
 obtain⟨x,a1,e1,x0,x1,d1⟩:=j0F (n:=2) h omg_ omg_;obtain⟨zs,a2,e2,l2,k2,d2⟩:=jmp (1+x).toNat a1 [] d1 sqo_ smp_;obtain⟨y,a3,e3,y0,y1,d3⟩:=j0F (n:=4) d2 omg_ omg_;simp at l2;obtain⟨ps,a4,e4,l4,w4,d4⟩:=jiP (zs:=zs) omg_ omg_ (1+y).toNat a3 [] d3 sqo_ smp_;obtain⟨q,a5,e5,q0,q1,d5⟩:=j0F (n:=2) d4 omg_ omg_;obtain⟨cs,a6,e6,l6,d6⟩:=jmr (zs:=zs) (ps:=ps) omg_ omg_ q.toNat a5 [] d5 sqo_;simp at l4 l6;rw[show (((1+x).toNat:H):B)=1+x by omega]at e2;rw[show (((1+y).toNat:H):B)=1+y by omega]at e4;rw[show ((q.toNat:H):B)=q by omega]at e6;simp(disch:=omega)only[j6T,e1,e2,e3,e4,e5,e6,S0];exact⟨zs,ps,cs,a6,rfl,⟨omg_,omg_,k2,omg_,omg_,omg_,w4⟩,d6⟩
structure LOk(l:j0c):Prop where
 d0:20452<=l.2.2.1.1
 d1:l.2.2.1.1<=20457
 c0:0<=l.2.2.1.2
 c1:l.2.2.1.2<=79200
 u0:0<=l.2.2.2.1
 u1:l.2.2.2.1<=2
 e0:1<=l.2.2.2.2.1
 e1:l.2.2.2.2.1<=49
 e2:l.2.2.2.1≠0->l.2.2.2.2.1<=2
 m0:1<=l.2.2.2.2.2.1.length
 m1:l.2.2.2.2.2.1.length<=3
 w3:l.2.2.2.2.2.2.1.length<=3
theorem jiQ{L:F B}{zs:F j0O}{ps:F j0r}{cs:F CalT}{ss:F j0q}(hp0:1<=ps.length)(hp1:ps.length<=100){x0 y0:G}{x1 x2 x3 x4 x5 x6 x7 y1 y2 y3 y4 y5 y6 y7:B}:∀(n:H)(a:B)(ms:F B),DOk L a->ms.length+n<=4->
  ∃ms' a',j4c (n:B) L a zs ps cs ss x0 x1 x2 x3 x4 x5 x6 x7 y0 y1 y2 y3 y4 y5 y6 y7 ms=E (L,a',zs,ps,cs,ss,x0,x1,x2,x3,x4,x5,x6,x7,y0,y1,y2,y3,y4,y5,y6,y7,ms')/\ms'.length=ms.length+n/\DOk L a'
 |0,a,ms,hd,_=>by
  rw[j7O];grind[j2p,S0]
 |n+1,a,ms,hd,hl=>by
  obtain⟨x,a1,e1,_,_,d1⟩:=j0F (n:=(ps.length:B)) hd omg_ omg_;rw[j7O];simp only[j2p,show J (I ps)=(ps.length:B) from rfl];rw[j00 omg_,j0d (x:=((n+1:H):B)-1),show ((n+1:H):B)-1=(n:B) by omega];simp(disch:=omega)only[e1,S0];obtain⟨ms',a',e,h1,h2⟩:=jiQ (zs:=zs) (cs:=cs) (ss:=ss) hp0 hp1 (x0:=x0) (x1:=x1) (x2:=x2) (x3:=x3) (x4:=x4) (x5:=x5) (x6:=x6) (x7:=x7) (y0:=y0) (y1:=y1) (y2:=y2) (y3:=y3) (y4:=y4) (y5:=y5) (y6:=y6) (y7:=y7) n a1 (ms++[x]) d1 sqo_;grind
theorem jqT{L:F B}{a:B}(h:DOk L a){zs:F j0O}{ps:F j0r}{cs:F CalT}{ss:F j0q}(hs:SOk zs ps cs)(nm:G) :
  ∃l a',j6U L a (zs,ps,cs,ss) nm=E (l,L,a')/\LOk l/\0<=l.2.1/\l.2.1<(zs.length:B)/\DOk L a':=by
 have hz0:=hs.z0;have hz1:=hs.z1;have hp0:=hs.p0;have hp1:=hs.p1;have hc1:=hs.c1;obtain⟨z,a1,e1,z0,z1,d1⟩:=j0F (n:=(zs.length:B)) h omg_ omg_;obtain⟨x,a2,e2,x0,x1,d2⟩:=j0F (n:=6) d1 omg_ omg_;obtain⟨s,a3,e3,m3,d3⟩:=j7x d2 (xs:=[(0:B),(32400:B),(7200:B),(9000:B),(79200:B),(1:B)]) smp_ smp_;obtain⟨u,a4,e4,u0,u1,d4⟩:=j0F (n:=3) d3 omg_ omg_;obtain⟨v,a5,e5,v0,v1,d5⟩:=j0F (n:=2) d4 omg_ omg_;have hs':0<=s/\s<=79200:=by simp at m3;omega
 simp only[j6U,show J (I zs)=(zs.length:B) from rfl,e1,e2,e3,e4,e5,j0];rw[j0d (x:=20454+x),j0d (x:=20454+x-2),j0d (x:=1+v)]
 have fin:∀(ev a6:B),DOk L a6->1<=ev->ev<=49->(u≠0->ev<=2)->∀ms:F B,1<=ms.length->ms.length<=3->∀(w:WL),w.length<=3->∀(c m:B)(a':B),DOk L a'->∃l a'',E ((nm,z,(20454+x-2,s),u,ev,ms,w,c,m),L,a')=E (l,L,a'')/\LOk l/\0<=l.2.1/\l.2.1<(zs.length:B)/\DOk L a'':=
  λev a6 _ h1 h2 h3 ms h4 h5 w hw c m a' hd=>⟨_,_,rfl,⟨by dsimp only;omega,by dsimp only;omega,hs'.1,hs'.2,u0,by dsimp only;omega,h1,h2,h3,h4,h5,hw⟩,z0,z1,hd⟩
 by_cases hu:u=0
 .rw[j9g hu,j4];obtain⟨ev,a6,e6,m6,d6⟩:=j7x d5 (xs:=[(6:B),(8:B),(12:B),(24:B),(23:B),(49:B)]) smp_ smp_;have hev:1<=ev/\ev<=49:=by simp at m6;omega
  obtain⟨n,a7,e7,n0,n1,d7⟩:=j0F (n:=3) d6 omg_ omg_;obtain⟨ms,a8,e8,l8,d8⟩:=jiQ (L:=L) (zs:=zs) (ps:=ps) (cs:=cs) (ss:=ss) hp0 omg_ (x0:=M) (x1:=0) (x2:=0) (x3:=0) (x4:=0) (x5:=0) (x6:=0) (x7:=0) (y0:=nm) (y1:=z) (y2:=20454+x-2) (y3:=s) (y4:=u) (y5:=ev) (y6:=0) (y7:=0) (1+n).toNat a7 [] d7 sqo_;rw[show (((1+n).toNat:H):B)=1+n by omega]at e8;simp at l8;obtain⟨b,a9,e9,d9⟩:=jb1 (n:=2) d8 omg_ omg_;simp only[e6,e7,j0];rw[j0d (x:=1+n)];simp only[e8,e9,j0,show J (I cs)=(cs.length:B) from rfl];cases b with
  |true=>
   obtain⟨w,a10,e10,_,hw,d10⟩:=jeT d9;obtain⟨c,a11,e11,d11⟩:=jb1 (n:=4) d10 omg_ omg_;simp only[j4,e10,e11,j0];by_cases hcc:c=Ã/\(cs.length:B)>0
   .obtain⟨i,a12,e12,_,_,d12⟩:=j0F (n:=(cs.length:B)) d11 omg_ omg_;obtain⟨j,a13,e13,_,_,d13⟩:=j0F (n:=2) d12 omg_ omg_;rw[hcc.1,j00 hcc.2];simp only[j4,e12,e13,j0];exact fin ev a6 d6 hev.1 hev.2 (λh=>absurd hu h) ms omg_ omg_ _ hw _ _ _ d13
   .have hc0:cond c (R ((cs.length:B)>0)) Æ=false:=by grind
    rw[hc0];simp only[j5];exact fin ev a6 d6 hev.1 hev.2 (λh=>absurd hu h) ms omg_ omg_ _ hw _ _ _ d11
  |false=>
   obtain⟨c,a11,e11,d11⟩:=jb1 (n:=4) d9 omg_ omg_;simp only[j5,e11,j0];by_cases hcc:c=Ã/\(cs.length:B)>0
   .obtain⟨i,a12,e12,_,_,d12⟩:=j0F (n:=(cs.length:B)) d11 omg_ omg_;obtain⟨j,a13,e13,_,_,d13⟩:=j0F (n:=2) d12 omg_ omg_;rw[hcc.1,j00 hcc.2];simp only[j4,e12,e13,j0];exact fin ev a6 d6 hev.1 hev.2 (λh=>absurd hu h) ms omg_ omg_ _ smp_ _ _ _ d13
   .have hc0:cond c (R ((cs.length:B)>0)) Æ=false:=by grind
    rw[hc0];simp only[j5];exact fin ev a6 d6 hev.1 hev.2 (λh=>absurd hu h) ms omg_ omg_ _ smp_ _ _ _ d11
 .rw[j55 hu,j5];obtain⟨n,a7,e7,n0,n1,d7⟩:=j0F (n:=3) d5 omg_ omg_;obtain⟨ms,a8,e8,l8,d8⟩:=jiQ (L:=L) (zs:=zs) (ps:=ps) (cs:=cs) (ss:=ss) hp0 omg_ (x0:=M) (x1:=0) (x2:=0) (x3:=0) (x4:=0) (x5:=0) (x6:=0) (x7:=0) (y0:=nm) (y1:=z) (y2:=20454+x-2) (y3:=s) (y4:=u) (y5:=1+v) (y6:=0) (y7:=0) (1+n).toNat a7 [] d7 sqo_;rw[show (((1+n).toNat:H):B)=1+n by omega]at e8;simp at l8;obtain⟨b,a9,e9,d9⟩:=jb1 (n:=2) d8 omg_ omg_;simp only[e7,j0];rw[j0d (x:=1+n)];simp only[e8,e9,j0,show J (I cs)=(cs.length:B) from rfl];cases b with
  |true=>
   obtain⟨w,a10,e10,_,hw,d10⟩:=jeT d9;obtain⟨c,a11,e11,d11⟩:=jb1 (n:=4) d10 omg_ omg_;simp only[j4,e10,e11,j0];by_cases hcc:c=Ã/\(cs.length:B)>0
   .obtain⟨i,a12,e12,_,_,d12⟩:=j0F (n:=(cs.length:B)) d11 omg_ omg_;obtain⟨j,a13,e13,_,_,d13⟩:=j0F (n:=2) d12 omg_ omg_;rw[hcc.1,j00 hcc.2];simp only[j4,e12,e13,j0];exact fin (1+v) a5 d5 omg_ omg_ omg_ ms omg_ omg_ _ hw _ _ _ d13
   .have hc0:cond c (R ((cs.length:B)>0)) Æ=false:=by grind
    rw[hc0];simp only[j5];exact fin (1+v) a5 d5 omg_ omg_ omg_ ms omg_ omg_ _ hw _ _ _ d11
  |false=>
   obtain⟨c,a11,e11,d11⟩:=jb1 (n:=4) d9 omg_ omg_;simp only[j5,e11,j0];by_cases hcc:c=Ã/\(cs.length:B)>0
   .obtain⟨i,a12,e12,_,_,d12⟩:=j0F (n:=(cs.length:B)) d11 omg_ omg_;obtain⟨j,a13,e13,_,_,d13⟩:=j0F (n:=2) d12 omg_ omg_;rw[hcc.1,j00 hcc.2];simp only[j4,e12,e13,j0];exact fin (1+v) a5 d5 omg_ omg_ omg_ ms omg_ omg_ _ smp_ _ _ _ d13
   .have hc0:cond c (R ((cs.length:B)>0)) Æ=false:=by grind
    rw[hc0];simp only[j5];exact fin (1+v) a5 d5 omg_ omg_ omg_ ms omg_ omg_ _ smp_ _ _ _ d11
abbrev j0H:=B×B×B×B×B
abbrev CfgT:=F j0O×F j0r×F CalT×F j0q
structure ZCk(z:j0O):Prop where
 ck:ja7 z=E 0
 o60:Ì z.2.1 60=0
 r60:∀r∈z.2.2,Ì r.2.2.2.2.2.2 60=0
 len:z.2.2.length<=1000
structure PCk(nz:H)(p:j0r):Prop where
 nb:(Z p.1==Z (N #[110,111,98,111,100,121]))=Æ
 z0:0<=p.2.1
 z1:p.2.1<nz
 w:WOk 0 p.2.2.1
 wl:p.2.2.1.length<=14
 m:j4I p.2.2.2.1=E Ã
 r:j4I p.2.2.2.2.1=E Ã
structure CCk(nz:H)(c:CalT):Prop where
 z0:0<=c.2.1
 z1:c.2.1<nz
 len:c.2.2.length<=64
 day:∀d∈c.2.2,j2P d=E Ã
 asc:c.2.2.Pairwise (· < ·)
structure LCk(nz np nc:H)(l:j0c):Prop where
 z0:0<=l.2.1
 z1:l.2.1<nz
 d0:1<=l.2.2.1.1
 day:j2P l.2.2.1.1=E Ã
 c0:0<=l.2.2.1.2
 c1:l.2.2.1.2<=86399
 u0:0<=l.2.2.2.1
 u1:l.2.2.2.1<=2
 e0:1<=l.2.2.2.2.1
 e1:l.2.2.2.2.1<=400
 m0:l.2.2.2.2.2.1.length≠0
 m1:l.2.2.2.2.2.1.length<=12
 mem:∀m∈l.2.2.2.2.2.1,0<=m/\m<(np:B)
 w:WOk 0 l.2.2.2.2.2.2.1
 wl:l.2.2.2.2.2.2.1.length<=14
 mode0:0<=l.2.2.2.2.2.2.2.2
 mode1:l.2.2.2.2.2.2.2.2<=2
 cal:l.2.2.2.2.2.2.2.2≠0->0<=l.2.2.2.2.2.2.2.1/\l.2.2.2.2.2.2.2.1<(nc:B)
 cal0:l.2.2.2.2.2.2.2.2=0->l.2.2.2.2.2.2.2.1=0
 w3:l.2.2.2.2.2.2.1.length<=3
 h6:l.2.2.2.1=0->6<=l.2.2.2.2.1
structure ECk(np:H)(x:j0H):Prop where
 k0:0<=x.1
 k1:x.1<=2
 a:0<=x.2.1/\x.2.1<(np:B)\/x.1=1/\x.2.1 = -1
 b:x.1=2->0<=x.2.2.1/\x.2.2.1<(np:B)/\x.2.1≠x.2.2.1
 b0:x.1≠2->x.2.2.1=0
 f0:0<=x.2.2.2.1
 ft:x.2.2.2.1<x.2.2.2.2
 t1:x.2.2.2.2<=1000000000000
 day:j2P (Int.tdiv x.2.2.2.2 86400)=E Ã
structure SCk(nz np nc:H)(s:j0q):Prop where
 nm:NmL (s.2.1.map (·.1))
 ly:∀x∈s.2.1,LCk nz np nc x
 ll:s.2.1.length<=6
 ed:∀x∈s.2.2,ECk np x
 el:s.2.2.length<=48
structure juY(c:CfgT):Prop where
 zn:NmL (c.1.map (·.1))
 zc:∀z∈c.1,ZCk z
 zl:c.1.length<=16
 pn:NmL (c.2.1.map (·.1))
 pc:∀p∈c.2.1,PCk c.1.length p
 pl:c.2.1.length<=32
 cn:NmL (c.2.2.1.map (·.1))
 cc:∀x∈c.2.2.1,CCk c.1.length x
 cl:c.2.2.1.length<=8
 sn:NmL (c.2.2.2.map (·.1))
 sc:∀x∈c.2.2.2,SCk c.1.length c.2.1.length c.2.2.1.length x
 sl:c.2.2.2.length<=12
structure Fst(o:B)(l:TrL)(s t:B)(k:H):Prop where
 hk:k<=l.length
 hks:s-tof o l k<frm l (k+1)
 bef:∀j,j<k->frm l (j+1)<=s-tof o l j
 ht:t=max (frm l k) (s-tof o l k)
def Dif(o:B)(l:TrL):Prop:=∀i,i<l.length -> -86400<tof o l (i+1)-tof o l i/\tof o l (i+1)-tof o l i<86400
section
variable{o:B}{l:TrL}(h:TOk o l)
include h
theorem Fst.piece{s t:B}{k:H}(f:Fst o l s t k):frm l k<=t/\t<frm l (k+1)/\s<=t+tof o l k:=by
 have h1:=h.frm_lt f.hk;have h2:=f.hks;have h3:=f.ht;omega
theorem Fst.up{s s' t t':B}{k k':H}(hd:Dif o l)(hs:200000<s)(he:s+86400<=s')(f:Fst o l s t k)(g:Fst o l s' t' k'):t<t':=by
 obtain⟨p1,p2,p3⟩:=f.piece h;obtain⟨q1,q2,q3⟩:=g.piece h;have g1:=g.hks;have g2:=g.ht;have f2:=f.ht;have hkN:=f.hk;have hkN':=g.hk;rcases S k k' with hlt|heq|hgt
 .have m1:=h.frm_le (i:=k+1) (j:=k') omg_ omg_;omega
 .subst heq;by_cases h0:k=0
  .subst h0;have e0:frm l 0=0:=frm0;have o1:=h.of1 0 omg_;omega
  .obtain⟨j,rfl⟩:∃j,k=j+1:=⟨k-1,omg_⟩;have b:=f.bef j omg_;have d:=hd j omg_;omega
 .have:=f.bef k' hgt;omega
theorem Fst.around{s t:B}{k:H}(f:Fst o l s t k)(hs:200000<s):s-64800<=t/\t<=s+64800:=by
 obtain⟨p1,p2,p3⟩:=f.piece h;have hk:=f.hk;have o1:=h.of1 k hk;have o0:=h.of0 k hk;have ht:=f.ht;refine⟨omg_,?_⟩;by_cases h0:k=0
 .subst h0;have e0:frm l 0=0:=frm0;omega
 .obtain⟨j,rfl⟩:∃j,k=j+1:=⟨k-1,omg_⟩;have b:=f.bef j omg_;have o2:=h.of0 j omg_;omega
end
def fstI(o:B)(l:TrL)(s:B):Int:=open Classical in if h:∃t k,Fst o l s t k then Classical.choose h else 0
def j3A(L:j0c):Int:=if L.2.2.2.1=2 then 7*L.2.2.2.2.1 else L.2.2.2.2.1
def sLoc(L:j0c)(k:B):Int:=(L.2.2.1.1+k*j3A L)*86400+L.2.2.1.2
def hov(o:B)(l:TrL)(L:j0c)(k:B):Int:=if L.2.2.2.1=0 then fstI o l (sLoc L 0)+3600*L.2.2.2.2.1*k else fstI o l (sLoc L k)
structure LR(L:j0c):Prop where
 d0:100<=L.2.2.1.1
 d1:L.2.2.1.1<=30000
 c0:0<=L.2.2.1.2
 c1:L.2.2.1.2<=86399
 u0:0<=L.2.2.2.1
 u1:L.2.2.2.1<=2
 e0:1<=L.2.2.2.2.1
 e1:L.2.2.2.2.1<=49
 m0:1<=L.2.2.2.2.2.1.length
 m1:L.2.2.2.2.2.1.length<=1000
theorem LOk.lr{L:j0c}(h:LOk L):LR L:=⟨by have:=h.d0;omega,by have:=h.d1;omega,h.c0,by have:=h.c1;omega,h.u0,h.u1,h.e0,h.e1,h.m0,by have:=h.m1;omega⟩
theorem LR.step{L:j0c}(h:LR L):1<=j3A L/\j3A L<=343:=by
 have:=h.e0;have:=h.e1;unfold j3A;split<;>omega
section
variable{o:B}{l:TrL}(h:TOk o l)
include h
end
theorem jlC(y:B):jfB y=E (jkl y):=jpj y
theorem jb2(y m:B):jaI y m=E (dim y m):=by
 by_cases h:m<1\/12<m
 .have hk:∀k:B,1<=k->k<=12->(m==k)=false:=λk h1 h2=>j55 omg_;have:dim y m=0:=if_pos h;rw[this]
  simp only[jaI,j5z,j5A,hk 1 omg_ omg_,hk 2 omg_ omg_,hk 3 omg_ omg_,hk 4 omg_ omg_,hk 5 omg_ omg_,hk 6 omg_ omg_,hk 7 omg_ omg_,
   hk 8 omg_ omg_,hk 9 omg_ omg_,hk 10 omg_ omg_,hk 11 omg_ omg_,hk 12 omg_ omg_,j5]
 .obtain rfl|rfl|rfl|rfl|rfl|rfl|rfl|rfl|rfl|rfl|rfl|rfl:m=1\/m=2\/m=3\/m=4\/m=5\/m=6\/m=7\/m=8\/m=9\/m=10\/m=11\/m=12:=omg_
  case inr.inl=>have e:jaI y 2=(jfB y).bind λr=>cond r (E (29:B)) (E (28:B)):=rfl;rw[e,jlC,dim,jmm];simp only[j0];cases jkl y<;>rfl
  all_goals rfl
theorem jko(y m d:B):jdE (y,m,d)=E (R (jfn y m d)):=by
 simp only[jdE,jb2,j0];by_cases hv:jfn y m d
 .have hm:=j97 hv;have hv':=hv;obtain⟨a1,a2,a3,a4⟩:=hv;rw[j00 (show y>=1970 from a1),j00 a2,j00 (show m>=1 from hm.1),j00 hm.2,j00 (show d>=1 from a3),j00 a4,j00 hv'];rfl
 .rw[j01 hv];by_cases a1:y>=1970
  .by_cases a2:y<=2240
   .by_cases a3:m>=1
    .by_cases a4:m<=12
     .by_cases a5:d>=1
      .rw[j00 a1,j00 a2,j00 a3,j00 a4,j00 a5,j01 (show¬d<=dim y m fromλh=>hv ⟨a1,a2,a5,h⟩)];rfl
      .rw[j00 a1,j00 a2,j00 a3,j00 a4,j01 a5];rfl
     .rw[j00 a1,j00 a2,j00 a3,j01 a4];rfl
    .rw[j00 a1,j00 a2,j01 a3];rfl
   .rw[j00 a1,j01 a2];rfl
  .rw[j01 a1];rfl
theorem jlD(y:B)(h1:1969<=y)(h2:y<=1000000000):jdF y=E (cnt y):=by
 simp(disch:=omega)only[jdF,S0];rw[jeQ (show 0<=y-1969 by omega),jeQ (show 0<=y-1901 by omega),jeQ (show 0<=y-1601 by omega)];simp (disch:=omega) only[j5Z];congr 1;unfold cnt;omega
theorem jhN(y m d:B)(hm:m<=13):∀(n:H)(s k:B),1<=k->k+n=m -> -1000000000000<=s->s+31*n<=1000000000000->jeF s k y m d=E (s+cum y m-cum y k,y,m,d)
 |0,s,k,hk,hn,_,_=>by
  rw[jdG];have:k=m:=omg_;subst this;simp(disch:=omega)only[j5B,S0];congr 2;omega
 |n+1,s,k,hk,hn,h1,h2=>by
  rw[jdG];have hd:=j3v y k;have hc:=jb0 y k hk omg_;simp(disch:=omega)only[j5B,jb2,jhN y m d hm n (s+dim y k) (k+1) omg_ omg_ omg_ omg_,S0];congr 2;omega
theorem jnv{y m d:B}(hv:jfn y m d):jix (y,m,d)=E (num y m d,0):=by
 have hm:=j97 hv;have hd:=j3v y m;have hb : -1000000000<=cnt y/\cnt y<=1000000000:=by have:=hv.1;have:=hv.2.1;unfold cnt;omega
 have hc:=j96 y m;obtain⟨h1,h2,h3,h4⟩:=id hv;simp(disch:=omega)only[jix,jko,jlD y omg_ omg_,jhN y m d omg_ (m-1).toNat (cnt y) 1 omg_ omg_ omg_ omg_,S0];have:cum y 1=0:=rfl;simp(disch:=omega)only[S0];unfold num;congr 2;omega
theorem jcI(d:B):jaJ d=j4F d:=rfl
theorem jgI(y m k w n e:B)(hn0:0<=n)(hn1:n<=1000000)(he6:e<=6)(hew:(n+e+3)%7=w) :
  ∀(j:H)(s:B),0<=s->s+j=e->jeG y m k w n (n+s)=E (y,m,k,n,n+e)
 |0,s,hs,hj=>by
  rw[jdH];have:s=e:=omg_;subst this;have hb:((n+s+3)%7 != w)=false:=by simp[hew]
  simp only[j5C,jcI,jeS (n+s) omg_,j0,hb,j5,j0f]
 |j+1,s,hs,hj=>by
  rw[jdH];have hb:((n+s+3)%7 != w)=true:=by simp only[bne_iff_ne,ne_eq];omega
  simp only[j5C,jcI,jeS (n+s) omg_,j0,hb,j4,j08];rw[j0d (x:=n+s+1),show n+s+1=n+(s+1) by omega];exact jgI y m k w n e hn0 hn1 he6 hew j (s+1) omg_ omg_
theorem jdd(y m n t:B)(hn0:0<=n)(hn1:n<=1000000)(ht1:t<n+dim y m)(ht2:n+dim y m<=t+7)(ht0 : -1000<=t) :
  ∀(j:H)(s:B),s+7*j=t -> -1000<=s->jeH y m n s=E t
 |0,s,hs,_=>by
  have hd:=j3v y m;rw[jdI];have:s=t:=omg_;subst this;simp(disch:=omega)only[j5D,jb2,S0]
 |j+1,s,hs,h1=>by
  have hd:=j3v y m;rw[jdI];simp(disch:=omega)only[j5D,jb2,S0];exact jdd y m n t hn0 hn1 ht1 ht2 ht0 j (s+7) omg_ omg_
theorem jnw(y m k w:B)(h1:1970<=y)(h2:y<=2240)(hm1:1<=m)(hm2:m<=12)(hk1:1<=k)(hk2:k<=5)(hw1:0<=w)(hw2:w<=6):jiy y m k w=E (nth y m k w,0):=by
 have hv:=j8J y m h1 h2 hm1 hm2;have hr:=j98 hv;have hd:=jgF y m hm1 hm2;have hd2:=j3v y m;simp(disch:=omega)only[jiy,jnv hv,S0];unfold nth;generalize num y m 1=n at *;obtain⟨e,he0,he6,hew,hee⟩:∃e,0<=e/\e<=6/\(n+e+3)%7=w/\n+(w-(n+3)%7+7)%7=n+e:=⟨(w-(n+3)%7+7)%7,omg_,omg_,omg_,rfl⟩;rw[hee];have hl:=jgI y m k w n e hr.1 omg_ he6 hew e.toNat 0 omg_ omg_;rw[Int.add_zero]at hl;simp only[hl,j0];by_cases hk:k<5
 .simp(disch:=omega)only[if_neg,S0]
 .have hk5:k=5:=omg_;subst hk5;rw[j01 hk,j5];by_cases hc:n+e+7*(5-1)>=n+dim y m
  .rw[jdd y m n (n+e+21) hr.1 omg_ omg_ omg_ omg_ 3 (n+e) omg_ omg_,if_pos hc];simp only[j0];congr 2;omega
  .rw[jdd y m n (n+e+28) hr.1 omg_ omg_ omg_ omg_ 4 (n+e) omg_ omg_,if_neg hc];simp only[j0];congr 2
theorem jhO{x y:B×B}:∀{l:TrL},y∈j66 x l->y=x\/y∈l
 |[],h=>by simp[j66]at h;exact .inl h
 |z::zs,h=>by
  unfold j66 at h;split at h
  .rcases List.mem_cons.1 h with rfl|h
   .exact .inr smp_
   .rcases jhO h with h|h
    .exact .inl h
    .exact .inr (by simp[h])
  .rcases List.mem_cons.1 h with rfl|h
   .exact .inl rfl
   .exact .inr h
theorem jfe{y:B×B}:∀{l acc:TrL},y∈j3f l acc->y∈l\/y∈acc
 |[],_,h=> .inr h
 |x::xs,acc,h=>by
  rcases jfe (l:=xs) h with h|h
  .exact .inl (by simp[h])
  .rcases jhO h with rfl|h
   .exact .inl smp_
   .exact .inr h
theorem jkp{y:B×B}{l:TrL}(h:y∈j4z l):y∈l:=by
 rcases jfe (List.mem_reverse.1 h) with h|h
 .exact h
 .simp at h
theorem jms{x:B×B}{l:F Rule}(h:x∈occs l):∃r∈l,∃j:H,(j:B)<=r.2.1-r.1/\x=occ r (r.1+(j:B)):=by
 obtain⟨r,hr,hx⟩:=List.mem_flatMap.1 h;obtain⟨i,hi,rfl⟩:=List.mem_map.1 hx;have hi:=List.mem_range.1 hi;exact⟨r,hr,i,omg_,rfl⟩
theorem j85{n lo hi:B}(h1:lo<=n)(h2:n<=hi):j6y n lo hi=E true:=by
 grind[j6y]
theorem jpw{n lo hi:B}(h:¬(lo<=n/\n<=hi)):j6y n lo hi=E false:=by
 grind[j6y]
theorem jnx{r:Rule}(h:ROk r):j7P r=E true:=by
 simp only[j7P,j85 h.y0 (show r.1<=2240 by have:=h.y1;have:=h.y2;omega),j85 h.y1 h.y2,j85 h.m0 h.m1,j85 h.k0 h.k1,j85 h.d0 h.d1,j85 h.s0 h.s1,j85 h.o0 h.o1,j0,j4]
theorem jff(x:B×B):∀l:TrL,j66 x l=l.takeWhile (λy=>R (x.1<y.1))++x::l.dropWhile (λy=>R (x.1<y.1))
 |[]=>rfl
 |y::ys=>by
  unfold j66;by_cases h:x.1<y.1
  .rw[if_pos h,jff x ys];simp[h]
  .rw[if_neg h];simp[h]
theorem ju4{rs:F Rule}{i y a b:B}:∀(rp mid:TrL),rp.length+mid.length<=100000->
  j5j rs i y (rp.length:B) a b (rp.reverse++mid)=E (rs,i,y,((rp.dropWhile (λz=>R (a<z.1))).length:B),a,b,rp.reverse++mid)
 |[],mid,_=>by
  rw[j7Q];simp(disch:=omega)only[S0];rfl
 |z::zs,mid,hl=>by
  have hL:((z::zs).reverse++mid).length=zs.length+1+mid.length:=sqo_;simp only[List.length_cons]at hl;have g2:((z::zs).reverse++mid).getD ((((zs.length+1:H):B)-1).toNat) (0,0)=z:=by simp(disch:=omega)only[S0];simp
  rw[j7Q];simp(disch:=omega)only[j3z,g2,S0];by_cases hc:a<z.1
  .simp(disch:=omega)only[S0];have ih:=ju4 (rs:=rs) (i:=i) (y:=y) (a:=a) (b:=b) zs (z::mid) sqo_;have e:(z::zs).reverse++mid=zs.reverse++z::mid:=smp_;rw[e,show ((zs.length+1:H):B)-1=(zs.length:B) by omega,ih];simp[hc]
  .simp(disch:=omega)only[S0];simp[hc]
theorem jqU(l:TrL)(x:B×B){k:H}(hk:k<=l.length):List.set (over (l++[x]) (k+1) (X k (l++[x]))) k x=l.take k++x::l.drop k:=by
 have h1:(l++[x]).length=l.length+1:=smp_;unfold over;rw[h1,W (show (l++[x]).length<=k+1+(X k (l++[x])).length by simp;omega),Â];have e1:X k (l++[x])=X k l++[x]:=by rw[List.drop_append_of_le_length hk]
 grind[List.take_succ_eq_append_getElem]
theorem ju5{rs:F Rule}{i:H}(hi:i<rs.length){r:Rule}(hr:rs[i]=r)(h:ROk r):∀(n j:H)(acc:TrL),r.1+(j:B)+n=r.2.1+1->acc.length+n<=90000->
  j6W rs (i:B) (r.1+(j:B)) acc.reverse=E (rs,(i:B),(j3f ((Ä n).map λ(q:H)=>occ r (r.1+(j:B)+(q:B))) acc).reverse)
 |0,j,acc,hj,_=>by
  have hg:rs.getD i (0,0,0,0,0,0,0)=r:=by simp[hi,hr]
  rw[j7R];simp(disch:=omega)only[j2q,hg,S0];rfl
 |n+1,j,acc,hj,hl=>by
  have hg:rs.getD i (0,0,0,0,0,0,0)=r:=by simp[hi,hr]
  have h0:=h.y0;have h2:=h.y2;have hs0:=h.s0;have hs1:=h.s1;have hv:=j98 (j8J (r.1+(j:B)) r.2.2.1 omg_ omg_ h.m0 h.m1);have hn:=jec (w:=r.2.2.2.2.1) (y:=r.1+(j:B)) omg_ omg_ h.m0 h.m1 h.k0 h.k1;have hd:=j3v (r.1+(j:B)) r.2.2.1;rw[j7R];simp only[j2q];rw[j1g];simp only[j4,j6,hg];rw[j00 (show r.1+(j:B)<=r.2.1 by omega),jnw _ _ _ _ omg_ omg_ h.m0 h.m1 h.k0 h.k1 h.d0 h.d1];simp only[j4,j0];rw[j0d (x:=nth (r.1+(j:B)) r.2.2.1 r.2.2.2.1 r.2.2.2.2.1*86400),j0d (x:=nth (r.1+(j:B)) r.2.2.1 r.2.2.2.1 r.2.2.2.2.1*86400+r.2.2.2.2.2.1)];have hl4:=ju4 (rs:=rs) (i:=(i:B)) (y:=r.1+(j:B)) (a:=(occ r (r.1+(j:B))).1) (b:=(occ r (r.1+(j:B))).2) acc [] sqo_;rw[Â]at hl4;rw[show J (I acc.reverse)=(acc.length:B) by simp];rw[show j5j rs (i:B) (r.1+(j:B)) (acc.length:B) (nth (r.1+(j:B)) r.2.2.1 r.2.2.2.1 r.2.2.2.2.1*86400+r.2.2.2.2.2.1) r.2.2.2.2.2.2 acc.reverse=_ from hl4];simp only[j0];generalize hx:occ r (r.1+(j:B))=x at *;have hdl:(acc.dropWhile (λz=>R (x.1<z.1))).length<=acc.length:=(List.dropWhile_sublist _).length_le;generalize hD:acc.dropWhile (λz=>R (x.1<z.1))=D at *;have hlen1:(acc.reverse++[(x.1,x.2)]).length=acc.length+1:=smp_;rw[j00 (by simp[j06];omega)];simp only[j4]
  rw[j0d (x:=(D.length:B)+1),j00 (show (0:B)<=(D.length:B)+1 by omega),j00 (show (D.length:B)+1<=J (acc.reverse++[(x.1,x.2)]).length by simp_all),
   j00 (show (0:B)<=(D.length:B) by omega),j00 (show (D.length:B)<=J (acc.reverse++[(x.1,x.2)]).length by grind)]
  simp only[Bool.and_self,j4,j6,show ((D.length:B)+1).toNat=D.length+1 by omega];have hov:(over (acc.reverse++[(x.1,x.2)]) (D.length+1) (X D.length (acc.reverse++[(x.1,x.2)]))).length=acc.length+1:=by unfold over;simp;omega
  rw[j2M omg_ (by rw[hov];omega),jqU acc.reverse (x.1,x.2) (by simpa using hdl)];simp only[j4];rw[j0d (x:=r.1+(j:B)+1),j08];have hins:acc.reverse.take D.length++(x.1,x.2)::acc.reverse.drop D.length=(j66 x acc).reverse:=by grind[List.takeWhile_append_dropWhile,jff]
  rw[hins];have ih:=ju5 hi hr h n (j+1) (j66 x acc) omg_ (by rw[jah];omega);rw[show r.1+(j:B)+1=r.1+((j+1:H):B) by omega];refine ih.trans ?_
  have hmap:(Ä n).map (λ(q:H)=>occ r (r.1+((j+1:H):B)+(q:B)))=(Ä n).map ((λ(q:H)=>occ r (r.1+(j:B)+(q:B))) ∘ Nat.succ):=List.map_congr_left λq _=>by
   grind
  grind[List.range_succ_eq_map,j3f]
theorem jfg:∀(a b acc:TrL),j3f (a++b) acc=j3f b (j3f a acc)
 |[],_,_=>rfl
 |x::a,b,acc=>by simp only[List.cons_append,j3f];exact jfg a b _
theorem ju6{rs:F Rule}(h:∀r∈rs,ROk r)(hlen:rs.length<=100):∀(n i:H)(acc:TrL),i+n=rs.length->acc.length<=300*i->
  j5k rs (i:B) acc.reverse=E (j3f (occs (rs.drop i)) acc).reverse
 |0,i,acc,hi,_=>by
  rw[j7S];simp(disch:=omega)only[j2r,W,S0];rfl
 |n+1,i,acc,hi,hl=>by
  have hlt:i<rs.length:=omg_;have hr:=h rs[i] (Á hlt);have h0:=hr.y0;have h1:=hr.y1;have h2:=hr.y2;have hg:rs.getD i (0,0,0,0,0,0,0)=rs[i]:=by simp[hlt]
  have hl2:=ju5 hlt rfl hr (rs[i].2.1-rs[i].1+1).toNat 0 acc omg_ omg_;rw[show rs[i].1+((0:H):B)=rs[i].1 by omega]at hl2;have ih:=ju6 h hlen n (i+1) (j3f (occR rs[i]) acc) omg_ (by grind[j84,occR]);rw[j7S];simp(disch:=omega)only[j2r,hl2,O hlt,S0];grind[occR,occs,jfg]
theorem jmt{rs:F Rule}(h:∀r∈rs,ROk r)(hlen:rs.length<=100):j6X rs=E (j4z (occs rs)):=by
 have e:=ju6 h hlen rs.length 0 [] omg_ smp_;simp only[j6X];rw[show j5k rs 0 []=_ from e];rfl
theorem jpx{rs:F Rule}(h:∀r∈rs,ROk r)(hlen:rs.length<=100)(nm:G)(o:B):∀(n i:H)(s:B),i+n=rs.length->0<=s->s<=300*i->
  j3c s (i:B) nm o rs=E (.inr (s+((occs (rs.drop i)).length:B),nm,o,rs))
 |0,i,s,hi,_,_=>by
  grind[j5E,j1y,S0,occs]
 |n+1,i,s,hi,hs0,hs1=>by
  have hlt:i<rs.length:=omg_;have hr:=h rs[i] (Á hlt);have h0:=hr.y0;have h1:=hr.y1;have h2:=hr.y2;have hg:rs.getD i (0,0,0,0,0,0,0)=rs[i]:=by simp[hlt]
  have ih:=jpx h hlen nm o n (i+1) (s+(rs[i].2.1-rs[i].1+1)) omg_ omg_ omg_;have hrule:j7P (rs[i].1,rs[i].2.1,rs[i].2.2.1,rs[i].2.2.2.1,rs[i].2.2.2.2.1,rs[i].2.2.2.2.2.1,rs[i].2.2.2.2.2.2)=E true:=jnx hr;rw[j5E];simp(disch:=omega)only[j1y,hrule,S0];refine ih.trans ?_;rw[O hlt];grind[occs,occR]
theorem jsD(L:TrL)(hL:L.length<=1000):∀(n i:H)(now:B)(acc:TrL),i+n=L.length -> -64800<=now->now<=64800->acc.length<=i->(∀x∈acc,0<=x.1/\x.1<=8589934592)->Good now (acc.getLast?.map (·.1)) (L.drop i)->
  j3d now (i:B) acc L=E (.inr (acc++outT now (L.drop i)))
 |0,i,now,acc,hi,_,_,_,_,_=>by
  grind[j4d,j1e,j0f,outT]
 |n+1,i,now,acc,hi,hn0,hn1,hal,hacc,hg=>by
  have hlt:i<L.length:=omg_;rw[O hlt]at hg ⊢;have hgd:L.getD i (0,0)=L[i]:=by simp[hlt]
  rw[j4d];simp only[j1e,show J (I L)=(L.length:B) from rfl];rw[j00 (show (i:B)<(L.length:B) by omega),j1g];simp only[j4,j6,hgd];generalize L[i]=x at *;rw[j0d (x:=(i:B)+1)];simp only[Good]at hg;by_cases hx:x.2=now
  .rw[if_pos hx]at hg;rw[j9g hx];simp only[j4,j08,outT];rw[if_pos hx];exact jsD L hL n (i+1) now acc omg_ hn0 hn1 omg_ hacc hg
  .rw[if_neg hx]at hg;obtain⟨⟨g1,g2,g3,g4,g5,g6,g7⟩,g8⟩:=hg;rw[j55 hx,j0d (x:=x.1-now),j0d (x:=x.2-now)];simp only[j5,j85 (show (-86399:B)<=x.2-now by omega) (show x.2-now<=86399 by omega),j85 (show (0:B)<=x.1-now by omega) (show x.1-now<=8589934592 by omega),j0,U,show J (I acc)=(acc.length:B) from rfl]
   have hnext:=jsD L hL n (i+1) x.2 (acc++[(x.1-now,x.2)]) omg_ g6 g7 sqo_
    (λy hy=>by
     grind) (by simpa using g8)
   have hout:outT now (x::L.drop (i+1))=(x.1-now,x.2)::outT x.2 (L.drop (i+1)):=by simp[outT,hx]
   rw[hout];rw[List.append_assoc]at hnext;rw[j0d (x:=(acc.length:B)-1)];by_cases ha:acc=[]
   .grind[j06,j08]
   .have hpos:0<acc.length:=List.length_pos_iff.2 ha;have hlast:acc.getLast? = E (acc.getD (acc.length-1) (0,0)):=by grind
    rw[hlast]at g5;have g5:(acc.getD (acc.length-1) (0,0)).1+604800<=x.1-now:=g5 _ rfl;have hb:=hacc (acc.getD (acc.length-1) (0,0)) (List.mem_of_getLast? hlast);rw[j1g,j00 (show (acc.length:B)>0 by omega),show ((acc.length:B)-1).toNat=acc.length-1 by omega];simp only[j4];grind[j5Z,j06,j08]
theorem juL{nm:G}{o:B}{rs:F Rule}(h:∀r∈rs,ROk r)(ho0 : -64800<=o)(ho1:o<=64800)(hlen:rs.length<=16)(hn:(occs rs).length<=640)(hg:Good o none (j4z (occs rs))) :
  j0x (nm,o,rs)=E (outT o (j4z (occs rs)),0):=by
 have hl:(j4z (occs rs)).length<=1000:=by simp[j4z,j84];omega
 have e0:=jpx h omg_ nm o rs.length 0 0 omg_ omg_ omg_;rw[Å]at e0;have e2:=jsD (j4z (occs rs)) hl (j4z (occs rs)).length 0 o [] omg_ ho0 ho1 smp_ smp_ hg;rw[Å]at e2;simp(disch:=omega)only[j0x,j85 ho0 ho1,show j3c 0 0 nm o rs=_ from e0,jmt h omg_,show j3d o 0 [] (j4z (occs rs))=_ from e2,S0];rfl
def Z4(z:G×B×F Rule)(l:TrL):Prop:=j0x z=E (l,0)/\TOk z.2.1 l
theorem MZ.r4{o:B}{rs:F Rule}(h:MZ o rs)(nm:G):Z4 (nm,o,rs) (outT o (j4z (occs rs))):=by
 have ht:=h.tab nm;refine⟨juL h.ok (by have:=h.o0;omega) (by have:=h.o1;omega) ?_ ?_ h.good,ht.2⟩;all_goals grind[len,few]
section
variable{o:B}{l:TrL}(h:TOk o l)
include h
theorem jkq{t:B}{k:H}(hk:k<=l.length)(h1:frm l k<=t)(h2:t<frm l (k+1)):∀(n i:H),i+n=k->j8v l t (tof o l i) (i:B)=E (tof o l k)
 |0,i,hi=>by
  have hi:i=k:=omg_;subst hi;have hlen:=h.len;rw[jbp];simp only[j4g,show J (I l)=(l.length:B) from rfl];by_cases hlt:i<l.length
  .have e:frm l (i+1)=tat l i:=j9K hlt;rw[j1g,j00 (show (i:B)<(l.length:B) by omega)];simp only[È,j4,j6];rw[j01 (show¬(l.getD i (0,0)).1<=t by show¬tat l i<=t;omega),j5,j0f]
  .rw[j01 (show¬(i:B)<(l.length:B) by omega)];simp only[Bool.not_false,Bool.or_true,j4,j5,j0f]
 |n+1,i,hi=>by
  have hlen:=h.len;have hlt:i<l.length:=omg_;have e:frm l (i+1)=tat l i:=j9K hlt;have hle:=h.frm_le (i:=i+1) (j:=k) omg_ omg_;rw[jbp];simp only[j4g,show J (I l)=(l.length:B) from rfl];rw[j1g,j00 (show (i:B)<(l.length:B) by omega)];simp only[È,j4,j6];rw[j00 (show (l.getD i (0,0)).1<=t by show tat l i<=t;omega),j4,j0d,j08];exact jkq hk h1 h2 n (i+1) omg_
theorem jpy{nm:G}{rs:F Rule}{t:B}{k:H}(hk:k<=l.length)(h1:frm l k<=t)(h2:t<frm l (k+1)):jcm (nm,o,rs) l t=E (tof o l k):=by
 have:=jkq h hk h1 h2 k 0 omg_;simp only[jcm];rw[show j8v l t o 0=_ from this];rfl
theorem jgJ{nm:G}{rs:F Rule}{d c:B}(hd : -1000000<=d)(hd2:d<=1000000)(hc:0<=c)(hc2:c<=86399){k:H}(hk:k<=l.length)(hks:d*86400+c-tof o l k<frm l (k+1))
  (hb:∀j,j<k->frm l (j+1)<=d*86400+c-tof o l j):∀(n j:H),j+n=k->j4B ((j:B)-1) nm o rs d c l=E (.inl (max (frm l k) (d*86400+c-tof o l k),0))
 |n,j,hj=>by
  have hlen:=h.len;have hjl:j<=l.length:=omg_;have o1:=h.of0 j hjl;have o2:=h.of1 j hjl;have hlt:=h.frm_lt hjl
  have key:∀A:É ((B×G×B×F Rule×B×B×TrL) ⊕ ((B×B) ⊕ Unit)),
    A=(cond (R (max (frm l j) (d*86400+c-tof o l j)<frm l (j+1))) (E (.inr (.inl (max (frm l j) (d*86400+c-tof o l j),0)))) (E (.inl ((j:B),nm,o,rs,d,c,l))))->
    lpK A (λh=>j4B h.1 h.2.1 h.2.2.1 h.2.2.2.1 h.2.2.2.2.1 h.2.2.2.2.2.1 h.2.2.2.2.2.2)=E (.inl (max (frm l k) (d*86400+c-tof o l k),0)):=by
   intro A hA;rw[hA];cases n with
   |zero=>have hjk:j=k:=omg_;subst hjk;rw[j00 omg_,j4,j0f]
   |succ n=>have:=hb j omg_;rw[j01 omg_,j5,j08];have ih:=jgJ (nm:=nm) (rs:=rs) hd hd2 hc hc2 hk hks hb n (j+1) omg_;rwa[show ((j+1:H):B)-1=(j:B) by omega]at ih
  rw[j90];refine key _ ?_;simp only[j3H,j3r,j3s,show J (I l)=(l.length:B) from rfl];rw[j00 (show (j:B)-1<(l.length:B) by omega)];simp only[show (j:B)-1+1=(j:B) by omega,j0d (x:=(j:B)),j6];rw[j0d (x:=d*86400),j0d (x:=d*86400+c)];have hmx:∀a b:B,(if a>b then a else b)=max b a:=λa b=>omg_;clear key;cases j with
  |zero=>
   have ht0:tof o l 0=o:=rfl;have hf0:frm l 0=0:=rfl;rw[j01 (show¬((0:H):B)-1>=0 by omega)];rw[ht0]at o1 o2 ⊢;rw[hf0];simp only[j4,j5,j0d (x:=d*86400+c-o),hmx];by_cases hl0:0<l.length
   .have e:frm l (0+1)=tat l 0:=j9K hl0;rw[e];rw[j00 (show ((0:H):B)<(l.length:B) by omega),j1g];rfl
   .have hl0':l.length=0:=omg_;have e:frm l (0+1)=8589934593:=by have:=j8l (l:=l);rwa[hl0']at this
    rw[e];rw[j01 (show¬((0:H):B)<(l.length:B) by omega)];rfl
  |succ i=>
   have hil:i<l.length:=omg_;have ht0:tof o l (i+1)=(l.getD i (0,0)).2:=rfl;have hf0:frm l (i+1)=(l.getD i (0,0)).1:=j9K hil;rw[show ((i+1:H):B)-1=(i:B) by omega,j00 (show (i:B)>=0 by omega),j1g];simp only[j4,j6,<-ht0,<-hf0];rw[j0d (x:=d*86400+c-tof o l (i+1))];simp only[hmx];by_cases hl0:i+1<l.length
   .have e:frm l (i+1+1)=(l.getD (i+1) (0,0)).1:=j9K hl0;rw[j00 (show ((i+1:H):B)<(l.length:B) by omega),j1g];simp only[j4,<-e]
   .have e:frm l (i+1+1)=8589934593:=by have:=j8l (l:=l);rwa[show l.length+1=i+1+1 by omega]at this
    rw[j01 (show¬((i+1:H):B)<(l.length:B) by omega),e];rfl
end
theorem jny{t o:B}(h1 : -864000<=t+o)(h2:t+o<=1000000000000):jdM t o=E ((t+o)/86400,(t+o)%86400):=by
 simp(disch:=omega)only[jdM,jeQ,jiL,S0];congr 2<;>omega
section
variable{z:G×B×F Rule}{l:TrL}(h:Z4 z l)
include h
theorem jqV{t:B}{k:H}(h0:0<=t)(h1:t<=8589934592)(hk:k<=l.length)(hk1:frm l k<=t)(hk2:t<frm l (k+1)):j7U z t=E (tof z.2.1 l k,0):=by
 simp(disch:=omega)only[j7U,show j0x (z.1,z.2.1,z.2.2)=_ from h.1,j85 h0 h1,jpy h.2 hk hk1 hk2,S0]
theorem jmu{t:B}{k:H}(h0:0<=t)(h1:t<=8589934592)(hk:k<=l.length)(hk1:frm l k<=t)(hk2:t<frm l (k+1)):j4m z t=E (((t+tof z.2.1 l k)/86400,(t+tof z.2.1 l k)%86400),0):=by
 have o1:=h.2.of0 k hk;have o2:=h.2.of1 k hk;simp(disch:=omega)only[j4m,show j7U (z.1,z.2.1,z.2.2) t=_ from jqV h h0 h1 hk hk1 hk2,jny,S0]
omit h in
theorem jhP{d:B}(h1 : -2<=d)(h2:d<=99422):jbX d=E true:=by
 simp only[jbX,j85 h1 h2,j0]
theorem jnz{d c:B}(hd : -2<=d)(hd2:d<=99422)(hc:0<=c)(hc2:c<=86399){k:H}(hk:k<=l.length)(hks:d*86400+c-tof z.2.1 l k<frm l (k+1))
  (hb:∀j,j<k->frm l (j+1)<=d*86400+c-tof z.2.1 l j):j4f z (d,c)=E (max (frm l k) (d*86400+c-tof z.2.1 l k),0):=by
 have:=jgJ h.2 (nm:=z.1) (rs:=z.2.2) (show -1000000<=d by omega) omg_ hc hc2 hk hks hb k 0 omg_;simp only[j4f,show j0x (z.1,z.2.1,z.2.2)=_ from h.1,j0,bne_self_eq_false,j5,j85 hc hc2,U,jhP hd hd2];rw[j01 (show¬d < -2 by omega),j5,show j4B (-1) z.1 z.2.1 z.2.2 d c l=_ from this];rfl
end
section
variable{o:B}{l:TrL}(h:TOk o l)
include h
end
section
variable{z:G×B×F Rule}{l:TrL}(h:Z4 z l)
include h
end
def NoF(o:B)(l:TrL)(s:B):Prop:=∀j,j<=l.length->frm l (j+1)<=s-tof o l j
def fO(o:B)(l:TrL)(s:B):É Int:=open Classical in if h:∃t k,Fst o l s t k then E (Classical.choose h) else none
theorem Fst.uniq{o:B}{l:TrL}{s t t':B}{k k':H}(f:Fst o l s t k)(g:Fst o l s t' k'):k=k'/\t=t':=by
 have hk:k=k':=by
  rcases S k k' with hlt|heq|hgt
  .have:=g.bef k hlt;have:=f.hks;omega
  .exact heq
  .have:=f.bef k' hgt;have:=g.hks;omega
 subst hk;exact⟨rfl,by rw[f.ht,g.ht]⟩
theorem fO_t{o:B}{l:TrL}{s t:B}{k:H}(f:Fst o l s t k):fO o l s=E t:=by
 have he:∃t k,Fst o l s t k:=⟨t,k,f⟩;unfold fO;rw[dif_pos he];obtain⟨k',g⟩:=Classical.choose_spec he;rw[(g.uniq f).2]
theorem fO_n{o:B}{l:TrL}{s:B}(hno:NoF o l s):fO o l s=none:=by
 unfold fO;rw[dif_neg]
 rintro⟨t,k,f⟩
 have:=hno k f.hk;have:=f.hks;omega
theorem jmv(o:B)(l:TrL)(s:B):(∃t k,Fst o l s t k)\/NoF o l s:=by
 by_cases hno:NoF o l s
 .exact .inr hno
 .left
  have:∃j,j<=l.length/\s-tof o l j<frm l (j+1):=by
   apply Classical.byContradiction;intro hn
   exact hno λj hj=>by
    simp_all
  obtain⟨j,hj,hjs⟩:=this;obtain⟨a,⟨ha,haN⟩,hmin⟩:=jtK (λj=>s-tof o l j<frm l (j+1)/\j<=l.length) j ⟨hjs,hj⟩;refine⟨_,a,haN,ha,λi hi=>?_,rfl⟩;grind
theorem ju7{o:B}{l:TrL}{s t:B}(he:fO o l s=E t):∃k,Fst o l s t k:=by
 rcases jmv o l s with⟨t',k,f⟩|hno
 .rw[fO_t f]at he;grind
 grind[fO_n]
section
variable{o:B}{l:TrL}(h:TOk o l)
include h
theorem jnA{s t:B}(he:fO o l s=E t):s<=t+64800/\0<=t/\t<=8589934592:=by
 obtain⟨k,f⟩:=ju7 he;obtain⟨p1,p2,p3⟩:=f.piece h;have o1:=h.of1 k f.hk;have g1:=h.frm_le (i:=0) (j:=k) omg_ (by have:=f.hk;omega);have e0:frm l 0=0:=frm0;have e1:frm l (l.length+1)=8589934593:=j8l;have g2:=h.frm_le (i:=k+1) (j:=l.length+1) (by have:=f.hk;omega) omg_;omega
theorem jpz{s:B}(hs:8589934593+64800<=s):NoF o l s:=λj hj=>by
 have o1:=h.of1 j hj;have e1:frm l (l.length+1)=8589934593:=j8l;have g2:=h.frm_le (i:=j+1) (j:=l.length+1) omg_ omg_;omega
theorem jsE{s s' t':B}(hs:s<=s')(he:fO o l s'=E t'):∃t,fO o l s=E t/\t<=t':=by
 obtain⟨k',g⟩:=ju7 he;have g1:=g.hks;have hk':=g.hk;rcases jmv o l s with⟨t,k,f⟩|hno
 .refine⟨t,fO_t f,?_⟩;obtain⟨p1,p2,p3⟩:=f.piece h;obtain⟨q1,q2,q3⟩:=g.piece h;have f1:=f.ht;have g2:=g.ht;rcases S k k' with hlt|heq|hgt
  .have:=h.frm_le (i:=k+1) (j:=k') omg_ omg_;omega
  .subst heq;omega
  .have:=f.bef k' hgt;omega
 .have:=hno k' hk';omega
theorem jgK{d c s:B}(hsec:j3C (d,c)=E s)(hs0 : -1000000000000<=s)(hs1:s<=1000000000000)(hno:NoF o l s) :
  ∀(n i:H),i+n=l.length+1->j4J ((l.length+1:H):B) (i:B) d c (pcs o l (l.length+1))=E (.inr ())
 |0,i,hi=>by
  rw[j3S];simp(disch:=omega)only[j1b,S0]
 |n+1,i,hi=>by
  have hlen:=h.len;have hil:i<=l.length:=omg_;have o1:=h.of0 i hil;have o2:=h.of1 i hil;have hb:=hno i hil;have hlt:=h.frm_lt hil;rw[j3S];simp only[j1b];rw[j00 (show (i:B)<((l.length+1:H):B) by omega),j2M omg_ (by rw[jdc];omega)];simp only[j4,j6,jlw (show i<l.length+1 by omega),hsec,j0,pc];rw[j0d (x:=s-tof o l i),j0d (x:=(i:B)+1)];have hm:(if s-tof o l i>frm l i then s-tof o l i else frm l i)=max (frm l i) (s-tof o l i):=by split<;>omega
  rw[hm,j01 omg_,j5,j08];exact jgK hsec hs0 hs1 hno n (i+1) omg_
theorem jiR{d c s:B}(hsec:j3C (d,c)=E s)(hs0 : -1000000000000<=s)(hs1:s<=1000000000000)(hno:NoF o l s):j2C (o,l) (d,c)=E (0,Æ):=by
 have:=jgK h hsec hs0 hs1 hno (l.length+1) 0 omg_;grind[j2C,jkj,jdc,S0]
theorem jkr{d c:B}(hd : -1000000<=d)(hd2:d<=1000000000000000)(hc:0<=c)(hc2:c<=86399) :
  j2C (o,l) (d,c)=E ((fO o l (d*86400+c)).getD 0,(fO o l (d*86400+c)).isSome):=by
 by_cases hb:d<=1000000
 .rcases jmv o l (d*86400+c) with⟨t,k,f⟩|hno
  .have e:=jqO h hd hb omg_ omg_ f.hk f.hks f.bef;rw[<-f.ht]at e;rw[fO_t f];exact e
  grind[fO_n,jiR,jeR]
 .have hno:NoF o l (d*86400+c):=jpz h omg_;rw[fO_n hno];by_cases hb2:d<=1048576
  .have hsec:j3C (d,c)=E (d*86400+c):=by simp(disch:=omega)only[j3C,if_neg,S0]
   grind[jiR]
  .have hsec:j3C (d,c)=E (1048576*86400+c):=by simp(disch:=omega)only[j3C,if_pos,S0]
   grind[jiR,jpz]
theorem jgL{nm:G}{rs:F Rule}{d c:B}(hd : -1000000<=d)(hd2:d<=1000000)(hc:0<=c)(hc2:c<=86399)(hno:NoF o l (d*86400+c)):∀(n j:H),j+n=l.length+1->
  j4B ((j:B)-1) nm o rs d c l=E (.inr ())
 |0,j,hj=>by
  rw[j90];simp(disch:=omega)only[j3H,j3r,j3s,S0]
 |n+1,j,hj=>by
  have hlen:=h.len;have hjl:j<=l.length:=omg_;have o1:=h.of0 j hjl;have o2:=h.of1 j hjl;have hlt:=h.frm_lt hjl;have hb:=hno j hjl;have ih:=jgL (nm:=nm) (rs:=rs) hd hd2 hc hc2 hno n (j+1) omg_;rw[show ((j+1:H):B)-1=(j:B) by omega]at ih
  have key:∀A:É ((B×G×B×F Rule×B×B×TrL) ⊕ ((B×B) ⊕ Unit)),
    A=(cond (R (max (frm l j) (d*86400+c-tof o l j)<frm l (j+1))) (E (.inr (.inl (max (frm l j) (d*86400+c-tof o l j),0)))) (E (.inl ((j:B),nm,o,rs,d,c,l))))->
    lpK A (λh=>j4B h.1 h.2.1 h.2.2.1 h.2.2.2.1 h.2.2.2.2.1 h.2.2.2.2.2.1 h.2.2.2.2.2.2)=E (.inr ()):=by
   grind[j08]
  rw[j90];refine key _ ?_;simp only[j3H,j3r,j3s,show J (I l)=(l.length:B) from rfl];rw[j00 (show (j:B)-1<(l.length:B) by omega)];simp only[show (j:B)-1+1=(j:B) by omega,j0d (x:=(j:B)),j6];rw[j0d (x:=d*86400),j0d (x:=d*86400+c)];have hmx:∀a b:B,(if a>b then a else b)=max b a:=λa b=>omg_;clear key;cases j with
  |zero=>grind[tof,frm,j5Z,tat,j2M]
  |succ i=>
   have hil:i<l.length:=omg_;have ht0:tof o l (i+1)=(l.getD i (0,0)).2:=rfl;have hf0:frm l (i+1)=(l.getD i (0,0)).1:=j9K hil;rw[show ((i+1:H):B)-1=(i:B) by omega,j00 (show (i:B)>=0 by omega),j1g];simp only[j4,j6,<-ht0,<-hf0];rw[j0d (x:=d*86400+c-tof o l (i+1))];simp only[hmx];by_cases hl0:i+1<l.length
   .have e:frm l (i+1+1)=(l.getD (i+1) (0,0)).1:=j9K hl0;grind[j2M]
   grind[j8l]
end
theorem jde{z:j0O}{l:TrL}(h:Z4 z l){d c:B}(hd:1<=d)(hc:0<=c)(hc2:c<=86399) :
  j4f z (d,c)=E (match fO z.2.1 l (d*86400+c) with|some t=>(t,0)|none=>(0,10)):=by
 by_cases hb:d<=99422
 .rcases jmv z.2.1 l (d*86400+c) with⟨t,k,f⟩|hno
  .have e:=jnz h (d:=d) (c:=c) omg_ hb hc hc2 f.hk f.hks f.bef;rw[<-f.ht]at e;rw[fO_t f];exact e
  .have:=jgL h.2 (nm:=z.1) (rs:=z.2.2) (show -1000000<=d by omega) omg_ hc hc2 hno (l.length+1) 0 omg_;rw[fO_n hno];simp only[j4f,show j0x (z.1,z.2.1,z.2.2)=_ from h.1,j0,bne_self_eq_false,j5,j85 hc hc2,U,jhP (show -2<=d by omega) hb];rw[j01 (show¬d < -2 by omega),j5,show j4B (-1) z.1 z.2.1 z.2.2 d c l=_ from this];rfl
 .rw[fO_n (jpz h.2 omg_)];simp only[j4f,show j0x (z.1,z.2.1,z.2.2)=_ from h.1,j0,bne_self_eq_false,j5,j85 hc hc2,U,jbX,jpw (show¬(-2<=d/\d<=99422) by omega)];grind
structure Rt(L:j0c):Prop where
 d0:1<=L.2.2.1.1
 d1:L.2.2.1.1<=100000
 c0:0<=L.2.2.1.2
 c1:L.2.2.1.2<=86399
 u0:0<=L.2.2.2.1
 u1:L.2.2.2.1<=2
 e0:1<=L.2.2.2.2.1
 e1:L.2.2.2.2.1<=400
 m0:L.2.2.2.2.2.1≠[]
theorem Rt.step{L:j0c}(h:Rt L):1<=j3A L/\j3A L<=2800:=by
 have:=h.e0;have:=h.e1;unfold j3A;split<;>omega
def hO(o:B)(l:TrL)(L:j0c)(k:B):É Int:=
 if L.2.2.2.1=0 then (fO o l (sLoc L 0)).bind λt=>if t+3600*L.2.2.2.2.1*k<=8589934592 then E (t+3600*L.2.2.2.2.1*k) else none
 else fO o l (sLoc L k)
section
variable{o:B}{l:TrL}(ht:TOk o l){L:j0c}(h:Rt L)
include ht h
theorem jsF{k t:B}(hk:0<=k)(he:hO o l L k=E t):0<=t/\t<=8589934592/\k<=2386092:=by
 have hs:=h.step;have hd0:=h.d0;have he0:=h.e0;have hc0:=h.c0;unfold hO at he;by_cases h0:L.2.2.2.1=0
 .rw[if_pos h0]at he;cases hf:fO o l (sLoc L 0) with
  |none=>rw[hf]at he;simp at he
  |some v=>
   rw[hf]at he;simp only[j0]at he;have hv:=jnA ht hf;have hm:3600*k<=3600*L.2.2.2.2.1*k:=Int.mul_le_mul_of_nonneg_right omg_ hk;split at he
   .simp at he;omega
   .simp at he
 .rw[if_neg h0]at he;have hv:=jnA ht he;have hm:k*1<=k*j3A L:=Int.mul_le_mul_of_nonneg_left hs.1 hk;unfold sLoc at hv;omega
theorem jqW{k t:B}(he:hO o l L (k+1)=E t):∃v,hO o l L k=E v/\v<=t:=by
 have hs:=h.step;have he0:=h.e0;unfold hO at he ⊢;by_cases h0:L.2.2.2.1=0
 .rw[if_pos h0]at he ⊢;cases hf:fO o l (sLoc L 0) with
  |none=>rw[hf]at he;simp at he
  |some v=>
   rw[hf]at he;simp only[j0]at he ⊢;have hm:3600*L.2.2.2.2.1*(k+1)=3600*L.2.2.2.2.1*k+3600*L.2.2.2.2.1:=by rw[Int.mul_add,Int.mul_one]
   split at he
   .rw[if_pos omg_];simp at he;exact⟨_,rfl,omg_⟩
   .simp at he
 .rw[if_neg h0]at he ⊢;have hm:(k+1)*j3A L=k*j3A L+j3A L:=by rw[Int.add_mul,Int.one_mul]
  exact jsE ht (by unfold sLoc;rw[hm];omega) he
def QO(o:B)(l:TrL)(L:j0c)(t k:B):Prop:=∃v,hO o l L k=E v/\v<=t
theorem QO.down{t:B}:∀(n:H){k:B},QO o l L t (k+n)->QO o l L t k
 |0,k,hq=>by rwa[show k+((0:H):B)=k by omega]at hq
 |n+1,k,hq=>by
  rw[show k+((n+1:H):B)=k+(n:B)+1 by omega]at hq;obtain⟨v,hv,hvt⟩:=hq;obtain⟨v',hv',hl⟩:=jqW ht h (k:=k+(n:B)) hv;exact QO.down n ⟨v',hv',omg_⟩
theorem QO.le{t k j:B}(hkj:k<=j)(hq:QO o l L t j):QO o l L t k:=by
 refine QO.down ht h (j-k).toNat ?_;rwa[show k+(((j-k).toNat:H):B)=j by omega]
def ShO(o:B)(l:TrL)(L:j0c)(t K:B):Prop:=(K = -1/\¬QO o l L t 0)\/(0<=K/\QO o l L t K/\¬QO o l L t (K+1))
theorem ShO.uniq{t K K':B}(a:ShO o l L t K)(b:ShO o l L t K'):K=K':=by
 rcases a with⟨a1,a2⟩|⟨a1,a2,a3⟩<;>rcases b with⟨b1,b2⟩|⟨b1,b2,b3⟩
 .omega
 .exact absurd (QO.le ht h b1 b2) a2
 .exact absurd (QO.le ht h a1 a2) b2
 .rcases Int.lt_trichotomy K K' with hlt|heq|hgt
  .exact absurd (QO.le ht h omg_ b2) a3
  .exact heq
  .exact absurd (QO.le ht h omg_ a2) b3
theorem QO.day{t k:B}(h0:L.2.2.2.1≠0)(hq:QO o l L t k){j:H}(hj:j<=l.length):L.2.2.1.1+k*j3A L<=(t+tof o l j)/86400+2:=by
 obtain⟨v,hv,hvt⟩:=hq;unfold hO at hv;rw[if_neg h0]at hv;have:=jnA ht hv;have o0:=ht.of0 j hj;have hc0:=h.c0;unfold sLoc at this;omega
end
end Go.Proofs.Pw
