/- The staff and the layers that the dice make. -/
import Derived.Test.YtmccfdihkphfaaaGreatLIPA
open _root_ renaming Int->B,List->F,ByteArray->G,Nat->H,Option->È
open Option renaming some->E
open List renaming length->I,drop_eq_getElem_cons->O,drop_of_length_le->U,drop->W,getD->X,getElem_mem->À,append_nil->Â,range->Ä,drop_zero->Å
open Int renaming ofNat->J,toNat->Ê,tmod->Ë
open Decidable renaming decide->K
open ByteArray renaming empty->M,mk->N,toList->Y
open Nat renaming lt_trichotomy->R
open Bool renaming not_true->S,false->Á,true->Ã,true_or->Ç
noncomputable section
open Go Go.Lft
namespace Go.Proofs.Pw
abbrev j0K:=G×B×F Rule
abbrev j0k:=G×B×WL×B×B×Bool
abbrev CalT:=G×B×F B
abbrev j0f:=G×B×(B×B)×B×B×F B×WL×B×B
abbrev j0R:=G×F j0f×F (B×B×B×B×B)
def ZOk(z:j0K):Prop:=MZ z.2.1 z.2.2
theorem jej{L:F B}{a n:B}(h:DOk L a)(hn:1<=n)(hn2:n<=1000000):∃b a',j1f L a n=E (b,L,a')/\DOk L a':=by
 obtain⟨x,a1,e1,x0,x1,d1⟩:=j0J (n:=n) h omg_ omg_;simp only[j1f,e1,j4];exact⟨_,_,rfl,d1⟩
theorem jtE{L:F B}:∀(n:H)(a:B)(zs:F j0K),DOk L a->zs.length+n<=2->(∀z∈zs,ZOk z)->
  ∃zs' a',j7Z (n:B) L a zs=E (L,a',zs')/\zs'.length=zs.length+n/\(∀z∈zs',ZOk z)/\DOk L a'
 |0,a,zs,hd,_,hz=>by
  grind[jby,j3w,S0]
 |n+1,a,zs,hd,hl,hz=>by
  obtain⟨o,rs,a1,e1,m1,d1⟩:=jC6 hd (X [(N #[104,101,114,101]),(N #[116,104,101,114,101])] zs.length M)
  obtain⟨zs',a',e2,h2,h3,h4⟩:=jtE n a1 (zs++[(X [(N #[104,101,114,101]),(N #[116,104,101,114,101])] zs.length M,o,rs)]) d1 sqo_ (λz hz'=>by
   rcases List.mem_append.1 hz' with h|h
   .exact hz z h
   .simp at h;subst h;exact m1)
  rw[jby];simp(disch:=omega)only[j3w,e1,S0];grind
theorem jzt:∃l,jeK=E l/\4<=l.length:=⟨_,rfl,smp_⟩
theorem jpf{L:F B}{zs:F j0K}(hz0:1<=zs.length)(hz1:zs.length<=100):∀(n:H)(a:B)(ps:F j0k),DOk L a->ps.length+n<=4->(∀p∈ps,p.2.2.1.length<=3)->
  ∃ps' a',j80 (n:B) L a zs ps=E (L,a',zs,ps')/\ps'.length=ps.length+n/\(∀p∈ps',p.2.2.1.length<=3)/\DOk L a'
 |0,a,ps,hd,_,hw=>by
  grind[jbz,j3x,S0]
 |n+1,a,ps,hd,hl,hw=>by
  obtain⟨nl,en,hnl⟩:=jzt;obtain⟨x,a1,e1,x0,x1,d1⟩:=j0J (n:=(zs.length:B)) hd omg_ omg_;obtain⟨b,a2,e2,d2⟩:=jej (n:=3) d1 omg_ omg_;obtain⟨c,a3,e3,d3⟩:=jej (n:=2) d2 omg_ omg_;rw[jbz];simp only[j3x,en,j4,show J (I ps)=(ps.length:B) from rfl,show J (I zs)=(zs.length:B) from rfl];rw[j00 omg_,j0B (show (0:B)<=(ps.length:B) by omega) omg_];simp only[j6,e1,e2,e3,j4];rw[j07 (x:=((n+1:H):B)-1),show ((n+1:H):B)-1=(n:B) by omega];cases c with
  |true=>
   obtain⟨w,a4,e4,_,hw4,d4⟩:=jku d3;obtain⟨p,a5,e5,_,d5⟩:=jb7 d4 (xs:=[(0:B),(40:B),(100:B),(12:B)]) smp_ smp_;obtain⟨q,a6,e6,_,d6⟩:=jb7 d5 (xs:=[(0:B),(11:B),(24:B),(1:B)]) smp_ smp_;simp only[j6,e4,e5,e6,j4];rw[j00 (by simp[j03];omega)];simp only[j6,j04]
   obtain⟨ps',a',e,h1,h2⟩:=jpf hz0 hz1 n a6 (ps++[(X nl (Ê (ps.length:B)) M,x,w,w64 (3600*p),w64 (3600*q),b)]) d6 sqo_ (λp hp=>by
    grind)
   grind
  |false=>
   obtain⟨p,a5,e5,_,d5⟩:=jb7 d3 (xs:=[(0:B),(40:B),(100:B),(12:B)]) smp_ smp_;obtain⟨q,a6,e6,_,d6⟩:=jb7 d5 (xs:=[(0:B),(11:B),(24:B),(1:B)]) smp_ smp_;simp only[j7,e5,e6,j4];rw[j00 (by simp[j03];omega)];simp only[j6,j04]
   obtain⟨ps',a',e,h1,h2⟩:=jpf hz0 hz1 n a6 (ps++[(X nl (Ê (ps.length:B)) M,x,([]:WL),w64 (3600*p),w64 (3600*q),b)]) d6 sqo_ (λp hp=>by
    grind)
   grind
theorem jtF{L:F B}{s:B}{nm:G}{z:B}{zs:F j0K}{ps:F j0k}{cs:F CalT}:∀(n:H)(a day:B)(ds:F B),DOk L a->ds.length+n<=4->
  ∃ds' a',jac s (n:B) day L a nm z zs ps cs ds=E (s,L,a',nm,z,zs,ps,cs,ds')/\DOk L a'
 |0,a,day,ds,hd,_=>by
  rw[jbA];simp(disch:=omega)only[j3y,S0];grind
 |n+1,a,day,ds,hd,hl=>by
  obtain⟨x,a1,e1,x0,x1,d1⟩:=j0J (n:=6) hd omg_ omg_;rw[jbA];simp only[j3y];rw[j00 omg_,j07 (x:=((n+1:H):B)-1),show ((n+1:H):B)-1=(n:B) by omega];simp(disch:=omega)only[e1,S0];exact jtF n a1 _ _ d1 sqo_
theorem jtG{L:F B}{zs:F j0K}{ps:F j0k}(hz0:1<=zs.length)(hz1:zs.length<=100):∀(n:H)(a:B)(cs:F CalT),DOk L a->cs.length+n<=4->
  ∃cs' a',j81 (n:B) L a zs ps cs=E (L,a',zs,ps,cs')/\cs'.length=cs.length+n/\DOk L a'
 |0,a,cs,hd,_=>by
  grind[jbB,j3z,j0e]
 |n+1,a,cs,hd,hl=>by
  obtain⟨x,a1,e1,x0,x1,d1⟩:=j0J (n:=(zs.length:B)) hd omg_ omg_;obtain⟨y,a2,e2,y0,y1,d2⟩:=j0J (n:=4) d1 omg_ omg_;obtain⟨ds,a3,e3,d3⟩:=jtF (s:=((n+1:H):B)) (nm:=N #[100,97,121,115]) (z:=x) (zs:=zs) (ps:=ps) (cs:=cs) y.toNat a2 20454 [] d2 sqo_;rw[show ((y.toNat:H):B)=y by omega]at e3;rw[jbB];simp only[j3z,show J (I zs)=(zs.length:B) from rfl];rw[j00 omg_];simp only[j6,e1,e2,e3,j4];rw[j00 (by simp[j03];omega),j07 (x:=((n+1:H):B)-1),show ((n+1:H):B)-1=(n:B) by omega];simp only[j6,j04];obtain⟨cs',a',e,h1,h2⟩:=jtG (ps:=ps) hz0 hz1 n a3 (cs++[(N #[100,97,121,115],x,ds)]) d3 sqo_;grind
structure SOk(zs:F j0K)(ps:F j0k)(cs:F CalT):Prop where
 z0:1<=zs.length
 z1:zs.length<=2
 ok:∀z∈zs,ZOk z
 p0:1<=ps.length
 p1:ps.length<=4
 c1:cs.length<=1
 pw:∀p∈ps,p.2.2.1.length<=3
theorem jzu{L:F B}{a:B}(h:DOk L a):∃zs ps cs a',jad L a=E ((zs,ps,cs,([]:F j0R)),L,a')/\SOk zs ps cs/\DOk L a':=by
 obtain⟨x,a1,e1,x0,x1,d1⟩:=j0J (n:=2) h omg_ omg_;obtain⟨zs,a2,e2,l2,k2,d2⟩:=jtE (1+x).toNat a1 [] d1 sqo_ smp_;obtain⟨y,a3,e3,y0,y1,d3⟩:=j0J (n:=4) d2 omg_ omg_;simp at l2;obtain⟨ps,a4,e4,l4,w4,d4⟩:=jpf (zs:=zs) omg_ omg_ (1+y).toNat a3 [] d3 sqo_ smp_;obtain⟨q,a5,e5,q0,q1,d5⟩:=j0J (n:=2) d4 omg_ omg_;obtain⟨cs,a6,e6,l6,d6⟩:=jtG (zs:=zs) (ps:=ps) omg_ omg_ q.toNat a5 [] d5 sqo_;simp at l4 l6;rw[show (((1+x).toNat:H):B)=1+x by omega]at e2;rw[show (((1+y).toNat:H):B)=1+y by omega]at e4;rw[show ((q.toNat:H):B)=q by omega]at e6;simp(disch:=omega)only[jad,e1,e2,e3,e4,e5,e6,S0];exact⟨zs,ps,cs,a6,rfl,⟨omg_,omg_,k2,omg_,omg_,omg_,w4⟩,d6⟩
structure LOk(l:j0f):Prop where
 d0:20452<=l.2.2.1.1
 d1:l.2.2.1.1<=20457
 c0:0<=l.2.2.1.2
 c1:l.2.2.1.2<=79200
 u0:0<=l.2.2.2.1
 u1:l.2.2.2.1<=2
 e0:1<=l.2.2.2.2.1
 e1:l.2.2.2.2.1<=49
 e2:l.2.2.2.1≠0->l.2.2.2.2.1<=2
 m0:1<=l.2.2.2.2.2.1.length
 m1:l.2.2.2.2.2.1.length<=3
 w3:l.2.2.2.2.2.2.1.length<=3
theorem jpg{L:F B}{zs:F j0K}{ps:F j0k}{cs:F CalT}{ss:F j0R}(hp0:1<=ps.length)(hp1:ps.length<=100){x0 y0:G}{x1 x2 x3 x4 x5 x6 x7 y1 y2 y3 y4 y5 y6 y7:B}:∀(n:H)(a:B)(ms:F B),DOk L a->ms.length+n<=4->
  ∃ms' a',j82 (n:B) L a zs ps cs ss x0 x1 x2 x3 x4 x5 x6 x7 y0 y1 y2 y3 y4 y5 y6 y7 ms=E (L,a',zs,ps,cs,ss,x0,x1,x2,x3,x4,x5,x6,x7,y0,y1,y2,y3,y4,y5,y6,y7,ms')/\ms'.length=ms.length+n/\DOk L a'
 |0,a,ms,hd,_=>by
  rw[jbC];grind[j3A,S0]
 |n+1,a,ms,hd,hl=>by
  obtain⟨x,a1,e1,_,_,d1⟩:=j0J (n:=(ps.length:B)) hd omg_ omg_;rw[jbC];simp only[j3A,show J (I ps)=(ps.length:B) from rfl];rw[j00 omg_,j07 (x:=((n+1:H):B)-1),show ((n+1:H):B)-1=(n:B) by omega];simp(disch:=omega)only[e1,S0];obtain⟨ms',a',e,h1,h2⟩:=jpg (zs:=zs) (cs:=cs) (ss:=ss) hp0 hp1 (x0:=x0) (x1:=x1) (x2:=x2) (x3:=x3) (x4:=x4) (x5:=x5) (x6:=x6) (x7:=x7) (y0:=y0) (y1:=y1) (y2:=y2) (y3:=y3) (y4:=y4) (y5:=y5) (y6:=y6) (y7:=y7) n a1 (ms++[x]) d1 sqo_;grind
theorem jzv{L:F B}{a:B}(h:DOk L a){zs:F j0K}{ps:F j0k}{cs:F CalT}{ss:F j0R}(hs:SOk zs ps cs)(nm:G) :
  ∃l a',jae L a (zs,ps,cs,ss) nm=E (l,L,a')/\LOk l/\0<=l.2.1/\l.2.1<(zs.length:B)/\DOk L a':=by
 have hz0:=hs.z0;have hz1:=hs.z1;have hp0:=hs.p0;have hp1:=hs.p1;have hc1:=hs.c1;obtain⟨z,a1,e1,z0,z1,d1⟩:=j0J (n:=(zs.length:B)) h omg_ omg_;obtain⟨x,a2,e2,x0,x1,d2⟩:=j0J (n:=6) d1 omg_ omg_;obtain⟨s,a3,e3,m3,d3⟩:=jb7 d2 (xs:=[(0:B),(32400:B),(7200:B),(9000:B),(79200:B),(1:B)]) smp_ smp_;obtain⟨u,a4,e4,u0,u1,d4⟩:=j0J (n:=3) d3 omg_ omg_;obtain⟨v,a5,e5,v0,v1,d5⟩:=j0J (n:=2) d4 omg_ omg_;have hs':0<=s/\s<=79200:=by simp at m3;omega
 simp only[jae,show J (I zs)=(zs.length:B) from rfl,e1,e2,e3,e4,e5,j4];rw[j07 (x:=20454+x),j07 (x:=20454+x-2),j07 (x:=1+v)]
 have fin:∀(ev a6:B),DOk L a6->1<=ev->ev<=49->(u≠0->ev<=2)->∀ms:F B,1<=ms.length->ms.length<=3->∀(w:WL),w.length<=3->∀(c m:B)(a':B),DOk L a'->∃l a'',E ((nm,z,(20454+x-2,s),u,ev,ms,w,c,m),L,a')=E (l,L,a'')/\LOk l/\0<=l.2.1/\l.2.1<(zs.length:B)/\DOk L a'':=
  λev a6 _ h1 h2 h3 ms h4 h5 w hw c m a' hd=>⟨_,_,rfl,⟨by dsimp only;omega,by dsimp only;omega,hs'.1,hs'.2,u0,by dsimp only;omega,h1,h2,h3,h4,h5,hw⟩,z0,z1,hd⟩
 by_cases hu:u=0
 .rw[j8T hu,j6];obtain⟨ev,a6,e6,m6,d6⟩:=jb7 d5 (xs:=[(6:B),(8:B),(12:B),(24:B),(23:B),(49:B)]) smp_ smp_;have hev:1<=ev/\ev<=49:=by simp at m6;omega
  obtain⟨n,a7,e7,n0,n1,d7⟩:=j0J (n:=3) d6 omg_ omg_;obtain⟨ms,a8,e8,l8,d8⟩:=jpg (L:=L) (zs:=zs) (ps:=ps) (cs:=cs) (ss:=ss) hp0 omg_ (x0:=M) (x1:=0) (x2:=0) (x3:=0) (x4:=0) (x5:=0) (x6:=0) (x7:=0) (y0:=nm) (y1:=z) (y2:=20454+x-2) (y3:=s) (y4:=u) (y5:=ev) (y6:=0) (y7:=0) (1+n).toNat a7 [] d7 sqo_;rw[show (((1+n).toNat:H):B)=1+n by omega]at e8;simp at l8;obtain⟨b,a9,e9,d9⟩:=jej (n:=2) d8 omg_ omg_;simp only[e6,e7,j4];rw[j07 (x:=1+n)];simp only[e8,e9,j4,show J (I cs)=(cs.length:B) from rfl];cases b with
  |true=>
   obtain⟨w,a10,e10,_,hw,d10⟩:=jku d9;obtain⟨c,a11,e11,d11⟩:=jej (n:=4) d10 omg_ omg_;simp only[j6,e10,e11,j4];by_cases hcc:c=Ã/\(cs.length:B)>0
   .obtain⟨i,a12,e12,_,_,d12⟩:=j0J (n:=(cs.length:B)) d11 omg_ omg_;obtain⟨j,a13,e13,_,_,d13⟩:=j0J (n:=2) d12 omg_ omg_;rw[hcc.1,j00 hcc.2];simp only[j6,e12,e13,j4];exact fin ev a6 d6 hev.1 hev.2 (λh=>absurd hu h) ms omg_ omg_ _ hw _ _ _ d13
   .have hc0:cond c (K ((cs.length:B)>0)) Á=false:=by grind
    rw[hc0];simp only[j7];exact fin ev a6 d6 hev.1 hev.2 (λh=>absurd hu h) ms omg_ omg_ _ hw _ _ _ d11
  |false=>
   obtain⟨c,a11,e11,d11⟩:=jej (n:=4) d9 omg_ omg_;simp only[j7,e11,j4];by_cases hcc:c=Ã/\(cs.length:B)>0
   .obtain⟨i,a12,e12,_,_,d12⟩:=j0J (n:=(cs.length:B)) d11 omg_ omg_;obtain⟨j,a13,e13,_,_,d13⟩:=j0J (n:=2) d12 omg_ omg_;rw[hcc.1,j00 hcc.2];simp only[j6,e12,e13,j4];exact fin ev a6 d6 hev.1 hev.2 (λh=>absurd hu h) ms omg_ omg_ _ smp_ _ _ _ d13
   .have hc0:cond c (K ((cs.length:B)>0)) Á=false:=by grind
    rw[hc0];simp only[j7];exact fin ev a6 d6 hev.1 hev.2 (λh=>absurd hu h) ms omg_ omg_ _ smp_ _ _ _ d11
 .rw[j3Z hu,j7];obtain⟨n,a7,e7,n0,n1,d7⟩:=j0J (n:=3) d5 omg_ omg_;obtain⟨ms,a8,e8,l8,d8⟩:=jpg (L:=L) (zs:=zs) (ps:=ps) (cs:=cs) (ss:=ss) hp0 omg_ (x0:=M) (x1:=0) (x2:=0) (x3:=0) (x4:=0) (x5:=0) (x6:=0) (x7:=0) (y0:=nm) (y1:=z) (y2:=20454+x-2) (y3:=s) (y4:=u) (y5:=1+v) (y6:=0) (y7:=0) (1+n).toNat a7 [] d7 sqo_;rw[show (((1+n).toNat:H):B)=1+n by omega]at e8;simp at l8;obtain⟨b,a9,e9,d9⟩:=jej (n:=2) d8 omg_ omg_;simp only[e7,j4];rw[j07 (x:=1+n)];simp only[e8,e9,j4,show J (I cs)=(cs.length:B) from rfl];cases b with
  |true=>
   obtain⟨w,a10,e10,_,hw,d10⟩:=jku d9;obtain⟨c,a11,e11,d11⟩:=jej (n:=4) d10 omg_ omg_;simp only[j6,e10,e11,j4];by_cases hcc:c=Ã/\(cs.length:B)>0
   .obtain⟨i,a12,e12,_,_,d12⟩:=j0J (n:=(cs.length:B)) d11 omg_ omg_;obtain⟨j,a13,e13,_,_,d13⟩:=j0J (n:=2) d12 omg_ omg_;rw[hcc.1,j00 hcc.2];simp only[j6,e12,e13,j4];exact fin (1+v) a5 d5 omg_ omg_ omg_ ms omg_ omg_ _ hw _ _ _ d13
   .have hc0:cond c (K ((cs.length:B)>0)) Á=false:=by grind
    rw[hc0];simp only[j7];exact fin (1+v) a5 d5 omg_ omg_ omg_ ms omg_ omg_ _ hw _ _ _ d11
  |false=>
   obtain⟨c,a11,e11,d11⟩:=jej (n:=4) d9 omg_ omg_;simp only[j7,e11,j4];by_cases hcc:c=Ã/\(cs.length:B)>0
   .obtain⟨i,a12,e12,_,_,d12⟩:=j0J (n:=(cs.length:B)) d11 omg_ omg_;obtain⟨j,a13,e13,_,_,d13⟩:=j0J (n:=2) d12 omg_ omg_;rw[hcc.1,j00 hcc.2];simp only[j6,e12,e13,j4];exact fin (1+v) a5 d5 omg_ omg_ omg_ ms omg_ omg_ _ smp_ _ _ _ d13
   .have hc0:cond c (K ((cs.length:B)>0)) Á=false:=by grind
    rw[hc0];simp only[j7];exact fin (1+v) a5 d5 omg_ omg_ omg_ ms omg_ omg_ _ smp_ _ _ _ d11
abbrev j3b:=B×B×B×B×B
abbrev CfgT:=F j0K×F j0k×F CalT×F j0R
structure ZCk(z:j0K):Prop where
 ck:jeF z=E 0
 o60:Ë z.2.1 60=0
 r60:∀r∈z.2.2,Ë r.2.2.2.2.2.2 60=0
 len:z.2.2.length<=1000
structure PCk(nz:H)(p:j0k):Prop where
 nb:(Y p.1==Y (N #[110,111,98,111,100,121]))=Á
 z0:0<=p.2.1
 z1:p.2.1<nz
 w:WOk 0 p.2.2.1
 wl:p.2.2.1.length<=14
 m:j2e p.2.2.2.1=E Ã
 r:j2e p.2.2.2.2.1=E Ã
structure CCk(nz:H)(c:CalT):Prop where
 z0:0<=c.2.1
 z1:c.2.1<nz
 len:c.2.2.length<=64
 day:∀d∈c.2.2,j1N d=E Ã
 asc:c.2.2.Pairwise (· < ·)
structure LCk(nz np nc:H)(l:j0f):Prop where
 z0:0<=l.2.1
 z1:l.2.1<nz
 d0:1<=l.2.2.1.1
 day:j1N l.2.2.1.1=E Ã
 c0:0<=l.2.2.1.2
 c1:l.2.2.1.2<=86399
 u0:0<=l.2.2.2.1
 u1:l.2.2.2.1<=2
 e0:1<=l.2.2.2.2.1
 e1:l.2.2.2.2.1<=400
 m0:l.2.2.2.2.2.1.length≠0
 m1:l.2.2.2.2.2.1.length<=12
 mem:∀m∈l.2.2.2.2.2.1,0<=m/\m<(np:B)
 w:WOk 0 l.2.2.2.2.2.2.1
 wl:l.2.2.2.2.2.2.1.length<=14
 mode0:0<=l.2.2.2.2.2.2.2.2
 mode1:l.2.2.2.2.2.2.2.2<=2
 cal:l.2.2.2.2.2.2.2.2≠0->0<=l.2.2.2.2.2.2.2.1/\l.2.2.2.2.2.2.2.1<(nc:B)
 cal0:l.2.2.2.2.2.2.2.2=0->l.2.2.2.2.2.2.2.1=0
 w3:l.2.2.2.2.2.2.1.length<=3
 h6:l.2.2.2.1=0->6<=l.2.2.2.2.1
structure ECk(np:H)(x:j3b):Prop where
 k0:0<=x.1
 k1:x.1<=2
 a:0<=x.2.1/\x.2.1<(np:B)\/x.1=1/\x.2.1 = -1
 b:x.1=2->0<=x.2.2.1/\x.2.2.1<(np:B)/\x.2.1≠x.2.2.1
 b0:x.1≠2->x.2.2.1=0
 f0:0<=x.2.2.2.1
 ft:x.2.2.2.1<x.2.2.2.2
 t1:x.2.2.2.2<=1000000000000
 day:j1N (Int.tdiv x.2.2.2.2 86400)=E Ã
structure SCk(nz np nc:H)(s:j0R):Prop where
 nm:NmL (s.2.1.map (·.1))
 ly:∀x∈s.2.1,LCk nz np nc x
 ll:s.2.1.length<=6
 ed:∀x∈s.2.2,ECk np x
 el:s.2.2.length<=48
structure jFE(c:CfgT):Prop where
 zn:NmL (c.1.map (·.1))
 zc:∀z∈c.1,ZCk z
 zl:c.1.length<=16
 pn:NmL (c.2.1.map (·.1))
 pc:∀p∈c.2.1,PCk c.1.length p
 pl:c.2.1.length<=32
 cn:NmL (c.2.2.1.map (·.1))
 cc:∀x∈c.2.2.1,CCk c.1.length x
 cl:c.2.2.1.length<=8
 sn:NmL (c.2.2.2.map (·.1))
 sc:∀x∈c.2.2.2,SCk c.1.length c.2.1.length c.2.2.1.length x
 sl:c.2.2.2.length<=12
structure Fst(o:B)(l:TrL)(s t:B)(k:H):Prop where
 hk:k<=l.length
 hks:s-tof o l k<frm l (k+1)
 bef:∀j,j<k->frm l (j+1)<=s-tof o l j
 ht:t=max (frm l k) (s-tof o l k)
def Dif(o:B)(l:TrL):Prop:=∀i,i<l.length -> -86400<tof o l (i+1)-tof o l i/\tof o l (i+1)-tof o l i<86400
section
variable{o:B}{l:TrL}(h:TOk o l)
include h
theorem Fst.piece{s t:B}{k:H}(f:Fst o l s t k):frm l k<=t/\t<frm l (k+1)/\s<=t+tof o l k:=by
 have h1:=h.frm_lt f.hk;have h2:=f.hks;have h3:=f.ht;omega
theorem Fst.up{s s' t t':B}{k k':H}(hd:Dif o l)(hs:200000<s)(he:s+86400<=s')(f:Fst o l s t k)(g:Fst o l s' t' k'):t<t':=by
 obtain⟨p1,p2,p3⟩:=f.piece h;obtain⟨q1,q2,q3⟩:=g.piece h;have g1:=g.hks;have g2:=g.ht;have f2:=f.ht;have hkN:=f.hk;have hkN':=g.hk;rcases R k k' with hlt|heq|hgt
 .have m1:=h.frm_le (i:=k+1) (j:=k') omg_ omg_;omega
 .subst heq;by_cases h0:k=0
  .subst h0;have e0:frm l 0=0:=frm0;have o1:=h.of1 0 omg_;omega
  .obtain⟨j,rfl⟩:∃j,k=j+1:=⟨k-1,omg_⟩;have b:=f.bef j omg_;have d:=hd j omg_;omega
 .have:=f.bef k' hgt;omega
end
def fstI(o:B)(l:TrL)(s:B):Int:=open Classical in if h:∃t k,Fst o l s t k then Classical.choose h else 0
def j4c(L:j0f):Int:=if L.2.2.2.1=2 then 7*L.2.2.2.2.1 else L.2.2.2.2.1
def sLoc(L:j0f)(k:B):Int:=(L.2.2.1.1+k*j4c L)*86400+L.2.2.1.2
def hov(o:B)(l:TrL)(L:j0f)(k:B):Int:=if L.2.2.2.1=0 then fstI o l (sLoc L 0)+3600*L.2.2.2.2.1*k else fstI o l (sLoc L k)
structure LR(L:j0f):Prop where
 d0:100<=L.2.2.1.1
 d1:L.2.2.1.1<=30000
 c0:0<=L.2.2.1.2
 c1:L.2.2.1.2<=86399
 u0:0<=L.2.2.2.1
 u1:L.2.2.2.1<=2
 e0:1<=L.2.2.2.2.1
 e1:L.2.2.2.2.1<=49
 m0:1<=L.2.2.2.2.2.1.length
 m1:L.2.2.2.2.2.1.length<=1000
theorem LOk.lr{L:j0f}(h:LOk L):LR L:=⟨by have:=h.d0;omega,by have:=h.d1;omega,h.c0,by have:=h.c1;omega,h.u0,h.u1,h.e0,h.e1,h.m0,by have:=h.m1;omega⟩
theorem LR.step{L:j0f}(h:LR L):1<=j4c L/\j4c L<=343:=by
 have:=h.e0;have:=h.e1;unfold j4c;split<;>omega
section
variable{o:B}{l:TrL}(h:TOk o l)
include h
end
theorem jsu(y:B):jlo y=E (jr1 y):=jx4 y
theorem jfH(y m:B):jfm y m=E (dim y m):=by
 by_cases h:m<1\/12<m
 .have hk:∀k:B,1<=k->k<=12->(m==k)=false:=λk h1 h2=>j3Z omg_;have:dim y m=0:=if_pos h;rw[this]
  simp only[jfm,j8i,j8j,hk 1 omg_ omg_,hk 2 omg_ omg_,hk 3 omg_ omg_,hk 4 omg_ omg_,hk 5 omg_ omg_,hk 6 omg_ omg_,hk 7 omg_ omg_,
   hk 8 omg_ omg_,hk 9 omg_ omg_,hk 10 omg_ omg_,hk 11 omg_ omg_,hk 12 omg_ omg_,j7]
 .obtain rfl|rfl|rfl|rfl|rfl|rfl|rfl|rfl|rfl|rfl|rfl|rfl:m=1\/m=2\/m=3\/m=4\/m=5\/m=6\/m=7\/m=8\/m=9\/m=10\/m=11\/m=12:=omg_
  case inr.inl=>have e:jfm y 2=(jlo y).bind λr=>cond r (E (29:B)) (E (28:B)):=rfl;rw[e,jsu,dim,jtB];simp only[j4];cases jr1 y<;>rfl
  all_goals rfl
theorem jr4(y m d:B):jj5 (y,m,d)=E (K (jl9 y m d)):=by
 simp only[jj5,jfH,j4];by_cases hv:jl9 y m d
 .have hm:=jdn hv;have hv':=hv;obtain⟨a1,a2,a3,a4⟩:=hv;rw[j00 (show y>=1970 from a1),j00 a2,j00 (show m>=1 from hm.1),j00 hm.2,j00 (show d>=1 from a3),j00 a4,j00 hv'];rfl
 .rw[j01 hv];by_cases a1:y>=1970
  .by_cases a2:y<=2240
   .by_cases a3:m>=1
    .by_cases a4:m<=12
     .by_cases a5:d>=1
      .rw[j00 a1,j00 a2,j00 a3,j00 a4,j00 a5,j01 (show¬d<=dim y m fromλh=>hv ⟨a1,a2,a5,h⟩)];rfl
      .rw[j00 a1,j00 a2,j00 a3,j00 a4,j01 a5];rfl
     .rw[j00 a1,j00 a2,j00 a3,j01 a4];rfl
    .rw[j00 a1,j00 a2,j01 a3];rfl
   .rw[j00 a1,j01 a2];rfl
  .rw[j01 a1];rfl
theorem jsv(y:B)(h1:1969<=y)(h2:y<=1000000000):jj6 y=E (cnt y):=by
 simp(disch:=omega)only[jj6,S0];rw[jei (show 0<=y-1969 by omega),jei (show 0<=y-1901 by omega),jei (show 0<=y-1601 by omega)];simp (disch:=omega) only[j24];congr 1;unfold cnt;omega
theorem jo2(y m d:B)(hm:m<=13):∀(n:H)(s k:B),1<=k->k+n=m -> -1000000000000<=s->s+31*n<=1000000000000->jkf s k y m d=E (s+cum y m-cum y k,y,m,d)
 |0,s,k,hk,hn,_,_=>by
  rw[jj7];have:k=m:=omg_;subst this;simp(disch:=omega)only[j8k,S0];congr 2;omega
 |n+1,s,k,hk,hn,h1,h2=>by
  rw[jj7];have hd:=j5e y k;have hc:=jfG y k hk omg_;simp(disch:=omega)only[j8k,jfH,jo2 y m d hm n (s+dim y k) (k+1) omg_ omg_ omg_ omg_,S0];congr 2;omega
theorem jv9{y m d:B}(hv:jl9 y m d):joV (y,m,d)=E (num y m d,0):=by
 have hm:=jdn hv;have hd:=j5e y m;have hb : -1000000000<=cnt y/\cnt y<=1000000000:=by have:=hv.1;have:=hv.2.1;unfold cnt;omega
 have hc:=jdm y m;obtain⟨h1,h2,h3,h4⟩:=id hv;simp(disch:=omega)only[joV,jr4,jsv y omg_ omg_,jo2 y m d omg_ (m-1).toNat (cnt y) 1 omg_ omg_ omg_ omg_,S0];have:cum y 1=0:=rfl;simp(disch:=omega)only[S0];unfold num;congr 2;omega
theorem jhY(d:B):jd6 d=j71 d:=rfl
theorem jmU(y m k w n e:B)(hn0:0<=n)(hn1:n<=1000000)(he6:e<=6)(hew:(n+e+3)%7=w) :
  ∀(j:H)(s:B),0<=s->s+j=e->jkg y m k w n (n+s)=E (y,m,k,n,n+e)
 |0,s,hs,hj=>by
  rw[jj8];have:s=e:=omg_;subst this;have hb:((n+s+3)%7 != w)=false:=by simp[hew]
  simp only[j8l,jhY,jhy (n+s) omg_,j4,hb,j7,j0e]
 |j+1,s,hs,hj=>by
  rw[jj8];have hb:((n+s+3)%7 != w)=true:=by simp only[bne_iff_ne,ne_eq];omega
  simp only[j8l,jhY,jhy (n+s) omg_,j4,hb,j6,j04];rw[j07 (x:=n+s+1),show n+s+1=n+(s+1) by omega];exact jmU y m k w n e hn0 hn1 he6 hew j (s+1) omg_ omg_
theorem jiy(y m n t:B)(hn0:0<=n)(hn1:n<=1000000)(ht1:t<n+dim y m)(ht2:n+dim y m<=t+7)(ht0 : -1000<=t) :
  ∀(j:H)(s:B),s+7*j=t -> -1000<=s->jkh y m n s=E t
 |0,s,hs,_=>by
  have hd:=j5e y m;rw[jj9];have:s=t:=omg_;subst this;simp(disch:=omega)only[j8m,jfH,S0]
 |j+1,s,hs,h1=>by
  have hd:=j5e y m;rw[jj9];simp(disch:=omega)only[j8m,jfH,S0];exact jiy y m n t hn0 hn1 ht1 ht2 ht0 j (s+7) omg_ omg_
theorem jva(y m k w:B)(h1:1970<=y)(h2:y<=2240)(hm1:1<=m)(hm2:m<=12)(hk1:1<=k)(hk2:k<=5)(hw1:0<=w)(hw2:w<=6):joW y m k w=E (nth y m k w,0):=by
 have hv:=jcJ y m h1 h2 hm1 hm2;have hr:=jdo hv;have hd:=jmR y m hm1 hm2;have hd2:=j5e y m;simp(disch:=omega)only[joW,jv9 hv,S0];unfold nth;generalize num y m 1=n at *;obtain⟨e,he0,he6,hew,hee⟩:∃e,0<=e/\e<=6/\(n+e+3)%7=w/\n+(w-(n+3)%7+7)%7=n+e:=⟨(w-(n+3)%7+7)%7,omg_,omg_,omg_,rfl⟩;rw[hee];have hl:=jmU y m k w n e hr.1 omg_ he6 hew e.toNat 0 omg_ omg_;rw[Int.add_zero]at hl;simp only[hl,j4];by_cases hk:k<5
 .simp(disch:=omega)only[if_neg,S0]
 .have hk5:k=5:=omg_;subst hk5;rw[j01 hk,j7];by_cases hc:n+e+7*(5-1)>=n+dim y m
  .rw[jiy y m n (n+e+21) hr.1 omg_ omg_ omg_ omg_ 3 (n+e) omg_ omg_,if_pos hc];simp only[j4];congr 2;omega
  .rw[jiy y m n (n+e+28) hr.1 omg_ omg_ omg_ omg_ 4 (n+e) omg_ omg_,if_neg hc];simp only[j4];congr 2
theorem jo3{x y:B×B}:∀{l:TrL},y∈j9h x l->y=x\/y∈l
 |[],h=>by simp[j9h]at h;exact .inl h
 |z::zs,h=>by
  unfold j9h at h;split at h
  .rcases List.mem_cons.1 h with rfl|h
   .exact .inr smp_
   .rcases jo3 h with h|h
    .exact .inl h
    .exact .inr (by simp[h])
  .rcases List.mem_cons.1 h with rfl|h
   .exact .inl rfl
   .exact .inr h
theorem jkV{y:B×B}:∀{l acc:TrL},y∈j4R l acc->y∈l\/y∈acc
 |[],_,h=> .inr h
 |x::xs,acc,h=>by
  rcases jkV (l:=xs) h with h|h
  .exact .inl (by simp[h])
  .rcases jo3 h with rfl|h
   .exact .inl smp_
   .exact .inr h
theorem jr5{y:B×B}{l:TrL}(h:y∈j6x l):y∈l:=by
 rcases jkV (List.mem_reverse.1 h) with h|h
 .exact h
 .simp at h
theorem jtH{x:B×B}{l:F Rule}(h:x∈occs l):∃r∈l,∃j:H,(j:B)<=r.2.1-r.1/\x=occ r (r.1+(j:B)):=by
 obtain⟨r,hr,hx⟩:=List.mem_flatMap.1 h;obtain⟨i,hi,rfl⟩:=List.mem_map.1 hx;have hi:=List.mem_range.1 hi;exact⟨r,hr,i,omg_,rfl⟩
theorem jaP{n lo hi:B}(h1:lo<=n)(h2:n<=hi):j9e n lo hi=E true:=by
 grind[j9e]
theorem jxg{n lo hi:B}(h:¬(lo<=n/\n<=hi)):j9e n lo hi=E false:=by
 grind[j9e]
theorem jvb{r:Rule}(h:ROk r):jbD r=E true:=by
 simp only[jbD,jaP h.y0 (show r.1<=2240 by have:=h.y1;have:=h.y2;omega),jaP h.y1 h.y2,jaP h.m0 h.m1,jaP h.k0 h.k1,jaP h.d0 h.d1,jaP h.s0 h.s1,jaP h.o0 h.o1,j4,j6]
theorem jkW(x:B×B):∀l:TrL,j9h x l=l.takeWhile (λy=>K (x.1<y.1))++x::l.dropWhile (λy=>K (x.1<y.1))
 |[]=>rfl
 |y::ys=>by
  unfold j9h;by_cases h:x.1<y.1
  .rw[if_pos h,jkW x ys];simp[h]
  .rw[if_neg h];simp[h]
theorem jDG{rs:F Rule}{i y a b:B}:∀(rp mid:TrL),rp.length+mid.length<=100000->
  j83 rs i y (rp.length:B) a b (rp.reverse++mid)=E (rs,i,y,((rp.dropWhile (λz=>K (a<z.1))).length:B),a,b,rp.reverse++mid)
 |[],mid,_=>by
  rw[jbE];simp(disch:=omega)only[S0];rfl
 |z::zs,mid,hl=>by
  have hL:((z::zs).reverse++mid).length=zs.length+1+mid.length:=sqo_;simp only[List.length_cons]at hl;have g2:((z::zs).reverse++mid).getD ((((zs.length+1:H):B)-1).toNat) (0,0)=z:=by simp(disch:=omega)only[S0];simp
  rw[jbE];simp(disch:=omega)only[j5i,g2,S0];by_cases hc:a<z.1
  .simp(disch:=omega)only[S0];have ih:=jDG (rs:=rs) (i:=i) (y:=y) (a:=a) (b:=b) zs (z::mid) sqo_;have e:(z::zs).reverse++mid=zs.reverse++z::mid:=smp_;rw[e,show ((zs.length+1:H):B)-1=(zs.length:B) by omega,ih];simp[hc]
  .simp(disch:=omega)only[S0];simp[hc]
theorem jzw(l:TrL)(x:B×B){k:H}(hk:k<=l.length):List.set (over (l++[x]) (k+1) (W k (l++[x]))) k x=l.take k++x::l.drop k:=by
 have h1:(l++[x]).length=l.length+1:=smp_;unfold over;rw[h1,U (show (l++[x]).length<=k+1+(W k (l++[x])).length by simp;omega),Â];have e1:W k (l++[x])=W k l++[x]:=by rw[List.drop_append_of_le_length hk]
 grind[List.take_succ_eq_append_getElem]
theorem jDH{rs:F Rule}{i:H}(hi:i<rs.length){r:Rule}(hr:rs[i]=r)(h:ROk r):∀(n j:H)(acc:TrL),r.1+(j:B)+n=r.2.1+1->acc.length+n<=90000->
  jag rs (i:B) (r.1+(j:B)) acc.reverse=E (rs,(i:B),(j4R ((Ä n).map λ(q:H)=>occ r (r.1+(j:B)+(q:B))) acc).reverse)
 |0,j,acc,hj,_=>by
  have hg:rs.getD i (0,0,0,0,0,0,0)=r:=by simp[hi,hr]
  rw[jbF];simp(disch:=omega)only[j3B,hg,S0];rfl
 |n+1,j,acc,hj,hl=>by
  have hg:rs.getD i (0,0,0,0,0,0,0)=r:=by simp[hi,hr]
  have h0:=h.y0;have h2:=h.y2;have hs0:=h.s0;have hs1:=h.s1;have hv:=jdo (jcJ (r.1+(j:B)) r.2.2.1 omg_ omg_ h.m0 h.m1);have hn:=jjG (w:=r.2.2.2.2.1) (y:=r.1+(j:B)) omg_ omg_ h.m0 h.m1 h.k0 h.k1;have hd:=j5e (r.1+(j:B)) r.2.2.1;rw[jbF];simp only[j3B];rw[j2j];simp only[j6,j8,hg];rw[j00 (show r.1+(j:B)<=r.2.1 by omega),jva _ _ _ _ omg_ omg_ h.m0 h.m1 h.k0 h.k1 h.d0 h.d1];simp only[j6,j4];rw[j07 (x:=nth (r.1+(j:B)) r.2.2.1 r.2.2.2.1 r.2.2.2.2.1*86400),j07 (x:=nth (r.1+(j:B)) r.2.2.1 r.2.2.2.1 r.2.2.2.2.1*86400+r.2.2.2.2.2.1)];have hl4:=jDG (rs:=rs) (i:=(i:B)) (y:=r.1+(j:B)) (a:=(occ r (r.1+(j:B))).1) (b:=(occ r (r.1+(j:B))).2) acc [] sqo_;rw[Â]at hl4;rw[show J (I acc.reverse)=(acc.length:B) by simp];rw[show j83 rs (i:B) (r.1+(j:B)) (acc.length:B) (nth (r.1+(j:B)) r.2.2.1 r.2.2.2.1 r.2.2.2.2.1*86400+r.2.2.2.2.2.1) r.2.2.2.2.2.2 acc.reverse=_ from hl4];simp only[j4];generalize hx:occ r (r.1+(j:B))=x at *;have hdl:(acc.dropWhile (λz=>K (x.1<z.1))).length<=acc.length:=(List.dropWhile_sublist _).length_le;generalize hD:acc.dropWhile (λz=>K (x.1<z.1))=D at *;have hlen1:(acc.reverse++[(x.1,x.2)]).length=acc.length+1:=smp_;rw[j00 (by simp[j03];omega)];simp only[j6]
  rw[j07 (x:=(D.length:B)+1),j00 (show (0:B)<=(D.length:B)+1 by omega),j00 (show (D.length:B)+1<=J (acc.reverse++[(x.1,x.2)]).length by simp_all),
   j00 (show (0:B)<=(D.length:B) by omega),j00 (show (D.length:B)<=J (acc.reverse++[(x.1,x.2)]).length by grind)]
  simp only[Bool.and_self,j6,j8,show ((D.length:B)+1).toNat=D.length+1 by omega];have hov:(over (acc.reverse++[(x.1,x.2)]) (D.length+1) (W D.length (acc.reverse++[(x.1,x.2)]))).length=acc.length+1:=by unfold over;simp;omega
  rw[j0B omg_ (by rw[hov];omega),jzw acc.reverse (x.1,x.2) (by simpa using hdl)];simp only[j6];rw[j07 (x:=r.1+(j:B)+1),j04];have hins:acc.reverse.take D.length++(x.1,x.2)::acc.reverse.drop D.length=(j9h x acc).reverse:=by grind[List.takeWhile_append_dropWhile,jkW]
  rw[hins];have ih:=jDH hi hr h n (j+1) (j9h x acc) omg_ (by rw[jf3];omega);rw[show r.1+(j:B)+1=r.1+((j+1:H):B) by omega];refine ih.trans ?_
  have hmap:(Ä n).map (λ(q:H)=>occ r (r.1+((j+1:H):B)+(q:B)))=(Ä n).map ((λ(q:H)=>occ r (r.1+(j:B)+(q:B))) ∘ Nat.succ):=List.map_congr_left λq _=>by
   grind
  grind[List.range_succ_eq_map,j4R]
theorem jkX:∀(a b acc:TrL),j4R (a++b) acc=j4R b (j4R a acc)
 |[],_,_=>rfl
 |x::a,b,acc=>by simp only[List.cons_append,j4R];exact jkX a b _
theorem jDI{rs:F Rule}(h:∀r∈rs,ROk r)(hlen:rs.length<=100):∀(n i:H)(acc:TrL),i+n=rs.length->acc.length<=300*i->
  j84 rs (i:B) acc.reverse=E (j4R (occs (rs.drop i)) acc).reverse
 |0,i,acc,hi,_=>by
  rw[jbG];simp(disch:=omega)only[j3C,U,S0];rfl
 |n+1,i,acc,hi,hl=>by
  have hlt:i<rs.length:=omg_;have hr:=h rs[i] (À hlt);have h0:=hr.y0;have h1:=hr.y1;have h2:=hr.y2;have hg:rs.getD i (0,0,0,0,0,0,0)=rs[i]:=by simp[hlt]
  have hl2:=jDH hlt rfl hr (rs[i].2.1-rs[i].1+1).toNat 0 acc omg_ omg_;rw[show rs[i].1+((0:H):B)=rs[i].1 by omega]at hl2;have ih:=jDI h hlen n (i+1) (j4R (occR rs[i]) acc) omg_ (by grind[j9P,occR]);rw[jbG];simp(disch:=omega)only[j3C,hl2,O hlt,S0];grind[occR,occs,jkX]
theorem jtI{rs:F Rule}(h:∀r∈rs,ROk r)(hlen:rs.length<=100):jah rs=E (j6x (occs rs)):=by
 have e:=jDI h hlen rs.length 0 [] omg_ smp_;simp only[jah];rw[show j84 rs 0 []=_ from e];rfl
theorem jxh{rs:F Rule}(h:∀r∈rs,ROk r)(hlen:rs.length<=100)(nm:G)(o:B):∀(n i:H)(s:B),i+n=rs.length->0<=s->s<=300*i->
  j4L s (i:B) nm o rs=E (.inr (s+((occs (rs.drop i)).length:B),nm,o,rs))
 |0,i,s,hi,_,_=>by
  grind[j8n,j2h,S0,occs]
 |n+1,i,s,hi,hs0,hs1=>by
  have hlt:i<rs.length:=omg_;have hr:=h rs[i] (À hlt);have h0:=hr.y0;have h1:=hr.y1;have h2:=hr.y2;have hg:rs.getD i (0,0,0,0,0,0,0)=rs[i]:=by simp[hlt]
  have ih:=jxh h hlen nm o n (i+1) (s+(rs[i].2.1-rs[i].1+1)) omg_ omg_ omg_;have hrule:jbD (rs[i].1,rs[i].2.1,rs[i].2.2.1,rs[i].2.2.2.1,rs[i].2.2.2.2.1,rs[i].2.2.2.2.2.1,rs[i].2.2.2.2.2.2)=E true:=jvb hr;rw[j8n];simp(disch:=omega)only[j2h,hrule,S0];refine ih.trans ?_;rw[O hlt];grind[occs,occR]
theorem jC7(L:TrL)(hL:L.length<=1000):∀(n i:H)(now:B)(acc:TrL),i+n=L.length -> -64800<=now->now<=64800->acc.length<=i->(∀x∈acc,0<=x.1/\x.1<=8589934592)->Good now (acc.getLast?.map (·.1)) (L.drop i)->
  j4M now (i:B) acc L=E (.inr (acc++outT now (L.drop i)))
 |0,i,now,acc,hi,_,_,_,_,_=>by
  grind[j66,j1T,j0e,outT]
 |n+1,i,now,acc,hi,hn0,hn1,hal,hacc,hg=>by
  have hlt:i<L.length:=omg_;rw[O hlt]at hg ⊢;have hgd:L.getD i (0,0)=L[i]:=by simp[hlt]
  rw[j66];simp only[j1T,show J (I L)=(L.length:B) from rfl];rw[j00 (show (i:B)<(L.length:B) by omega),j2j];simp only[j6,j8,hgd];generalize L[i]=x at *;rw[j07 (x:=(i:B)+1)];simp only[Good]at hg;by_cases hx:x.2=now
  .rw[if_pos hx]at hg;rw[j8T hx];simp only[j6,j04,outT];rw[if_pos hx];exact jC7 L hL n (i+1) now acc omg_ hn0 hn1 omg_ hacc hg
  .rw[if_neg hx]at hg;obtain⟨⟨g1,g2,g3,g4,g5,g6,g7⟩,g8⟩:=hg;rw[j3Z hx,j07 (x:=x.1-now),j07 (x:=x.2-now)];simp only[j7,jaP (show (-86399:B)<=x.2-now by omega) (show x.2-now<=86399 by omega),jaP (show (0:B)<=x.1-now by omega) (show x.1-now<=8589934592 by omega),j4,S,show J (I acc)=(acc.length:B) from rfl]
   have hnext:=jC7 L hL n (i+1) x.2 (acc++[(x.1-now,x.2)]) omg_ g6 g7 sqo_
    (λy hy=>by
     grind) (by simpa using g8)
   have hout:outT now (x::L.drop (i+1))=(x.1-now,x.2)::outT x.2 (L.drop (i+1)):=by simp[outT,hx]
   rw[hout];rw[List.append_assoc]at hnext;rw[j07 (x:=(acc.length:B)-1)];by_cases ha:acc=[]
   .grind[j03,j04]
   .have hpos:0<acc.length:=List.length_pos_iff.2 ha;have hlast:acc.getLast? = E (acc.getD (acc.length-1) (0,0)):=by grind
    rw[hlast]at g5;have g5:(acc.getD (acc.length-1) (0,0)).1+604800<=x.1-now:=g5 _ rfl;have hb:=hacc (acc.getD (acc.length-1) (0,0)) (List.mem_of_getLast? hlast);rw[j2j,j00 (show (acc.length:B)>0 by omega),show ((acc.length:B)-1).toNat=acc.length-1 by omega];simp only[j6];grind[j24,j03,j04]
theorem jFh{nm:G}{o:B}{rs:F Rule}(h:∀r∈rs,ROk r)(ho0 : -64800<=o)(ho1:o<=64800)(hlen:rs.length<=16)(hn:(occs rs).length<=640)(hg:Good o none (j6x (occs rs))) :
  j0c (nm,o,rs)=E (outT o (j6x (occs rs)),0):=by
 have hl:(j6x (occs rs)).length<=1000:=by simp[j6x,j9P];omega
 have e0:=jxh h omg_ nm o rs.length 0 0 omg_ omg_ omg_;rw[Å]at e0;have e2:=jC7 (j6x (occs rs)) hl (j6x (occs rs)).length 0 o [] omg_ ho0 ho1 smp_ smp_ hg;rw[Å]at e2;simp(disch:=omega)only[j0c,jaP ho0 ho1,show j4L 0 0 nm o rs=_ from e0,jtI h omg_,show j4M o 0 [] (j6x (occs rs))=_ from e2,S0];rfl
def Z4(z:G×B×F Rule)(l:TrL):Prop:=j0c z=E (l,0)/\TOk z.2.1 l
theorem MZ.r4{o:B}{rs:F Rule}(h:MZ o rs)(nm:G):Z4 (nm,o,rs) (outT o (j6x (occs rs))):=by
 have ht:=h.tab nm;refine⟨jFh h.ok (by have:=h.o0;omega) (by have:=h.o1;omega) ?_ ?_ h.good,ht.2⟩;all_goals grind[len,few]
section
variable{o:B}{l:TrL}(h:TOk o l)
include h
theorem jr6{t:B}{k:H}(hk:k<=l.length)(h1:frm l k<=t)(h2:t<frm l (k+1)):∀(n i:H),i+n=k->jcm l t (tof o l i) (i:B)=E (tof o l k)
 |0,i,hi=>by
  have hi:i=k:=omg_;subst hi;have hlen:=h.len;rw[jfT];simp only[j69,show J (I l)=(l.length:B) from rfl];by_cases hlt:i<l.length
  .have e:frm l (i+1)=tat l i:=jau hlt;rw[j2j,j00 (show (i:B)<(l.length:B) by omega)];simp only[Ç,j6,j8];rw[j01 (show¬(l.getD i (0,0)).1<=t by show¬tat l i<=t;omega),j7,j0e]
  .rw[j01 (show¬(i:B)<(l.length:B) by omega)];simp only[Bool.not_false,Bool.or_true,j6,j7,j0e]
 |n+1,i,hi=>by
  have hlen:=h.len;have hlt:i<l.length:=omg_;have e:frm l (i+1)=tat l i:=jau hlt;have hle:=h.frm_le (i:=i+1) (j:=k) omg_ omg_;rw[jfT];simp only[j69,show J (I l)=(l.length:B) from rfl];rw[j2j,j00 (show (i:B)<(l.length:B) by omega)];simp only[Ç,j6,j8];rw[j00 (show (l.getD i (0,0)).1<=t by show tat l i<=t;omega),j6,j07,j04];exact jr6 hk h1 h2 n (i+1) omg_
theorem jxi{nm:G}{rs:F Rule}{t:B}{k:H}(hk:k<=l.length)(h1:frm l k<=t)(h2:t<frm l (k+1)):jhl (nm,o,rs) l t=E (tof o l k):=by
 have:=jr6 h hk h1 h2 k 0 omg_;simp only[jhl];rw[show jcm l t o 0=_ from this];rfl
theorem jmV{nm:G}{rs:F Rule}{d c:B}(hd : -1000000<=d)(hd2:d<=1000000)(hc:0<=c)(hc2:c<=86399){k:H}(hk:k<=l.length)(hks:d*86400+c-tof o l k<frm l (k+1))
  (hb:∀j,j<k->frm l (j+1)<=d*86400+c-tof o l j):∀(n j:H),j+n=k->j6X ((j:B)-1) nm o rs d c l=E (.inl (max (frm l k) (d*86400+c-tof o l k),0))
 |n,j,hj=>by
  have hlen:=h.len;have hjl:j<=l.length:=omg_;have o1:=h.of0 j hjl;have o2:=h.of1 j hjl;have hlt:=h.frm_lt hjl
  have key:∀A:È ((B×G×B×F Rule×B×B×TrL) ⊕ ((B×B) ⊕ Unit)),
    A=(cond (K (max (frm l j) (d*86400+c-tof o l j)<frm l (j+1))) (E (.inr (.inl (max (frm l j) (d*86400+c-tof o l j),0)))) (E (.inl ((j:B),nm,o,rs,d,c,l))))->
    lpK A (λh=>j6X h.1 h.2.1 h.2.2.1 h.2.2.2.1 h.2.2.2.2.1 h.2.2.2.2.2.1 h.2.2.2.2.2.2)=E (.inl (max (frm l k) (d*86400+c-tof o l k),0)):=by
   intro A hA;rw[hA];cases n with
   |zero=>have hjk:j=k:=omg_;subst hjk;rw[j00 omg_,j6,j0e]
   |succ n=>have:=hb j omg_;rw[j01 omg_,j7,j04];have ih:=jmV (nm:=nm) (rs:=rs) hd hd2 hc hc2 hk hks hb n (j+1) omg_;rwa[show ((j+1:H):B)-1=(j:B) by omega]at ih
  rw[jdd];refine key _ ?_;simp only[j5r,j5c,j5d,show J (I l)=(l.length:B) from rfl];rw[j00 (show (j:B)-1<(l.length:B) by omega)];simp only[show (j:B)-1+1=(j:B) by omega,j07 (x:=(j:B)),j8];rw[j07 (x:=d*86400),j07 (x:=d*86400+c)];have hmx:∀a b:B,(if a>b then a else b)=max b a:=λa b=>omg_;clear key;cases j with
  |zero=>
   have ht0:tof o l 0=o:=rfl;have hf0:frm l 0=0:=rfl;rw[j01 (show¬((0:H):B)-1>=0 by omega)];rw[ht0]at o1 o2 ⊢;rw[hf0];simp only[j6,j7,j07 (x:=d*86400+c-o),hmx];by_cases hl0:0<l.length
   .have e:frm l (0+1)=tat l 0:=jau hl0;rw[e];rw[j00 (show ((0:H):B)<(l.length:B) by omega),j2j];rfl
   .have hl0':l.length=0:=omg_;have e:frm l (0+1)=8589934593:=by have:=j7U (l:=l);rwa[hl0']at this
    rw[e];rw[j01 (show¬((0:H):B)<(l.length:B) by omega)];rfl
  |succ i=>
   have hil:i<l.length:=omg_;have ht0:tof o l (i+1)=(l.getD i (0,0)).2:=rfl;have hf0:frm l (i+1)=(l.getD i (0,0)).1:=jau hil;rw[show ((i+1:H):B)-1=(i:B) by omega,j00 (show (i:B)>=0 by omega),j2j];simp only[j6,j8,<-ht0,<-hf0];rw[j07 (x:=d*86400+c-tof o l (i+1))];simp only[hmx];by_cases hl0:i+1<l.length
   .have e:frm l (i+1+1)=(l.getD (i+1) (0,0)).1:=jau hl0;rw[j00 (show ((i+1:H):B)<(l.length:B) by omega),j2j];simp only[j6,<-e]
   .have e:frm l (i+1+1)=8589934593:=by have:=j7U (l:=l);rwa[show l.length+1=i+1+1 by omega]at this
    rw[j01 (show¬((i+1:H):B)<(l.length:B) by omega),e];rfl
end
theorem jvc{t o:B}(h1 : -864000<=t+o)(h2:t+o<=1000000000000):jjc t o=E ((t+o)/86400,(t+o)%86400):=by
 simp(disch:=omega)only[jjc,jei,jks,S0];congr 2<;>omega
section
variable{z:G×B×F Rule}{l:TrL}(h:Z4 z l)
include h
theorem jzx{t:B}{k:H}(h0:0<=t)(h1:t<=8589934592)(hk:k<=l.length)(hk1:frm l k<=t)(hk2:t<frm l (k+1)):jbJ z t=E (tof z.2.1 l k,0):=by
 simp(disch:=omega)only[jbJ,show j0c (z.1,z.2.1,z.2.2)=_ from h.1,jaP h0 h1,jxi h.2 hk hk1 hk2,S0]
theorem jtJ{t:B}{k:H}(h0:0<=t)(h1:t<=8589934592)(hk:k<=l.length)(hk1:frm l k<=t)(hk2:t<frm l (k+1)):j6u z t=E (((t+tof z.2.1 l k)/86400,(t+tof z.2.1 l k)%86400),0):=by
 have o1:=h.2.of0 k hk;have o2:=h.2.of1 k hk;simp(disch:=omega)only[j6u,show jbJ (z.1,z.2.1,z.2.2) t=_ from jzx h h0 h1 hk hk1 hk2,jvc,S0]
omit h in
theorem jkw{d:B}(h1 : -2<=d)(h2:d<=99422):jeN d=E true:=by
 simp only[jeN,jaP h1 h2,j4]
theorem jvd{d c:B}(hd : -2<=d)(hd2:d<=99422)(hc:0<=c)(hc2:c<=86399){k:H}(hk:k<=l.length)(hks:d*86400+c-tof z.2.1 l k<frm l (k+1))
  (hb:∀j,j<k->frm l (j+1)<=d*86400+c-tof z.2.1 l j):j68 z (d,c)=E (max (frm l k) (d*86400+c-tof z.2.1 l k),0):=by
 have:=jmV h.2 (nm:=z.1) (rs:=z.2.2) (show -1000000<=d by omega) omg_ hc hc2 hk hks hb k 0 omg_;simp only[j68,show j0c (z.1,z.2.1,z.2.2)=_ from h.1,j4,bne_self_eq_false,j7,jaP hc hc2,S,jkw hd hd2];rw[j01 (show¬d < -2 by omega),j7,show j6X (-1) z.1 z.2.1 z.2.2 d c l=_ from this];rfl
end
section
variable{o:B}{l:TrL}(h:TOk o l)
include h
def jkx(o:B)(l:TrL)(s:B):H->H->F B
 |_,0=>[]
 |j,n+1=>(if Sol o l s j then [s-tof o l j] else [])++jkx o l s (j+1) n
def sols(o:B)(l:TrL)(s:B):F Int:=jkx o l s 0 (l.length+1)
omit h in
theorem jmW(s:B):∀n j,(jkx o l s j n).length<=n
 |0,_=>by simp[jkx]
 |n+1,j=>by
  have:=jmW s n (j+1);simp only[jkx];split<;>simp<;>omega
omit h in
theorem jzy{s:B}{j:H}:(cond (K (s-tof o l j>=frm l j)) (K (s-tof o l j<frm l (j+1))) Á)=K (Sol o l s j):=by
 by_cases h1:frm l j<=s-tof o l j
 .simp(disch:=omega)only[S0];by_cases h2:s-tof o l j<frm l (j+1)
  .rw[j00 h2,j00 (show Sol o l s j from⟨h1,h2⟩)]
  .rw[j01 h2,j01 (λhs:Sol o l s j=>h2 hs.2)]
 .rw[j01 (show¬s-tof o l j>=frm l j from h1),j7,j01 (λhs:Sol o l s j=>h1 hs.1)]
theorem jo4{nm:G}{rs:F Rule}{d c:B}(hd : -1000000<=d)(hd2:d<=1000000)(hc:0<=c)(hc2:c<=86399):∀(n j:H)(acc:F B),j+n=l.length+1->acc.length<=j->
  j5T ((j:B)-1) nm o rs d c l acc=E (acc++jkx o l (d*86400+c) j n)
 |0,j,acc,hj,_=>by
  rw[jde];simp(disch:=omega)only[j4y,j4O,j4P,S0];simp[jkx]
 |n+1,j,acc,hj,ha=>by
  have hlen:=h.len;have o1:=h.of0 j omg_;have o2:=h.of1 j omg_
  have key:∀A:È ((B×G×B×F Rule×B×B×TrL×F B) ⊕ F B),
    A=(cond (K (Sol o l (d*86400+c) j)) (E (.inl ((j:B),nm,o,rs,d,c,l,acc++[d*86400+c-tof o l j]))) (E (.inl ((j:B),nm,o,rs,d,c,l,acc))))->
    lpK A (λh=>j5T h.1 h.2.1 h.2.2.1 h.2.2.2.1 h.2.2.2.2.1 h.2.2.2.2.2.1 h.2.2.2.2.2.2.1 h.2.2.2.2.2.2.2)=E (acc++jkx o l (d*86400+c) j (n+1)):=by
   intro A hA;rw[hA]
   have ih:∀acc':F B,acc'.length<=j+1->j5T (j:B) nm o rs d c l acc'=E (acc'++jkx o l (d*86400+c) (j+1) n):=λacc' h'=>by
    have:=jo4 (nm:=nm) (rs:=rs) hd hd2 hc hc2 n (j+1) acc' omg_ h';rwa[show ((j+1:H):B)-1=(j:B) by omega]at this
   by_cases hs:Sol o l (d*86400+c) j
   .rw[j00 hs,j6,j04];refine(ih (acc++[d*86400+c-tof o l j]) sqo_).trans ?_;simp[jkx,hs]
   .rw[j01 hs,j7,j04];refine(ih acc omg_).trans ?_;simp[jkx,hs]
  rw[jde];refine key _ ?_;simp only[j4y,j4O,j4P,show J (I l)=(l.length:B) from rfl];rw[j00 (show (j:B)-1<(l.length:B) by omega)];simp only[show (j:B)-1+1=(j:B) by omega,j07 (x:=(j:B)),j8];have hsz:K (acc.length+[d*86400+c-tof o l j].length<=j03)=true:=j00 (by simp[j03];omega);rw[j07 (x:=d*86400),j07 (x:=d*86400+c)];have hcs:=jzy (o:=o) (l:=l) (s:=d*86400+c) (j:=j);cases j with
  |zero=>
   have ht0:tof o l 0=o:=rfl;have hf0:frm l 0=0:=rfl;rw[j01 (show¬((0:H):B)-1>=0 by omega)];rw[ht0]at o1 o2 hsz hcs ⊢;rw[hf0]at hcs;simp only[j6,j7,j07 (x:=d*86400+c-o)];by_cases hl0:0<l.length
   .have e:frm l (0+1)=tat l 0:=jau hl0;rw[e]at hcs;rw[j00 (show ((0:H):B)<(l.length:B) by omega),j2j];simp only[j6];rw[show (l.getD 0 (0,0)).1=tat l 0 from rfl,hcs,hsz];rfl
   .have hl0':l.length=0:=omg_;have e:frm l (0+1)=8589934593:=by have:=j7U (l:=l);rwa[hl0']at this
    rw[e]at hcs;rw[j01 (show¬((0:H):B)<(l.length:B) by omega)];simp only[j7];rw[hcs,hsz];rfl
  |succ i=>
   have hil:i<l.length:=omg_;have ht0:tof o l (i+1)=(l.getD i (0,0)).2:=rfl;have hf0:frm l (i+1)=(l.getD i (0,0)).1:=jau hil;rw[show ((i+1:H):B)-1=(i:B) by omega,j00 (show (i:B)>=0 by omega),j2j];simp only[j6,j8,<-ht0,<-hf0];rw[j07 (x:=d*86400+c-tof o l (i+1))];by_cases hl0:i+1<l.length
   .have e:frm l (i+1+1)=(l.getD (i+1) (0,0)).1:=jau hl0;rw[j00 (show ((i+1:H):B)<(l.length:B) by omega),j2j];simp only[j6,<-e];rw[hcs,hsz];rfl
   .have e:frm l (i+1+1)=8589934593:=by have:=j7U (l:=l);rwa[show l.length+1=i+1+1 by omega]at this
    rw[j01 (show¬((i+1:H):B)<(l.length:B) by omega)];rw[e]at hcs;simp only[j7];rw[hcs,hsz];rfl
end
section
variable{z:G×B×F Rule}{l:TrL}(h:Z4 z l)
include h
theorem jr7{d c:B}(hd : -2<=d)(hd2:d<=99422)(hc:0<=c)(hc2:c<=86399):j8N z (d,c)=E (sols z.2.1 l (d*86400+c),0):=by
 have:=jo4 h.2 (nm:=z.1) (rs:=z.2.2) (show -1000000<=d by omega) omg_ hc hc2 (l.length+1) 0 [] omg_ smp_;simp(disch:=omega)only[j8N,show j0c (z.1,z.2.1,z.2.2)=_ from h.1,jaP hc hc2,jkw hd hd2,show j5T (-1) z.1 z.2.1 z.2.2 d c l []=_ from this,S0];rfl
end
def NoF(o:B)(l:TrL)(s:B):Prop:=∀j,j<=l.length->frm l (j+1)<=s-tof o l j
def fO(o:B)(l:TrL)(s:B):È Int:=open Classical in if h:∃t k,Fst o l s t k then E (Classical.choose h) else none
theorem Fst.uniq{o:B}{l:TrL}{s t t':B}{k k':H}(f:Fst o l s t k)(g:Fst o l s t' k'):k=k'/\t=t':=by
 have hk:k=k':=by
  rcases R k k' with hlt|heq|hgt
  .have:=g.bef k hlt;have:=f.hks;omega
  .exact heq
  .have:=f.bef k' hgt;have:=g.hks;omega
 subst hk;exact⟨rfl,by rw[f.ht,g.ht]⟩
theorem fO_t{o:B}{l:TrL}{s t:B}{k:H}(f:Fst o l s t k):fO o l s=E t:=by
 have he:∃t k,Fst o l s t k:=⟨t,k,f⟩;unfold fO;rw[dif_pos he];obtain⟨k',g⟩:=Classical.choose_spec he;rw[(g.uniq f).2]
theorem fO_n{o:B}{l:TrL}{s:B}(hno:NoF o l s):fO o l s=none:=by
 unfold fO;rw[dif_neg]
 rintro⟨t,k,f⟩
 have:=hno k f.hk;have:=f.hks;omega
theorem jtK(o:B)(l:TrL)(s:B):(∃t k,Fst o l s t k)\/NoF o l s:=by
 by_cases hno:NoF o l s
 .exact .inr hno
 .left
  have:∃j,j<=l.length/\s-tof o l j<frm l (j+1):=by
   apply Classical.byContradiction;intro hn
   exact hno λj hj=>by
    simp_all
  obtain⟨j,hj,hjs⟩:=this;obtain⟨a,⟨ha,haN⟩,hmin⟩:=jlV (λj=>s-tof o l j<frm l (j+1)/\j<=l.length) j ⟨hjs,hj⟩;refine⟨_,a,haN,ha,λi hi=>?_,rfl⟩;grind
theorem jzz{o:B}{l:TrL}{s t:B}(he:fO o l s=E t):∃k,Fst o l s t k:=by
 rcases jtK o l s with⟨t',k,f⟩|hno
 .rw[fO_t f]at he;grind
 grind[fO_n]
section
variable{o:B}{l:TrL}(h:TOk o l)
include h
theorem jve{s t:B}(he:fO o l s=E t):s<=t+64800/\0<=t/\t<=8589934592:=by
 obtain⟨k,f⟩:=jzz he;obtain⟨p1,p2,p3⟩:=f.piece h;have o1:=h.of1 k f.hk;have g1:=h.frm_le (i:=0) (j:=k) omg_ (by have:=f.hk;omega);have e0:frm l 0=0:=frm0;have e1:frm l (l.length+1)=8589934593:=j7U;have g2:=h.frm_le (i:=k+1) (j:=l.length+1) (by have:=f.hk;omega) omg_;omega
theorem jxj{s:B}(hs:8589934593+64800<=s):NoF o l s:=λj hj=>by
 have o1:=h.of1 j hj;have e1:frm l (l.length+1)=8589934593:=j7U;have g2:=h.frm_le (i:=j+1) (j:=l.length+1) omg_ omg_;omega
theorem jC8{s s' t':B}(hs:s<=s')(he:fO o l s'=E t'):∃t,fO o l s=E t/\t<=t':=by
 obtain⟨k',g⟩:=jzz he;have g1:=g.hks;have hk':=g.hk;rcases jtK o l s with⟨t,k,f⟩|hno
 .refine⟨t,fO_t f,?_⟩;obtain⟨p1,p2,p3⟩:=f.piece h;obtain⟨q1,q2,q3⟩:=g.piece h;have f1:=f.ht;have g2:=g.ht;rcases R k k' with hlt|heq|hgt
  .have:=h.frm_le (i:=k+1) (j:=k') omg_ omg_;omega
  .subst heq;omega
  .have:=f.bef k' hgt;omega
 .have:=hno k' hk';omega
theorem jmX{d c s:B}(hsec:j5k (d,c)=E s)(hs0 : -1000000000000<=s)(hs1:s<=1000000000000)(hno:NoF o l s) :
  ∀(n i:H),i+n=l.length+1->j75 ((l.length+1:H):B) (i:B) d c (pcs o l (l.length+1))=E (.inr ())
 |0,i,hi=>by
  rw[j5N];simp(disch:=omega)only[j1G,S0]
 |n+1,i,hi=>by
  have hlen:=h.len;have hil:i<=l.length:=omg_;have o1:=h.of0 i hil;have o2:=h.of1 i hil;have hb:=hno i hil;have hlt:=h.frm_lt hil;rw[j5N];simp only[j1G];rw[j00 (show (i:B)<((l.length+1:H):B) by omega),j0B omg_ (by rw[jiw];omega)];simp only[j6,j8,jsp (show i<l.length+1 by omega),hsec,j4,pc];rw[j07 (x:=s-tof o l i),j07 (x:=(i:B)+1)];have hm:(if s-tof o l i>frm l i then s-tof o l i else frm l i)=max (frm l i) (s-tof o l i):=by split<;>omega
  rw[hm,j01 omg_,j7,j04];exact jmX hsec hs0 hs1 hno n (i+1) omg_
theorem jph{d c s:B}(hsec:j5k (d,c)=E s)(hs0 : -1000000000000<=s)(hs1:s<=1000000000000)(hno:NoF o l s):j3I (o,l) (d,c)=E (0,Á):=by
 have:=jmX h hsec hs0 hs1 hno (l.length+1) 0 omg_;grind[j3I,jqZ,jiw,S0]
theorem jr8{d c:B}(hd : -1000000<=d)(hd2:d<=1000000000000000)(hc:0<=c)(hc2:c<=86399) :
  j3I (o,l) (d,c)=E ((fO o l (d*86400+c)).getD 0,(fO o l (d*86400+c)).isSome):=by
 by_cases hb:d<=1000000
 .rcases jtK o l (d*86400+c) with⟨t,k,f⟩|hno
  .have e:=jzq h hd hb omg_ omg_ f.hk f.hks f.bef;rw[<-f.ht]at e;rw[fO_t f];exact e
  grind[fO_n,jph,jkt]
 .have hno:NoF o l (d*86400+c):=jxj h omg_;rw[fO_n hno];by_cases hb2:d<=1048576
  .have hsec:j5k (d,c)=E (d*86400+c):=by simp(disch:=omega)only[j5k,if_neg,S0]
   grind[jph]
  .have hsec:j5k (d,c)=E (1048576*86400+c):=by simp(disch:=omega)only[j5k,if_pos,S0]
   grind[jph,jxj]
theorem jmY{nm:G}{rs:F Rule}{d c:B}(hd : -1000000<=d)(hd2:d<=1000000)(hc:0<=c)(hc2:c<=86399)(hno:NoF o l (d*86400+c)):∀(n j:H),j+n=l.length+1->
  j6X ((j:B)-1) nm o rs d c l=E (.inr ())
 |0,j,hj=>by
  rw[jdd];simp(disch:=omega)only[j5r,j5c,j5d,S0]
 |n+1,j,hj=>by
  have hlen:=h.len;have hjl:j<=l.length:=omg_;have o1:=h.of0 j hjl;have o2:=h.of1 j hjl;have hlt:=h.frm_lt hjl;have hb:=hno j hjl;have ih:=jmY (nm:=nm) (rs:=rs) hd hd2 hc hc2 hno n (j+1) omg_;rw[show ((j+1:H):B)-1=(j:B) by omega]at ih
  have key:∀A:È ((B×G×B×F Rule×B×B×TrL) ⊕ ((B×B) ⊕ Unit)),
    A=(cond (K (max (frm l j) (d*86400+c-tof o l j)<frm l (j+1))) (E (.inr (.inl (max (frm l j) (d*86400+c-tof o l j),0)))) (E (.inl ((j:B),nm,o,rs,d,c,l))))->
    lpK A (λh=>j6X h.1 h.2.1 h.2.2.1 h.2.2.2.1 h.2.2.2.2.1 h.2.2.2.2.2.1 h.2.2.2.2.2.2)=E (.inr ()):=by
   grind[j04]
  rw[jdd];refine key _ ?_;simp only[j5r,j5c,j5d,show J (I l)=(l.length:B) from rfl];rw[j00 (show (j:B)-1<(l.length:B) by omega)];simp only[show (j:B)-1+1=(j:B) by omega,j07 (x:=(j:B)),j8];rw[j07 (x:=d*86400),j07 (x:=d*86400+c)];have hmx:∀a b:B,(if a>b then a else b)=max b a:=λa b=>omg_;clear key;cases j with
  |zero=>grind[tof,frm,j24,tat,j0B]
  |succ i=>
   have hil:i<l.length:=omg_;have ht0:tof o l (i+1)=(l.getD i (0,0)).2:=rfl;have hf0:frm l (i+1)=(l.getD i (0,0)).1:=jau hil;rw[show ((i+1:H):B)-1=(i:B) by omega,j00 (show (i:B)>=0 by omega),j2j];simp only[j6,j8,<-ht0,<-hf0];rw[j07 (x:=d*86400+c-tof o l (i+1))];simp only[hmx];by_cases hl0:i+1<l.length
   .have e:frm l (i+1+1)=(l.getD (i+1) (0,0)).1:=jau hl0;grind[j0B]
   grind[j7U]
end
theorem jiz{z:j0K}{l:TrL}(h:Z4 z l){d c:B}(hd:1<=d)(hc:0<=c)(hc2:c<=86399) :
  j68 z (d,c)=E (match fO z.2.1 l (d*86400+c) with|some t=>(t,0)|none=>(0,10)):=by
 by_cases hb:d<=99422
 .rcases jtK z.2.1 l (d*86400+c) with⟨t,k,f⟩|hno
  .have e:=jvd h (d:=d) (c:=c) omg_ hb hc hc2 f.hk f.hks f.bef;rw[<-f.ht]at e;rw[fO_t f];exact e
  .have:=jmY h.2 (nm:=z.1) (rs:=z.2.2) (show -1000000<=d by omega) omg_ hc hc2 hno (l.length+1) 0 omg_;rw[fO_n hno];simp only[j68,show j0c (z.1,z.2.1,z.2.2)=_ from h.1,j4,bne_self_eq_false,j7,jaP hc hc2,S,jkw (show -2<=d by omega) hb];rw[j01 (show¬d < -2 by omega),j7,show j6X (-1) z.1 z.2.1 z.2.2 d c l=_ from this];rfl
 .rw[fO_n (jxj h.2 omg_)];simp only[j68,show j0c (z.1,z.2.1,z.2.2)=_ from h.1,j4,bne_self_eq_false,j7,jaP hc hc2,S,jeN,jxg (show¬(-2<=d/\d<=99422) by omega)];grind
end Go.Proofs.Pw
