/- The staff and the layers that the dice make. -/
import Derived.Test.YtllkgjaoejhneaaGreatDEPB
import Derived.Test.YtllkgjaoejhneaaGreatDEPA
open _root_ renaming Int->A,List->B,Nat->H,ByteArray->I
open Option renaming some->D
open ByteArray renaming empty->E,mk->G,toList->M
open List renaming length->F,getD->K
open Int renaming ofNat->J,toNat->S,tmod->W
open Bool renaming true->N,false->R
open Go Go.Lft
namespace Go.Proofs.Pw
abbrev j1l:=I×(A×B Rule)
abbrev j1s:=I×(A×(WL×(A×(A×Bool))))
abbrev CalT:=I×(A×B A)
abbrev j0j:=I×(A×((A×A)×(A×(A×(B A×(WL×(A×A)))))))
abbrev j3z:=I×(B j0j×B (A×(A×(A×(A×A)))))
def ZOk (z:j1l):Prop:=MZ z.2.1 z.2.2
theorem jdP {L:B A} {a n:A} (h:DOk L a) (hn:1≤n) (hn2:n≤1000000):∃ b a',j11 L a n=D (b,L,a')∧DOk L a':=by
 obtain ⟨x,a1,e1,x0,x1,d1⟩:=j0K (n:=n) h omg_ omg_
 simp only [j11,e1,ja]
 exact ⟨_,_,rfl,d1⟩
theorem jru {L:B A}:∀ (n:H) (a:A) (zs:B j1l),DOk L a→zs.length+n≤2→(∀ z∈zs,ZOk z)→
  ∃ zs' a',j5D (n:A) L a zs=D (L,a',zs')∧zs'.length=zs.length+n∧(∀ z∈zs',ZOk z)∧DOk L a'
 | 0,a,zs,hd,_,hz=>by
  rw [j95]
  simp only [j2d]
  rw [j01 omg_,jd,j08]
  exact ⟨zs,a,rfl,rfl,hz,hd⟩
 | n+1,a,zs,hd,hl,hz=>by
  obtain ⟨o,rs,a1,e1,m1,d1⟩:=jyi hd (K [(G #[104,101,114,101]),(G #[116,104,101,114,101])] zs.length E)
  obtain ⟨zs',a',e2,h2,h3,h4⟩:=jru n a1 (zs++[(K [(G #[104,101,114,101]),(G #[116,104,101,114,101])] zs.length E,(o,rs))]) d1 sqo_ (fun z hz'=>by
   rcases js.1 hz' with h | h
   ·exact hz z h
   ·simp at h;subst h;exact m1)
  rw [j95]
  simp only [j2d,show J (F zs)=(zs.length:A) from rfl]
  rw [j00 omg_,j1v (show (0:A)≤(zs.length:A) by omega) sqo_]
  simp only [jc,je,e1,ja]
  rw [j00 (by simp [j05];omega),j07 (x:=((n+1:H):A)-1)]
  simp only [jc,j06]
  rw [show ((n+1:H):A)-1=(n:A) by omega]
  exact ⟨zs',a',e2,by rw [h2];simp;omega,h3,h4⟩
theorem jwi:∃ l,jcG=D l∧4≤l.length:=⟨_,rfl,smp_⟩
theorem jnk {L:B A} {zs:B j1l} (hz0:1≤zs.length) (hz1:zs.length≤100):∀ (n:H) (a:A) (ps:B j1s),DOk L a→ps.length+n≤4→
  ∃ ps' a',j5E (n:A) L a zs ps=D (L,a',zs,ps')∧ps'.length=ps.length+n∧DOk L a'
 | 0,a,ps,hd,_=>by
  rw [j96]
  simp only [j2e]
  rw [j01 omg_,jd,j08]
  exact ⟨ps,a,rfl,rfl,hd⟩
 | n+1,a,ps,hd,hl=>by
  obtain ⟨nl,en,hnl⟩:=jwi
  obtain ⟨x,a1,e1,x0,x1,d1⟩:=j0K (n:=(zs.length:A)) hd omg_ omg_
  obtain ⟨b,a2,e2,d2⟩:=jdP (n:=3) d1 omg_ omg_
  obtain ⟨c,a3,e3,d3⟩:=jdP (n:=2) d2 omg_ omg_
  rw [j96]
  simp only [j2e,en,ja,show J (F ps)=(ps.length:A) from rfl,show J (F zs)=(zs.length:A) from rfl]
  rw [j00 omg_,j1v (show (0:A)≤(ps.length:A) by omega) omg_]
  simp only [jc,e1,e2,e3,ja]
  rw [j07 (x:=((n+1:H):A)-1),show ((n+1:H):A)-1=(n:A) by omega]
  cases c with
  | true=>
   obtain ⟨w,a4,e4,_,_,d4⟩:=ji6 d3
   obtain ⟨p,a5,e5,_,d5⟩:=j8a d4 (xs:=[(0:A),(40:A),(100:A),(12:A)]) smp_ smp_
   obtain ⟨q,a6,e6,_,d6⟩:=j8a d5 (xs:=[(0:A),(11:A),(24:A),(1:A)]) smp_ smp_
   simp only [jc,e4,e5,e6,ja]
   rw [j00 (by simp [j05];omega)]
   simp only [jc,j06]
   obtain ⟨ps',a',e,h1,h2⟩:=jnk hz0 hz1 n a6 (ps++[(K nl (S (ps.length:A)) E,(x,(w,(w64 (3600*p),(w64 (3600*q),b)))))]) d6 sqo_
   exact ⟨ps',a',e,by rw [h1];simp;omega,h2⟩
  | false=>
   obtain ⟨p,a5,e5,_,d5⟩:=j8a d3 (xs:=[(0:A),(40:A),(100:A),(12:A)]) smp_ smp_
   obtain ⟨q,a6,e6,_,d6⟩:=j8a d5 (xs:=[(0:A),(11:A),(24:A),(1:A)]) smp_ smp_
   simp only [jd,e5,e6,ja]
   rw [j00 (by simp [j05];omega)]
   simp only [jc,j06]
   obtain ⟨ps',a',e,h1,h2⟩:=jnk hz0 hz1 n a6 (ps++[(K nl (S (ps.length:A)) E,(x,(([]:WL),(w64 (3600*p),(w64 (3600*q),b)))))]) d6 sqo_
   exact ⟨ps',a',e,by rw [h1];simp;omega,h2⟩
theorem jrv {L:B A} {s:A} {nm:I} {z:A} {zs:B j1l} {ps:B j1s} {cs:B CalT}:∀ (n:H) (a day:A) (ds:B A),DOk L a→ds.length+n≤4→
  ∃ ds' a',j5F s (n:A) day L a nm z zs ps cs ds=D (s,L,a',nm,z,zs,ps,cs,ds')∧DOk L a'
 | 0,a,day,ds,hd,_=>by
  rw [j97]
  simp only [j2f]
  rw [j01 omg_,jd,j08]
  exact ⟨ds,a,rfl,hd⟩
 | n+1,a,day,ds,hd,hl=>by
  obtain ⟨x,a1,e1,x0,x1,d1⟩:=j0K (n:=6) hd omg_ omg_
  rw [j97]
  simp only [j2f]
  rw [j00 omg_,j07 (x:=((n+1:H):A)-1),show ((n+1:H):A)-1=(n:A) by omega]
  simp only [jc,e1,ja]
  rw [j00 (by simp [j05];omega)]
  simp only [jc,j06]
  exact jrv n a1 _ _ d1 sqo_
theorem jrw {L:B A} {zs:B j1l} {ps:B j1s} (hz0:1≤zs.length) (hz1:zs.length≤100):∀ (n:H) (a:A) (cs:B CalT),DOk L a→cs.length+n≤4→
  ∃ cs' a',j5G (n:A) L a zs ps cs=D (L,a',zs,ps,cs')∧cs'.length=cs.length+n∧DOk L a'
 | 0,a,cs,hd,_=>by
  rw [j98]
  simp only [j2g]
  rw [j01 omg_,jd,j08]
  exact ⟨cs,a,rfl,rfl,hd⟩
 | n+1,a,cs,hd,hl=>by
  obtain ⟨x,a1,e1,x0,x1,d1⟩:=j0K (n:=(zs.length:A)) hd omg_ omg_
  obtain ⟨y,a2,e2,y0,y1,d2⟩:=j0K (n:=4) d1 omg_ omg_
  obtain ⟨ds,a3,e3,d3⟩:=jrv (s:=((n+1:H):A)) (nm:=G #[100,97,121,115]) (z:=x) (zs:=zs) (ps:=ps) (cs:=cs) y.toNat a2 20454 [] d2 sqo_
  rw [show ((y.toNat:H):A)=y by omega] at e3
  rw [j98]
  simp only [j2g,show J (F zs)=(zs.length:A) from rfl]
  rw [j00 omg_]
  simp only [jc,e1,e2,e3,ja]
  rw [j00 (by simp [j05];omega),j07 (x:=((n+1:H):A)-1),show ((n+1:H):A)-1=(n:A) by omega]
  simp only [jc,j06]
  obtain ⟨cs',a',e,h1,h2⟩:=jrw (ps:=ps) hz0 hz1 n a3 (cs++[(G #[100,97,121,115],(x,ds))]) d3 sqo_
  exact ⟨cs',a',e,by rw [h1];simp;omega,h2⟩
structure SOk (zs:B j1l) (ps:B j1s) (cs:B CalT):Prop where
 z0:1≤zs.length
 z1:zs.length≤2
 ok:∀ z∈zs,ZOk z
 p0:1≤ps.length
 p1:ps.length≤4
 c1:cs.length≤1
theorem jwj {L:B A} {a:A} (h:DOk L a):∃ zs ps cs a',j7S L a=D ((zs,(ps,(cs,([]:B j3z)))),L,a')∧SOk zs ps cs∧DOk L a':=by
 obtain ⟨x,a1,e1,x0,x1,d1⟩:=j0K (n:=2) h omg_ omg_
 obtain ⟨zs,a2,e2,l2,k2,d2⟩:=jru (1+x).toNat a1 [] d1 sqo_ smp_
 obtain ⟨y,a3,e3,y0,y1,d3⟩:=j0K (n:=4) d2 omg_ omg_
 simp at l2
 obtain ⟨ps,a4,e4,l4,d4⟩:=jnk (zs:=zs) omg_ omg_ (1+y).toNat a3 [] d3 sqo_
 obtain ⟨q,a5,e5,q0,q1,d5⟩:=j0K (n:=2) d4 omg_ omg_
 obtain ⟨cs,a6,e6,l6,d6⟩:=jrw (zs:=zs) (ps:=ps) omg_ omg_ q.toNat a5 [] d5 sqo_
 simp at l4 l6
 rw [show (((1+x).toNat:H):A)=1+x by omega] at e2
 rw [show (((1+y).toNat:H):A)=1+y by omega] at e4
 rw [show ((q.toNat:H):A)=q by omega] at e6
 simp only [j7S,e1,ja]
 rw [j07 (x:=1+x)]
 simp only [e2,e3,ja]
 rw [j07 (x:=1+y)]
 simp only [e4,e5,e6,ja]
 exact ⟨zs,ps,cs,a6,rfl,⟨omg_,omg_,k2,omg_,omg_,omg_⟩,d6⟩
structure LOk (l:j0j):Prop where
 d0:20452≤l.2.2.1.1
 d1:l.2.2.1.1≤20457
 c0:0≤l.2.2.1.2
 c1:l.2.2.1.2≤79200
 u0:0≤l.2.2.2.1
 u1:l.2.2.2.1≤2
 e0:1≤l.2.2.2.2.1
 e1:l.2.2.2.2.1≤49
 e2:l.2.2.2.1≠0→l.2.2.2.2.1≤2
 m0:1≤l.2.2.2.2.2.1.length
 m1:l.2.2.2.2.2.1.length≤3
 w3:l.2.2.2.2.2.2.1.length≤3
theorem jnl {L:B A} {zs:B j1l} {ps:B j1s} {cs:B CalT} {ss:B j3z} (hp0:1≤ps.length) (hp1:ps.length≤100) {x0 y0:I} {x1 x2 x3 x4 x5 x6 x7 y1 y2 y3 y4 y5 y6 y7:A}:∀ (n:H) (a:A) (ms:B A),DOk L a→ms.length+n≤4→
  ∃ ms' a',j4f (n:A) L a zs ps cs ss x0 x1 x2 x3 x4 x5 x6 x7 y0 y1 y2 y3 y4 y5 y6 y7 ms=D (L,a',zs,ps,cs,ss,x0,x1,x2,x3,x4,x5,x6,x7,y0,y1,y2,y3,y4,y5,y6,y7,ms')∧ms'.length=ms.length+n∧DOk L a'
 | 0,a,ms,hd,_=>by
  rw [j99]
  simp only [j2h]
  rw [j01 omg_,jd,j08]
  exact ⟨ms,a,rfl,rfl,hd⟩
 | n+1,a,ms,hd,hl=>by
  obtain ⟨x,a1,e1,_,_,d1⟩:=j0K (n:=(ps.length:A)) hd omg_ omg_
  rw [j99]
  simp only [j2h,show J (F ps)=(ps.length:A) from rfl]
  rw [j00 omg_,j07 (x:=((n+1:H):A)-1),show ((n+1:H):A)-1=(n:A) by omega]
  simp only [jc,e1,ja]
  rw [j00 (by simp [j05];omega)]
  simp only [jc,j06]
  obtain ⟨ms',a',e,h1,h2⟩:=jnl (zs:=zs) (cs:=cs) (ss:=ss) hp0 hp1 (x0:=x0) (x1:=x1) (x2:=x2) (x3:=x3) (x4:=x4) (x5:=x5) (x6:=x6) (x7:=x7) (y0:=y0) (y1:=y1) (y2:=y2) (y3:=y3) (y4:=y4) (y5:=y5) (y6:=y6) (y7:=y7) n a1 (ms++[x]) d1 sqo_
  exact ⟨ms',a',e,by rw [h1];simp;omega,h2⟩
theorem jrx {L:B A} {a:A} (h:DOk L a) {zs:B j1l} {ps:B j1s} {cs:B CalT} {ss:B j3z} (hs:SOk zs ps cs) (nm:I) :
  ∃ l a',j5U L a (zs,(ps,(cs,ss))) nm=D (l,L,a')∧LOk l∧0≤l.2.1∧l.2.1<(zs.length:A)∧DOk L a':=by
 have hz0:=hs.z0;have hz1:=hs.z1;have hp0:=hs.p0;have hp1:=hs.p1;have hc1:=hs.c1
 obtain ⟨z,a1,e1,z0,z1,d1⟩:=j0K (n:=(zs.length:A)) h omg_ omg_
 obtain ⟨x,a2,e2,x0,x1,d2⟩:=j0K (n:=6) d1 omg_ omg_
 obtain ⟨s,a3,e3,m3,d3⟩:=j8a d2 (xs:=[(0:A),(32400:A),(7200:A),(9000:A),(79200:A),(1:A)]) smp_ smp_
 obtain ⟨u,a4,e4,u0,u1,d4⟩:=j0K (n:=3) d3 omg_ omg_
 obtain ⟨v,a5,e5,v0,v1,d5⟩:=j0K (n:=2) d4 omg_ omg_
 have hs':0≤s∧s≤79200:=by simp at m3;omega
 simp only [j5U,show J (F zs)=(zs.length:A) from rfl,e1,e2,e3,e4,e5,ja]
 rw [j07 (x:=20454+x),j07 (x:=20454+x-2),j07 (x:=1+v)]
 have fin:∀ (ev a6:A),DOk L a6→1≤ev→ev≤49→(u≠0→ev≤2)→∀ ms:B A,1≤ms.length→ms.length≤3→∀ (w:WL),w.length≤3→∀ (c m:A) (a':A),DOk L a'→∃ l a'',D ((nm,(z,((20454+x-2,s),(u,(ev,(ms,(w,(c,m)))))))),L,a')=D (l,L,a'')∧LOk l∧0≤l.2.1∧l.2.1<(zs.length:A)∧DOk L a'':=
  fun ev a6 _ h1 h2 h3 ms h4 h5 w hw c m a' hd=>⟨_,_,rfl,⟨by dsimp only;omega,by dsimp only;omega,hs'.1,hs'.2,u0,by dsimp only;omega,h1,h2,h3,h4,h5,hw⟩,z0,z1,hd⟩
 by_cases hu:u=0
 ·rw [j5N hu,jc]
  obtain ⟨ev,a6,e6,m6,d6⟩:=j8a d5 (xs:=[(6:A),(8:A),(12:A),(24:A),(23:A),(49:A)]) smp_ smp_
  have hev:1≤ev∧ev≤49:=by simp at m6;omega
  obtain ⟨n,a7,e7,n0,n1,d7⟩:=j0K (n:=3) d6 omg_ omg_
  obtain ⟨ms,a8,e8,l8,d8⟩:=jnl (L:=L) (zs:=zs) (ps:=ps) (cs:=cs) (ss:=ss) hp0 omg_ (x0:=E) (x1:=0) (x2:=0) (x3:=0) (x4:=0) (x5:=0) (x6:=0) (x7:=0) (y0:=nm) (y1:=z) (y2:=20454+x-2) (y3:=s) (y4:=u) (y5:=ev) (y6:=0) (y7:=0) (1+n).toNat a7 [] d7 sqo_
  rw [show (((1+n).toNat:H):A)=1+n by omega] at e8
  simp at l8
  obtain ⟨b,a9,e9,d9⟩:=jdP (n:=2) d8 omg_ omg_
  simp only [e6,e7,ja]
  rw [j07 (x:=1+n)]
  simp only [e8,e9,ja,show J (F cs)=(cs.length:A) from rfl]
  cases b with
  | true=>
   obtain ⟨w,a10,e10,_,hw,d10⟩:=ji6 d9
   obtain ⟨c,a11,e11,d11⟩:=jdP (n:=4) d10 omg_ omg_
   simp only [jc,e10,e11,ja]
   by_cases hcc:c=N∧(cs.length:A)>0
   ·obtain ⟨i,a12,e12,_,_,d12⟩:=j0K (n:=(cs.length:A)) d11 omg_ omg_
    obtain ⟨j,a13,e13,_,_,d13⟩:=j0K (n:=2) d12 omg_ omg_
    rw [hcc.1,j00 hcc.2]
    simp only [jc,e12,e13,ja]
    exact fin ev a6 d6 hev.1 hev.2 (fun h=>absurd hu h) ms omg_ omg_ _ hw _ _ _ d13
   ·have hc0:cond c (decide ((cs.length:A)>0)) R=false:=by
     cases c with
     | true=>exact j01 (fun h=>hcc ⟨rfl,h⟩)
     | false=>rfl
    rw [hc0]
    simp only [jd]
    exact fin ev a6 d6 hev.1 hev.2 (fun h=>absurd hu h) ms omg_ omg_ _ hw _ _ _ d11
  | false=>
   obtain ⟨c,a11,e11,d11⟩:=jdP (n:=4) d9 omg_ omg_
   simp only [jd,e11,ja]
   by_cases hcc:c=N∧(cs.length:A)>0
   ·obtain ⟨i,a12,e12,_,_,d12⟩:=j0K (n:=(cs.length:A)) d11 omg_ omg_
    obtain ⟨j,a13,e13,_,_,d13⟩:=j0K (n:=2) d12 omg_ omg_
    rw [hcc.1,j00 hcc.2]
    simp only [jc,e12,e13,ja]
    exact fin ev a6 d6 hev.1 hev.2 (fun h=>absurd hu h) ms omg_ omg_ _ smp_ _ _ _ d13
   ·have hc0:cond c (decide ((cs.length:A)>0)) R=false:=by
     cases c with
     | true=>exact j01 (fun h=>hcc ⟨rfl,h⟩)
     | false=>rfl
    rw [hc0]
    simp only [jd]
    exact fin ev a6 d6 hev.1 hev.2 (fun h=>absurd hu h) ms omg_ omg_ _ smp_ _ _ _ d11
 ·rw [j2q hu,jd]
  obtain ⟨n,a7,e7,n0,n1,d7⟩:=j0K (n:=3) d5 omg_ omg_
  obtain ⟨ms,a8,e8,l8,d8⟩:=jnl (L:=L) (zs:=zs) (ps:=ps) (cs:=cs) (ss:=ss) hp0 omg_ (x0:=E) (x1:=0) (x2:=0) (x3:=0) (x4:=0) (x5:=0) (x6:=0) (x7:=0) (y0:=nm) (y1:=z) (y2:=20454+x-2) (y3:=s) (y4:=u) (y5:=1+v) (y6:=0) (y7:=0) (1+n).toNat a7 [] d7 sqo_
  rw [show (((1+n).toNat:H):A)=1+n by omega] at e8
  simp at l8
  obtain ⟨b,a9,e9,d9⟩:=jdP (n:=2) d8 omg_ omg_
  simp only [e7,ja]
  rw [j07 (x:=1+n)]
  simp only [e8,e9,ja,show J (F cs)=(cs.length:A) from rfl]
  cases b with
  | true=>
   obtain ⟨w,a10,e10,_,hw,d10⟩:=ji6 d9
   obtain ⟨c,a11,e11,d11⟩:=jdP (n:=4) d10 omg_ omg_
   simp only [jc,e10,e11,ja]
   by_cases hcc:c=N∧(cs.length:A)>0
   ·obtain ⟨i,a12,e12,_,_,d12⟩:=j0K (n:=(cs.length:A)) d11 omg_ omg_
    obtain ⟨j,a13,e13,_,_,d13⟩:=j0K (n:=2) d12 omg_ omg_
    rw [hcc.1,j00 hcc.2]
    simp only [jc,e12,e13,ja]
    exact fin (1+v) a5 d5 omg_ omg_ omg_ ms omg_ omg_ _ hw _ _ _ d13
   ·have hc0:cond c (decide ((cs.length:A)>0)) R=false:=by
     cases c with
     | true=>exact j01 (fun h=>hcc ⟨rfl,h⟩)
     | false=>rfl
    rw [hc0]
    simp only [jd]
    exact fin (1+v) a5 d5 omg_ omg_ omg_ ms omg_ omg_ _ hw _ _ _ d11
  | false=>
   obtain ⟨c,a11,e11,d11⟩:=jdP (n:=4) d9 omg_ omg_
   simp only [jd,e11,ja]
   by_cases hcc:c=N∧(cs.length:A)>0
   ·obtain ⟨i,a12,e12,_,_,d12⟩:=j0K (n:=(cs.length:A)) d11 omg_ omg_
    obtain ⟨j,a13,e13,_,_,d13⟩:=j0K (n:=2) d12 omg_ omg_
    rw [hcc.1,j00 hcc.2]
    simp only [jc,e12,e13,ja]
    exact fin (1+v) a5 d5 omg_ omg_ omg_ ms omg_ omg_ _ smp_ _ _ _ d13
   ·have hc0:cond c (decide ((cs.length:A)>0)) R=false:=by
     cases c with
     | true=>exact j01 (fun h=>hcc ⟨rfl,h⟩)
     | false=>rfl
    rw [hc0]
    simp only [jd]
    exact fin (1+v) a5 d5 omg_ omg_ omg_ ms omg_ omg_ _ smp_ _ _ _ d11
abbrev jbb:=A×(A×(A×(A×A)))
abbrev CfgT:=B j1l×(B j1s×(B CalT×B j3z))
structure ZCk (z:j1l):Prop where
 ck:jcz z=D 0
 o60:W z.2.1 60=0
 r60:∀ r∈z.2.2,W r.2.2.2.2.2.2 60=0
 len:z.2.2.length≤1000
structure PCk (nz:H) (p:j1s):Prop where
 nb:(M p.1==M (G #[110,111,98,111,100,121]))=R
 z0:0≤p.2.1
 z1:p.2.1<nz
 w:WOk 0 p.2.2.1
 wl:p.2.2.1.length≤14
 m:j56 p.2.2.2.1=D N
 r:j56 p.2.2.2.2.1=D N
structure CCk (nz:H) (c:CalT):Prop where
 z0:0≤c.2.1
 z1:c.2.1<nz
 len:c.2.2.length≤64
 day:∀ d∈c.2.2,j1g d=D N
 asc:c.2.2.Pairwise (· < ·)
structure LCk (nz np nc:H) (l:j0j):Prop where
 z0:0≤l.2.1
 z1:l.2.1<nz
 d0:1≤l.2.2.1.1
 day:j1g l.2.2.1.1=D N
 c0:0≤l.2.2.1.2
 c1:l.2.2.1.2≤86399
 u0:0≤l.2.2.2.1
 u1:l.2.2.2.1≤2
 e0:1≤l.2.2.2.2.1
 e1:l.2.2.2.2.1≤400
 m0:l.2.2.2.2.2.1.length≠0
 m1:l.2.2.2.2.2.1.length≤12
 mem:∀ m∈l.2.2.2.2.2.1,0≤m∧m<(np:A)
 w:WOk 0 l.2.2.2.2.2.2.1
 wl:l.2.2.2.2.2.2.1.length≤14
 mode0:0≤l.2.2.2.2.2.2.2.2
 mode1:l.2.2.2.2.2.2.2.2≤2
 cal:l.2.2.2.2.2.2.2.2≠0→0≤l.2.2.2.2.2.2.2.1∧l.2.2.2.2.2.2.2.1<(nc:A)
 cal0:l.2.2.2.2.2.2.2.2=0→l.2.2.2.2.2.2.2.1=0
 w3:l.2.2.2.2.2.2.1.length≤3
 h6:l.2.2.2.1=0→6≤l.2.2.2.2.1
structure ECk (np:H) (x:jbb):Prop where
 k0:0≤x.1
 k1:x.1≤2
 a:0≤x.2.1∧x.2.1<(np:A)∨x.1=1∧x.2.1 = -1
 b:x.1=2→0≤x.2.2.1∧x.2.2.1<(np:A)∧x.2.1≠x.2.2.1
 b0:x.1≠2→x.2.2.1=0
 f0:0≤x.2.2.2.1
 ft:x.2.2.2.1<x.2.2.2.2
 t1:x.2.2.2.2≤1000000000000
 day:j1g (Int.tdiv x.2.2.2.2 86400)=D N
structure SCk (nz np nc:H) (s:j3z):Prop where
 nm:NmL (s.2.1.map (·.1))
 ly:∀ x∈s.2.1,LCk nz np nc x
 ll:s.2.1.length≤6
 ed:∀ x∈s.2.2,ECk np x
 el:s.2.2.length≤48
structure jAs (c:CfgT):Prop where
 zn:NmL (c.1.map (·.1))
 zc:∀ z∈c.1,ZCk z
 zl:c.1.length≤16
 pn:NmL (c.2.1.map (·.1))
 pc:∀ p∈c.2.1,PCk c.1.length p
 pl:c.2.1.length≤32
 cn:NmL (c.2.2.1.map (·.1))
 cc:∀ x∈c.2.2.1,CCk c.1.length x
 cl:c.2.2.1.length≤8
 sn:NmL (c.2.2.2.map (·.1))
 sc:∀ x∈c.2.2.2,SCk c.1.length c.2.1.length c.2.2.1.length x
 sl:c.2.2.2.length≤12
structure Fst (o:A) (l:TrL) (s t:A) (k:H):Prop where
 hk:k≤l.length
 hks:s-tof o l k<frm l (k+1)
 bef:∀ j,j<k→frm l (j+1)≤s-tof o l j
 ht:t=max (frm l k) (s-tof o l k)
def Dif (o:A) (l:TrL):Prop:=∀ i,i<l.length → -86400<tof o l (i+1)-tof o l i∧tof o l (i+1)-tof o l i<86400
section
variable {o:A} {l:TrL} (h:TOk o l)
include h
theorem Fst.piece {s t:A} {k:H} (f:Fst o l s t k):frm l k≤t∧t<frm l (k+1)∧s≤t+tof o l k:=by
 have h1:=h.frm_lt f.hk
 have h2:=f.hks
 have h3:=f.ht
 omega
theorem Fst.up {s s' t t':A} {k k':H} (hd:Dif o l) (hs:200000<s) (he:s+86400≤s') (f:Fst o l s t k) (g:Fst o l s' t' k'):t<t':=by
 obtain ⟨p1,p2,p3⟩:=f.piece h
 obtain ⟨q1,q2,q3⟩:=g.piece h
 have g1:=g.hks
 have g2:=g.ht
 have f2:=f.ht
 have hkN:=f.hk
 have hkN':=g.hk
 rcases vi k k' with hlt | heq | hgt
 ·have m1:=h.frm_le (i:=k+1) (j:=k') omg_ omg_
  omega
 ·subst heq
  by_cases h0:k=0
  ·subst h0
   have e0:frm l 0=0:=frm0
   have o1:=h.of1 0 omg_
   omega
  ·obtain ⟨j,rfl⟩:∃ j,k=j+1:=⟨k-1,omg_⟩
   have b:=f.bef j omg_
   have d:=hd j omg_
   omega
 ·have:=f.bef k' hgt
  omega
end
noncomputable def fstI (o:A) (l:TrL) (s:A):Int:=open Classical in if h:∃ t k,Fst o l s t k then Classical.choose h else 0
def j2N (L:j0j):Int:=if L.2.2.2.1=2 then 7*L.2.2.2.2.1 else L.2.2.2.2.1
def sLoc (L:j0j) (k:A):Int:=(L.2.2.1.1+k*j2N L)*86400+L.2.2.1.2
noncomputable def hov (o:A) (l:TrL) (L:j0j) (k:A):Int:=if L.2.2.2.1=0 then fstI o l (sLoc L 0)+3600*L.2.2.2.2.1*k else fstI o l (sLoc L k)
structure LR (L:j0j):Prop where
 d0:100≤L.2.2.1.1
 d1:L.2.2.1.1≤30000
 c0:0≤L.2.2.1.2
 c1:L.2.2.1.2≤86399
 u0:0≤L.2.2.2.1
 u1:L.2.2.2.1≤2
 e0:1≤L.2.2.2.2.1
 e1:L.2.2.2.2.1≤49
 m0:1≤L.2.2.2.2.2.1.length
 m1:L.2.2.2.2.2.1.length≤1000
theorem LOk.lr {L:j0j} (h:LOk L):LR L:=⟨by have:=h.d0;omega,by have:=h.d1;omega,h.c0,by have:=h.c1;omega,h.u0,h.u1,h.e0,h.e1,h.m0,by have:=h.m1;omega⟩
theorem LR.step {L:j0j} (h:LR L):1≤j2N L∧j2N L≤343:=by
 have:=h.e0;have:=h.e1
 unfold j2N;split<;>omega
section
variable {o:A} {l:TrL} (h:TOk o l)
include h
end
theorem jqF (y:A):j1j y=D (jng y):=juF y
theorem jdQ (y m:A):jdf y m=D (dim y m):=by
 by_cases h:m<1∨12<m
 ·have hk:∀ k:A,1≤k→k≤12→(m==k)=false:=fun k h1 h2=>j2q omg_
  have:dim y m=0:=if_pos h
  rw [this]
  simp only [jdf,hk 1 omg_ omg_,hk 2 omg_ omg_,hk 3 omg_ omg_,hk 4 omg_ omg_,hk 5 omg_ omg_,hk 6 omg_ omg_,hk 7 omg_ omg_,
   hk 8 omg_ omg_,hk 9 omg_ omg_,hk 10 omg_ omg_,hk 11 omg_ omg_,hk 12 omg_ omg_,jd]
 ·obtain rfl | rfl | rfl | rfl | rfl | rfl | rfl | rfl | rfl | rfl | rfl | rfl:m=1∨m=2∨m=3∨m=4∨m=5∨m=6∨m=7∨m=8∨m=9∨m=10∨m=11∨m=12:=omg_
  case inr.inl=>
   have e:jdf y 2=(j1j y).bind fun r=>cond r (D (29:A)) (D (28:A)):=rfl
   rw [e,jqF,dim,jrr]
   simp only [ja]
   cases jng y<;>rfl
  all_goals rfl
theorem jp5 (y m d:A):jgS (y,m,d)=D (decide (jiS y m d)):=by
 simp only [jgS,jdQ,ja]
 by_cases hv:jiS y m d
 ·have hm:=jb2 hv
  have hv':=hv
  obtain ⟨a1,a2,a3,a4⟩:=hv
  rw [j00 (show y≥1970 from a1),j00 a2,j00 (show m≥1 from hm.1),j00 hm.2,j00 (show d≥1 from a3),j00 a4,j00 hv'];rfl
 ·rw [j01 hv]
  by_cases a1:y≥1970
  ·by_cases a2:y≤2240
   ·by_cases a3:m≥1
    ·by_cases a4:m≤12
     ·by_cases a5:d≥1
      ·rw [j00 a1,j00 a2,j00 a3,j00 a4,j00 a5,j01 (show ¬ d≤dim y m from fun h=>hv ⟨a1,a2,a5,h⟩)];rfl
      ·rw [j00 a1,j00 a2,j00 a3,j00 a4,j01 a5];rfl
     ·rw [j00 a1,j00 a2,j00 a3,j01 a4];rfl
    ·rw [j00 a1,j00 a2,j01 a3];rfl
   ·rw [j00 a1,j01 a2];rfl
  ·rw [j01 a1];rfl
theorem jqG (y:A) (h1:1969≤y) (h2:y≤1000000000):jgT y=D (cnt y):=by
 simp only [jgT]
 rw [j07 (x:=y-1970),j07 (x:=y-1969),j07 (x:=y-1901),j07 (x:=y-1601)]
 rw [jdN (show 0≤y-1969 by omega),jdN (show 0≤y-1901 by omega),jdN (show 0≤y-1601 by omega)]
 simp (disch:=omega) only [j5C]
 congr 1
 unfold cnt
 omega
theorem jlS (y m d:A) (hm:m≤13):∀ (n:H) (s k:A),1≤k→k+n=m → -1000000000000≤s→s+31*n≤1000000000000→jf7 s k y m d=D (s+cum y m-cum y k,y,m,d)
 | 0,s,k,hk,hn,_,_=>by
  rw [jgU]
  have:k=m:=omg_
  subst this
  simp only [j5V,j01 (show ¬ k<k by omega),jd,j08]
  congr 2;omega
 | n+1,s,k,hk,hn,h1,h2=>by
  rw [jgU]
  have hd:=j3y y k
  have hc:=jdO y k hk omg_
  simp only [j5V,jdQ,ja,j00 (show k<m by omega),jc,j06]
  rw [j07 (x:=s+dim y k),j07 (x:=k+1)]
  rw [jlS y m d hm n (s+dim y k) (k+1) omg_ omg_ omg_ omg_]
  congr 2;omega
theorem r01_Day_ok {y m d:A} (hv:jiS y m d):jmH (y,m,d)=D (num y m d,0):=by
 have hm:=jb2 hv
 have hd:=j3y y m
 have hb : -1000000000≤cnt y∧cnt y≤1000000000:=by have:=hv.1;have:=hv.2.1;unfold cnt;omega
 have hc:=jb1 y m
 obtain ⟨h1,h2,h3,h4⟩:=id hv
 simp only [jmH,jp5,j00 hv,ja,jk,jd,jqG y omg_ omg_,jlS y m d omg_ (m-1).toNat (cnt y) 1 omg_ omg_ omg_ omg_]
 have:cum y 1=0:=rfl
 rw [j07 (x:=cnt y+cum y m-cum y 1+d),j07]
 unfold num
 congr 2;omega
theorem jfF (d:A):jau d=j54 d:=rfl
theorem jky (y m k w n e:A) (hn0:0≤n) (hn1:n≤1000000) (he6:e≤6) (hew:(n+e+3)%7=w) :
  ∀ (j:H) (s:A),0≤s→s+j=e→jf8 y m k w n (n+s)=D (y,m,k,n,n+e)
 | 0,s,hs,hj=>by
  rw [jgV]
  have:s=e:=omg_
  subst this
  have hb:((n+s+3)%7 != w)=false:=by simp [hew]
  simp only [j5W,jfF,jff (n+s) omg_,ja,hb,jd,j08]
 | j+1,s,hs,hj=>by
  rw [jgV]
  have hb:((n+s+3)%7 != w)=true:=by
   simp only [bne_iff_ne,ne_eq];omega
  simp only [j5W,jfF,jff (n+s) omg_,ja,hb,jc,j06]
  rw [j07 (x:=n+s+1),show n+s+1=n+(s+1) by omega]
  exact jky y m k w n e hn0 hn1 he6 hew j (s+1) omg_ omg_
theorem jgq (y m n t:A) (hn0:0≤n) (hn1:n≤1000000) (ht1:t<n+dim y m) (ht2:n+dim y m≤t+7) (ht0 : -1000≤t) :
  ∀ (j:H) (s:A),s+7*j=t → -1000≤s→jf9 y m n s=D t
 | 0,s,hs,_=>by
  have hd:=j3y y m
  rw [jgW]
  have:s=t:=omg_
  subst this
  simp only [j5X,jdQ,ja]
  rw [j07 (x:=s+7),j07 (x:=n+dim y m),j01 (show ¬ s+7<n+dim y m by omega),jd,j08]
 | j+1,s,hs,h1=>by
  have hd:=j3y y m
  rw [jgW]
  simp only [j5X,jdQ,ja]
  rw [j07 (x:=s+7),j07 (x:=n+dim y m),j00 (show s+7<n+dim y m by omega),jc,j06]
  exact jgq y m n t hn0 hn1 ht1 ht2 ht0 j (s+7) omg_ omg_
theorem r01_Nth_ok (y m k w:A) (h1:1970≤y) (h2:y≤2240) (hm1:1≤m) (hm2:m≤12) (hk1:1≤k) (hk2:k≤5) (hw1:0≤w) (hw2:w≤6):jmI y m k w=D (nth y m k w,0):=by
 have hv:=jal y m h1 h2 hm1 hm2
 have hr:=jb3 hv
 have hd:=jkv y m hm1 hm2
 have hd2:=j3y y m
 simp only [jmI,r01_Day_ok hv,ja,jm]
 rw [j01 (show ¬ k<1 by omega),j01 (show ¬ k>5 by omega),j01 (show ¬ w<0 by omega),j01 (show ¬ w>6 by omega)]
 simp only [jd]
 unfold nth
 generalize num y m 1=n at *
 obtain ⟨e,he0,he6,hew,hee⟩:∃ e,0≤e∧e≤6∧(n+e+3)%7=w∧n+(w-(n+3)%7+7)%7=n+e:=⟨(w-(n+3)%7+7)%7,omg_,omg_,omg_,rfl⟩
 rw [hee]
 have hl:=jky y m k w n e hr.1 omg_ he6 hew e.toNat 0 omg_ omg_
 rw [Int.add_zero] at hl
 simp only [hl,ja]
 by_cases hk:k<5
 ·rw [j00 hk,jc,j07 (x:=k-1),j07 (x:=7*(k-1)),j07,if_neg omg_]
 ·have hk5:k=5:=omg_
  subst hk5
  rw [j01 hk,jd]
  by_cases hc:n+e+7*(5-1)≥n+dim y m
  ·rw [jgq y m n (n+e+21) hr.1 omg_ omg_ omg_ omg_ 3 (n+e) omg_ omg_,if_pos hc]
   simp only [ja]
   congr 2;omega
  ·rw [jgq y m n (n+e+28) hr.1 omg_ omg_ omg_ omg_ 4 (n+e) omg_ omg_,if_neg hc]
   simp only [ja]
   congr 2
theorem jlT {x y:A×A}:∀ {l:TrL},y∈j6R x l→y=x∨y∈l
 | [],h=>by simp [j6R] at h;exact .inl h
 | z::zs,h=>by
  unfold j6R at h
  split at h
  ·rcases jl.1 h with rfl | h
   ·exact .inr smp_
   ·rcases jlT h with h | h
    ·exact .inl h
    ·exact .inr (by simp [h])
  ·rcases jl.1 h with rfl | h
   ·exact .inl rfl
   ·exact .inr h
theorem jix {y:A×A}:∀ {l acc:TrL},y∈j2M l acc→y∈l∨y∈acc
 | [],_,h=> .inr h
 | x::xs,acc,h=>by
  rcases jix (l:=xs) h with h | h
  ·exact .inl (by simp [h])
  ·rcases jlT h with rfl | h
   ·exact .inl smp_
   ·exact .inr h
theorem jp6 {y:A×A} {l:TrL} (h:y∈j35 l):y∈l:=by
 rcases jix (List.mem_reverse.1 h) with h | h
 ·exact h
 ·simp at h
theorem jry {x:A×A} {l:B Rule} (h:x∈occs l):∃ r∈l,∃ j:H,(j:A)≤r.2.1-r.1∧x=occ r (r.1+(j:A)):=by
 obtain ⟨r,hr,hx⟩:=zg.1 h
 obtain ⟨i,hi,rfl⟩:=kp.1 hx
 have hi:=List.mem_range.1 hi
 exact ⟨r,hr,i,omg_,rfl⟩
end Go.Proofs.Pw
