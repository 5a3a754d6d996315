/- Facts. -/
import Derived.Test.YtmccfdihkphfaaaGreatCEPA
open _root_ renaming Int->B,List->E,Nat->G,ByteArray->H
open Option renaming some->F
open List renaming length->I,drop_of_length_le->N,drop_eq_getElem_cons->R,drop->S,take_of_length_le->U,getD->X,range->À,take->Á
open Int renaming ofNat->J,toNat->Â,tmod->Ä
open Decidable renaming decide->K
open ByteArray renaming empty->M,mk->O,toList->Z
open Bool renaming false->W,true->Y
open Go Go.Lft
namespace Go.Proofs.Pw
abbrev WL:=E (B×B)
def ib(p:B):WL->Prop
 |[]=>p<=604800
 |x::r=>p<=x.1/\x.1<x.2/\x.2<=604800/\ib x.2 r
def GR(p:B):WL->WL
 |[]=>[]
 |x::r=>if p<x.1 then (p,x.1)::GR x.2 r else GR x.2 r
def hasB(s:B):WL->Bool
 |[]=>W
 |x::r=>cond (cond (K (x.1<=s)) (K (s<x.2)) W) Y (hasB s r)
theorem ib.top{p:B}:∀{w:WL},ib p w->p<=604800
 |[],h=>h
 |_::_,h=>by have:=h.1;have:=h.2.1;have:=h.2.2.1;omega
theorem ib.weak{p q:B}(hq:q<=p):∀{w:WL},ib p w->ib q w
 |[],h=>by show q<=604800;have:p<=604800:=h;omega
 |_::_,h=>⟨by have:=h.1;omega,h.2⟩
theorem Bm:∀{w:WL}{p:B},ib p w->∀i,i<w.length->p<=(w.getD i (0,0)).1/\(w.getD i (0,0)).1<(w.getD i (0,0)).2/\(w.getD i (0,0)).2<=604800
 |[],_,_,i,hi=>by simp at hi
 |x::r,p,h,i,hi=>by
  obtain⟨h1,h2,h3,h4⟩:=h;cases i with
  |zero=>exact⟨h1,h2,h3⟩
  |succ i=>exact Bm (h4.weak (show p<=x.2 by omega)) i (by simpa using hi)
theorem ϙ:∀{w:WL}{p:B},ib p w->∀i,i+1<w.length->(w.getD i (0,0)).2<=(w.getD (i+1) (0,0)).1
 |[],_,_,i,hi=>by simp at hi
 |x::[],_,_,i,hi=>by simp at hi
 |x::y::r,p,h,i,hi=>by
  cases i with
  |zero=>exact h.2.2.2.1
  |succ i=>exact ϙ h.2.2.2 i (by simpa using hi)
theorem Ϛ{L:E B}:∀(n:G)(p a:B)(acc:WL),cQ L a->0<=p->p<=604800->acc.length+n<=100->
  ∃w a',PC p (n:B) L a acc=F (L,a',acc++w)/\ib p w/\w.length<=n/\cQ L a'
 |0,p,a,acc,hd,_,hp,_=>by
  rw[_v];simp(disch:=omega)only[j2N,S0];exact⟨[],a,ae,hp,ae,hd⟩
 |n+1,p,a,acc,hd,pT,hp,ha=>by
  obtain⟨x,a1,e1,x0,x1,d1⟩:=dQ (n:=30) hd aa aa;obtain⟨y,a2,e2,y0,y1,d2⟩:=dQ (n:=2) d1 aa aa;obtain⟨q,a3,e3,m3,d3⟩:=rk d2 (xs:=[(3600:B),(28800:B),(43200:B),(86400:B),(61:B),(1:B)]) ae ae;have hq:1<=q/\q<=86400:=by simp at m3;omega
  rw[_v];simp only[j2N];rw[ai aa];simp only[j6,e1,e2,e3,j4];rw[aQ (x:=3600*x),aQ (x:=p+3600*x),aQ (x:=60*y),aQ (x:=p+3600*x+60*y),aQ (x:=p+3600*x+60*y+q),aQ (x:=((n+1:G):B)-1)];by_cases pt:p+3600*x+60*y+q>604800
  .rw[ai pt,j6,bV];exact⟨[],a3,ae,hp,ae,d3⟩
  .simp(disch:=omega)only[S0];obtain⟨w,a4,e4,hw,Au,d4⟩:=Ϛ n (p+3600*x+60*y+q) a3 (acc++[(p+3600*x+60*y,p+3600*x+60*y+q)]) d3 aa aa aj;rw[show ((n+1:G):B)-1=(n:B) by omega];refine⟨(p+3600*x+60*y,p+3600*x+60*y+q)::w,a4,by rw[e4,jk];rfl,⟨by dsimp only;omega,by dsimp only;omega,by dsimp only;omega,hw⟩,aj,d4⟩
theorem T2{L:E B}{a:B}(h:cQ L a):∃w a',j5w L a=F (w,L,a')/\ib 0 w/\w.length<=3/\cQ L a':=by
 obtain⟨x,a1,e1,x0,x1,d1⟩:=dQ (n:=4) h aa aa;obtain⟨w,a',e2,h1,h2,h3⟩:=Ϛ x.toNat 0 a1 [] d1 aa aa aj;rw[show ((x.toNat:G):B)=x by omega,jr]at e2;simp only[j5w,e1,j4,e2];exact⟨w,a',rfl,h1,aa,h3⟩
theorem ϛ{L:E B}{a:B}(h:cQ L a):∃t a',j6V L a=F (t,L,a')/\1767139199<=t/\t<=1767139200+3600*575+3599/\cQ L a':=by
 obtain⟨x,a1,e1,x0,x1,d1⟩:=dQ (n:=576) h aa aa;obtain⟨y,a2,e2,y0,y1,d2⟩:=dQ (n:=3) d1 aa aa;obtain⟨q,a3,e3,m3,d3⟩:=rk d2 (xs:=[(-1:B),(1:B),(1800:B),(3599:B)]) ae ae;have hq : -1<=q/\q<=3599:=by simp at m3;omega
 simp only[j6V,e1,j4,j1q,e2,e3];rw[aQ (x:=3600*x),aQ (x:=1767139200+3600*x),aQ (x:=1767139200+3600*x+q)];cases (y==w64 (3-1)) with
 |true=>exact⟨_,_,rfl,aa,aa,d3⟩
 |false=>exact⟨_,_,rfl,aa,aa,d2⟩
abbrev bB:=H×(B×E aO)
abbrev cZ:=H×(B×(WL×(B×(B×Bool))))
abbrev aY:=H×(B×E B)
abbrev bt:=H×(B×((B×B)×(B×(B×(E B×(WL×(B×B)))))))
abbrev bW:=H×(E bt×E (B×(B×(B×(B×B)))))
def eX(z:bB):Prop:=MZ z.2.1 z.2.2
theorem wV{L:E B}{a n:B}(h:cQ L a)(hn:1<=n)(zV:n<=1000000):∃b a',j1q L a n=F (b,L,a')/\cQ L a':=by
 obtain⟨x,a1,e1,x0,x1,d1⟩:=dQ (n:=n) h aa aa;simp only[j1q,e1,j4];exact⟨_,_,rfl,d1⟩
theorem Ϝ{L:E B}:∀(n:G)(a:B)(zs:E bB),cQ L a->zs.length+n<=2->(∀z∈zs,eX z)->
  ∃Ct a',PD (n:B) L a zs=F (L,a',Ct)/\Ct.length=zs.length+n/\(∀z∈Ct,eX z)/\cQ L a'
 |0,a,zs,hd,_,hz=>by
  rw[_w];simp(disch:=omega)only[j3x,S0];exact⟨zs,a,rfl,rfl,hz,hd⟩
 |n+1,a,zs,hd,hl,hz=>by
  obtain⟨o,rs,a1,e1,m1,d1⟩:=jH3 hd (X [(O #[104,101,114,101]),(O #[116,104,101,114,101])] zs.length M)
  obtain⟨Ct,a',e2,h2,h3,h4⟩:=Ϝ n a1 (zs++[(X [(O #[104,101,114,101]),(O #[116,104,101,114,101])] zs.length M,(o,rs))]) d1 aj (λz hz'=>by
   rcases ji.1 hz' with h|h
   .exact hz z h
   .simp at h;subst h;exact m1)
  rw[_w];simp(disch:=omega)only[j3x,e1,S0];rw[show ((n+1:G):B)-1=(n:B) by omega];exact⟨Ct,a',e2,by rw[h2];simp;omega,h3,h4⟩
theorem jEx:∃l,jha=F l/\4<=l.length:=⟨_,rfl,ae⟩
theorem T3{L:E B}{zs:E bB}(rR:1<=zs.length)(wW:zs.length<=100):∀(n:G)(a:B)(ps:E cZ),cQ L a->ps.length+n<=4->(∀p∈ps,p.2.2.1.length<=3)->
  ∃Bn a',PE (n:B) L a zs ps=F (L,a',zs,Bn)/\Bn.length=ps.length+n/\(∀p∈Bn,p.2.2.1.length<=3)/\cQ L a'
 |0,a,ps,hd,_,hw=>by
  rw[_x];simp(disch:=omega)only[j3y,S0];exact⟨ps,a,rfl,rfl,hw,hd⟩
 |n+1,a,ps,hd,hl,hw=>by
  obtain⟨nl,en,CK⟩:=jEx;obtain⟨x,a1,e1,x0,x1,d1⟩:=dQ (n:=(zs.length:B)) hd aa aa;obtain⟨b,a2,e2,d2⟩:=wV (n:=3) d1 aa aa;obtain⟨c,a3,e3,d3⟩:=wV (n:=2) d2 aa aa;rw[_x];simp only[j3y,en,j4,show J (I ps)=(ps.length:B) from rfl,show J (I zs)=(zs.length:B) from rfl];rw[ai aa,bL (show (0:B)<=(ps.length:B) by omega) aa];simp only[j6,e1,e2,e3,j4];rw[aQ (x:=((n+1:G):B)-1),show ((n+1:G):B)-1=(n:B) by omega];cases c with
  |true=>
   obtain⟨w,a4,e4,_,ϝ,d4⟩:=T2 d3;obtain⟨p,a5,e5,_,d5⟩:=rk d4 (xs:=[(0:B),(40:B),(100:B),(12:B)]) ae ae;obtain⟨q,a6,e6,_,d6⟩:=rk d5 (xs:=[(0:B),(11:B),(24:B),(1:B)]) ae ae;simp only[j6,e4,e5,e6,j4];rw[ai (by simp[aK];omega)];simp only[j6,bg]
   obtain⟨Bn,a',e,h1,h2⟩:=T3 rR wW n a6 (ps++[(X nl (Â (ps.length:B)) M,(x,(w,(w64 (3600*p),(w64 (3600*q),b)))))]) d6 aj (λp hp=>by
    rcases ji.1 hp with hp|hp
    .exact hw p hp
    .rw[k9.1 hp];first|exact ϝ|simp)
   exact⟨Bn,a',e,by rw[h1];simp;omega,h2⟩
  |false=>
   obtain⟨p,a5,e5,_,d5⟩:=rk d3 (xs:=[(0:B),(40:B),(100:B),(12:B)]) ae ae;obtain⟨q,a6,e6,_,d6⟩:=rk d5 (xs:=[(0:B),(11:B),(24:B),(1:B)]) ae ae;simp only[j7,e5,e6,j4];rw[ai (by simp[aK];omega)];simp only[j6,bg]
   obtain⟨Bn,a',e,h1,h2⟩:=T3 rR wW n a6 (ps++[(X nl (Â (ps.length:B)) M,(x,(([]:WL),(w64 (3600*p),(w64 (3600*q),b)))))]) d6 aj (λp hp=>by
    rcases ji.1 hp with hp|hp
    .exact hw p hp
    .rw[k9.1 hp];first|exact ϝ|simp)
   exact⟨Bn,a',e,by rw[h1];simp;omega,h2⟩
theorem Ϟ{L:E B}{s:B}{nm:H}{z:B}{zs:E bB}{ps:E cZ}{cs:E aY}:∀(n:G)(a day:B)(ds:E B),cQ L a->ds.length+n<=4->
  ∃ds' a',PF s (n:B) day L a nm z zs ps cs ds=F (s,L,a',nm,z,zs,ps,cs,ds')/\cQ L a'
 |0,a,day,ds,hd,_=>by
  rw[_y];simp(disch:=omega)only[j3z,S0];exact⟨ds,a,rfl,hd⟩
 |n+1,a,day,ds,hd,hl=>by
  obtain⟨x,a1,e1,x0,x1,d1⟩:=dQ (n:=6) hd aa aa;rw[_y];simp only[j3z];rw[ai aa,aQ (x:=((n+1:G):B)-1),show ((n+1:G):B)-1=(n:B) by omega];simp(disch:=omega)only[e1,S0];exact Ϟ n a1 _ _ d1 aj
theorem ϟ{L:E B}{zs:E bB}{ps:E cZ}(rR:1<=zs.length)(wW:zs.length<=100):∀(n:G)(a:B)(cs:E aY),cQ L a->cs.length+n<=4->
  ∃nJ a',PG (n:B) L a zs ps cs=F (L,a',zs,ps,nJ)/\nJ.length=cs.length+n/\cQ L a'
 |0,a,cs,hd,_=>by
  rw[_z];simp only[j3A];rw[aC aa,j7,bV];exact⟨cs,a,rfl,rfl,hd⟩
 |n+1,a,cs,hd,hl=>by
  obtain⟨x,a1,e1,x0,x1,d1⟩:=dQ (n:=(zs.length:B)) hd aa aa;obtain⟨y,a2,e2,y0,y1,d2⟩:=dQ (n:=4) d1 aa aa;obtain⟨ds,a3,e3,d3⟩:=Ϟ (s:=((n+1:G):B)) (nm:=O #[100,97,121,115]) (z:=x) (zs:=zs) (ps:=ps) (cs:=cs) y.toNat a2 20454 [] d2 aj;rw[show ((y.toNat:G):B)=y by omega]at e3;rw[_z];simp only[j3A,show J (I zs)=(zs.length:B) from rfl];rw[ai aa];simp only[j6,e1,e2,e3,j4];rw[ai (by simp[aK];omega),aQ (x:=((n+1:G):B)-1),show ((n+1:G):B)-1=(n:B) by omega];simp only[j6,bg];obtain⟨nJ,a',e,h1,h2⟩:=ϟ (ps:=ps) rR wW n a3 (cs++[(O #[100,97,121,115],(x,ds))]) d3 aj;exact⟨nJ,a',e,by rw[h1];simp;omega,h2⟩
structure sd(zs:E bB)(ps:E cZ)(cs:E aY):Prop where
 z0:1<=zs.length
 z1:zs.length<=2
 ok:∀z∈zs,eX z
 p0:1<=ps.length
 p1:ps.length<=4
 c1:cs.length<=1
 pw:∀p∈ps,p.2.2.1.length<=3
theorem jEy{L:E B}{a:B}(h:cQ L a):∃zs ps cs a',jb6 L a=F ((zs,(ps,(cs,([]:E bW)))),L,a')/\sd zs ps cs/\cQ L a':=by
 obtain⟨x,a1,e1,x0,x1,d1⟩:=dQ (n:=2) h aa aa;obtain⟨zs,a2,e2,l2,k2,d2⟩:=Ϝ (1+x).toNat a1 [] d1 aj ae;obtain⟨y,a3,e3,y0,y1,d3⟩:=dQ (n:=4) d2 aa aa;simp at l2;obtain⟨ps,a4,e4,l4,w4,d4⟩:=T3 (zs:=zs) aa aa (1+y).toNat a3 [] d3 aj ae;obtain⟨q,a5,e5,q0,q1,d5⟩:=dQ (n:=2) d4 aa aa;obtain⟨cs,a6,e6,l6,d6⟩:=ϟ (zs:=zs) (ps:=ps) aa aa q.toNat a5 [] d5 aj;simp at l4 l6;rw[show (((1+x).toNat:G):B)=1+x by omega]at e2;rw[show (((1+y).toNat:G):B)=1+y by omega]at e4;rw[show ((q.toNat:G):B)=q by omega]at e6;simp(disch:=omega)only[jb6,e1,e2,e3,e4,e5,e6,S0];exact⟨zs,ps,cs,a6,rfl,⟨aa,aa,k2,aa,aa,aa,w4⟩,d6⟩
structure K4(l:bt):Prop where
 d0:20452<=l.2.2.1.1
 d1:l.2.2.1.1<=20457
 c0:0<=l.2.2.1.2
 c1:l.2.2.1.2<=79200
 u0:0<=l.2.2.2.1
 u1:l.2.2.2.1<=2
 e0:1<=l.2.2.2.2.1
 e1:l.2.2.2.2.1<=49
 e2:l.2.2.2.1≠0->l.2.2.2.2.1<=2
 m0:1<=l.2.2.2.2.2.1.length
 m1:l.2.2.2.2.2.1.length<=3
 w3:l.2.2.2.2.2.2.1.length<=3
theorem T4{L:E B}{zs:E bB}{ps:E cZ}{cs:E aY}{ss:E bW}(pT:1<=ps.length)(rN:ps.length<=100){x0 y0:H}{x1 x2 x3 x4 x5 x6 x7 y1 y2 y3 y4 y5 y6 y7:B}:∀(n:G)(a:B)(ms:E B),cQ L a->ms.length+n<=4->
  ∃K5 a',F8 (n:B) L a zs ps cs ss x0 x1 x2 x3 x4 x5 x6 x7 y0 y1 y2 y3 y4 y5 y6 y7 ms=F (L,a',zs,ps,cs,ss,x0,x1,x2,x3,x4,x5,x6,x7,y0,y1,y2,y3,y4,y5,y6,y7,K5)/\K5.length=ms.length+n/\cQ L a'
 |0,a,ms,hd,_=>by
  rw[_A];simp(disch:=omega)only[j3B,S0];exact⟨ms,a,rfl,rfl,hd⟩
 |n+1,a,ms,hd,hl=>by
  obtain⟨x,a1,e1,_,_,d1⟩:=dQ (n:=(ps.length:B)) hd aa aa;rw[_A];simp only[j3B,show J (I ps)=(ps.length:B) from rfl];rw[ai aa,aQ (x:=((n+1:G):B)-1),show ((n+1:G):B)-1=(n:B) by omega];simp(disch:=omega)only[e1,S0];obtain⟨K5,a',e,h1,h2⟩:=T4 (zs:=zs) (cs:=cs) (ss:=ss) pT rN (x0:=x0) (x1:=x1) (x2:=x2) (x3:=x3) (x4:=x4) (x5:=x5) (x6:=x6) (x7:=x7) (y0:=y0) (y1:=y1) (y2:=y2) (y3:=y3) (y4:=y4) (y5:=y5) (y6:=y6) (y7:=y7) n a1 (ms++[x]) d1 aj;exact⟨K5,a',e,by rw[h1];simp;omega,h2⟩
theorem jEz{L:E B}{a:B}(h:cQ L a){zs:E bB}{ps:E cZ}{cs:E aY}{ss:E bW}(hs:sd zs ps cs)(nm:H) :
  ∃l a',jb7 L a (zs,(ps,(cs,ss))) nm=F (l,L,a')/\K4 l/\0<=l.2.1/\l.2.1<(zs.length:B)/\cQ L a':=by
 have rR:=hs.z0;have wW:=hs.z1;have pT:=hs.p0;have rN:=hs.p1;have eP:=hs.c1;obtain⟨z,a1,e1,z0,z1,d1⟩:=dQ (n:=(zs.length:B)) h aa aa;obtain⟨x,a2,e2,x0,x1,d2⟩:=dQ (n:=6) d1 aa aa;obtain⟨s,a3,e3,m3,d3⟩:=rk d2 (xs:=[(0:B),(32400:B),(7200:B),(9000:B),(79200:B),(1:B)]) ae ae;obtain⟨u,a4,e4,u0,u1,d4⟩:=dQ (n:=3) d3 aa aa;obtain⟨v,a5,e5,v0,v1,d5⟩:=dQ (n:=2) d4 aa aa;have fL:0<=s/\s<=79200:=by simp at m3;omega
 simp only[jb7,show J (I zs)=(zs.length:B) from rfl,e1,e2,e3,e4,e5,j4];rw[aQ (x:=20454+x),aQ (x:=20454+x-2),aQ (x:=1+v)]
 have fin:∀(ev a6:B),cQ L a6->1<=ev->ev<=49->(u≠0->ev<=2)->∀ms:E B,1<=ms.length->ms.length<=3->∀(w:WL),w.length<=3->∀(c m:B)(a':B),cQ L a'->∃l GS,F ((nm,(z,((20454+x-2,s),(u,(ev,(ms,(w,(c,m)))))))),L,a')=F (l,L,GS)/\K4 l/\0<=l.2.1/\l.2.1<(zs.length:B)/\cQ L GS:=
  λev a6 _ h1 h2 h3 ms h4 h5 w hw c m a' hd=>⟨_,_,rfl,⟨by dsimp only;omega,by dsimp only;omega,fL.1,fL.2,u0,by dsimp only;omega,h1,h2,h3,h4,h5,hw⟩,z0,z1,hd⟩
 by_cases hu:u=0
 .rw[dR hu,j6];obtain⟨ev,a6,e6,m6,d6⟩:=rk d5 (xs:=[(6:B),(8:B),(12:B),(24:B),(23:B),(49:B)]) ae ae;have oq:1<=ev/\ev<=49:=by simp at m6;omega
  obtain⟨n,a7,e7,n0,n1,d7⟩:=dQ (n:=3) d6 aa aa;obtain⟨ms,a8,e8,l8,d8⟩:=T4 (L:=L) (zs:=zs) (ps:=ps) (cs:=cs) (ss:=ss) pT aa (x0:=M) (x1:=0) (x2:=0) (x3:=0) (x4:=0) (x5:=0) (x6:=0) (x7:=0) (y0:=nm) (y1:=z) (y2:=20454+x-2) (y3:=s) (y4:=u) (y5:=ev) (y6:=0) (y7:=0) (1+n).toNat a7 [] d7 aj;rw[show (((1+n).toNat:G):B)=1+n by omega]at e8;simp at l8;obtain⟨b,a9,e9,d9⟩:=wV (n:=2) d8 aa aa;simp only[e6,e7,j4];rw[aQ (x:=1+n)];simp only[e8,e9,j4,show J (I cs)=(cs.length:B) from rfl];cases b with
  |true=>
   obtain⟨w,ej,T5,_,hw,d10⟩:=T2 d9;obtain⟨c,eV,Bo,d11⟩:=wV (n:=4) d10 aa aa;simp only[j6,T5,Bo,j4];by_cases lh:c=Y/\(cs.length:B)>0
   .obtain⟨i,a12,yq,_,_,d12⟩:=dQ (n:=(cs.length:B)) d11 aa aa;obtain⟨j,gD,Bp,_,_,d13⟩:=dQ (n:=2) d12 aa aa;rw[lh.1,ai lh.2];simp only[j6,yq,Bp,j4];exact fin ev a6 d6 oq.1 oq.2 (λh=>absurd hu h) ms aa aa _ hw _ _ _ d13
   .have ij:cond c (K ((cs.length:B)>0)) W=false:=by
     cases c with
     |true=>exact aC (λh=>lh ⟨rfl,h⟩)
     |false=>rfl
    rw[ij];simp only[j7];exact fin ev a6 d6 oq.1 oq.2 (λh=>absurd hu h) ms aa aa _ hw _ _ _ d11
  |false=>
   obtain⟨c,eV,Bo,d11⟩:=wV (n:=4) d9 aa aa;simp only[j7,Bo,j4];by_cases lh:c=Y/\(cs.length:B)>0
   .obtain⟨i,a12,yq,_,_,d12⟩:=dQ (n:=(cs.length:B)) d11 aa aa;obtain⟨j,gD,Bp,_,_,d13⟩:=dQ (n:=2) d12 aa aa;rw[lh.1,ai lh.2];simp only[j6,yq,Bp,j4];exact fin ev a6 d6 oq.1 oq.2 (λh=>absurd hu h) ms aa aa _ ae _ _ _ d13
   .have ij:cond c (K ((cs.length:B)>0)) W=false:=by
     cases c with
     |true=>exact aC (λh=>lh ⟨rfl,h⟩)
     |false=>rfl
    rw[ij];simp only[j7];exact fin ev a6 d6 oq.1 oq.2 (λh=>absurd hu h) ms aa aa _ ae _ _ _ d11
 .rw[cU hu,j7];obtain⟨n,a7,e7,n0,n1,d7⟩:=dQ (n:=3) d5 aa aa;obtain⟨ms,a8,e8,l8,d8⟩:=T4 (L:=L) (zs:=zs) (ps:=ps) (cs:=cs) (ss:=ss) pT aa (x0:=M) (x1:=0) (x2:=0) (x3:=0) (x4:=0) (x5:=0) (x6:=0) (x7:=0) (y0:=nm) (y1:=z) (y2:=20454+x-2) (y3:=s) (y4:=u) (y5:=1+v) (y6:=0) (y7:=0) (1+n).toNat a7 [] d7 aj;rw[show (((1+n).toNat:G):B)=1+n by omega]at e8;simp at l8;obtain⟨b,a9,e9,d9⟩:=wV (n:=2) d8 aa aa;simp only[e7,j4];rw[aQ (x:=1+n)];simp only[e8,e9,j4,show J (I cs)=(cs.length:B) from rfl];cases b with
  |true=>
   obtain⟨w,ej,T5,_,hw,d10⟩:=T2 d9;obtain⟨c,eV,Bo,d11⟩:=wV (n:=4) d10 aa aa;simp only[j6,T5,Bo,j4];by_cases lh:c=Y/\(cs.length:B)>0
   .obtain⟨i,a12,yq,_,_,d12⟩:=dQ (n:=(cs.length:B)) d11 aa aa;obtain⟨j,gD,Bp,_,_,d13⟩:=dQ (n:=2) d12 aa aa;rw[lh.1,ai lh.2];simp only[j6,yq,Bp,j4];exact fin (1+v) a5 d5 aa aa aa ms aa aa _ hw _ _ _ d13
   .have ij:cond c (K ((cs.length:B)>0)) W=false:=by
     cases c with
     |true=>exact aC (λh=>lh ⟨rfl,h⟩)
     |false=>rfl
    rw[ij];simp only[j7];exact fin (1+v) a5 d5 aa aa aa ms aa aa _ hw _ _ _ d11
  |false=>
   obtain⟨c,eV,Bo,d11⟩:=wV (n:=4) d9 aa aa;simp only[j7,Bo,j4];by_cases lh:c=Y/\(cs.length:B)>0
   .obtain⟨i,a12,yq,_,_,d12⟩:=dQ (n:=(cs.length:B)) d11 aa aa;obtain⟨j,gD,Bp,_,_,d13⟩:=dQ (n:=2) d12 aa aa;rw[lh.1,ai lh.2];simp only[j6,yq,Bp,j4];exact fin (1+v) a5 d5 aa aa aa ms aa aa _ ae _ _ _ d13
   .have ij:cond c (K ((cs.length:B)>0)) W=false:=by
     cases c with
     |true=>exact aC (λh=>lh ⟨rfl,h⟩)
     |false=>rfl
    rw[ij];simp only[j7];exact fin (1+v) a5 d5 aa aa aa ms aa aa _ ae _ _ _ d11
abbrev ct:=B×(B×(B×(B×B)))
abbrev fZ:=E bB×(E cZ×(E aY×E bW))
structure ZCk(z:bB):Prop where
 ck:jh5 z=F 0
 o60:Ä z.2.1 60=0
 r60:∀r∈z.2.2,Ä r.2.2.2.2.2.2 60=0
 len:z.2.2.length<=1000
structure PCk(nz:G)(p:cZ):Prop where
 nb:(Z p.1==Z (O #[110,111,98,111,100,121]))=W
 z0:0<=p.2.1
 z1:p.2.1<nz
 w:ib 0 p.2.2.1
 wl:p.2.2.1.length<=14
 m:j7l p.2.2.2.1=F Y
 r:j7l p.2.2.2.2.1=F Y
structure nk(nz:G)(c:aY):Prop where
 z0:0<=c.2.1
 z1:c.2.1<nz
 len:c.2.2.length<=64
 day:∀d∈c.2.2,j15 d=F Y
 asc:c.2.2.Pairwise (· < ·)
structure LCk(nz np nc:G)(l:bt):Prop where
 z0:0<=l.2.1
 z1:l.2.1<nz
 d0:1<=l.2.2.1.1
 day:j15 l.2.2.1.1=F Y
 c0:0<=l.2.2.1.2
 c1:l.2.2.1.2<=86399
 u0:0<=l.2.2.2.1
 u1:l.2.2.2.1<=2
 e0:1<=l.2.2.2.2.1
 e1:l.2.2.2.2.1<=400
 m0:l.2.2.2.2.2.1.length≠0
 m1:l.2.2.2.2.2.1.length<=12
 mem:∀m∈l.2.2.2.2.2.1,0<=m/\m<(np:B)
 w:ib 0 l.2.2.2.2.2.2.1
 wl:l.2.2.2.2.2.2.1.length<=14
 mode0:0<=l.2.2.2.2.2.2.2.2
 mode1:l.2.2.2.2.2.2.2.2<=2
 cal:l.2.2.2.2.2.2.2.2≠0->0<=l.2.2.2.2.2.2.2.1/\l.2.2.2.2.2.2.2.1<(nc:B)
 T6:l.2.2.2.2.2.2.2.2=0->l.2.2.2.2.2.2.2.1=0
 w3:l.2.2.2.2.2.2.1.length<=3
 h6:l.2.2.2.1=0->6<=l.2.2.2.2.1
structure ECk(np:G)(x:ct):Prop where
 k0:0<=x.1
 k1:x.1<=2
 a:0<=x.2.1/\x.2.1<(np:B)\/x.1=1/\x.2.1 = -1
 b:x.1=2->0<=x.2.2.1/\x.2.2.1<(np:B)/\x.2.1≠x.2.2.1
 b0:x.1≠2->x.2.2.1=0
 f0:0<=x.2.2.2.1
 ft:x.2.2.2.1<x.2.2.2.2
 t1:x.2.2.2.2<=1000000000000
 day:j15 (Int.tdiv x.2.2.2.2 86400)=F Y
structure SCk(nz np nc:G)(s:bW):Prop where
 nm:GK (s.2.1.map (·.1))
 ly:∀x∈s.2.1,LCk nz np nc x
 ll:s.2.1.length<=6
 ed:∀x∈s.2.2,ECk np x
 el:s.2.2.length<=48
structure jKe(c:fZ):Prop where
 zn:GK (c.1.map (·.1))
 zc:∀z∈c.1,ZCk z
 zl:c.1.length<=16
 pn:GK (c.2.1.map (·.1))
 pc:∀p∈c.2.1,PCk c.1.length p
 pl:c.2.1.length<=32
 cn:GK (c.2.2.1.map (·.1))
 cc:∀x∈c.2.2.1,nk c.1.length x
 cl:c.2.2.1.length<=8
 sn:GK (c.2.2.2.map (·.1))
 sc:∀x∈c.2.2.2,SCk c.1.length c.2.1.length c.2.2.1.length x
 sl:c.2.2.2.length<=12
structure ou(o:B)(l:bm)(s t:B)(k:G):Prop where
 hk:k<=l.length
 hks:s-bq o l k<aV l (k+1)
 bef:∀j,j<k->aV l (j+1)<=s-bq o l j
 ht:t=max (aV l k) (s-bq o l k)
def T7(o:B)(l:bm):Prop:=∀i,i<l.length -> -86400<bq o l (i+1)-bq o l i/\bq o l (i+1)-bq o l i<86400
section
variable{o:B}{l:bm}(h:ix o l)
include h
theorem ou.piece{s t:B}{k:G}(f:ou o l s t k):aV l k<=t/\t<aV l (k+1)/\s<=t+bq o l k:=by
 have h1:=h.frm_lt f.hk;have h2:=f.hks;have h3:=f.ht;omega
theorem ou.up{s s' t t':B}{k k':G}(hd:T7 o l)(hs:200000<s)(he:s+86400<=s')(f:ou o l s t k)(g:ou o l s' t' k'):t<t':=by
 obtain⟨p1,p2,p3⟩:=f.piece h;obtain⟨q1,q2,q3⟩:=g.piece h;have g1:=g.hks;have g2:=g.ht;have f2:=f.ht;have Dy:=f.hk;have hkN':=g.hk;rcases v7 k k' with ao|heq|Bq
 .have m1:=h.frm_le (i:=k+1) (j:=k') aa aa;omega
 .subst heq;by_cases h0:k=0
  .subst h0;have e0:aV l 0=0:=lE;have o1:=h.of1 0 aa;omega
  .obtain⟨j,rfl⟩:∃j,k=j+1:=⟨k-1,aa⟩;have b:=f.bef j aa;have d:=hd j aa;omega
 .have:=f.bef k' Bq;omega
end
noncomputable def GU(o:B)(l:bm)(s:B):Int:=open Classical in if h:∃t k,ou o l s t k then Classical.choose h else 0
def dF(L:bt):Int:=if L.2.2.2.1=2 then 7*L.2.2.2.2.1 else L.2.2.2.2.1
def dv(L:bt)(k:B):Int:=(L.2.2.1.1+k*dF L)*86400+L.2.2.1.2
noncomputable def Cl(o:B)(l:bm)(L:bt)(k:B):Int:=if L.2.2.2.1=0 then GU o l (dv L 0)+3600*L.2.2.2.2.1*k else GU o l (dv L k)
structure LR(L:bt):Prop where
 d0:100<=L.2.2.1.1
 d1:L.2.2.1.1<=30000
 c0:0<=L.2.2.1.2
 c1:L.2.2.1.2<=86399
 u0:0<=L.2.2.2.1
 u1:L.2.2.2.1<=2
 e0:1<=L.2.2.2.2.1
 e1:L.2.2.2.2.1<=49
 m0:1<=L.2.2.2.2.2.1.length
 m1:L.2.2.2.2.2.1.length<=1000
theorem K4.lr{L:bt}(h:K4 L):LR L:=⟨by have:=h.d0;omega,by have:=h.d1;omega,h.c0,by have:=h.c1;omega,h.u0,h.u1,h.e0,h.e1,h.m0,by have:=h.m1;omega⟩
theorem LR.step{L:bt}(h:LR L):1<=dF L/\dF L<=343:=by
 have:=h.e0;have:=h.e1;unfold dF;split<;>omega
section
variable{o:B}{l:bm}(h:ix o l)
include h
end
theorem jxC(y:B):j1Q y=F (wR y):=ω y
theorem K6(y m:B):jhO y m=F (gv y m):=by
 by_cases h:m<1\/12<m
 .have hk:∀k:B,1<=k->k<=12->(m==k)=false:=λk h1 h2=>cU aa;have:gv y m=0:=if_pos h;rw[this]
  simp only[jhO,hk 1 aa aa,hk 2 aa aa,hk 3 aa aa,hk 4 aa aa,hk 5 aa aa,hk 6 aa aa,hk 7 aa aa,
   hk 8 aa aa,hk 9 aa aa,hk 10 aa aa,hk 11 aa aa,hk 12 aa aa,j7]
 .obtain rfl|rfl|rfl|rfl|rfl|rfl|rfl|rfl|rfl|rfl|rfl|rfl:m=1\/m=2\/m=3\/m=4\/m=5\/m=6\/m=7\/m=8\/m=9\/m=10\/m=11\/m=12:=aa
  case inr.inl=>have e:jhO y 2=(j1Q y).bind λr=>cond r (F (29:B)) (F (28:B)):=rfl;rw[e,jxC,gv,ψ];simp only[j4];cases wR y<;>rfl
  all_goals rfl
theorem jvQ(y m d:B):jme (y,m,d)=F (K (sb y m d)):=by
 simp only[jme,K6,j4];by_cases hv:sb y m d
 .have hm:=GP hv;have gP:=hv;obtain⟨a1,a2,a3,a4⟩:=hv;rw[ai (show y>=1970 from a1),ai a2,ai (show m>=1 from hm.1),ai hm.2,ai (show d>=1 from a3),ai a4,ai gP];rfl
 .rw[aC hv];by_cases a1:y>=1970
  .by_cases a2:y<=2240
   .by_cases a3:m>=1
    .by_cases a4:m<=12
     .by_cases a5:d>=1
      .rw[ai a1,ai a2,ai a3,ai a4,ai a5,aC (show¬d<=gv y m fromλh=>hv ⟨a1,a2,a5,h⟩)];rfl
      .rw[ai a1,ai a2,ai a3,ai a4,aC a5];rfl
     .rw[ai a1,ai a2,ai a3,aC a4];rfl
    .rw[ai a1,ai a2,aC a3];rfl
   .rw[ai a1,aC a2];rfl
  .rw[aC a1];rfl
theorem jxD(y:B)(h1:1969<=y)(h2:y<=1000000000):jmf y=F (dW y):=by
 simp(disch:=omega)only[jmf,S0];rw[uS (show 0<=y-1969 by omega),uS (show 0<=y-1901 by omega),uS (show 0<=y-1601 by omega)];simp (disch:=omega) only[gh];congr 1;unfold dW;omega
theorem Ϡ(y m d:B)(hm:m<=13):∀(n:G)(s k:B),1<=k->k+n=m -> -1000000000000<=s->s+31*n<=1000000000000->PX s k y m d=F (s+dP y m-dP y k,y,m,d)
 |0,s,k,hk,hn,_,_=>by
  rw[_R];have:k=m:=aa;subst this;simp(disch:=omega)only[j8I,S0];congr 2;omega
 |n+1,s,k,hk,hn,h1,h2=>by
  rw[_R];have hd:=ot y k;have hc:=Bf y k hk aa;simp(disch:=omega)only[j8I,K6,Ϡ y m d hm n (s+gv y k) (k+1) aa aa aa aa,S0];congr 2;omega
theorem gV{y m d:B}(hv:sb y m d):jsX (y,m,d)=F (num y m d,0):=by
 have hm:=GP hv;have hd:=ot y m;have hb : -1000000000<=dW y/\dW y<=1000000000:=by have:=hv.1;have:=hv.2.1;unfold dW;omega
 have hc:=Bg y m;obtain⟨h1,h2,h3,h4⟩:=id hv;simp(disch:=omega)only[jsX,jvQ,jxD y aa aa,Ϡ y m d aa (m-1).toNat (dW y) 1 aa aa aa aa,S0];have:dP y 1=0:=rfl;simp(disch:=omega)only[S0];unfold num;congr 2;omega
theorem ϡ(d:B):jeJ d=j7i d:=rfl
theorem Ϣ(y m k w n e:B)(l7:0<=n)(oY:n<=1000000)(T8:e<=6)(K7:(n+e+3)%7=w) :
  ∀(j:G)(s:B),0<=s->s+j=e->PY y m k w n (n+s)=F (y,m,k,n,n+e)
 |0,s,hs,hj=>by
  rw[_S];have:s=e:=aa;subst this;have hb:((n+s+3)%7 != w)=false:=by simp[K7]
  simp only[j8J,ϡ,KU (n+s) aa,j4,hb,j7,bV]
 |j+1,s,hs,hj=>by
  rw[_S];have hb:((n+s+3)%7 != w)=true:=by simp only[bne_iff_ne,ne_eq];omega
  simp only[j8J,ϡ,KU (n+s) aa,j4,hb,j6,bg];rw[aQ (x:=n+s+1),show n+s+1=n+(s+1) by omega];exact Ϣ y m k w n e l7 oY T8 K7 j (s+1) aa aa
theorem T9(y m n t:B)(l7:0<=n)(oY:n<=1000000)(ht1:t<n+gv y m)(ht2:n+gv y m<=t+7)(rq : -1000<=t) :
  ∀(j:G)(s:B),s+7*j=t -> -1000<=s->PZ y m n s=F t
 |0,s,hs,_=>by
  have hd:=ot y m;rw[_T];have:s=t:=aa;subst this;simp(disch:=omega)only[j8K,K6,S0]
 |j+1,s,hs,h1=>by
  have hd:=ot y m;rw[_T];simp(disch:=omega)only[j8K,K6,S0];exact T9 y m n t l7 oY ht1 ht2 rq j (s+7) aa aa
theorem gW(y m k w:B)(h1:1970<=y)(h2:y<=2240)(gg:1<=m)(hQ:m<=12)(dr:1<=k)(fo:k<=5)(MM:0<=w)(hw2:w<=6):jsY y m k w=F (nth y m k w,0):=by
 have hv:=Dx y m h1 h2 gg hQ;have hr:=Bh hv;have hd:=GN y m gg hQ;have iJ:=ot y m;simp(disch:=omega)only[jsY,gV hv,S0];unfold nth;generalize num y m 1=n at *;obtain⟨e,uN,T8,K7,Fh⟩:∃e,0<=e/\e<=6/\(n+e+3)%7=w/\n+(w-(n+3)%7+7)%7=n+e:=⟨(w-(n+3)%7+7)%7,aa,aa,aa,rfl⟩;rw[Fh];have hl:=Ϣ y m k w n e hr.1 aa T8 K7 e.toNat 0 aa aa;rw[Int.add_zero]at hl;simp only[hl,j4];by_cases hk:k<5
 .simp(disch:=omega)only[if_neg,S0]
 .have tG:k=5:=aa;subst tG;rw[aC hk,j7];by_cases hc:n+e+7*(5-1)>=n+gv y m
  .rw[T9 y m n (n+e+21) hr.1 aa aa aa aa 3 (n+e) aa aa,if_pos hc];simp only[j4];congr 2;omega
  .rw[T9 y m n (n+e+28) hr.1 aa aa aa aa 4 (n+e) aa aa,if_neg hc];simp only[j4];congr 2
theorem ϣ{x y:B×B}:∀{l:bm},y∈lG x l->y=x\/y∈l
 |[],h=>by simp[lG]at h;exact .inl h
 |z::zs,h=>by
  unfold lG at h;split at h
  .rcases jb.1 h with rfl|h
   .exact .inr ae
   .rcases ϣ h with h|h
    .exact .inl h
    .exact .inr (by simp[h])
  .rcases jb.1 h with rfl|h
   .exact .inl rfl
   .exact .inr h
theorem Ϥ{y:B×B}:∀{l acc:bm},y∈lI l acc->y∈l\/y∈acc
 |[],_,h=> .inr h
 |x::xs,acc,h=>by
  rcases Ϥ (l:=xs) h with h|h
  .exact .inl (by simp[h])
  .rcases ϣ h with rfl|h
   .exact .inl ae
   .exact .inr h
theorem ϥ{y:B×B}{l:bm}(h:y∈dY l):y∈l:=by
 rcases Ϥ (List.mem_reverse.1 h) with h|h
 .exact h
 .simp at h
theorem Ϧ{x:B×B}{l:E aO}(h:x∈occs l):∃r∈l,∃j:G,(j:B)<=r.2.1-r.1/\x=cR r (r.1+(j:B)):=by
 obtain⟨r,hr,hx⟩:=kz.1 h;obtain⟨i,hi,rfl⟩:=k7.1 hx;have hi:=List.mem_range.1 hi;exact⟨r,hr,i,aa,rfl⟩
theorem nn{n lo hi:B}(h1:lo<=n)(h2:n<=hi):j9M n lo hi=F true:=by
 simp only[j9M];rw[ai (show n>=lo from h1),ai h2];rfl
theorem Ua{n lo hi:B}(h:¬(lo<=n/\n<=hi)):j9M n lo hi=F false:=by
 simp only[j9M];by_cases h1:n>=lo
 .rw[ai h1,aC (λh2=>h ⟨h1,h2⟩)];rfl
 .rw[aC h1];rfl
theorem jAc{r:aO}(h:jA r):jd2 r=F true:=by
 simp only[jd2,nn h.y0 (show r.1<=2240 by have:=h.y1;have:=h.y2;omega),nn h.y1 h.y2,nn h.m0 h.m1,nn h.k0 h.k1,nn h.d0 h.d1,nn h.s0 h.s1,nn h.o0 h.o1,j4,j6]
theorem ϧ(x:B×B):∀l:bm,lG x l=l.takeWhile (λy=>K (x.1<y.1))++x::l.dropWhile (λy=>K (x.1<y.1))
 |[]=>rfl
 |y::ys=>by
  unfold lG;by_cases h:x.1<y.1
  .rw[if_pos h,ϧ x ys];simp[h]
  .rw[if_neg h];simp[h]
theorem Ϩ{rs:E aO}{i y a b:B}:∀(rp mid:bm),rp.length+mid.length<=100000->
  JP rs i y (rp.length:B) a b (rp.reverse++mid)=F (rs,i,y,((rp.dropWhile (λz=>K (a<z.1))).length:B),a,b,rp.reverse++mid)
 |[],mid,_=>by
  rw[_U];simp(disch:=omega)only[S0];rfl
 |z::zs,mid,hl=>by
  have hL:((z::zs).reverse++mid).length=zs.length+1+mid.length:=aj;simp only[jf]at hl;have g2:((z::zs).reverse++mid).getD ((((zs.length+1:G):B)-1).toNat) ((0:B),(0:B))=z:=by simp(disch:=omega)only[S0];simp
  rw[_U];simp(disch:=omega)only[j5j,g2,S0];by_cases hc:a<z.1
  .simp(disch:=omega)only[S0];have ih:=Ϩ (rs:=rs) (i:=i) (y:=y) (a:=a) (b:=b) zs (z::mid) aj;have e:(z::zs).reverse++mid=zs.reverse++z::mid:=ae;rw[e,show ((zs.length+1:G):B)-1=(zs.length:B) by omega,ih];simp[hc]
  .simp(disch:=omega)only[S0];simp[hc]
theorem jEA(l:bm)(x:B×B){k:G}(hk:k<=l.length):List.set (over (l++[x]) (k+1) (S k (l++[x]))) k x=l.take k++x::l.drop k:=by
 have h1:(l++[x]).length=l.length+1:=ae;unfold over;rw[h1,N (show (l++[x]).length<=k+1+(S k (l++[x])).length by simp;omega),qu];have e1:S k (l++[x])=S k l++[x]:=by rw[List.drop_append_of_le_length hk]
 rw[e1];have e2:Á (l.length+1-(k+1)) (S k l++[x])=S k l:=by rw[qv ae,U ae]
 rw[e2];by_cases h:k<l.length
 .have e3:Á (k+1) (l++[x])=l.take k++[l[k]]:=by rw[qv aa,List.take_succ_eq_append_getElem h]
  rw[e3,jk,zq _ _ aj];simp[Nat.min_eq_left hk]
 .have bC:k=l.length:=aa;subst bC;have e3:Á (l.length+1) (l++[x])=l++[x]:=U ae;rw[e3];simp
theorem ϩ{rs:E aO}{i:G}(hi:i<rs.length){r:aO}(hr:rs[i]=r)(h:jA r):∀(n j:G)(acc:bm),r.1+(j:B)+n=r.2.1+1->acc.length+n<=90000->
  P0 rs (i:B) (r.1+(j:B)) acc.reverse=F (rs,(i:B),(lI ((À n).map λ(q:G)=>cR r (r.1+(j:B)+(q:B))) acc).reverse)
 |0,j,acc,hj,_=>by
  have hg:rs.getD i ((0:B),((0:B),((0:B),((0:B),((0:B),((0:B),(0:B)))))))=r:=by simp[hi,hr]
  rw[_V];simp(disch:=omega)only[j3G,hg,S0];rfl
 |n+1,j,acc,hj,hl=>by
  have hg:rs.getD i ((0:B),((0:B),((0:B),((0:B),((0:B),((0:B),(0:B)))))))=r:=by simp[hi,hr]
  have h0:=h.y0;have h2:=h.y2;have jG:=h.s0;have kM:=h.s1;have hv:=Bh (Dx (r.1+(j:B)) r.2.2.1 aa aa h.m0 h.m1);have hn:=KV (w:=r.2.2.2.2.1) (y:=r.1+(j:B)) aa aa h.m0 h.m1 h.k0 h.k1;have hd:=ot (r.1+(j:B)) r.2.2.1;rw[_V];simp only[j3G];rw[cB];simp only[j6,j8,hg];rw[ai (show r.1+(j:B)<=r.2.1 by omega),gW _ _ _ _ aa aa h.m0 h.m1 h.k0 h.k1 h.d0 h.d1];simp only[j6,j4];rw[aQ (x:=nth (r.1+(j:B)) r.2.2.1 r.2.2.2.1 r.2.2.2.2.1*86400),aQ (x:=nth (r.1+(j:B)) r.2.2.1 r.2.2.2.1 r.2.2.2.2.1*86400+r.2.2.2.2.2.1)];have wT:=Ϩ (rs:=rs) (i:=(i:B)) (y:=r.1+(j:B)) (a:=(cR r (r.1+(j:B))).1) (b:=(cR r (r.1+(j:B))).2) acc [] aj;rw[qu]at wT;rw[show J (I acc.reverse)=(acc.length:B) by simp];rw[show JP rs (i:B) (r.1+(j:B)) (acc.length:B) (nth (r.1+(j:B)) r.2.2.1 r.2.2.2.1 r.2.2.2.2.1*86400+r.2.2.2.2.2.1) r.2.2.2.2.2.2 acc.reverse=_ from wT];simp only[j4];generalize hx:cR r (r.1+(j:B))=x at *;have rQ:(acc.dropWhile (λz=>K (x.1<z.1))).length<=acc.length:=(List.dropWhile_sublist _).length_le;generalize hD:acc.dropWhile (λz=>K (x.1<z.1))=D at *;have yG:(acc.reverse++[(x.1,x.2)]).length=acc.length+1:=ae;rw[ai (by simp[aK];omega)];simp only[j6]
  rw[aQ (x:=(D.length:B)+1),ai (show (0:B)<=(D.length:B)+1 by omega),ai (show (D.length:B)+1<=J (acc.reverse++[(x.1,x.2)]).length by rw[yG];show (D.length:B)+1<=((acc.length+1:G):B);omega),
   ai (show (0:B)<=(D.length:B) by omega),ai (show (D.length:B)<=J (acc.reverse++[(x.1,x.2)]).length by rw[yG];show (D.length:B)<=((acc.length+1:G):B);omega)]
  simp only[z8,j6,j8,show ((D.length:B)+1).toNat=D.length+1 by omega];have Cl:(over (acc.reverse++[(x.1,x.2)]) (D.length+1) (S D.length (acc.reverse++[(x.1,x.2)]))).length=acc.length+1:=by unfold over;simp;omega
  rw[bL aa (by rw[Cl];omega),jEA acc.reverse (x.1,x.2) (by simpa using rQ)];simp only[j6];rw[aQ (x:=r.1+(j:B)+1),bg];have Be:acc.reverse.take D.length++(x.1,x.2)::acc.reverse.drop D.length=(lG x acc).reverse:=by have dx:=List.takeWhile_append_dropWhile (p:=λz:B×B=>K (x.1<z.1)) (l:=acc);rw[ϧ,hD];rw[hD]at dx;generalize acc.takeWhile (λz=>K (x.1<z.1))=T at dx ⊢;rw[<-dx];simp
  rw[Be];have ih:=ϩ hi hr h n (j+1) (lG x acc) aa (by rw[GL];omega);rw[show r.1+(j:B)+1=r.1+((j+1:G):B) by omega];refine ih.trans ?_
  have Bj:(À n).map (λ(q:G)=>cR r (r.1+((j+1:G):B)+(q:B)))=(À n).map ((λ(q:G)=>cR r (r.1+(j:B)+(q:B))) ∘ Nat.succ):=List.map_congr_left λq _=>by
   simp only[Function.comp];congr 1;omega
  rw[List.range_succ_eq_map,qc,List.map_map,Bj];simp[lI,hx]
theorem Ϫ:∀(a b acc:bm),lI (a++b) acc=lI b (lI a acc)
 |[],_,_=>rfl
 |x::a,b,acc=>by simp only[qo,lI];exact Ϫ a b _
theorem ϫ{rs:E aO}(h:∀r∈rs,jA r)(hlen:rs.length<=100):∀(n i:G)(acc:bm),i+n=rs.length->acc.length<=300*i->
  JQ rs (i:B) acc.reverse=F (lI (occs (rs.drop i)) acc).reverse
 |0,i,acc,hi,_=>by
  rw[_W];simp(disch:=omega)only[j3H,N,S0];rfl
 |n+1,i,acc,hi,hl=>by
  have ao:i<rs.length:=aa;have hr:=h rs[i] (jd ao);have h0:=hr.y0;have h1:=hr.y1;have h2:=hr.y2;have hg:rs.getD i ((0:B),((0:B),((0:B),((0:B),((0:B),((0:B),(0:B)))))))=rs[i]:=by simp[ao]
  have uD:=ϩ ao rfl hr (rs[i].2.1-rs[i].1+1).toNat 0 acc aa aa;rw[show rs[i].1+((0:G):B)=rs[i].1 by omega]at uD;have ih:=ϫ h hlen n (i+1) (lI (gE rs[i]) acc) aa (by rw[Dw];simp[gE];omega);rw[_W];simp(disch:=omega)only[j3H,uD,R ao,S0];refine ih.trans ?_;show _=F (lI (gE rs[i]++occs (rs.drop (i+1))) acc).reverse;rw[Ϫ]
theorem Ϭ{rs:E aO}(h:∀r∈rs,jA r)(hlen:rs.length<=100):jb9 rs=F (dY (occs rs)):=by
 have e:=ϫ h hlen rs.length 0 [] aa ae;simp only[jb9];rw[show JQ rs 0 []=_ from e];rfl
theorem Ub{rs:E aO}(h:∀r∈rs,jA r)(hlen:rs.length<=100)(nm:H)(o:B):∀(n i:G)(s:B),i+n=rs.length->0<=s->s<=300*i->
  Gd s (i:B) nm o rs=F (.inr (s+((occs (rs.drop i)).length:B),nm,o,rs))
 |0,i,s,hi,_,_=>by
  rw[P1];simp(disch:=omega)only[j2w,N,S0];simp[occs]
 |n+1,i,s,hi,jG,kM=>by
  have ao:i<rs.length:=aa;have hr:=h rs[i] (jd ao);have h0:=hr.y0;have h1:=hr.y1;have h2:=hr.y2;have hg:rs.getD i ((0:B),((0:B),((0:B),((0:B),((0:B),((0:B),(0:B)))))))=rs[i]:=by simp[ao]
  have ih:=Ub h hlen nm o n (i+1) (s+(rs[i].2.1-rs[i].1+1)) aa aa aa;have tY:jd2 (rs[i].1,(rs[i].2.1,(rs[i].2.2.1,(rs[i].2.2.2.1,(rs[i].2.2.2.2.1,(rs[i].2.2.2.2.2.1,rs[i].2.2.2.2.2.2))))))=F true:=jAc hr;rw[P1];simp(disch:=omega)only[j2w,tY,S0];refine ih.trans ?_;rw[R ao]
  have:((occs (rs[i]::rs.drop (i+1))).length:B)=(rs[i].2.1-rs[i].1+1)+((occs (rs.drop (i+1))).length:B):=by
   have e1:(gE rs[i]).length=(rs[i].2.1-rs[i].1+1).toNat:=by simp[gE]
   show ((gE rs[i]++occs (rs.drop (i+1))).length:B)=_;rw[List.length_append,e1];omega
  rw[this];congr 3;omega
theorem Uc(L:bm)(hL:L.length<=1000):∀(n i:G)(now:B)(acc:bm),i+n=L.length -> -64800<=now->now<=64800->acc.length<=i->(∀x∈acc,0<=x.1/\x.1<=8589934592)->Good now (acc.getLast?.map (·.1)) (L.drop i)->
  Ge now (i:B) acc L=F (.inr (acc++cm now (L.drop i)))
 |0,i,now,acc,hi,_,_,_,_,_=>by
  rw[JR];simp only[j1R,show J (I L)=(L.length:B) from rfl];rw[aC aa,j7,bV,N aa];simp[cm]
 |n+1,i,now,acc,hi,l7,oY,wg,dM,hg=>by
  have ao:i<L.length:=aa;rw[R ao]at hg ⊢;have br:L.getD i ((0:B),(0:B))=L[i]:=by simp[ao]
  rw[JR];simp only[j1R,show J (I L)=(L.length:B) from rfl];rw[ai (show (i:B)<(L.length:B) by omega),cB];simp only[j6,j8,br];generalize L[i]=x at *;rw[aQ (x:=(i:B)+1)];simp only[Good]at hg;by_cases hx:x.2=now
  .rw[if_pos hx]at hg;rw[dR hx];simp only[j6,bg,cm];rw[if_pos hx];exact Uc L hL n (i+1) now acc aa l7 oY aa dM hg
  .rw[if_neg hx]at hg;obtain⟨⟨g1,g2,g3,g4,g5,g6,g7⟩,g8⟩:=hg;rw[cU hx,aQ (x:=x.1-now),aQ (x:=x.2-now)];simp only[j7,nn (show (-86399:B)<=x.2-now by omega) (show x.2-now<=86399 by omega),nn (show (0:B)<=x.1-now by omega) (show x.1-now<=8589934592 by omega),j4,jg,show J (I acc)=(acc.length:B) from rfl]
   have fj:=Uc L hL n (i+1) x.2 (acc++[(x.1-now,x.2)]) aa g6 g7 aj
    (λy hy=>by
     rcases ji.1 hy with hy|hy
     .exact dM y hy
     .simp at hy;subst hy;exact⟨by show (0:B)<=x.1-now;omega,by show x.1-now<=8589934592;omega⟩) (by simpa using g8)
   have cV:cm now (x::L.drop (i+1))=(x.1-now,x.2)::cm x.2 (L.drop (i+1)):=by simp[cm,hx]
   rw[cV];rw[jk]at fj;rw[aQ (x:=(acc.length:B)-1)];by_cases ha:acc=[]
   .subst ha;simp only[js];rw[show K (((0:G):B)>0)=W from rfl];simp only[j7];rw[ai (by simp[aK])];simp only[j6,bg];exact fj
   .have bZ:0<acc.length:=kg.2 ha;have cY:acc.getLast? = F (acc.getD (acc.length-1) (0,0)):=by rw[List.getLast?_eq_getElem?,List.getD_eq_getElem?_getD,jn (show acc.length-1<acc.length by omega)];rfl
    rw[cY]at g5;have g5:(acc.getD (acc.length-1) ((0:B),(0:B))).1+604800<=x.1-now:=g5 _ rfl;have hb:=dM (acc.getD (acc.length-1) (0,0)) (List.mem_of_getLast? cY);rw[cB,ai (show (acc.length:B)>0 by omega),show ((acc.length:B)-1).toNat=acc.length-1 by omega];simp only[j6];rw[aQ,aC (show¬x.1-now-(acc.getD (acc.length-1) ((0:B),(0:B))).1<604800 by omega),ai (by simp[aK];omega)];simp only[j6,j7,bg];exact fj
theorem jJR{nm:H}{o:B}{rs:E aO}(h:∀r∈rs,jA r)(nj : -64800<=o)(me:o<=64800)(hlen:rs.length<=16)(hn:(occs rs).length<=640)(hg:Good o none (dY (occs rs))) :
  j0a (nm,(o,rs))=F (cm o (dY (occs rs)),0):=by
 have hl:(dY (occs rs)).length<=1000:=by simp[dY,Dw];omega
 have e0:=Ub h aa nm o rs.length 0 0 aa aa aa;rw[jj]at e0;have e2:=Uc (dY (occs rs)) hl (dY (occs rs)).length 0 o [] aa nj me ae ae hg;rw[jj]at e2;simp(disch:=omega)only[j0a,nn nj me,show Gd 0 0 nm o rs=_ from e0,Ϭ h aa,show Ge o 0 [] (dY (occs rs))=_ from e2,S0];rfl
def Z4(z:H×(B×E aO))(l:bm):Prop:=j0a z=F (l,0)/\ix z.2.1 l
theorem MZ.r4{o:B}{rs:E aO}(h:MZ o rs)(nm:H):Z4 (nm,(o,rs)) (cm o (dY (occs rs))):=by
 have ht:=h.tab nm;refine⟨jJR h.ok (by have:=h.o0;omega) (by have:=h.o1;omega) ?_ ?_ h.good,ht.2⟩
 .have:=h.len;omega
 .have:=h.few;omega
section
variable{o:B}{l:bm}(h:ix o l)
include h
theorem ϭ{t:B}{k:G}(hk:k<=l.length)(h1:aV l k<=t)(h2:t<aV l (k+1)):∀(n i:G),i+n=k->JT l t (bq o l i) (i:B)=F (bq o l k)
 |0,i,hi=>by
  have hi:i=k:=aa;subst hi;have hlen:=h.len;rw[_7];simp only[j6k,show J (I l)=(l.length:B) from rfl];by_cases ao:i<l.length
  .have e:aV l (i+1)=eh l i:=ia ao;rw[cB,ai (show (i:B)<(l.length:B) by omega)];simp only[zo,j6,j8];rw[aC (show¬(l.getD i ((0:B),(0:B))).1<=t by show¬eh l i<=t;omega),j7,bV]
  .rw[aC (show¬(i:B)<(l.length:B) by omega)];simp only[jv,Bool.or_true,j6,j7,bV]
 |n+1,i,hi=>by
  have hlen:=h.len;have ao:i<l.length:=aa;have e:aV l (i+1)=eh l i:=ia ao;have hle:=h.frm_le (i:=i+1) (j:=k) aa aa;rw[_7];simp only[j6k,show J (I l)=(l.length:B) from rfl];rw[cB,ai (show (i:B)<(l.length:B) by omega)];simp only[zo,j6,j8];rw[ai (show (l.getD i ((0:B),(0:B))).1<=t by show eh l i<=t;omega),j6,aQ,bg];exact ϭ hk h1 h2 n (i+1) aa
theorem jCt{nm:H}{rs:E aO}{t:B}{k:G}(hk:k<=l.length)(h1:aV l k<=t)(h2:t<aV l (k+1)):jk9 (nm,(o,rs)) l t=F (bq o l k):=by
 have:=ϭ h hk h1 h2 k 0 aa;simp only[jk9];rw[show JT l t o 0=_ from this];rfl
theorem Ϯ{nm:H}{rs:E aO}{d c:B}(hd : -1000000<=d)(iJ:d<=1000000)(hc:0<=c)(fQ:c<=86399){k:G}(hk:k<=l.length)(hks:d*86400+c-bq o l k<aV l (k+1))
  (hb:∀j,j<k->aV l (j+1)<=d*86400+c-bq o l j):∀(n j:G),j+n=k->yB ((j:B)-1) nm o rs d c l=F (.inl (max (aV l k) (d*86400+c-bq o l k),0))
 |n,j,hj=>by
  have hlen:=h.len;have uH:j<=l.length:=aa;have o1:=h.of0 j uH;have o2:=h.of1 j uH;have ao:=h.frm_lt uH
  have key:∀A:Option ((B×H×B×E aO×B×B×bm) ⊕ ((B×B) ⊕ Unit)),
    A=(cond (K (max (aV l j) (d*86400+c-bq o l j)<aV l (j+1))) (F (.inr (.inl (max (aV l j) (d*86400+c-bq o l j),0)))) (F (.inl ((j:B),nm,o,rs,d,c,l))))->
    lpK A (λh=>yB h.1 h.2.1 h.2.2.1 h.2.2.2.1 h.2.2.2.2.1 h.2.2.2.2.2.1 h.2.2.2.2.2.2)=F (.inl (max (aV l k) (d*86400+c-bq o l k),0)):=by
   intro A hA;rw[hA];cases n with
   |zero=>have wb:j=k:=aa;subst wb;rw[ai aa,j6,bV]
   |succ n=>have:=hb j aa;rw[aC aa,j7,bg];have ih:=Ϯ (nm:=nm) (rs:=rs) hd iJ hc fQ hk hks hb n (j+1) aa;rwa[show ((j+1:G):B)-1=(j:B) by omega]at ih
  rw[Qc];refine key _ ?_;simp only[j5x,show J (I l)=(l.length:B) from rfl];rw[ai (show (j:B)-1<(l.length:B) by omega)];simp only[show (j:B)-1+1=(j:B) by omega,aQ (x:=(j:B)),j8];rw[aQ (x:=d*86400),aQ (x:=d*86400+c)];have oK:∀a b:B,(if a>b then a else b)=max b a:=λa b=>aa;clear key;cases j with
  |zero=>
   have rq:bq o l 0=o:=rfl;have nM:aV l 0=0:=rfl;rw[aC (show¬((0:G):B)-1>=0 by omega)];rw[rq]at o1 o2 ⊢;rw[nM];simp only[j6,j7,aQ (x:=d*86400+c-o),oK];by_cases jO:0<l.length
   .have e:aV l (0+1)=eh l 0:=ia jO;rw[e];rw[ai (show ((0:G):B)<(l.length:B) by omega),cB];rfl
   .have ua:l.length=0:=aa;have e:aV l (0+1)=8589934593:=by have:=lF (l:=l);rwa[ua]at this
    rw[e];rw[aC (show¬((0:G):B)<(l.length:B) by omega)];rfl
  |succ i=>
   have kL:i<l.length:=aa;have rq:bq o l (i+1)=(l.getD i ((0:B),(0:B))).2:=rfl;have nM:aV l (i+1)=(l.getD i ((0:B),(0:B))).1:=ia kL;rw[show ((i+1:G):B)-1=(i:B) by omega,ai (show (i:B)>=0 by omega),cB];simp only[j6,j8,<-rq,<-nM];rw[aQ (x:=d*86400+c-bq o l (i+1))];simp only[oK];by_cases jO:i+1<l.length
   .have e:aV l (i+1+1)=(l.getD (i+1) ((0:B),(0:B))).1:=ia jO;rw[ai (show ((i+1:G):B)<(l.length:B) by omega),cB];simp only[j6,<-e]
   .have e:aV l (i+1+1)=8589934593:=by have:=lF (l:=l);rwa[show l.length+1=i+1+1 by omega]at this
    rw[aC (show¬((i+1:G):B)<(l.length:B) by omega),e];rfl
end
theorem jAd{t o:B}(h1 : -864000<=t+o)(h2:t+o<=1000000000000):jml t o=F ((t+o)/86400,(t+o)%86400):=by
 simp(disch:=omega)only[jml,uS,Dt,S0];congr 2<;>omega
section
variable{z:H×(B×E aO)}{l:bm}(h:Z4 z l)
include h
theorem jEB{t:B}{k:G}(h0:0<=t)(h1:t<=8589934592)(hk:k<=l.length)(dr:aV l k<=t)(fo:t<aV l (k+1)):jd8 z t=F (bq z.2.1 l k,0):=by
 simp(disch:=omega)only[jd8,show j0a (z.1,(z.2.1,z.2.2))=_ from h.1,nn h0 h1,jCt h.2 hk dr fo,S0]
theorem ϯ{t:B}{k:G}(h0:0<=t)(h1:t<=8589934592)(hk:k<=l.length)(dr:aV l k<=t)(fo:t<aV l (k+1)):j4Y z t=F (((t+bq z.2.1 l k)/86400,(t+bq z.2.1 l k)%86400),0):=by
 have o1:=h.2.of0 k hk;have o2:=h.2.of1 k hk;simp(disch:=omega)only[j4Y,show jd8 (z.1,(z.2.1,z.2.2)) t=_ from jEB h h0 h1 hk dr fo,jAd,S0]
omit h in
theorem Ud{d:B}(h1 : -2<=d)(h2:d<=99422):jhc d=F true:=by
 simp only[jhc,nn h1 h2,j4]
theorem jAe{d c:B}(hd : -2<=d)(iJ:d<=99422)(hc:0<=c)(fQ:c<=86399){k:G}(hk:k<=l.length)(hks:d*86400+c-bq z.2.1 l k<aV l (k+1))
  (hb:∀j,j<k->aV l (j+1)<=d*86400+c-bq z.2.1 l j):j4A z (d,c)=F (max (aV l k) (d*86400+c-bq z.2.1 l k),0):=by
 have:=Ϯ h.2 (nm:=z.1) (rs:=z.2.2) (show -1000000<=d by omega) aa hc fQ hk hks hb k 0 aa;simp only[j4A,show j0a (z.1,(z.2.1,z.2.2))=_ from h.1,j4,je,j7,nn hc fQ,jg,Ud hd iJ];rw[aC (show¬d < -2 by omega),j7,show yB (-1) z.1 z.2.1 z.2.2 d c l=_ from this];rfl
end
section
variable{o:B}{l:bm}(h:ix o l)
include h
def rr(o:B)(l:bm)(s:B):G->G->E B
 |_,0=>[]
 |j,n+1=>(if tX o l s j then [s-bq o l j] else [])++rr o l s (j+1) n
def kG(o:B)(l:bm)(s:B):E Int:=rr o l s 0 (l.length+1)
omit h in
theorem K8(s:B):∀n j,(rr o l s j n).length<=n
 |0,_=>by simp[rr]
 |n+1,j=>by
  have:=K8 s n (j+1);simp only[rr];split<;>simp<;>omega
omit h in
theorem jEC{s:B}{j:G}:(cond (K (s-bq o l j>=aV l j)) (K (s-bq o l j<aV l (j+1))) W)=K (tX o l s j):=by
 by_cases h1:aV l j<=s-bq o l j
 .simp(disch:=omega)only[S0];by_cases h2:s-bq o l j<aV l (j+1)
  .rw[ai h2,ai (show tX o l s j from⟨h1,h2⟩)]
  .rw[aC h2,aC (λhs:tX o l s j=>h2 hs.2)]
 .rw[aC (show¬s-bq o l j>=aV l j from h1),j7,aC (λhs:tX o l s j=>h1 hs.1)]
theorem ϰ{nm:H}{rs:E aO}{d c:B}(hd : -1000000<=d)(iJ:d<=1000000)(hc:0<=c)(fQ:c<=86399):∀(n j:G)(acc:E B),j+n=l.length+1->acc.length<=j->
  De ((j:B)-1) nm o rs d c l acc=F (acc++rr o l (d*86400+c) j n)
 |0,j,acc,hj,_=>by
  rw[d_];simp(disch:=omega)only[j4B,S0];simp[rr]
 |n+1,j,acc,hj,ha=>by
  have hlen:=h.len;have o1:=h.of0 j aa;have o2:=h.of1 j aa
  have key:∀A:Option ((B×H×B×E aO×B×B×bm×E B) ⊕ E B),
    A=(cond (K (tX o l (d*86400+c) j)) (F (.inl ((j:B),nm,o,rs,d,c,l,acc++[d*86400+c-bq o l j]))) (F (.inl ((j:B),nm,o,rs,d,c,l,acc))))->
    lpK A (λh=>De h.1 h.2.1 h.2.2.1 h.2.2.2.1 h.2.2.2.2.1 h.2.2.2.2.2.1 h.2.2.2.2.2.2.1 h.2.2.2.2.2.2.2)=F (acc++rr o l (d*86400+c) j (n+1)):=by
   intro A hA;rw[hA]
   have ih:∀bd:E B,bd.length<=j+1->De (j:B) nm o rs d c l bd=F (bd++rr o l (d*86400+c) (j+1) n):=λbd h'=>by
    have:=ϰ (nm:=nm) (rs:=rs) hd iJ hc fQ n (j+1) bd aa h';rwa[show ((j+1:G):B)-1=(j:B) by omega]at this
   by_cases hs:tX o l (d*86400+c) j
   .rw[ai hs,j6,bg];refine(ih (acc++[d*86400+c-bq o l j]) aj).trans ?_;simp[rr,hs]
   .rw[aC hs,j7,bg];refine(ih acc aa).trans ?_;simp[rr,hs]
  rw[d_];refine key _ ?_;simp only[j4B,show J (I l)=(l.length:B) from rfl];rw[ai (show (j:B)-1<(l.length:B) by omega)];simp only[show (j:B)-1+1=(j:B) by omega,aQ (x:=(j:B)),j8];have cO:K (acc.length+[d*86400+c-bq o l j].length<=aK)=true:=ai (by simp[aK];omega);rw[aQ (x:=d*86400),aQ (x:=d*86400+c)];have dm:=jEC (o:=o) (l:=l) (s:=d*86400+c) (j:=j);cases j with
  |zero=>
   have rq:bq o l 0=o:=rfl;have nM:aV l 0=0:=rfl;rw[aC (show¬((0:G):B)-1>=0 by omega)];rw[rq]at o1 o2 cO dm ⊢;rw[nM]at dm;simp only[j6,j7,aQ (x:=d*86400+c-o)];by_cases jO:0<l.length
   .have e:aV l (0+1)=eh l 0:=ia jO;rw[e]at dm;rw[ai (show ((0:G):B)<(l.length:B) by omega),cB];simp only[j6];rw[show (l.getD 0 ((0:B),(0:B))).1=eh l 0 from rfl,dm,cO];rfl
   .have ua:l.length=0:=aa;have e:aV l (0+1)=8589934593:=by have:=lF (l:=l);rwa[ua]at this
    rw[e]at dm;rw[aC (show¬((0:G):B)<(l.length:B) by omega)];simp only[j7];rw[dm,cO];rfl
  |succ i=>
   have kL:i<l.length:=aa;have rq:bq o l (i+1)=(l.getD i ((0:B),(0:B))).2:=rfl;have nM:aV l (i+1)=(l.getD i ((0:B),(0:B))).1:=ia kL;rw[show ((i+1:G):B)-1=(i:B) by omega,ai (show (i:B)>=0 by omega),cB];simp only[j6,j8,<-rq,<-nM];rw[aQ (x:=d*86400+c-bq o l (i+1))];by_cases jO:i+1<l.length
   .have e:aV l (i+1+1)=(l.getD (i+1) ((0:B),(0:B))).1:=ia jO;rw[ai (show ((i+1:G):B)<(l.length:B) by omega),cB];simp only[j6,<-e];rw[dm,cO];rfl
   .have e:aV l (i+1+1)=8589934593:=by have:=lF (l:=l);rwa[show l.length+1=i+1+1 by omega]at this
    rw[aC (show¬((i+1:G):B)<(l.length:B) by omega)];rw[e]at dm;simp only[j7];rw[dm,cO];rfl
end
section
variable{z:H×(B×E aO)}{l:bm}(h:Z4 z l)
include h
theorem ϱ{d c:B}(hd : -2<=d)(iJ:d<=99422)(hc:0<=c)(fQ:c<=86399):j96 z (d,c)=F (kG z.2.1 l (d*86400+c),0):=by
 have:=ϰ h.2 (nm:=z.1) (rs:=z.2.2) (show -1000000<=d by omega) aa hc fQ (l.length+1) 0 [] aa ae;simp(disch:=omega)only[j96,show j0a (z.1,(z.2.1,z.2.2))=_ from h.1,nn hc fQ,Ud hd iJ,show De (-1) z.1 z.2.1 z.2.2 d c l []=_ from this,S0];rfl
end
end Go.Proofs.Pw
