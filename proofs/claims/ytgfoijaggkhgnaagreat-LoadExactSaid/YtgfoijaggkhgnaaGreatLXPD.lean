/- The Tg, edits and ga that the dice make are right. -/
import Derived.Test.YtgfoijaggkhgnaaGreatLXPC
import Derived.Test.YtgfoijaggkhgnaaGreatLXPB
import Derived.Test.YtgfoijaggkhgnaaGreatLXPA
open _root_ renaming Int->E,List->H,Nat->J,ByteArray->M
open List renaming length->F,drop->N,take_of_length_le->S,range->W,take->X
open Int renaming ofNat->G,emod_eq_of_lt->U
open Option renaming some->I
open Decidable renaming decide->O
open ByteArray renaming empty->R
open Go Go.Lft
namespace Go.Proofs.Pw
theorem Th{L:H E}{zs:H bF}{ps:H cR}{cs:H aV}{ss:H cW}(nk:1<=ps.length)(ub:ps.length<=100){x0 y0:M}{x1 x2 x3 x4 x5 x6 x7 y1 y2 y3 y4 y5 y6 y7:E}:∀(n:J)(a:E)(ms:H E),c9 L a->ms.length+n<=4->(∀m∈ms,0<=m/\m<(ps.length:E))->
  ∃HG a',FE (n:E) L a zs ps cs ss x0 x1 x2 x3 x4 x5 x6 x7 y0 y1 y2 y3 y4 y5 y6 y7 ms=I (L,a',zs,ps,cs,ss,x0,x1,x2,x3,x4,x5,x6,x7,y0,y1,y2,y3,y4,y5,y6,y7,HG)/\HG.length=ms.length+n/\(∀m∈HG,0<=m/\m<(ps.length:E))/\c9 L a'
 |0,a,ms,hd,_,hm=>by
  rw[YA];simp only[j2y];rw[aj aa,j7,aS];exact⟨ms,a,rfl,rfl,hm,hd⟩
 |n+1,a,ms,hd,hl,hm=>by
  obtain⟨x,a1,e1,x0',x1',d1⟩:=dh (n:=(ps.length:E)) hd aa aa;rw[YA];simp only[j2y,show G (F ps)=(ps.length:E) from rfl];rw[ah aa,al (x:=((n+1:J):E)-1),show ((n+1:J):E)-1=(n:E) by omega];simp only[j6,e1,j4];rw[ah (by simp[aM];omega)];simp only[j6,aH]
  obtain⟨HG,a',e,h1,h2,h3⟩:=Th (zs:=zs) (cs:=cs) (ss:=ss) nk ub (x0:=x0) (x1:=x1) (x2:=x2) (x3:=x3) (x4:=x4) (x5:=x5) (x6:=x6) (x7:=x7) (y0:=y0) (y1:=y1) (y2:=y2) (y3:=y3) (y4:=y4) (y5:=y5) (y6:=y6) (y7:=y7) n a1 (ms++[x]) d1 ax (λm h=>by
   rcases jn.1 h with h|h
   .exact hm m h
   .simp at h;subst h;exact⟨x0',x1'⟩)
  exact⟨HG,a',e,by rw[h1];simp;omega,h2,h3⟩
theorem jAO{L:H E}{a:E}(h:c9 L a){zs:H bF}{ps:H cR}{cs:H aV}{ss:H cW}(hs:Hx zs ps cs)(nm:M) :
  ∃l a',j9M L a (zs,(ps,(cs,ss))) nm=I (l,L,a')/\Hy l/\fh zs.length ps.length cs.length l/\l.1=nm/\c9 L a':=by
 have my:=hs.z0;have pY:=hs.z1;have nk:=hs.p0;have ub:=hs.p1;have eX:=hs.c1;obtain⟨z,a1,e1,z0,z1,d1⟩:=dh (n:=(zs.length:E)) h aa aa;obtain⟨x,a2,e2,x0,x1,d2⟩:=dh (n:=6) d1 aa aa;obtain⟨s,a3,e3,m3,d3⟩:=mR d2 (xs:=[(0:E),(32400:E),(7200:E),(9000:E),(79200:E),(1:E)]) ae ae;obtain⟨u,a4,e4,u0,u1,d4⟩:=dh (n:=3) d3 aa aa;obtain⟨v,a5,e5,v0,v1,d5⟩:=dh (n:=2) d4 aa aa;have dt:0<=s/\s<=79200:=by simp at m3;omega
 simp only[j9M,show G (F zs)=(zs.length:E) from rfl,e1,e2,e3,e4,e5,j4];rw[al (x:=20454+x),al (x:=20454+x-2),al (x:=1+v)]
 have fin:∀(ev:E),1<=ev->ev<=49->(u≠0->ev<=2)->(u=0->6<=ev)->∀ms:H E,1<=ms.length->ms.length<=3->(∀m∈ms,0<=m/\m<(ps.length:E))->∀(w:WL),eN 0 w->w.length<=3->∀(c m:E),0<=m->m<=2->(m≠0->0<=c/\c<(cs.length:E))->(m=0->c=0)->∀(a':E),c9 L a'->
   ∃l x9,I ((nm,(z,((20454+x-2,s),(u,(ev,(ms,(w,(c,m)))))))),L,a')=I (l,L,x9)/\Hy l/\fh zs.length ps.length cs.length l/\l.1=nm/\c9 L x9:=
  λev h1 h2 h3 xP ms h4 h5 ez w hw iG c m mS fH Cc hmz a' hd=>⟨_,_,rfl,⟨by dsimp only;omega,by dsimp only;omega,dt.1,dt.2,u0,by dsimp only;omega,h1,h2,h3,h4,h5⟩,
   ⟨z0,z1,by dsimp only;omega,Td (by dsimp only;omega) (by dsimp only;omega),dt.1,by dsimp only;omega,u0,by dsimp only;omega,h1,by dsimp only;omega,by dsimp only;omega,by dsimp only;omega,ez,hw,by dsimp only;omega,mS,fH,Cc,hmz,iG,xP⟩,rfl,hd⟩
 have rest:∀(ev:E),1<=ev->ev<=49->(u≠0->ev<=2)->(u=0->6<=ev)->∀(ms:H E),1<=ms.length->ms.length<=3->(∀m∈ms,0<=m/\m<(ps.length:E))->∀(w:WL),eN 0 w->w.length<=3->∀(a9:E),c9 L a9->
   ∃l x9,((j0Q L a9 4).bind λr=>cond (cond r.1 (O ((cs.length:E)>0)) false) ((j08 r.2.1 r.2.2 (cs.length:E)).bind λTi=>(j08 Ti.2.1 Ti.2.2 2).bind λTj=>I ((nm,(z,((20454+x-2,s),(u,(ev,(ms,(w,(Ti.1,w64 (1+Tj.1))))))))),Tj.2.1,Tj.2.2))
    (I ((nm,(z,((20454+x-2,s),(u,(ev,(ms,(w,((0:E),(0:E))))))))),r.2.1,r.2.2)))=I (l,L,x9)/\Hy l/\fh zs.length ps.length cs.length l/\l.1=nm/\c9 L x9:=by
  intro ev h1 h2 h3 xP ms h4 h5 ez w hw iG a9 d9;obtain⟨c,a11,e11,d11⟩:=Dc (n:=4) d9 aa aa;simp only[e11,j4];by_cases oz:c=true/\(cs.length:E)>0
  .obtain⟨i,a12,O8,i0,i1,d12⟩:=dh (n:=(cs.length:E)) d11 aa aa;obtain⟨j,a13,e13,j0,j1,d13⟩:=dh (n:=2) d12 aa aa;rw[oz.1,ah oz.2];simp only[j6,O8,e13,j4,iH (x:=1+j) (show -9223372036854775808<=_ by omega) aa];exact fin ev h1 h2 h3 xP ms h4 h5 ez w hw iG i (1+j) aa aa (λ_=>⟨i0,i1⟩) (λhh=>aa) _ d13
  .have jO:cond c (O ((cs.length:E)>0)) false=false:=by
    cases c with
    |true=>exact aj (λh=>oz ⟨rfl,h⟩)
    |false=>rfl
   rw[jO];simp only[j7];exact fin ev h1 h2 h3 xP ms h4 h5 ez w hw iG 0 0 aa aa (λhh=>absurd rfl hh) (λ_=>rfl) _ d11
 have HH:eN 0 ([]:WL):=show (0:E)<=604800 by omega
 by_cases hu:u=0
 .rw[dC hu,j6];obtain⟨ev,a6,e6,m6,d6⟩:=mR d5 (xs:=[(6:E),(8:E),(12:E),(24:E),(23:E),(49:E)]) ae ae;have nw:6<=ev/\ev<=49:=by simp at m6;omega
  obtain⟨n,a7,e7,n0,n1,d7⟩:=dh (n:=3) d6 aa aa;obtain⟨ms,a8,e8,l8,k8,d8⟩:=Th (L:=L) (zs:=zs) (ps:=ps) (cs:=cs) (ss:=ss) nk aa (x0:=R) (x1:=0) (x2:=0) (x3:=0) (x4:=0) (x5:=0) (x6:=0) (x7:=0) (y0:=nm) (y1:=z) (y2:=20454+x-2) (y3:=s) (y4:=u) (y5:=ev) (y6:=0) (y7:=0) (1+n).toNat a7 [] d7 ax ae;rw[show (((1+n).toNat:J):E)=1+n by omega]at e8;simp at l8;obtain⟨b,a9,e9,d9⟩:=Dc (n:=2) d8 aa aa;simp only[e6,e7,j4];rw[al (x:=1+n)];simp only[e8,e9,j4,show G (F cs)=(cs.length:E) from rfl];cases b with
  |true=>obtain⟨w,Tk,Tl,hw,iG,d10⟩:=Ll d9;simp only[j6,Tl,j4];exact rest ev aa nw.2 (λh=>absurd hu h) (λ_=>nw.1) ms aa aa k8 w hw iG Tk d10
  |false=>simp only[j7];exact rest ev aa nw.2 (λh=>absurd hu h) (λ_=>nw.1) ms aa aa k8 [] HH ae a9 d9
 .rw[cj hu,j7];obtain⟨n,a7,e7,n0,n1,d7⟩:=dh (n:=3) d5 aa aa;obtain⟨ms,a8,e8,l8,k8,d8⟩:=Th (L:=L) (zs:=zs) (ps:=ps) (cs:=cs) (ss:=ss) nk aa (x0:=R) (x1:=0) (x2:=0) (x3:=0) (x4:=0) (x5:=0) (x6:=0) (x7:=0) (y0:=nm) (y1:=z) (y2:=20454+x-2) (y3:=s) (y4:=u) (y5:=1+v) (y6:=0) (y7:=0) (1+n).toNat a7 [] d7 ax ae;rw[show (((1+n).toNat:J):E)=1+n by omega]at e8;simp at l8;obtain⟨b,a9,e9,d9⟩:=Dc (n:=2) d8 aa aa;simp only[e7,j4];rw[al (x:=1+n)];simp only[e8,e9,j4,show G (F cs)=(cs.length:E) from rfl];cases b with
  |true=>obtain⟨w,Tk,Tl,hw,iG,d10⟩:=Ll d9;simp only[j6,Tl,j4];exact rest (1+v) aa aa (λ_=>aa) (λh=>absurd h hu) ms aa aa k8 w hw iG Tk d10
  |false=>simp only[j7];exact rest (1+v) aa aa (λ_=>aa) (λh=>absurd h hu) ms aa aa k8 [] HH ae a9 d9
theorem jFy{L:H E}{a:E}(h:c9 L a){zs:H bF}{ps:H cR}{cs:H aV}{ss:H cW}(nk:1<=ps.length)(ub:ps.length<=4) :
  ∃x a',jb7 L a (zs,(ps,(cs,ss)))=I (x,L,a')/\pq ps.length x/\c9 L a':=by
 obtain⟨k,a1,e1,k0,k1,d1⟩:=dh (n:=3) h aa aa;obtain⟨p,a2,e2,p0,p1,d2⟩:=dh (n:=(ps.length:E)) d1 aa aa;obtain⟨t,a3,e3,t0,t1,d3⟩:=y_ d2;obtain⟨y,a4,e4,m4,d4⟩:=mR d3 (xs:=[(3600:E),(86400:E),(7:E),(259200:E),(40000:E)]) ae ae;have hy:7<=y/\y<=259200:=by simp at m4;omega
 have rb:j0W (Int.tdiv (t+y) 86400)=I true:=by rw[pj aa];exact Td aa aa
 simp only[jb7,show G (F ps)=(ps.length:E) from rfl,e1,e2,e3,e4,j4];rw[al (x:=t+y)]
 have fin:∀(kd A B:E),0<=kd->kd<=2->(0<=A/\A<(ps.length:E)\/kd=1/\A = -1)->(kd=2->0<=B/\B<(ps.length:E)/\A≠B)->(kd≠2->B=0)->∀a',c9 L a'->∃x x9,I ((kd,(A,(B,(t,t+y)))),L,a')=I (x,L,x9)/\pq ps.length x/\c9 L x9:=
  λkd A B h1 h2 h3 h4 h5 a' hd=>⟨_,_,rfl,⟨h1,h2,h3,h4,h5,by dsimp only;omega,by dsimp only;omega,by dsimp only;omega,rb⟩,hd⟩
 by_cases h2:k=2
 .rw[dC h2,j6];by_cases hn:(ps.length:E)<2
  .rw[ah hn,j6];exact fin 0 p 0 aa aa (.inl ⟨p0,p1⟩) (λhh=>aa) (λ_=>rfl) _ d4
  .rw[aj hn,j7,al (x:=(ps.length:E)-1)];obtain⟨q,a5,e5,q0,q1,d5⟩:=dh (n:=(ps.length:E)-1) d4 aa aa;simp only[e5,j4];rw[al (x:=p+1),al (x:=p+1+q),cj (show¬(ps.length:E)=0 by omega),cj (show¬k=1 by omega),uJ aa];simp only[ka,j6,j7];have b0:0<=(p+1+q)%(ps.length:E):=Int.emod_nonneg _ aa;have b1:(p+1+q)%(ps.length:E)<(ps.length:E):=Int.emod_lt_of_pos _ aa
   have bA:p≠(p+1+q)%(ps.length:E):=by
    by_cases hb:p+1+q<(ps.length:E)
    .rw[U aa hb];omega
    .rw[<-Int.sub_emod_right,U aa aa];omega
   exact fin k p _ k0 aa (.inl ⟨p0,p1⟩) (λ_=>⟨b0,b1,bA⟩) (λhh=>absurd h2 hh) _ d5
 .rw[cj h2,j7];by_cases h1:k=1
  .rw[dC h1,j6];obtain⟨b,a5,e5,d5⟩:=Dc (n:=4) d4 aa aa;simp only[e5,j4];cases b with
   |true=>exact fin k (-1) 0 k0 aa (.inr ⟨h1,rfl⟩) (λhh=>absurd hh h2) (λ_=>rfl) _ d5
   |false=>exact fin k p 0 k0 aa (.inl ⟨p0,p1⟩) (λhh=>absurd hh h2) (λ_=>rfl) _ d5
  .rw[cj h1,j7];exact fin k p 0 k0 aa (.inl ⟨p0,p1⟩) (λhh=>absurd hh h2) (λ_=>rfl) _ d4
theorem Q_{L:H E}{s6:E}{nm:M}{zs:H bF}{ps:H cR}{cs:H aV}{ss:H cW}(hs:Hx zs ps cs):∀(n:J)(a:E)(ls:H bZ),c9 L a->ls.length+n<=3->(∀x∈ls,fh zs.length ps.length cs.length x)->ls.map (·.1)=gP.take ls.length->
  ∃gr a',FF s6 (n:E) L a zs ps cs nm ss ls=I (s6,L,a',zs,ps,cs,nm,ss,gr)/\gr.length<=3/\(∀x∈gr,fh zs.length ps.length cs.length x)/\gr.map (·.1)=gP.take gr.length/\c9 L a'
 |0,a,ls,hd,hl,hk,hn=>by
  rw[YB];simp only[j2c];rw[aj aa,j7,aS];exact⟨ls,a,rfl,aa,hk,hn,hd⟩
 |n+1,a,ls,hd,hl,hk,hn=>by
  have cG:ls.length<gP.length:=by show ls.length<8;omega
  obtain⟨l,a1,e1,_,l2,l3,d1⟩:=jAO (ss:=ss) hd hs (gP.getD ls.length R);rw[YB];simp only[j2c,L_,j4,show G (F ls)=(ls.length:E) from rfl];rw[ah aa,bY (show (0:E)<=(ls.length:E) by omega) aa,al (x:=((n+1:J):E)-1),show ((n+1:J):E)-1=(n:E) by omega];simp only[j6,j8,e1,j4];rw[ah (by simp[aM];omega)];simp only[j6,aH]
  exact Q_ hs n a1 (ls++[l]) d1 ax (λx hx=>by
   rcases jn.1 hx with h|h
   .exact hk x h
   .simp at h;subst h;exact l2) (by
   rw[qc,hn,jf,ke,List.map_nil,l3];exact Ln cG)
theorem R_{L:H E}{s6:E}{nm:M}{zs:H bF}{ps:H cR}{cs:H aV}{ss:H cW}{ls:H bZ}(hs:Hx zs ps cs):∀(n:J)(a:E)(es:H dV),c9 L a->es.length+n<=3->(∀x∈es,pq ps.length x)->
  ∃es' a',JP s6 (n:E) L a zs ps cs nm ss ls es=I (s6,L,a',zs,ps,cs,nm,ss,ls,es')/\es'.length<=3/\(∀x∈es',pq ps.length x)/\c9 L a'
 |0,a,es,hd,hl,hk=>by
  rw[YC];simp only[j2d];rw[aj aa,j7,aS];exact⟨es,a,rfl,aa,hk,hd⟩
 |n+1,a,es,hd,hl,hk=>by
  obtain⟨x,a1,e1,x1,d1⟩:=jFy (zs:=zs) (cs:=cs) (ss:=ss) hd hs.p0 hs.p1;rw[YC];simp only[j2d];rw[ah aa,al (x:=((n+1:J):E)-1),show ((n+1:J):E)-1=(n:E) by omega];simp only[j6,e1,j4];rw[ah (by simp[aM];omega)];simp only[j6,aH]
  exact R_ hs n a1 (es++[x]) d1 ax (λy hy=>by
   rcases jn.1 hy with h|h
   .exact hk y h
   .simp at h;subst h;exact x1)
theorem jGQ{zs:H bF}{ps:H cR}{cs:H aV}{ss:H cW}(hs:db zs ps cs)(h0:ss.length<=12)(h1:fJ (ss.map (·.1)))(h2:∀s∈ss,uK zs.length ps.length cs.length s):oe (zs,(ps,(cs,ss))):=by
 have pY:=hs.so.z1;have ub:=hs.so.p1;have eX:=hs.so.c1;exact⟨by dsimp only;rw[hs.z.nm];exact jFt.take _,hs.z.ck,by dsimp only;omega,by dsimp only;rw[hs.p.nm];exact M_.take _,hs.p.ck,by dsimp only;omega,hs.c.nm,hs.c.ck,by dsimp only;omega,h1,h2,h0⟩
structure og(o:E)(l:bC)(s t:E)(k:J):Prop where
 hk:k<=l.length
 hks:s-bk o l k<aT l (k+1)
 bef:∀j,j<k->aT l (j+1)<=s-bk o l j
 ht:t=max (aT l k) (s-bk o l k)
def Tm(o:E)(l:bC):Prop:=∀i,i<l.length -> -86400<bk o l (i+1)-bk o l i/\bk o l (i+1)-bk o l i<86400
section
variable{o:E}{l:bC}(h:iz o l)
include h
theorem og.piece{s t:E}{k:J}(f:og o l s t k):aT l k<=t/\t<aT l (k+1)/\s<=t+bk o l k:=by
 have h1:=h.frm_lt f.hk;have h2:=f.hks;have h3:=f.ht;omega
theorem og.up{s s' t t':E}{k k':J}(hd:Tm o l)(hs:200000<s)(he:s+86400<=s')(f:og o l s t k)(g:og o l s' t' k'):t<t':=by
 obtain⟨p1,p2,p3⟩:=f.piece h;obtain⟨q1,q2,q3⟩:=g.piece h;have g1:=g.hks;have g2:=g.ht;have f2:=f.ht;have De:=f.hk;have hkN':=g.hk;rcases yg k k' with an|heq|yA
 .have m1:=h.frm_le (i:=k+1) (j:=k') aa aa;omega
 .subst heq;by_cases h0:k=0
  .subst h0;have e0:aT l 0=0:=pk;have o1:=h.of1 0 aa;omega
  .obtain⟨j,rfl⟩:∃j,k=j+1:=⟨k-1,aa⟩;have b:=f.bef j aa;have d:=hd j aa;omega
 .have:=f.bef k' yA;omega
end
noncomputable def HI(o:E)(l:bC)(s:E):Int:=open Classical in if h:∃t k,og o l s t k then Classical.choose h else 0
def dP(L:bZ):Int:=if L.2.2.2.1=2 then 7*L.2.2.2.2.1 else L.2.2.2.2.1
def dF(L:bZ)(k:E):Int:=(L.2.2.1.1+k*dP L)*86400+L.2.2.1.2
noncomputable def zM(o:E)(l:bC)(L:bZ)(k:E):Int:=if L.2.2.2.1=0 then HI o l (dF L 0)+3600*L.2.2.2.2.1*k else HI o l (dF L k)
structure LR(L:bZ):Prop where
 d0:100<=L.2.2.1.1
 d1:L.2.2.1.1<=30000
 c0:0<=L.2.2.1.2
 c1:L.2.2.1.2<=86399
 u0:0<=L.2.2.2.1
 u1:L.2.2.2.1<=2
 e0:1<=L.2.2.2.2.1
 e1:L.2.2.2.2.1<=49
 m0:1<=L.2.2.2.2.2.1.length
 m1:L.2.2.2.2.2.1.length<=1000
theorem Hy.lr{L:bZ}(h:Hy L):LR L:=⟨by have:=h.d0;omega,by have:=h.d1;omega,h.c0,by have:=h.c1;omega,h.u0,h.u1,h.e0,h.e1,h.m0,by have:=h.m1;omega⟩
theorem LR.step{L:bZ}(h:LR L):1<=dP L/\dP L<=343:=by
 have:=h.e0;have:=h.e1;unfold dP;split<;>omega
section
variable{o:E}{l:bC}(h:iz o l)
include h
end
theorem jvU(y:E):j1o y=I (wD y):=g_ y
theorem Lo(y m:E):jga y m=I (gn y m):=by
 by_cases h:m<1\/12<m
 .have hk:∀k:E,1<=k->k<=12->(m==k)=false:=λk h1 h2=>cj aa;have:gn y m=0:=if_pos h;rw[this]
  simp only[jga,hk 1 aa aa,hk 2 aa aa,hk 3 aa aa,hk 4 aa aa,hk 5 aa aa,hk 6 aa aa,hk 7 aa aa,
   hk 8 aa aa,hk 9 aa aa,hk 10 aa aa,hk 11 aa aa,hk 12 aa aa,j7]
 .obtain rfl|rfl|rfl|rfl|rfl|rfl|rfl|rfl|rfl|rfl|rfl|rfl:m=1\/m=2\/m=3\/m=4\/m=5\/m=6\/m=7\/m=8\/m=9\/m=10\/m=11\/m=12:=aa
  case inr.inl=>have e:jga y 2=(j1o y).bind λr=>cond r (I (29:E)) (I (28:E)):=rfl;rw[e,jvU,gn,e_];simp only[j4];cases wD y<;>rfl
  all_goals rfl
theorem ju6(y m d:E):jkN (y,m,d)=I (O (wE y m d)):=by
 simp only[jkN,Lo,j4];by_cases hv:wE y m d
 .have hm:=SR hv;have ig:=hv;obtain⟨a1,a2,a3,a4⟩:=hv;rw[ah (show y>=1970 from a1),ah a2,ah (show m>=1 from hm.1),ah hm.2,ah (show d>=1 from a3),ah a4,ah ig];rfl
 .rw[aj hv];by_cases a1:y>=1970
  .by_cases a2:y<=2240
   .by_cases a3:m>=1
    .by_cases a4:m<=12
     .by_cases a5:d>=1
      .rw[ah a1,ah a2,ah a3,ah a4,ah a5,aj (show¬d<=gn y m fromλh=>hv ⟨a1,a2,a5,h⟩)];rfl
      .rw[ah a1,ah a2,ah a3,ah a4,aj a5];rfl
     .rw[ah a1,ah a2,ah a3,aj a4];rfl
    .rw[ah a1,ah a2,aj a3];rfl
   .rw[ah a1,aj a2];rfl
  .rw[aj a1];rfl
theorem jvV(y:E)(h1:1969<=y)(h2:y<=1000000000):jkO y=I (kJ y):=by
 simp only[jkO];rw[al (x:=y-1970),al (x:=y-1969),al (x:=y-1901),al (x:=y-1601)];rw[pj (show 0<=y-1969 by omega),pj (show 0<=y-1901 by omega),pj (show 0<=y-1601 by omega)];simp (disch:=omega) only[iH];congr 1;unfold kJ;omega
theorem S_(y m d:E)(hm:m<=13):∀(n:J)(s k:E),1<=k->k+n=m -> -1000000000000<=s->s+31*n<=1000000000000->Ki s k y m d=I (s+mQ y m-mQ y k,y,m,d)
 |0,s,k,hk,hn,_,_=>by
  rw[Zz];have:k=m:=aa;subst this;simp only[j7G,aj (show¬k<k by omega),j7,aS];congr 2;omega
 |n+1,s,k,hk,hn,h1,h2=>by
  rw[Zz];have hd:=tJ y k;have hc:=SO y k hk aa;simp only[j7G,Lo,j4,ah (show k<m by omega),j6,aH];rw[al (x:=s+gn y k),al (x:=k+1)];rw[S_ y m d hm n (s+gn y k) (k+1) aa aa aa aa];congr 2;omega
theorem gN{y m d:E}(hv:wE y m d):jra (y,m,d)=I (num y m d,0):=by
 have hm:=SR hv;have hd:=tJ y m;have hb : -1000000000<=kJ y/\kJ y<=1000000000:=by have:=hv.1;have:=hv.2.1;unfold kJ;omega
 have hc:=f_ y m;obtain⟨h1,h2,h3,h4⟩:=id hv;simp only[jra,ju6,ah hv,j4,jl,j7,jvV y aa aa,S_ y m d aa (m-1).toNat (kJ y) 1 aa aa aa aa];have:mQ y 1=0:=rfl;rw[al (x:=kJ y+mQ y m-mQ y 1+d),al];unfold num;congr 2;omega
theorem T_(d:E):jdh d=j6m d:=rfl
theorem U_(y m k w n e:E)(pJ:0<=n)(rW:n<=1000000)(Tn:e<=6)(Lp:(n+e+3)%7=w) :
  ∀(j:J)(s:E),0<=s->s+j=e->Kj y m k w n (n+s)=I (y,m,k,n,n+e)
 |0,s,hs,hj=>by
  rw[ZA];have:s=e:=aa;subst this;have hb:((n+s+3)%7 != w)=false:=by simp[Lp]
  simp only[j7H,T_,Li (n+s) aa,j4,hb,j7,aS]
 |j+1,s,hs,hj=>by
  rw[ZA];have hb:((n+s+3)%7 != w)=true:=by simp only[bne_iff_ne,ne_eq];omega
  simp only[j7H,T_,Li (n+s) aa,j4,hb,j6,aH];rw[al (x:=n+s+1),show n+s+1=n+(s+1) by omega];exact U_ y m k w n e pJ rW Tn Lp j (s+1) aa aa
theorem To(y m n t:E)(pJ:0<=n)(rW:n<=1000000)(Tc:t<n+gn y m)(CF:n+gn y m<=t+7)(re : -1000<=t) :
  ∀(j:J)(s:E),s+7*j=t -> -1000<=s->Kk y m n s=I t
 |0,s,hs,_=>by
  have hd:=tJ y m;rw[ZB];have:s=t:=aa;subst this;simp only[j7I,Lo,j4];rw[al (x:=s+7),al (x:=n+gn y m),aj (show¬s+7<n+gn y m by omega),j7,aS]
 |j+1,s,hs,h1=>by
  have hd:=tJ y m;rw[ZB];simp only[j7I,Lo,j4];rw[al (x:=s+7),al (x:=n+gn y m),ah (show s+7<n+gn y m by omega),j6,aH];exact To y m n t pJ rW Tc CF re j (s+7) aa aa
theorem gO(y m k w:E)(h1:1970<=y)(h2:y<=2240)(fH:1<=m)(ik:m<=12)(dW:1<=k)(gi:k<=5)(hw1:0<=w)(xI:w<=6):jrb y m k w=I (nth y m k w,0):=by
 have hv:=Hr y m h1 h2 fH ik;have hr:=Hq hv;have hd:=Hp y m fH ik;have gV:=tJ y m;simp only[jrb,gN hv,j4,jh];rw[aj (show¬k<1 by omega),aj (show¬k>5 by omega),aj (show¬w<0 by omega),aj (show¬w>6 by omega)];simp only[j7];unfold nth;generalize num y m 1=n at *;obtain⟨e,uH,Tn,Lp,EK⟩:∃e,0<=e/\e<=6/\(n+e+3)%7=w/\n+(w-(n+3)%7+7)%7=n+e:=⟨(w-(n+3)%7+7)%7,aa,aa,aa,rfl⟩;rw[EK];have hl:=U_ y m k w n e hr.1 aa Tn Lp e.toNat 0 aa aa;rw[ze]at hl;simp only[hl,j4];by_cases hk:k<5
 .rw[ah hk,j6,al (x:=k-1),al (x:=7*(k-1)),al,if_neg aa]
 .have lQ:k=5:=aa;subst lQ;rw[aj hk,j7];by_cases hc:n+e+7*(5-1)>=n+gn y m
  .rw[To y m n (n+e+21) hr.1 aa aa aa aa 3 (n+e) aa aa,if_pos hc];simp only[j4];congr 2;omega
  .rw[To y m n (n+e+28) hr.1 aa aa aa aa 4 (n+e) aa aa,if_neg hc];simp only[j4];congr 2
theorem oh{n lo hi:E}(h1:lo<=n)(h2:n<=hi):ja3 n lo hi=I true:=by
 simp only[ja3];rw[ah (show n>=lo from h1),ah h2];rfl
theorem jGR{n lo hi:E}(h:¬(lo<=n/\n<=hi)):ja3 n lo hi=I false:=by
 simp only[ja3];by_cases h1:n>=lo
 .rw[ah h1,aj (λh2=>h ⟨h1,h2⟩)];rfl
 .rw[aj h1];rfl
theorem jyB{r:aL}(h:mD r):jhK r=I true:=by
 simp only[jhK,oh h.y0 (show r.1<=2240 by have:=h.y1;have:=h.y2;omega),oh h.y1 h.y2,oh h.m0 h.m1,oh h.k0 h.k1,oh h.d0 h.d1,oh h.s0 h.s1,oh h.o0 h.o1,j4,j6]
theorem V_(x:E×E):∀l:bC,mP x l=l.takeWhile (λy=>O (x.1<y.1))++x::l.dropWhile (λy=>O (x.1<y.1))
 |[]=>rfl
 |y::ys=>by
  unfold mP;by_cases h:x.1<y.1
  .rw[if_pos h,V_ x ys];simp[h]
  .rw[if_neg h];simp[h]
theorem W_{rs:H aL}{i y a b:E}:∀(rp mid:bC),rp.length+mid.length<=100000->
  Gm rs i y (rp.length:E) a b (rp.reverse++mid)=I (rs,i,y,((rp.dropWhile (λz=>O (a<z.1))).length:E),a,b,rp.reverse++mid)
 |[],mid,_=>by
  rw[ZC];simp only[j2F];rw[aj ae,j7,aS];rfl
 |z::zs,mid,hl=>by
  have hL:((z::zs).reverse++mid).length=zs.length+1+mid.length:=ax;simp only[jk]at hl;have g2:((z::zs).reverse++mid).getD ((((zs.length+1:J):E)-1).toNat) ((0:E),(0:E))=z:=by rw[show (((zs.length+1:J):E)-1).toNat=zs.length by omega];simp
  rw[ZC];simp only[j2F,jk];simp only[al (x:=((zs.length+1:J):E)-1),g2];rw[ah (show ((zs.length+1:J):E)>0 by omega),bY aa (by rw[hL];omega)];simp only[j6];by_cases hc:a<z.1
  .rw[ah (show z.1>a from hc)];simp only[j6,aH];have ih:=W_ (rs:=rs) (i:=i) (y:=y) (a:=a) (b:=b) zs (z::mid) ax;have e:(z::zs).reverse++mid=zs.reverse++z::mid:=ae;rw[e,show ((zs.length+1:J):E)-1=(zs.length:E) by omega,ih];simp[hc]
  .rw[aj (show¬z.1>a from hc)];simp only[j7,aS];simp[hc]
theorem jCZ(l:bC)(x:E×E){k:J}(hk:k<=l.length):List.set (over (l++[x]) (k+1) (N k (l++[x]))) k x=l.take k++x::l.drop k:=by
 have h1:(l++[x]).length=l.length+1:=ae;unfold over;rw[h1,jc (show (l++[x]).length<=k+1+(N k (l++[x])).length by simp;omega),ql];have e1:N k (l++[x])=N k l++[x]:=by rw[List.drop_append_of_le_length hk]
 rw[e1];have e2:X (l.length+1-(k+1)) (N k l++[x])=N k l:=by rw[qq ae,S ae]
 rw[e2];by_cases h:k<l.length
 .have e3:X (k+1) (l++[x])=l.take k++[l[k]]:=by rw[qq aa,qj h]
  rw[e3,jj,vp _ _ ax];simp[Nat.min_eq_left hk]
 .have bQ:k=l.length:=aa;subst bQ;have e3:X (l.length+1) (l++[x])=l++[x]:=S ae;rw[e3];simp
theorem X_{rs:H aL}{i:J}(hi:i<rs.length){r:aL}(hr:rs[i]=r)(h:mD r):∀(n j:J)(acc:bC),r.1+(j:E)+n=r.2.1+1->acc.length+n<=90000->
  Kl rs (i:E) (r.1+(j:E)) acc.reverse=I (rs,(i:E),(lV ((W n).map λ(q:J)=>df r (r.1+(j:E)+(q:E))) acc).reverse)
 |0,j,acc,hj,_=>by
  have hg:rs.getD i ((0:E),((0:E),((0:E),((0:E),((0:E),((0:E),(0:E)))))))=r:=by simp[hi,hr]
  rw[ZD];simp only[j2G];rw[bD];simp only[j6,j8,hg];rw[aj aa,j7,aS];rfl
 |n+1,j,acc,hj,hl=>by
  have hg:rs.getD i ((0:E),((0:E),((0:E),((0:E),((0:E),((0:E),(0:E)))))))=r:=by simp[hi,hr]
  have h0:=h.y0;have h2:=h.y2;have kH:=h.s0;have oA:=h.s1;have hv:=Hq (Hr (r.1+(j:E)) r.2.2.1 aa aa h.m0 h.m1);have hn:=SU (w:=r.2.2.2.2.1) (y:=r.1+(j:E)) aa aa h.m0 h.m1 h.k0 h.k1;have hd:=tJ (r.1+(j:E)) r.2.2.1;rw[ZD];simp only[j2G];rw[bD];simp only[j6,j8,hg];rw[ah (show r.1+(j:E)<=r.2.1 by omega),gO _ _ _ _ aa aa h.m0 h.m1 h.k0 h.k1 h.d0 h.d1];simp only[j6,j4];rw[al (x:=nth (r.1+(j:E)) r.2.2.1 r.2.2.2.1 r.2.2.2.2.1*86400),al (x:=nth (r.1+(j:E)) r.2.2.1 r.2.2.2.1 r.2.2.2.2.1*86400+r.2.2.2.2.2.1)];have wF:=W_ (rs:=rs) (i:=(i:E)) (y:=r.1+(j:E)) (a:=(df r (r.1+(j:E))).1) (b:=(df r (r.1+(j:E))).2) acc [] ax;rw[ql]at wF;rw[show G (F acc.reverse)=(acc.length:E) by simp];rw[show Gm rs (i:E) (r.1+(j:E)) (acc.length:E) (nth (r.1+(j:E)) r.2.2.1 r.2.2.2.1 r.2.2.2.2.1*86400+r.2.2.2.2.2.1) r.2.2.2.2.2.2 acc.reverse=_ from wF];simp only[j4];generalize hx:df r (r.1+(j:E))=x at *;have vK:(acc.dropWhile (λz=>O (x.1<z.1))).length<=acc.length:=(List.dropWhile_sublist _).length_le;generalize hD:acc.dropWhile (λz=>O (x.1<z.1))=D at *;have yB:(acc.reverse++[(x.1,x.2)]).length=acc.length+1:=ae;rw[ah (by simp[aM];omega)];simp only[j6]
  rw[al (x:=(D.length:E)+1),ah (show (0:E)<=(D.length:E)+1 by omega),ah (show (D.length:E)+1<=G (acc.reverse++[(x.1,x.2)]).length by rw[yB];show (D.length:E)+1<=((acc.length+1:J):E);omega),
   ah (show (0:E)<=(D.length:E) by omega),ah (show (D.length:E)<=G (acc.reverse++[(x.1,x.2)]).length by rw[yB];show (D.length:E)<=((acc.length+1:J):E);omega)]
  simp only[vb,j6,j8,show ((D.length:E)+1).toNat=D.length+1 by omega];have zM:(over (acc.reverse++[(x.1,x.2)]) (D.length+1) (N D.length (acc.reverse++[(x.1,x.2)]))).length=acc.length+1:=by unfold over;simp;omega
  rw[bY aa (by rw[zM];omega),jCZ acc.reverse (x.1,x.2) (by simpa using vK)];simp only[j6];rw[al (x:=r.1+(j:E)+1),aH];have Bj:acc.reverse.take D.length++(x.1,x.2)::acc.reverse.drop D.length=(mP x acc).reverse:=by have dq:=List.takeWhile_append_dropWhile (p:=λz:E×E=>O (x.1<z.1)) (l:=acc);rw[V_,hD];rw[hD]at dq;generalize acc.takeWhile (λz=>O (x.1<z.1))=T at dq ⊢;rw[<-dq];simp
  rw[Bj];have ih:=X_ hi hr h n (j+1) (mP x acc) aa (by rw[Hn];omega);rw[show r.1+(j:E)+1=r.1+((j+1:J):E) by omega];refine ih.trans ?_
  have Bm:(W n).map (λ(q:J)=>df r (r.1+((j+1:J):E)+(q:E)))=(W n).map ((λ(q:J)=>df r (r.1+(j:E)+(q:E))) ∘ Nat.succ):=zu λq _=>by
   simp only[Function.comp];congr 1;omega
  rw[List.range_succ_eq_map,ke,List.map_map,Bm];simp[lV,hx]
theorem Y_:∀(a b acc:bC),lV (a++b) acc=lV b (lV a acc)
 |[],_,_=>rfl
 |x::a,b,acc=>by simp only[z7,lV];exact Y_ a b _
theorem Z_{rs:H aL}(h:∀r∈rs,mD r)(hlen:rs.length<=100):∀(n i:J)(acc:bC),i+n=rs.length->acc.length<=300*i->
  Gn rs (i:E) acc.reverse=I (lV (occs (rs.drop i)) acc).reverse
 |0,i,acc,hi,_=>by
  rw[ZE];simp only[j2H,show G (F rs)=(rs.length:E) from rfl];rw[aj aa,j7,aS,jc aa];rfl
 |n+1,i,acc,hi,hl=>by
  have an:i<rs.length:=aa;have hr:=h rs[i] (jg an);have h0:=hr.y0;have h1:=hr.y1;have h2:=hr.y2;have hg:rs.getD i ((0:E),((0:E),((0:E),((0:E),((0:E),((0:E),(0:E)))))))=rs[i]:=by simp[an]
  have rK:=X_ an rfl hr (rs[i].2.1-rs[i].1+1).toNat 0 acc aa aa;rw[show rs[i].1+((0:J):E)=rs[i].1 by omega]at rK;have ih:=Z_ h hlen n (i+1) (lV (gw rs[i]) acc) aa (by rw[Ho];simp[gw];omega);rw[ZE];simp only[j2H,show G (F rs)=(rs.length:E) from rfl];rw[ah (show (i:E)<(rs.length:E) by omega),bD];simp only[j6,j8,hg,rK,j4];rw[al,aH,jb an];refine ih.trans ?_;show _=I (lV (gw rs[i]++occs (rs.drop (i+1))) acc).reverse;rw[Y_]
theorem jD0{rs:H aL}(h:∀r∈rs,mD r)(hlen:rs.length<=100):ja4 rs=I (fv (occs rs)):=by
 have e:=Z_ h hlen rs.length 0 [] aa ae;simp only[ja4];rw[show Gn rs 0 []=_ from e];rfl
theorem Α{rs:H aL}(h:∀r∈rs,mD r)(hlen:rs.length<=100)(nm:M)(o:E):∀(n i:J)(s:E),i+n=rs.length->0<=s->s<=300*i->
  Gp s (i:E) nm o rs=I (.inr (s+((occs (rs.drop i)).length:E),nm,o,rs))
 |0,i,s,hi,_,_=>by
  rw[ZF];simp only[j2I,show G (F rs)=(rs.length:E) from rfl];rw[aj aa,j7,aS,jc aa];simp[occs]
 |n+1,i,s,hi,kH,oA=>by
  have an:i<rs.length:=aa;have hr:=h rs[i] (jg an);have h0:=hr.y0;have h1:=hr.y1;have h2:=hr.y2;have hg:rs.getD i ((0:E),((0:E),((0:E),((0:E),((0:E),((0:E),(0:E)))))))=rs[i]:=by simp[an]
  have ih:=Α h hlen nm o n (i+1) (s+(rs[i].2.1-rs[i].1+1)) aa aa aa;have tK:jhK (rs[i].1,(rs[i].2.1,(rs[i].2.2.1,(rs[i].2.2.2.1,(rs[i].2.2.2.2.1,(rs[i].2.2.2.2.2.1,rs[i].2.2.2.2.2.2))))))=I true:=jyB hr;rw[ZF];simp only[j2I,show G (F rs)=(rs.length:E) from rfl];rw[ah (show (i:E)<(rs.length:E) by omega),bD];simp only[j6,j8,hg,tK,j4,jl,j7];rw[al (x:=rs[i].2.1-rs[i].1),al (x:=rs[i].2.1-rs[i].1+1),al (x:=s+(rs[i].2.1-rs[i].1+1)),al (x:=(i:E)+1),aH];refine ih.trans ?_;rw[jb an]
  have:((occs (rs[i]::rs.drop (i+1))).length:E)=(rs[i].2.1-rs[i].1+1)+((occs (rs.drop (i+1))).length:E):=by
   have e1:(gw rs[i]).length=(rs[i].2.1-rs[i].1+1).toNat:=by simp[gw]
   show ((gw rs[i]++occs (rs.drop (i+1))).length:E)=_;rw[jf,e1];omega
  rw[this];congr 3;omega
theorem Tp(L:bC)(hL:L.length<=1000):∀(n i:J)(now:E)(acc:bC),i+n=L.length -> -64800<=now->now<=64800->acc.length<=i->(∀x∈acc,0<=x.1/\x.1<=8589934592)->Good now (acc.getLast?.map (·.1)) (L.drop i)->
  Gq now (i:E) acc L=I (.inr (acc++cJ now (L.drop i)))
 |0,i,now,acc,hi,_,_,_,_,_=>by
  rw[ZG];simp only[j2J,show G (F L)=(L.length:E) from rfl];rw[aj aa,j7,aS,jc aa];simp[cJ]
 |n+1,i,now,acc,hi,pJ,rW,nt,eM,hg=>by
  have an:i<L.length:=aa;rw[jb an]at hg ⊢;have aR:L.getD i ((0:E),(0:E))=L[i]:=by simp[an]
  rw[ZG];simp only[j2J,show G (F L)=(L.length:E) from rfl];rw[ah (show (i:E)<(L.length:E) by omega),bD];simp only[j6,j8,aR];generalize L[i]=x at *;rw[al (x:=(i:E)+1)];simp only[Good]at hg;by_cases hx:x.2=now
  .rw[if_pos hx]at hg;rw[dC hx];simp only[j6,aH,cJ];rw[if_pos hx];exact Tp L hL n (i+1) now acc aa pJ rW aa eM hg
  .rw[if_neg hx]at hg;obtain⟨⟨g1,g2,g3,g4,g5,g6,g7⟩,g8⟩:=hg;rw[cj hx,al (x:=x.1-now),al (x:=x.2-now)];simp only[j7,oh (show (-86399:E)<=x.2-now by omega) (show x.2-now<=86399 by omega),oh (show (0:E)<=x.1-now by omega) (show x.1-now<=8589934592 by omega),j4,jl,show G (F acc)=(acc.length:E) from rfl]
   have iu:=Tp L hL n (i+1) x.2 (acc++[(x.1-now,x.2)]) aa g6 g7 ax
    (λy hy=>by
     rcases jn.1 hy with hy|hy
     .exact eM y hy
     .simp at hy;subst hy;exact⟨by show (0:E)<=x.1-now;omega,by show x.1-now<=8589934592;omega⟩) (by simpa using g8)
   have cd:cJ now (x::L.drop (i+1))=(x.1-now,x.2)::cJ x.2 (L.drop (i+1)):=by simp[cJ,hx]
   rw[cd];rw[jj]at iu;rw[al (x:=(acc.length:E)-1)];by_cases ha:acc=[]
   .subst ha;simp only[kx];rw[show O (((0:J):E)>0)=false from rfl];simp only[j7];rw[ah (by simp[aM])];simp only[j6,aH];exact iu
   .have bK:0<acc.length:=List.length_pos_iff.2 ha;have dm:acc.getLast? = I (acc.getD (acc.length-1) (0,0)):=by rw[List.getLast?_eq_getElem?,List.getD_eq_getElem?_getD,jp (show acc.length-1<acc.length by omega)];rfl
    rw[dm]at g5;have g5:(acc.getD (acc.length-1) ((0:E),(0:E))).1+604800<=x.1-now:=g5 _ rfl;have hb:=eM (acc.getD (acc.length-1) (0,0)) (List.mem_of_getLast? dm);rw[bD,ah (show (acc.length:E)>0 by omega),show ((acc.length:E)-1).toNat=acc.length-1 by omega];simp only[j6];rw[al,aj (show¬x.1-now-(acc.getD (acc.length-1) ((0:E),(0:E))).1<604800 by omega),ah (by simp[aM];omega)];simp only[j6,j7,aH];exact iu
theorem jIi{nm:M}{o:E}{rs:H aL}(h:∀r∈rs,mD r)(nH : -64800<=o)(kG:o<=64800)(hlen:rs.length<=16)(hn:(occs rs).length<=640)(hg:Good o none (fv (occs rs))) :
  j0j (nm,(o,rs))=I (cJ o (fv (occs rs)),0):=by
 have hl:(fv (occs rs)).length<=1000:=by simp[fv,Ho];omega
 have e0:=Α h aa nm o rs.length 0 0 aa aa aa;rw[jm]at e0;have e2:=Tp (fv (occs rs)) hl (fv (occs rs)).length 0 o [] aa nH kG ae ae hg;rw[jm]at e2;simp only[j0j,oh nH kG,j4,jl,j7,show G (F rs)=(rs.length:E) from rfl];rw[aj (show¬(rs.length:E)>16 by omega),j7,show Gp 0 0 nm o rs=_ from e0];simp only[j4,oc];rw[aj aa,j7,jD0 h aa];simp only[j4];rw[show Gq o 0 [] (fv (occs rs))=_ from e2];rfl
def Z4(z:M×(E×H aL))(l:bC):Prop:=j0j z=I (l,0)/\iz z.2.1 l
theorem MZ.r4{o:E}{rs:H aL}(h:MZ o rs)(nm:M):Z4 (nm,(o,rs)) (cJ o (fv (occs rs))):=by
 have ht:=h.tab nm;refine⟨jIi h.ok (by have:=h.o0;omega) (by have:=h.o1;omega) ?_ ?_ h.good,ht.2⟩
 .have:=h.len;omega
 .have:=h.few;omega
end Go.Proofs.Pw
