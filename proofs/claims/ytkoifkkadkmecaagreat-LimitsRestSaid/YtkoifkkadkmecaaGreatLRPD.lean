/- The R4, edits and fZ that the dice make are right. -/
import Derived.Test.YtkoifkkadkmecaaGreatLRPC
import Derived.Test.YtkoifkkadkmecaaGreatLRPB
import Derived.Test.YtkoifkkadkmecaaGreatLRPA
open _root_ renaming Int->E,List->H,Nat->J,ByteArray->K
open List renaming length->F,drop->M,take_of_length_le->R,range->U,take->W
open Int renaming ofNat->G,emod_eq_of_lt->S
open Option renaming some->I
open Decidable renaming decide->N
open ByteArray renaming empty->O
open Go Go.Lft
namespace Go.Proofs.Pw
theorem R5{L:H E}{zs:H bF}{ps:H cI}{cs:H aU}{ss:H cu}(r5:1<=ps.length)(xv:ps.length<=100){x0 y0:K}{x1 x2 x3 x4 x5 x6 x7 y1 y2 y3 y4 y5 y6 y7:E}:∀(n:J)(a:E)(ms:H E),dT L a->ms.length+n<=4->(∀m∈ms,0<=m/\m<(ps.length:E))->
  ∃GY a',FL (n:E) L a zs ps cs ss x0 x1 x2 x3 x4 x5 x6 x7 y0 y1 y2 y3 y4 y5 y6 y7 ms=I (L,a',zs,ps,cs,ss,x0,x1,x2,x3,x4,x5,x6,x7,y0,y1,y2,y3,y4,y5,y6,y7,GY)/\GY.length=ms.length+n/\(∀m∈GY,0<=m/\m<(ps.length:E))/\dT L a'
 |0,a,ms,hd,_,hm=>by
  rw[YM];simp only[j3p];rw[ai omg_,j7,aP];exact⟨ms,a,rfl,rfl,hm,hd⟩
 |n+1,a,ms,hd,hl,hm=>by
  obtain⟨x,a1,e1,x0',x1',d1⟩:=dt (n:=(ps.length:E)) hd omg_ omg_;rw[YM];simp only[j3p,show G (F ps)=(ps.length:E) from rfl];rw[ah omg_,aj (x:=((n+1:J):E)-1),show ((n+1:J):E)-1=(n:E) by omega];simp only[j6,e1,j4];rw[ah (by simp[aG];omega)];simp only[j6,aB]
  obtain⟨GY,a',e,h1,h2,h3⟩:=R5 (zs:=zs) (cs:=cs) (ss:=ss) r5 xv (x0:=x0) (x1:=x1) (x2:=x2) (x3:=x3) (x4:=x4) (x5:=x5) (x6:=x6) (x7:=x7) (y0:=y0) (y1:=y1) (y2:=y2) (y3:=y3) (y4:=y4) (y5:=y5) (y6:=y6) (y7:=y7) n a1 (ms++[x]) d1 sqo_ (λm h=>by
   rcases jj.1 h with h|h
   .exact hm m h
   .simp at h;subst h;exact⟨x0',x1'⟩)
  exact⟨GY,a',e,by rw[h1];simp;omega,h2,h3⟩
theorem jAf{L:H E}{a:E}(h:dT L a){zs:H bF}{ps:H cI}{cs:H aU}{ss:H cu}(hs:GO zs ps cs)(nm:K) :
  ∃l a',jaS L a (zs,(ps,(cs,ss))) nm=I (l,L,a')/\GP l/\ez zs.length ps.length cs.length l/\l.1=nm/\dT L a':=by
 have tK:=hs.z0;have uY:=hs.z1;have r5:=hs.p0;have xv:=hs.p1;have fL:=hs.c1;obtain⟨z,a1,e1,z0,z1,d1⟩:=dt (n:=(zs.length:E)) h omg_ omg_;obtain⟨x,a2,e2,x0,x1,d2⟩:=dt (n:=6) d1 omg_ omg_;obtain⟨s,a3,e3,m3,d3⟩:=po d2 (xs:=[(0:E),(32400:E),(7200:E),(9000:E),(79200:E),(1:E)]) smp_ smp_;obtain⟨u,a4,e4,u0,u1,d4⟩:=dt (n:=3) d3 omg_ omg_;obtain⟨v,a5,e5,v0,v1,d5⟩:=dt (n:=2) d4 omg_ omg_;have cW:0<=s/\s<=79200:=by simp at m3;omega
 simp only[jaS,show G (F zs)=(zs.length:E) from rfl,e1,e2,e3,e4,e5,j4];rw[aj (x:=20454+x),aj (x:=20454+x-2),aj (x:=1+v)]
 have fin:∀(ev:E),1<=ev->ev<=49->(u≠0->ev<=2)->(u=0->6<=ev)->∀ms:H E,1<=ms.length->ms.length<=3->(∀m∈ms,0<=m/\m<(ps.length:E))->∀(w:WL),gj 0 w->w.length<=3->∀(c m:E),0<=m->m<=2->(m≠0->0<=c/\c<(cs.length:E))->(m=0->c=0)->∀(a':E),dT L a'->
   ∃l yW,I ((nm,(z,((20454+x-2,s),(u,(ev,(ms,(w,(c,m)))))))),L,a')=I (l,L,yW)/\GP l/\ez zs.length ps.length cs.length l/\l.1=nm/\dT L yW:=
  λev h1 h2 h3 yI ms h4 h5 fy w hw kT c m gF fw UR hmz a' hd=>⟨_,_,rfl,⟨by dsimp only;omega,by dsimp only;omega,cW.1,cW.2,u0,by dsimp only;omega,h1,h2,h3,h4,h5⟩,
   ⟨z0,z1,by dsimp only;omega,R1 (by dsimp only;omega) (by dsimp only;omega),cW.1,by dsimp only;omega,u0,by dsimp only;omega,h1,by dsimp only;omega,by dsimp only;omega,by dsimp only;omega,fy,hw,by dsimp only;omega,gF,fw,UR,hmz,kT,yI⟩,rfl,hd⟩
 have rest:∀(ev:E),1<=ev->ev<=49->(u≠0->ev<=2)->(u=0->6<=ev)->∀(ms:H E),1<=ms.length->ms.length<=3->(∀m∈ms,0<=m/\m<(ps.length:E))->∀(w:WL),gj 0 w->w.length<=3->∀(a9:E),dT L a9->
   ∃l yW,((j1f L a9 4).bind λr=>cond (cond r.1 (N ((cs.length:E)>0)) false) ((j09 r.2.1 r.2.2 (cs.length:E)).bind λR6=>(j09 R6.2.1 R6.2.2 2).bind λR7=>I ((nm,(z,((20454+x-2,s),(u,(ev,(ms,(w,(R6.1,w64 (1+R7.1))))))))),R7.2.1,R7.2.2))
    (I ((nm,(z,((20454+x-2,s),(u,(ev,(ms,(w,((0:E),(0:E))))))))),r.2.1,r.2.2)))=I (l,L,yW)/\GP l/\ez zs.length ps.length cs.length l/\l.1=nm/\dT L yW:=by
  intro ev h1 h2 h3 yI ms h4 h5 fy w hw kT a9 d9;obtain⟨c,a11,e11,d11⟩:=CY (n:=4) d9 omg_ omg_;simp only[e11,j4];by_cases qM:c=true/\(cs.length:E)>0
  .obtain⟨i,a12,Oj,i0,i1,d12⟩:=dt (n:=(cs.length:E)) d11 omg_ omg_;obtain⟨j,a13,e13,j0,j1,d13⟩:=dt (n:=2) d12 omg_ omg_;rw[qM.1,ah qM.2];simp only[j6,Oj,e13,j4,gY (x:=1+j) (show -9223372036854775808<=_ by omega) omg_];exact fin ev h1 h2 h3 yI ms h4 h5 fy w hw kT i (1+j) omg_ omg_ (λ_=>⟨i0,i1⟩) (λhh=>omg_) _ d13
  .have jB:cond c (N ((cs.length:E)>0)) false=false:=by
    cases c with
    |true=>exact ai (λh=>qM ⟨rfl,h⟩)
    |false=>rfl
   rw[jB];simp only[j7];exact fin ev h1 h2 h3 yI ms h4 h5 fy w hw kT 0 0 omg_ omg_ (λhh=>absurd rfl hh) (λ_=>rfl) _ d11
 have GZ:gj 0 ([]:WL):=show (0:E)<=604800 by omega
 by_cases hu:u=0
 .rw[cR hu,j6];obtain⟨ev,a6,e6,m6,d6⟩:=po d5 (xs:=[(6:E),(8:E),(12:E),(24:E),(23:E),(49:E)]) smp_ smp_;have r9:6<=ev/\ev<=49:=by simp at m6;omega
  obtain⟨n,a7,e7,n0,n1,d7⟩:=dt (n:=3) d6 omg_ omg_;obtain⟨ms,a8,e8,l8,k8,d8⟩:=R5 (L:=L) (zs:=zs) (ps:=ps) (cs:=cs) (ss:=ss) r5 omg_ (x0:=O) (x1:=0) (x2:=0) (x3:=0) (x4:=0) (x5:=0) (x6:=0) (x7:=0) (y0:=nm) (y1:=z) (y2:=20454+x-2) (y3:=s) (y4:=u) (y5:=ev) (y6:=0) (y7:=0) (1+n).toNat a7 [] d7 sqo_ smp_;rw[show (((1+n).toNat:J):E)=1+n by omega]at e8;simp at l8;obtain⟨b,a9,e9,d9⟩:=CY (n:=2) d8 omg_ omg_;simp only[e6,e7,j4];rw[aj (x:=1+n)];simp only[e8,e9,j4,show G (F cs)=(cs.length:E) from rfl];cases b with
  |true=>obtain⟨w,R8,R9,hw,kT,d10⟩:=R0 d9;simp only[j6,R9,j4];exact rest ev omg_ r9.2 (λh=>absurd hu h) (λ_=>r9.1) ms omg_ omg_ k8 w hw kT R8 d10
  |false=>simp only[j7];exact rest ev omg_ r9.2 (λh=>absurd hu h) (λ_=>r9.1) ms omg_ omg_ k8 [] GZ smp_ a9 d9
 .rw[ca hu,j7];obtain⟨n,a7,e7,n0,n1,d7⟩:=dt (n:=3) d5 omg_ omg_;obtain⟨ms,a8,e8,l8,k8,d8⟩:=R5 (L:=L) (zs:=zs) (ps:=ps) (cs:=cs) (ss:=ss) r5 omg_ (x0:=O) (x1:=0) (x2:=0) (x3:=0) (x4:=0) (x5:=0) (x6:=0) (x7:=0) (y0:=nm) (y1:=z) (y2:=20454+x-2) (y3:=s) (y4:=u) (y5:=1+v) (y6:=0) (y7:=0) (1+n).toNat a7 [] d7 sqo_ smp_;rw[show (((1+n).toNat:J):E)=1+n by omega]at e8;simp at l8;obtain⟨b,a9,e9,d9⟩:=CY (n:=2) d8 omg_ omg_;simp only[e7,j4];rw[aj (x:=1+n)];simp only[e8,e9,j4,show G (F cs)=(cs.length:E) from rfl];cases b with
  |true=>obtain⟨w,R8,R9,hw,kT,d10⟩:=R0 d9;simp only[j6,R9,j4];exact rest (1+v) omg_ omg_ (λ_=>omg_) (λh=>absurd h hu) ms omg_ omg_ k8 w hw kT R8 d10
  |false=>simp only[j7];exact rest (1+v) omg_ omg_ (λ_=>omg_) (λh=>absurd h hu) ms omg_ omg_ k8 [] GZ smp_ a9 d9
theorem jEP{L:H E}{a:E}(h:dT L a){zs:H bF}{ps:H cI}{cs:H aU}{ss:H cu}(r5:1<=ps.length)(xv:ps.length<=4) :
  ∃x a',jc7 L a (zs,(ps,(cs,ss)))=I (x,L,a')/\rm ps.length x/\dT L a':=by
 obtain⟨k,a1,e1,k0,k1,d1⟩:=dt (n:=3) h omg_ omg_;obtain⟨p,a2,e2,p0,p1,d2⟩:=dt (n:=(ps.length:E)) d1 omg_ omg_;obtain⟨t,a3,e3,t0,t1,d3⟩:=_V d2;obtain⟨y,a4,e4,m4,d4⟩:=po d3 (xs:=[(3600:E),(86400:E),(7:E),(259200:E),(40000:E)]) smp_ smp_;have hy:7<=y/\y<=259200:=by simp at m4;omega
 have rq:j1l (Int.tdiv (t+y) 86400)=I true:=by rw[rh omg_];exact R1 omg_ omg_
 simp only[jc7,show G (F ps)=(ps.length:E) from rfl,e1,e2,e3,e4,j4];rw[aj (x:=t+y)]
 have fin:∀(kd A B:E),0<=kd->kd<=2->(0<=A/\A<(ps.length:E)\/kd=1/\A = -1)->(kd=2->0<=B/\B<(ps.length:E)/\A≠B)->(kd≠2->B=0)->∀a',dT L a'->∃x yW,I ((kd,(A,(B,(t,t+y)))),L,a')=I (x,L,yW)/\rm ps.length x/\dT L yW:=
  λkd A B h1 h2 h3 h4 h5 a' hd=>⟨_,_,rfl,⟨h1,h2,h3,h4,h5,by dsimp only;omega,by dsimp only;omega,by dsimp only;omega,rq⟩,hd⟩
 by_cases h2:k=2
 .rw[cR h2,j6];by_cases hn:(ps.length:E)<2
  .rw[ah hn,j6];exact fin 0 p 0 omg_ omg_ (.inl ⟨p0,p1⟩) (λhh=>omg_) (λ_=>rfl) _ d4
  .rw[ai hn,j7,aj (x:=(ps.length:E)-1)];obtain⟨q,a5,e5,q0,q1,d5⟩:=dt (n:=(ps.length:E)-1) d4 omg_ omg_;simp only[e5,j4];rw[aj (x:=p+1),aj (x:=p+1+q),ca (show¬(ps.length:E)=0 by omega),ca (show¬k=1 by omega),yS omg_];simp only[jv,j6,j7];have b0:0<=(p+1+q)%(ps.length:E):=Int.emod_nonneg _ omg_;have b1:(p+1+q)%(ps.length:E)<(ps.length:E):=Int.emod_lt_of_pos _ omg_
   have bz:p≠(p+1+q)%(ps.length:E):=by
    by_cases hb:p+1+q<(ps.length:E)
    .rw[S omg_ hb];omega
    .rw[<-Int.sub_emod_right,S omg_ omg_];omega
   exact fin k p _ k0 omg_ (.inl ⟨p0,p1⟩) (λ_=>⟨b0,b1,bz⟩) (λhh=>absurd h2 hh) _ d5
 .rw[ca h2,j7];by_cases h1:k=1
  .rw[cR h1,j6];obtain⟨b,a5,e5,d5⟩:=CY (n:=4) d4 omg_ omg_;simp only[e5,j4];cases b with
   |true=>exact fin k (-1) 0 k0 omg_ (.inr ⟨h1,rfl⟩) (λhh=>absurd hh h2) (λ_=>rfl) _ d5
   |false=>exact fin k p 0 k0 omg_ (.inl ⟨p0,p1⟩) (λhh=>absurd hh h2) (λ_=>rfl) _ d5
  .rw[ca h1,j7];exact fin k p 0 k0 omg_ (.inl ⟨p0,p1⟩) (λhh=>absurd hh h2) (λ_=>rfl) _ d4
theorem d_{L:H E}{s6:E}{nm:K}{zs:H bF}{ps:H cI}{cs:H aU}{ss:H cu}(hs:GO zs ps cs):∀(n:J)(a:E)(ls:H bP),dT L a->ls.length+n<=3->(∀x∈ls,ez zs.length ps.length cs.length x)->ls.map (·.1)=gP.take ls.length->
  ∃gn a',FM s6 (n:E) L a zs ps cs nm ss ls=I (s6,L,a',zs,ps,cs,nm,ss,gn)/\gn.length<=3/\(∀x∈gn,ez zs.length ps.length cs.length x)/\gn.map (·.1)=gP.take gn.length/\dT L a'
 |0,a,ls,hd,hl,hk,hn=>by
  rw[YN];simp only[j2X];rw[ai omg_,j7,aP];exact⟨ls,a,rfl,omg_,hk,hn,hd⟩
 |n+1,a,ls,hd,hl,hk,hn=>by
  have ct:ls.length<gP.length:=by show ls.length<8;omega
  obtain⟨l,a1,e1,_,l2,l3,d1⟩:=jAf (ss:=ss) hd hs (gP.getD ls.length O);rw[YN];simp only[j2X,_8,j4,show G (F ls)=(ls.length:E) from rfl];rw[ah omg_,bA (show (0:E)<=(ls.length:E) by omega) omg_,aj (x:=((n+1:J):E)-1),show ((n+1:J):E)-1=(n:E) by omega];simp only[j6,j8,e1,j4];rw[ah (by simp[aG];omega)];simp only[j6,aB]
  exact d_ hs n a1 (ls++[l]) d1 sqo_ (λx hx=>by
   rcases jj.1 hx with h|h
   .exact hk x h
   .simp at h;subst h;exact l2) (by
   rw[zq,hn,jc,qf,List.map_nil,l3];exact KY ct)
theorem e_{L:H E}{s6:E}{nm:K}{zs:H bF}{ps:H cI}{cs:H aU}{ss:H cu}{ls:H bP}(hs:GO zs ps cs):∀(n:J)(a:E)(es:H dN),dT L a->es.length+n<=3->(∀x∈es,rm ps.length x)->
  ∃wi a',JI s6 (n:E) L a zs ps cs nm ss ls es=I (s6,L,a',zs,ps,cs,nm,ss,ls,wi)/\wi.length<=3/\(∀x∈wi,rm ps.length x)/\dT L a'
 |0,a,es,hd,hl,hk=>by
  rw[YO];simp only[j2Y];rw[ai omg_,j7,aP];exact⟨es,a,rfl,omg_,hk,hd⟩
 |n+1,a,es,hd,hl,hk=>by
  obtain⟨x,a1,e1,x1,d1⟩:=jEP (zs:=zs) (cs:=cs) (ss:=ss) hd hs.p0 hs.p1;rw[YO];simp only[j2Y];rw[ah omg_,aj (x:=((n+1:J):E)-1),show ((n+1:J):E)-1=(n:E) by omega];simp only[j6,e1,j4];rw[ah (by simp[aG];omega)];simp only[j6,aB]
  exact e_ hs n a1 (es++[x]) d1 sqo_ (λy hy=>by
   rcases jj.1 hy with h|h
   .exact hk y h
   .simp at h;subst h;exact x1)
theorem jGc{zs:H bF}{ps:H cI}{cs:H aU}{ss:H cu}(hs:cC zs ps cs)(h0:ss.length<=12)(h1:fG (ss.map (·.1)))(h2:∀s∈ss,tZ zs.length ps.length cs.length s):nT (zs,(ps,(cs,ss))):=by
 have uY:=hs.so.z1;have xv:=hs.so.p1;have fL:=hs.so.c1;exact⟨by dsimp only;rw[hs.z.nm];exact jEK.take _,hs.z.ck,by dsimp only;omega,by dsimp only;rw[hs.p.nm];exact _9.take _,hs.p.ck,by dsimp only;omega,hs.c.nm,hs.c.ck,by dsimp only;omega,h1,h2,h0⟩
structure ov(o:E)(l:bI)(s t:E)(k:J):Prop where
 hk:k<=l.length
 hks:s-bu o l k<aR l (k+1)
 bef:∀j,j<k->aR l (j+1)<=s-bu o l j
 ht:t=max (aR l k) (s-bu o l k)
def Sa(o:E)(l:bI):Prop:=∀i,i<l.length -> -86400<bu o l (i+1)-bu o l i/\bu o l (i+1)-bu o l i<86400
section
variable{o:E}{l:bI}(h:iU o l)
include h
theorem ov.piece{s t:E}{k:J}(f:ov o l s t k):aR l k<=t/\t<aR l (k+1)/\s<=t+bu o l k:=by
 have h1:=h.frm_lt f.hk;have h2:=f.hks;have h3:=f.ht;omega
theorem ov.up{s s' t t':E}{k k':J}(hd:Sa o l)(hs:200000<s)(he:s+86400<=s')(f:ov o l s t k)(g:ov o l s' t' k'):t<t':=by
 obtain⟨p1,p2,p3⟩:=f.piece h;obtain⟨q1,q2,q3⟩:=g.piece h;have g1:=g.hks;have g2:=g.ht;have f2:=f.ht;have C0:=f.hk;have hkN':=g.hk;rcases zo k k' with aq|heq|wV
 .have m1:=h.frm_le (i:=k+1) (j:=k') omg_ omg_;omega
 .subst heq;by_cases h0:k=0
  .subst h0;have e0:aR l 0=0:=pk;have o1:=h.of1 0 omg_;omega
  .obtain⟨j,rfl⟩:∃j,k=j+1:=⟨k-1,omg_⟩;have b:=f.bef j omg_;have d:=hd j omg_;omega
 .have:=f.bef k' wV;omega
end
noncomputable def G0(o:E)(l:bI)(s:E):Int:=open Classical in if h:∃t k,ov o l s t k then Classical.choose h else 0
def di(L:bP):Int:=if L.2.2.2.1=2 then 7*L.2.2.2.2.1 else L.2.2.2.2.1
def cM(L:bP)(k:E):Int:=(L.2.2.1.1+k*di L)*86400+L.2.2.1.2
noncomputable def Af(o:E)(l:bI)(L:bP)(k:E):Int:=if L.2.2.2.1=0 then G0 o l (cM L 0)+3600*L.2.2.2.2.1*k else G0 o l (cM L k)
structure LR(L:bP):Prop where
 d0:100<=L.2.2.1.1
 d1:L.2.2.1.1<=30000
 c0:0<=L.2.2.1.2
 c1:L.2.2.1.2<=86399
 u0:0<=L.2.2.2.1
 u1:L.2.2.2.1<=2
 e0:1<=L.2.2.2.2.1
 e1:L.2.2.2.2.1<=49
 m0:1<=L.2.2.2.2.2.1.length
 m1:L.2.2.2.2.2.1.length<=1000
theorem GP.lr{L:bP}(h:GP L):LR L:=⟨by have:=h.d0;omega,by have:=h.d1;omega,h.c0,by have:=h.c1;omega,h.u0,h.u1,h.e0,h.e1,h.m0,by have:=h.m1;omega⟩
theorem LR.step{L:bP}(h:LR L):1<=di L/\di L<=343:=by
 have:=h.e0;have:=h.e1;unfold di;split<;>omega
section
variable{o:E}{l:bI}(h:iU o l)
include h
end
theorem jvy(y:E):j1X y=I (wR y):=_E y
theorem KZ(y m:E):jgO y m=I (gh y m):=by
 by_cases h:m<1\/12<m
 .have hk:∀k:E,1<=k->k<=12->(m==k)=false:=λk h1 h2=>ca omg_;have:gh y m=0:=if_pos h;rw[this]
  simp only[jgO,hk 1 omg_ omg_,hk 2 omg_ omg_,hk 3 omg_ omg_,hk 4 omg_ omg_,hk 5 omg_ omg_,hk 6 omg_ omg_,hk 7 omg_ omg_,
   hk 8 omg_ omg_,hk 9 omg_ omg_,hk 10 omg_ omg_,hk 11 omg_ omg_,hk 12 omg_ omg_,j7]
 .obtain rfl|rfl|rfl|rfl|rfl|rfl|rfl|rfl|rfl|rfl|rfl|rfl:m=1\/m=2\/m=3\/m=4\/m=5\/m=6\/m=7\/m=8\/m=9\/m=10\/m=11\/m=12:=omg_
  case inr.inl=>have e:jgO y 2=(j1X y).bind λr=>cond r (I (29:E)) (I (28:E)):=rfl;rw[e,jvy,gh,_C];simp only[j4];cases wR y<;>rfl
  all_goals rfl
theorem jtU(y m d:E):jl4 (y,m,d)=I (N (wS y m d)):=by
 simp only[jl4,KZ,j4];by_cases hv:wS y m d
 .have hm:=RO hv;have h9:=hv;obtain⟨a1,a2,a3,a4⟩:=hv;rw[ah (show y>=1970 from a1),ah a2,ah (show m>=1 from hm.1),ah hm.2,ah (show d>=1 from a3),ah a4,ah h9];rfl
 .rw[ai hv];by_cases a1:y>=1970
  .by_cases a2:y<=2240
   .by_cases a3:m>=1
    .by_cases a4:m<=12
     .by_cases a5:d>=1
      .rw[ah a1,ah a2,ah a3,ah a4,ah a5,ai (show¬d<=gh y m fromλh=>hv ⟨a1,a2,a5,h⟩)];rfl
      .rw[ah a1,ah a2,ah a3,ah a4,ai a5];rfl
     .rw[ah a1,ah a2,ah a3,ai a4];rfl
    .rw[ah a1,ah a2,ai a3];rfl
   .rw[ah a1,ai a2];rfl
  .rw[ai a1];rfl
theorem jvz(y:E)(h1:1969<=y)(h2:y<=1000000000):jl5 y=I (kH y):=by
 simp only[jl5];rw[aj (x:=y-1970),aj (x:=y-1969),aj (x:=y-1901),aj (x:=y-1601)];rw[rh (show 0<=y-1969 by omega),rh (show 0<=y-1901 by omega),rh (show 0<=y-1601 by omega)];simp (disch:=omega) only[gY];congr 1;unfold kH;omega
theorem f_(y m d:E)(hm:m<=13):∀(n:J)(s k:E),1<=k->k+n=m -> -1000000000000<=s->s+31*n<=1000000000000->JK s k y m d=I (s+ng y m-ng y k,y,m,d)
 |0,s,k,hk,hn,_,_=>by
  rw[YS];have:k=m:=omg_;subst this;simp only[j8y,ai (show¬k<k by omega),j7,aP];congr 2;omega
 |n+1,s,k,hk,hn,h1,h2=>by
  rw[YS];have hd:=tW y k;have hc:=RK y k hk omg_;simp only[j8y,KZ,j4,ah (show k<m by omega),j6,aB];rw[aj (x:=s+gh y k),aj (x:=k+1)];rw[f_ y m d hm n (s+gh y k) (k+1) omg_ omg_ omg_ omg_];congr 2;omega
theorem gN{y m d:E}(hv:wS y m d):jrf (y,m,d)=I (num y m d,0):=by
 have hm:=RO hv;have hd:=tW y m;have hb : -1000000000<=kH y/\kH y<=1000000000:=by have:=hv.1;have:=hv.2.1;unfold kH;omega
 have hc:=_D y m;obtain⟨h1,h2,h3,h4⟩:=id hv;simp only[jrf,jtU,ah hv,j4,jl,j7,jvz y omg_ omg_,f_ y m d omg_ (m-1).toNat (kH y) 1 omg_ omg_ omg_ omg_];have:ng y 1=0:=rfl;rw[aj (x:=kH y+ng y m-ng y 1+d),aj];unfold num;congr 2;omega
theorem g_(d:E):jea d=j7a d:=rfl
theorem h_(y m k w n e:E)(oh:0<=n)(Bn:n<=1000000)(Sb:e<=6)(K3:(n+e+3)%7=w) :
  ∀(j:J)(s:E),0<=s->s+j=e->JL y m k w n (n+s)=I (y,m,k,n,n+e)
 |0,s,hs,hj=>by
  rw[YT];have:s=e:=omg_;subst this;have hb:((n+s+3)%7 != w)=false:=by simp[K3]
  simp only[j8z,g_,KS (n+s) omg_,j4,hb,j7,aP]
 |j+1,s,hs,hj=>by
  rw[YT];have hb:((n+s+3)%7 != w)=true:=by simp only[bne_iff_ne,ne_eq];omega
  simp only[j8z,g_,KS (n+s) omg_,j4,hb,j6,aB];rw[aj (x:=n+s+1),show n+s+1=n+(s+1) by omega];exact h_ y m k w n e oh Bn Sb K3 j (s+1) omg_ omg_
theorem Sc(y m n t:E)(oh:0<=n)(Bn:n<=1000000)(Bq:t<n+gh y m)(ht2:n+gh y m<=t+7)(nU : -1000<=t) :
  ∀(j:J)(s:E),s+7*j=t -> -1000<=s->JM y m n s=I t
 |0,s,hs,_=>by
  have hd:=tW y m;rw[YU];have:s=t:=omg_;subst this;simp only[j8A,KZ,j4];rw[aj (x:=s+7),aj (x:=n+gh y m),ai (show¬s+7<n+gh y m by omega),j7,aP]
 |j+1,s,hs,h1=>by
  have hd:=tW y m;rw[YU];simp only[j8A,KZ,j4];rw[aj (x:=s+7),aj (x:=n+gh y m),ah (show s+7<n+gh y m by omega),j6,aB];exact Sc y m n t oh Bn Bq ht2 nU j (s+7) omg_ omg_
theorem gO(y m k w:E)(h1:1970<=y)(h2:y<=2240)(fw:1<=m)(iQ:m<=12)(dE:1<=k)(gy:k<=5)(MC:0<=w)(hw2:w<=6):jrg y m k w=I (nth y m k w,0):=by
 have hv:=GJ y m h1 h2 fw iQ;have hr:=GI hv;have hd:=GH y m fw iQ;have kE:=tW y m;simp only[jrg,gN hv,j4,jk];rw[ai (show¬k<1 by omega),ai (show¬k>5 by omega),ai (show¬w<0 by omega),ai (show¬w>6 by omega)];simp only[j7];unfold nth;generalize num y m 1=n at *;obtain⟨e,tL,Sb,K3,hee⟩:∃e,0<=e/\e<=6/\(n+e+3)%7=w/\n+(w-(n+3)%7+7)%7=n+e:=⟨(w-(n+3)%7+7)%7,omg_,omg_,omg_,rfl⟩;rw[hee];have hl:=h_ y m k w n e hr.1 omg_ Sb K3 e.toNat 0 omg_ omg_;rw[Int.add_zero]at hl;simp only[hl,j4];by_cases hk:k<5
 .rw[ah hk,j6,aj (x:=k-1),aj (x:=7*(k-1)),aj,if_neg omg_]
 .have tF:k=5:=omg_;subst tF;rw[ai hk,j7];by_cases hc:n+e+7*(5-1)>=n+gh y m
  .rw[Sc y m n (n+e+21) hr.1 omg_ omg_ omg_ omg_ 3 (n+e) omg_ omg_,if_pos hc];simp only[j4];congr 2;omega
  .rw[Sc y m n (n+e+28) hr.1 omg_ omg_ omg_ omg_ 4 (n+e) omg_ omg_,if_neg hc];simp only[j4];congr 2
theorem ow{n lo hi:E}(h1:lo<=n)(h2:n<=hi):jaT n lo hi=I true:=by
 simp only[jaT];rw[ah (show n>=lo from h1),ah h2];rfl
theorem jGd{n lo hi:E}(h:¬(lo<=n/\n<=hi)):jaT n lo hi=I false:=by
 simp only[jaT];by_cases h1:n>=lo
 .rw[ah h1,ai (λh2=>h ⟨h1,h2⟩)];rfl
 .rw[ai h1];rfl
theorem jyd{r:aN}(h:mP r):jic r=I true:=by
 simp only[jic,ow h.y0 (show r.1<=2240 by have:=h.y1;have:=h.y2;omega),ow h.y1 h.y2,ow h.m0 h.m1,ow h.k0 h.k1,ow h.d0 h.d1,ow h.s0 h.s1,ow h.o0 h.o1,j4,j6]
theorem i_(x:E×E):∀l:bI,nf x l=l.takeWhile (λy=>N (x.1<y.1))++x::l.dropWhile (λy=>N (x.1<y.1))
 |[]=>rfl
 |y::ys=>by
  unfold nf;by_cases h:x.1<y.1
  .rw[if_pos h,i_ x ys];simp[h]
  .rw[if_neg h];simp[h]
theorem j_{rs:H aN}{i y a b:E}:∀(rp mid:bI),rp.length+mid.length<=100000->
  FO rs i y (rp.length:E) a b (rp.reverse++mid)=I (rs,i,y,((rp.dropWhile (λz=>N (a<z.1))).length:E),a,b,rp.reverse++mid)
 |[],mid,_=>by
  rw[YV];simp only[j3q];rw[ai smp_,j7,aP];rfl
 |z::zs,mid,hl=>by
  have hL:((z::zs).reverse++mid).length=zs.length+1+mid.length:=sqo_;simp only[ji]at hl;have g2:((z::zs).reverse++mid).getD ((((zs.length+1:J):E)-1).toNat) ((0:E),(0:E))=z:=by rw[show (((zs.length+1:J):E)-1).toNat=zs.length by omega];simp
  rw[YV];simp only[j3q,ji];simp only[aj (x:=((zs.length+1:J):E)-1),g2];rw[ah (show ((zs.length+1:J):E)>0 by omega),bA omg_ (by rw[hL];omega)];simp only[j6];by_cases hc:a<z.1
  .rw[ah (show z.1>a from hc)];simp only[j6,aB];have ih:=j_ (rs:=rs) (i:=i) (y:=y) (a:=a) (b:=b) zs (z::mid) sqo_;have e:(z::zs).reverse++mid=zs.reverse++z::mid:=smp_;rw[e,show ((zs.length+1:J):E)-1=(zs.length:E) by omega,ih];simp[hc]
  .rw[ai (show¬z.1>a from hc)];simp only[j7,aP];simp[hc]
theorem jCm(l:bI)(x:E×E){k:J}(hk:k<=l.length):List.set (over (l++[x]) (k+1) (M k (l++[x]))) k x=l.take k++x::l.drop k:=by
 have h1:(l++[x]).length=l.length+1:=smp_;unfold over;rw[h1,jd (show (l++[x]).length<=k+1+(M k (l++[x])).length by simp;omega),kc];have e1:M k (l++[x])=M k l++[x]:=by rw[List.drop_append_of_le_length hk]
 rw[e1];have e2:W (l.length+1-(k+1)) (M k l++[x])=M k l:=by rw[z6 smp_,R smp_]
 rw[e2];by_cases h:k<l.length
 .have e3:W (k+1) (l++[x])=l.take k++[l[k]]:=by rw[z6 omg_,List.take_succ_eq_append_getElem h]
  rw[e3,jh,v6 _ _ sqo_];simp[Nat.min_eq_left hk]
 .have bH:k=l.length:=omg_;subst bH;have e3:W (l.length+1) (l++[x])=l++[x]:=R smp_;rw[e3];simp
theorem k_{rs:H aN}{i:J}(hi:i<rs.length){r:aN}(hr:rs[i]=r)(h:mP r):∀(n j:J)(acc:bI),r.1+(j:E)+n=r.2.1+1->acc.length+n<=90000->
  JN rs (i:E) (r.1+(j:E)) acc.reverse=I (rs,(i:E),(l9 ((U n).map λ(q:J)=>cQ r (r.1+(j:E)+(q:E))) acc).reverse)
 |0,j,acc,hj,_=>by
  have hg:rs.getD i ((0:E),((0:E),((0:E),((0:E),((0:E),((0:E),(0:E)))))))=r:=by simp[hi,hr]
  rw[YW];simp only[j3r];rw[bJ];simp only[j6,j8,hg];rw[ai omg_,j7,aP];rfl
 |n+1,j,acc,hj,hl=>by
  have hg:rs.getD i ((0:E),((0:E),((0:E),((0:E),((0:E),((0:E),(0:E)))))))=r:=by simp[hi,hr]
  have h0:=h.y0;have h2:=h.y2;have kF:=h.s0;have nu:=h.s1;have hv:=GI (GJ (r.1+(j:E)) r.2.2.1 omg_ omg_ h.m0 h.m1);have hn:=RQ (w:=r.2.2.2.2.1) (y:=r.1+(j:E)) omg_ omg_ h.m0 h.m1 h.k0 h.k1;have hd:=tW (r.1+(j:E)) r.2.2.1;rw[YW];simp only[j3r];rw[bJ];simp only[j6,j8,hg];rw[ah (show r.1+(j:E)<=r.2.1 by omega),gO _ _ _ _ omg_ omg_ h.m0 h.m1 h.k0 h.k1 h.d0 h.d1];simp only[j6,j4];rw[aj (x:=nth (r.1+(j:E)) r.2.2.1 r.2.2.2.1 r.2.2.2.2.1*86400),aj (x:=nth (r.1+(j:E)) r.2.2.1 r.2.2.2.1 r.2.2.2.2.1*86400+r.2.2.2.2.2.1)];have wT:=j_ (rs:=rs) (i:=(i:E)) (y:=r.1+(j:E)) (a:=(cQ r (r.1+(j:E))).1) (b:=(cQ r (r.1+(j:E))).2) acc [] sqo_;rw[kc]at wT;rw[show G (F acc.reverse)=(acc.length:E) by simp];rw[show FO rs (i:E) (r.1+(j:E)) (acc.length:E) (nth (r.1+(j:E)) r.2.2.1 r.2.2.2.1 r.2.2.2.2.1*86400+r.2.2.2.2.2.1) r.2.2.2.2.2.2 acc.reverse=_ from wT];simp only[j4];generalize hx:cQ r (r.1+(j:E))=x at *;have pM:(acc.dropWhile (λz=>N (x.1<z.1))).length<=acc.length:=(List.dropWhile_sublist _).length_le;generalize hD:acc.dropWhile (λz=>N (x.1<z.1))=D at *;have yX:(acc.reverse++[(x.1,x.2)]).length=acc.length+1:=smp_;rw[ah (by simp[aG];omega)];simp only[j6]
  rw[aj (x:=(D.length:E)+1),ah (show (0:E)<=(D.length:E)+1 by omega),ah (show (D.length:E)+1<=G (acc.reverse++[(x.1,x.2)]).length by rw[yX];show (D.length:E)+1<=((acc.length+1:J):E);omega),
   ah (show (0:E)<=(D.length:E) by omega),ah (show (D.length:E)<=G (acc.reverse++[(x.1,x.2)]).length by rw[yX];show (D.length:E)<=((acc.length+1:J):E);omega)]
  simp only[zt,j6,j8,show ((D.length:E)+1).toNat=D.length+1 by omega];have Af:(over (acc.reverse++[(x.1,x.2)]) (D.length+1) (M D.length (acc.reverse++[(x.1,x.2)]))).length=acc.length+1:=by unfold over;simp;omega
  rw[bA omg_ (by rw[Af];omega),jCm acc.reverse (x.1,x.2) (by simpa using pM)];simp only[j6];rw[aj (x:=r.1+(j:E)+1),aB];have Bl:acc.reverse.take D.length++(x.1,x.2)::acc.reverse.drop D.length=(nf x acc).reverse:=by have dz:=List.takeWhile_append_dropWhile (p:=λz:E×E=>N (x.1<z.1)) (l:=acc);rw[i_,hD];rw[hD]at dz;generalize acc.takeWhile (λz=>N (x.1<z.1))=T at dz ⊢;rw[<-dz];simp
  rw[Bl];have ih:=k_ hi hr h n (j+1) (nf x acc) omg_ (by rw[GF];omega);rw[show r.1+(j:E)+1=r.1+((j+1:J):E) by omega];refine ih.trans ?_
  have Bm:(U n).map (λ(q:J)=>cQ r (r.1+((j+1:J):E)+(q:E)))=(U n).map ((λ(q:J)=>cQ r (r.1+(j:E)+(q:E))) ∘ Nat.succ):=List.map_congr_left λq _=>by
   simp only[Function.comp];congr 1;omega
  rw[List.range_succ_eq_map,qf,List.map_map,Bm];simp[l9,hx]
theorem l_:∀(a b acc:bI),l9 (a++b) acc=l9 b (l9 a acc)
 |[],_,_=>rfl
 |x::a,b,acc=>by simp only[qp,l9];exact l_ a b _
theorem m_{rs:H aN}(h:∀r∈rs,mP r)(hlen:rs.length<=100):∀(n i:J)(acc:bI),i+n=rs.length->acc.length<=300*i->
  FP rs (i:E) acc.reverse=I (l9 (occs (rs.drop i)) acc).reverse
 |0,i,acc,hi,_=>by
  rw[YX];simp only[j3s,show G (F rs)=(rs.length:E) from rfl];rw[ai omg_,j7,aP,jd omg_];rfl
 |n+1,i,acc,hi,hl=>by
  have aq:i<rs.length:=omg_;have hr:=h rs[i] (jf aq);have h0:=hr.y0;have h1:=hr.y1;have h2:=hr.y2;have hg:rs.getD i ((0:E),((0:E),((0:E),((0:E),((0:E),((0:E),(0:E)))))))=rs[i]:=by simp[aq]
  have uG:=k_ aq rfl hr (rs[i].2.1-rs[i].1+1).toNat 0 acc omg_ omg_;rw[show rs[i].1+((0:J):E)=rs[i].1 by omega]at uG;have ih:=m_ h hlen n (i+1) (l9 (gv rs[i]) acc) omg_ (by rw[GG];simp[gv];omega);rw[YX];simp only[j3s,show G (F rs)=(rs.length:E) from rfl];rw[ah (show (i:E)<(rs.length:E) by omega),bJ];simp only[j6,j8,hg,uG,j4];rw[aj,aB,jb aq];refine ih.trans ?_;show _=I (l9 (gv rs[i]++occs (rs.drop (i+1))) acc).reverse;rw[l_]
theorem jCn{rs:H aN}(h:∀r∈rs,mP r)(hlen:rs.length<=100):jaU rs=I (fk (occs rs)):=by
 have e:=m_ h hlen rs.length 0 [] omg_ smp_;simp only[jaU];rw[show FP rs 0 []=_ from e];rfl
theorem n_{rs:H aN}(h:∀r∈rs,mP r)(hlen:rs.length<=100)(nm:K)(o:E):∀(n i:J)(s:E),i+n=rs.length->0<=s->s<=300*i->
  FQ s (i:E) nm o rs=I (.inr (s+((occs (rs.drop i)).length:E),nm,o,rs))
 |0,i,s,hi,_,_=>by
  rw[YY];simp only[j3t,show G (F rs)=(rs.length:E) from rfl];rw[ai omg_,j7,aP,jd omg_];simp[occs]
 |n+1,i,s,hi,kF,nu=>by
  have aq:i<rs.length:=omg_;have hr:=h rs[i] (jf aq);have h0:=hr.y0;have h1:=hr.y1;have h2:=hr.y2;have hg:rs.getD i ((0:E),((0:E),((0:E),((0:E),((0:E),((0:E),(0:E)))))))=rs[i]:=by simp[aq]
  have ih:=n_ h hlen nm o n (i+1) (s+(rs[i].2.1-rs[i].1+1)) omg_ omg_ omg_;have tX:jic (rs[i].1,(rs[i].2.1,(rs[i].2.2.1,(rs[i].2.2.2.1,(rs[i].2.2.2.2.1,(rs[i].2.2.2.2.2.1,rs[i].2.2.2.2.2.2))))))=I true:=jyd hr;rw[YY];simp only[j3t,show G (F rs)=(rs.length:E) from rfl];rw[ah (show (i:E)<(rs.length:E) by omega),bJ];simp only[j6,j8,hg,tX,j4,jl,j7];rw[aj (x:=rs[i].2.1-rs[i].1),aj (x:=rs[i].2.1-rs[i].1+1),aj (x:=s+(rs[i].2.1-rs[i].1+1)),aj (x:=(i:E)+1),aB];refine ih.trans ?_;rw[jb aq]
  have:((occs (rs[i]::rs.drop (i+1))).length:E)=(rs[i].2.1-rs[i].1+1)+((occs (rs.drop (i+1))).length:E):=by
   have e1:(gv rs[i]).length=(rs[i].2.1-rs[i].1+1).toNat:=by simp[gv]
   show ((gv rs[i]++occs (rs.drop (i+1))).length:E)=_;rw[jc,e1];omega
  rw[this];congr 3;omega
theorem Sd(L:bI)(hL:L.length<=1000):∀(n i:J)(now:E)(acc:bI),i+n=L.length -> -64800<=now->now<=64800->acc.length<=i->(∀x∈acc,0<=x.1/\x.1<=8589934592)->Good now (acc.getLast?.map (·.1)) (L.drop i)->
  FT now (i:E) acc L=I (.inr (acc++cw now (L.drop i)))
 |0,i,now,acc,hi,_,_,_,_,_=>by
  rw[YZ];simp only[j3u,show G (F L)=(L.length:E) from rfl];rw[ai omg_,j7,aP,jd omg_];simp[cw]
 |n+1,i,now,acc,hi,oh,Bn,uO,dQ,hg=>by
  have aq:i<L.length:=omg_;rw[jb aq]at hg ⊢;have aT:L.getD i ((0:E),(0:E))=L[i]:=by simp[aq]
  rw[YZ];simp only[j3u,show G (F L)=(L.length:E) from rfl];rw[ah (show (i:E)<(L.length:E) by omega),bJ];simp only[j6,j8,aT];generalize L[i]=x at *;rw[aj (x:=(i:E)+1)];simp only[Good]at hg;by_cases hx:x.2=now
  .rw[if_pos hx]at hg;rw[cR hx];simp only[j6,aB,cw];rw[if_pos hx];exact Sd L hL n (i+1) now acc omg_ oh Bn omg_ dQ hg
  .rw[if_neg hx]at hg;obtain⟨⟨g1,g2,g3,g4,g5,g6,g7⟩,g8⟩:=hg;rw[ca hx,aj (x:=x.1-now),aj (x:=x.2-now)];simp only[j7,ow (show (-86399:E)<=x.2-now by omega) (show x.2-now<=86399 by omega),ow (show (0:E)<=x.1-now by omega) (show x.1-now<=8589934592 by omega),j4,jl,show G (F acc)=(acc.length:E) from rfl]
   have il:=Sd L hL n (i+1) x.2 (acc++[(x.1-now,x.2)]) omg_ g6 g7 sqo_
    (λy hy=>by
     rcases jj.1 hy with hy|hy
     .exact dQ y hy
     .simp at hy;subst hy;exact⟨by show (0:E)<=x.1-now;omega,by show x.1-now<=8589934592;omega⟩) (by simpa using g8)
   have dD:cw now (x::L.drop (i+1))=(x.1-now,x.2)::cw x.2 (L.drop (i+1)):=by simp[cw,hx]
   rw[dD];rw[jh]at il;rw[aj (x:=(acc.length:E)-1)];by_cases ha:acc=[]
   .subst ha;simp only[jw];rw[show N (((0:J):E)>0)=false from rfl];simp only[j7];rw[ah (by simp[aG])];simp only[j6,aB];exact il
   .have cq:0<acc.length:=q9.2 ha;have cG:acc.getLast? = I (acc.getD (acc.length-1) (0,0)):=by rw[List.getLast?_eq_getElem?,List.getD_eq_getElem?_getD,jm (show acc.length-1<acc.length by omega)];rfl
    rw[cG]at g5;have g5:(acc.getD (acc.length-1) ((0:E),(0:E))).1+604800<=x.1-now:=g5 _ rfl;have hb:=dQ (acc.getD (acc.length-1) (0,0)) (List.mem_of_getLast? cG);rw[bJ,ah (show (acc.length:E)>0 by omega),show ((acc.length:E)-1).toNat=acc.length-1 by omega];simp only[j6];rw[aj,ai (show¬x.1-now-(acc.getD (acc.length-1) ((0:E),(0:E))).1<604800 by omega),ah (by simp[aG];omega)];simp only[j6,j7,aB];exact il
theorem jHL{nm:K}{o:E}{rs:H aN}(h:∀r∈rs,mP r)(nQ : -64800<=o)(mK:o<=64800)(hlen:rs.length<=16)(hn:(occs rs).length<=640)(hg:Good o none (fk (occs rs))) :
  j0q (nm,(o,rs))=I (cw o (fk (occs rs)),0):=by
 have hl:(fk (occs rs)).length<=1000:=by simp[fk,GG];omega
 have e0:=n_ h omg_ nm o rs.length 0 0 omg_ omg_ omg_;rw[jr]at e0;have e2:=Sd (fk (occs rs)) hl (fk (occs rs)).length 0 o [] omg_ nQ mK smp_ smp_ hg;rw[jr]at e2;simp only[j0q,ow nQ mK,j4,jl,j7,show G (F rs)=(rs.length:E) from rfl];rw[ai (show¬(rs.length:E)>16 by omega),j7,show FQ 0 0 nm o rs=_ from e0];simp only[j4,kV];rw[ai omg_,j7,jCn h omg_];simp only[j4];rw[show FT o 0 [] (fk (occs rs))=_ from e2];rfl
def Z4(z:K×(E×H aN))(l:bI):Prop:=j0q z=I (l,0)/\iU z.2.1 l
theorem MZ.r4{o:E}{rs:H aN}(h:MZ o rs)(nm:K):Z4 (nm,(o,rs)) (cw o (fk (occs rs))):=by
 have ht:=h.tab nm;refine⟨jHL h.ok (by have:=h.o0;omega) (by have:=h.o1;omega) ?_ ?_ h.good,ht.2⟩
 .have:=h.len;omega
 .have:=h.few;omega
end Go.Proofs.Pw
