/- The yK, edits and gX that the dice make are right. -/
import Derived.Test.YtaieocafhcjelaaGreatEPD
import Derived.Test.YtaieocafhcjelaaGreatEPC
import Derived.Test.YtaieocafhcjelaaGreatEPA
noncomputable section
open Go Go.Lft
namespace Go.Proofs.Pw
theorem Na{L:List Int}{zs:List bY}{ps:List dB}{cs:List bf}{ss:List cA}(uN:1<=ps.length)(um:ps.length<=100){x0 y0:ByteArray}{x1 x2 x3 x4 x5 x6 x7 y1 y2 y3 y4 y5 y6 y7:Int}:∀(n:Nat)(a:Int)(ms:List Int),dp L a->ms.length+n<=4->(∀m∈ms,0<=m/\m<(ps.length:Int))->
  ∃Ej a',Dw (n:Int) L a zs ps cs ss x0 x1 x2 x3 x4 x5 x6 x7 y0 y1 y2 y3 y4 y5 y6 y7 ms=some (L,a',zs,ps,cs,ss,x0,x1,x2,x3,x4,x5,x6,x7,y0,y1,y2,y3,y4,y5,y6,y7,Ej)/\Ej.length=ms.length+n/\(∀m∈Ej,0<=m/\m<(ps.length:Int))/\dp L a'
 |0,a,ms,hd,_,hm=>by
  rw[Tn];simp only[j4a];rw[al (by omega),j6,aW];exact⟨ms,a,rfl,rfl,hm,hd⟩
 |n+1,a,ms,hd,hl,hm=>by
  obtain⟨x,a1,e1,x0',x1',d1⟩:=cK (n:=(ps.length:Int)) hd (by omega) (by omega);rw[Tn];simp only[j4a,show Int.ofNat (List.length ps)=(ps.length:Int) from rfl];rw[aj (by omega),ai (x:=((n+1:Nat):Int)-1) (by omega) (by omega),show ((n+1:Nat):Int)-1=(n:Int) by omega];simp only[j5,e1,j3];rw[aj (by simp[aR];omega)];simp only[j5,aJ]
  obtain⟨Ej,a',e,h1,h2,h3⟩:=Na (zs:=zs) (cs:=cs) (ss:=ss) uN um (x0:=x0) (x1:=x1) (x2:=x2) (x3:=x3) (x4:=x4) (x5:=x5) (x6:=x6) (x7:=x7) (y0:=y0) (y1:=y1) (y2:=y2) (y3:=y3) (y4:=y4) (y5:=y5) (y6:=y6) (y7:=y7) n a1 (ms++[x]) d1 (by simp;omega) (λm h=>by
   rcases jn.1 h with h|h
   .exact hm m h
   .simp at h;subst h;exact⟨x0',x1'⟩)
  exact⟨Ej,a',e,by rw[h1];simp;omega,h2,h3⟩
theorem jvx{L:List Int}{a:Int}(h:dp L a){zs:List bY}{ps:List dB}{cs:List bf}{ss:List cA}(hs:Ed zs ps cs)(nm:ByteArray) :
  ∃l a',jac L a (zs,(ps,(cs,ss))) nm=some (l,L,a')/\M5 l/\fI zs.length ps.length cs.length l/\l.1=nm/\dp L a':=by
 have qC:=hs.z0;have rW:=hs.z1;have uN:=hs.p0;have um:=hs.p1;have gy:=hs.c1;obtain⟨z,a1,e1,z0,z1,d1⟩:=cK (n:=(zs.length:Int)) h (by omega) (by omega);obtain⟨x,a2,e2,x0,x1,d2⟩:=cK (n:=6) d1 (by omega) (by omega);obtain⟨s,a3,e3,m3,d3⟩:=mG d2 (xs:=[(0:Int),(32400:Int),(7200:Int),(9000:Int),(79200:Int),(1:Int)]) (by simp) (by simp);obtain⟨u,a4,e4,u0,u1,d4⟩:=cK (n:=3) d3 (by omega) (by omega);obtain⟨v,a5,e5,v0,v1,d5⟩:=cK (n:=2) d4 (by omega) (by omega);have dr:0<=s/\s<=79200:=by simp at m3;omega
 simp only[jac,show Int.ofNat (List.length zs)=(zs.length:Int) from rfl,e1,e2,e3,e4,e5,j3];rw[ai (x:=20454+x) (by omega) (by omega),ai (x:=20454+x-2) (by omega) (by omega),ai (x:=1+v) (by omega) (by omega)]
 have fin:∀(ev:Int),1<=ev->ev<=49->(u≠0->ev<=2)->∀ms:List Int,1<=ms.length->ms.length<=3->(∀m∈ms,0<=m/\m<(ps.length:Int))->∀(w:WL),iP 0 w->w.length<=3->∀(c m:Int),0<=m->m<=2->(m≠0->0<=c/\c<(cs.length:Int))->(m=0->c=0)->∀(a':Int),dp L a'->
   ∃l vV,some ((nm,(z,((20454+x-2,s),(u,(ev,(ms,(w,(c,m)))))))),L,a')=some (l,L,vV)/\M5 l/\fI zs.length ps.length cs.length l/\l.1=nm/\dp L vV:=
  λev h1 h2 h3 ms h4 h5 dY w hw kG c m gI gj Pm hmz a' hd=>⟨_,_,rfl,⟨by dsimp only;omega,by dsimp only;omega,dr.1,dr.2,u0,by dsimp only;omega,h1,h2,h3,h4,h5⟩,
   ⟨z0,z1,by dsimp only;omega,M7 (by dsimp only;omega) (by dsimp only;omega),dr.1,by dsimp only;omega,u0,by dsimp only;omega,h1,by dsimp only;omega,by dsimp only;omega,by dsimp only;omega,dY,hw,by dsimp only;omega,gI,gj,Pm,hmz⟩,rfl,hd⟩
 have rest:∀(ev:Int),1<=ev->ev<=49->(u≠0->ev<=2)->∀(ms:List Int),1<=ms.length->ms.length<=3->(∀m∈ms,0<=m/\m<(ps.length:Int))->∀(w:WL),iP 0 w->w.length<=3->∀(a9:Int),dp L a9->
   ∃l vV,((j1T L a9 4).bind λr=>cond (cond r.1 (decide ((cs.length:Int)>0)) false) ((j07 r.2.1 r.2.2 (cs.length:Int)).bind λNb=>(j07 Nb.2.1 Nb.2.2 2).bind λNc=>some ((nm,(z,((20454+x-2,s),(u,(ev,(ms,(w,(Nb.1,w64 (1+Nc.1))))))))),Nc.2.1,Nc.2.2))
    (some ((nm,(z,((20454+x-2,s),(u,(ev,(ms,(w,((0:Int),(0:Int))))))))),r.2.1,r.2.2)))=some (l,L,vV)/\M5 l/\fI zs.length ps.length cs.length l/\l.1=nm/\dp L vV:=by
  intro ev h1 h2 h3 ms h4 h5 dY w hw kG a9 d9;obtain⟨c,a11,e11,d11⟩:=Bg (n:=4) d9 (by omega) (by omega);simp only[e11,j3];by_cases wB:c=true/\(cs.length:Int)>0
  .obtain⟨i,a12,J2,i0,i1,d12⟩:=cK (n:=(cs.length:Int)) d11 (by omega) (by omega);obtain⟨j,a13,e13,j0,j1,d13⟩:=cK (n:=2) d12 (by omega) (by omega);rw[wB.1,aj wB.2];simp only[j5,J2,e13,j3,ai (x:=1+j) (show -9223372036854775808<=_ by omega) (by omega)];exact fin ev h1 h2 h3 ms h4 h5 dY w hw kG i (1+j) (by omega) (by omega) (λ_=>⟨i0,i1⟩) (λhh=>by omega) _ d13
  .have mP:cond c (decide ((cs.length:Int)>0)) false=false:=by
    cases c with
    |true=>exact al (λh=>wB ⟨rfl,h⟩)
    |false=>rfl
   rw[mP];simp only[j6];exact fin ev h1 h2 h3 ms h4 h5 dY w hw kG 0 0 (by omega) (by omega) (λhh=>absurd rfl hh) (λ_=>rfl) _ d11
 have Ek:iP 0 ([]:WL):=show (0:Int)<=604800 by omega
 by_cases hu:u=0
 .rw[ee hu,j5];obtain⟨ev,a6,e6,m6,d6⟩:=mG d5 (xs:=[(6:Int),(8:Int),(12:Int),(24:Int),(23:Int),(49:Int)]) (by simp) (by simp);have oX:1<=ev/\ev<=49:=by simp at m6;omega
  obtain⟨n,a7,e7,n0,n1,d7⟩:=cK (n:=3) d6 (by omega) (by omega);obtain⟨ms,a8,e8,l8,k8,d8⟩:=Na (L:=L) (zs:=zs) (ps:=ps) (cs:=cs) (ss:=ss) uN (by omega) (x0:=ByteArray.empty) (x1:=0) (x2:=0) (x3:=0) (x4:=0) (x5:=0) (x6:=0) (x7:=0) (y0:=nm) (y1:=z) (y2:=20454+x-2) (y3:=s) (y4:=u) (y5:=ev) (y6:=0) (y7:=0) (1+n).toNat a7 [] d7 (by simp;omega) (by simp);rw[show (((1+n).toNat:Nat):Int)=1+n by omega]at e8;simp at l8;obtain⟨b,a9,e9,d9⟩:=Bg (n:=2) d8 (by omega) (by omega);simp only[e6,e7,j3];rw[ai (x:=1+n) (by omega) (by omega)];simp only[e8,e9,j3,show Int.ofNat (List.length cs)=(cs.length:Int) from rfl];cases b with
  |true=>obtain⟨w,Nd,Nf,hw,kG,d10⟩:=M4 d9;simp only[j5,Nf,j3];exact rest ev oX.1 oX.2 (λh=>absurd hu h) ms (by omega) (by omega) k8 w hw kG Nd d10
  |false=>simp only[j6];exact rest ev oX.1 oX.2 (λh=>absurd hu h) ms (by omega) (by omega) k8 [] Ek (by simp) a9 d9
 .rw[cP hu,j6];obtain⟨n,a7,e7,n0,n1,d7⟩:=cK (n:=3) d5 (by omega) (by omega);obtain⟨ms,a8,e8,l8,k8,d8⟩:=Na (L:=L) (zs:=zs) (ps:=ps) (cs:=cs) (ss:=ss) uN (by omega) (x0:=ByteArray.empty) (x1:=0) (x2:=0) (x3:=0) (x4:=0) (x5:=0) (x6:=0) (x7:=0) (y0:=nm) (y1:=z) (y2:=20454+x-2) (y3:=s) (y4:=u) (y5:=1+v) (y6:=0) (y7:=0) (1+n).toNat a7 [] d7 (by simp;omega) (by simp);rw[show (((1+n).toNat:Nat):Int)=1+n by omega]at e8;simp at l8;obtain⟨b,a9,e9,d9⟩:=Bg (n:=2) d8 (by omega) (by omega);simp only[e7,j3];rw[ai (x:=1+n) (by omega) (by omega)];simp only[e8,e9,j3,show Int.ofNat (List.length cs)=(cs.length:Int) from rfl];cases b with
  |true=>obtain⟨w,Nd,Nf,hw,kG,d10⟩:=M4 d9;simp only[j5,Nf,j3];exact rest (1+v) (by omega) (by omega) (λ_=>by omega) ms (by omega) (by omega) k8 w hw kG Nd d10
  |false=>simp only[j6];exact rest (1+v) (by omega) (by omega) (λ_=>by omega) ms (by omega) (by omega) k8 [] Ek (by simp) a9 d9
theorem jz4{L:List Int}{a:Int}(h:dp L a){zs:List bY}{ps:List dB}{cs:List bf}{ss:List cA}(uN:1<=ps.length)(um:ps.length<=4) :
  ∃x a',jbl L a (zs,(ps,(cs,ss)))=some (x,L,a')/\qV ps.length x/\dp L a':=by
 obtain⟨k,a1,e1,k0,k1,d1⟩:=cK (n:=3) h (by omega) (by omega);obtain⟨p,a2,e2,p0,p1,d2⟩:=cK (n:=(ps.length:Int)) d1 (by omega) (by omega);obtain⟨t,a3,e3,t0,t1,d3⟩:=UH d2;obtain⟨y,a4,e4,m4,d4⟩:=mG d3 (xs:=[(3600:Int),(86400:Int),(7:Int),(259200:Int),(40000:Int)]) (by simp) (by simp);have hy:7<=y/\y<=259200:=by simp at m4;omega
 have yG:j2k (Int.tdiv (t+y) 86400)=some true:=by rw[GN (by omega)];exact M7 (by omega) (by omega)
 simp only[jbl,show Int.ofNat (List.length ps)=(ps.length:Int) from rfl,e1,e2,e3,e4,j3];rw[ai (x:=t+y) (by omega) (by omega)]
 have fin:∀(kd A B:Int),0<=kd->kd<=2->(0<=A/\A<(ps.length:Int)\/kd=1/\A = -1)->(kd=2->0<=B/\B<(ps.length:Int)/\A≠B)->(kd≠2->B=0)->∀a',dp L a'->∃x vV,some ((kd,(A,(B,(t,t+y)))),L,a')=some (x,L,vV)/\qV ps.length x/\dp L vV:=
  λkd A B h1 h2 h3 h4 h5 a' hd=>⟨_,_,rfl,⟨h1,h2,h3,h4,h5,by dsimp only;omega,by dsimp only;omega,by dsimp only;omega,yG⟩,hd⟩
 by_cases h2:k=2
 .rw[ee h2,j5];by_cases hn:(ps.length:Int)<2
  .rw[aj hn,j5];exact fin 0 p 0 (by omega) (by omega) (.inl ⟨p0,p1⟩) (λhh=>by omega) (λ_=>rfl) _ d4
  .rw[al hn,j6,ai (x:=(ps.length:Int)-1) (by omega) (by omega)];obtain⟨q,a5,e5,q0,q1,d5⟩:=cK (n:=(ps.length:Int)-1) d4 (by omega) (by omega);simp only[e5,j3];rw[ai (x:=p+1) (by omega) (by omega),ai (x:=p+1+q) (by omega) (by omega),cP (show¬(ps.length:Int)=0 by omega),cP (show¬k=1 by omega),GO (by omega)];simp only[k7,j5,j6];have b0:0<=(p+1+q)%(ps.length:Int):=Int.emod_nonneg _ (by omega);have b1:(p+1+q)%(ps.length:Int)<(ps.length:Int):=Int.emod_lt_of_pos _ (by omega)
   have ba:p≠(p+1+q)%(ps.length:Int):=by
    by_cases hb:p+1+q<(ps.length:Int)
    .rw[Int.emod_eq_of_lt (by omega) hb];omega
    .rw[<-Int.sub_emod_right,Int.emod_eq_of_lt (by omega) (by omega)];omega
   exact fin k p _ k0 (by omega) (.inl ⟨p0,p1⟩) (λ_=>⟨b0,b1,ba⟩) (λhh=>absurd h2 hh) _ d5
 .rw[cP h2,j6];by_cases h1:k=1
  .rw[ee h1,j5];obtain⟨b,a5,e5,d5⟩:=Bg (n:=4) d4 (by omega) (by omega);simp only[e5,j3];cases b with
   |true=>exact fin k (-1) 0 k0 (by omega) (.inr ⟨h1,rfl⟩) (λhh=>absurd hh h2) (λ_=>rfl) _ d5
   |false=>exact fin k p 0 k0 (by omega) (.inl ⟨p0,p1⟩) (λhh=>absurd hh h2) (λ_=>rfl) _ d5
  .rw[cP h1,j6];exact fin k p 0 k0 (by omega) (.inl ⟨p0,p1⟩) (λhh=>absurd hh h2) (λ_=>rfl) _ d4
theorem U0{L:List Int}{s6:Int}{nm:ByteArray}{zs:List bY}{ps:List dB}{cs:List bf}{ss:List cA}(hs:Ed zs ps cs):∀(n:Nat)(a:Int)(ls:List cg),dp L a->ls.length+n<=3->(∀x∈ls,fI zs.length ps.length cs.length x)->ls.map (·.1)=fJ.take ls.length->
  ∃fV a',Dx s6 (n:Int) L a zs ps cs nm ss ls=some (s6,L,a',zs,ps,cs,nm,ss,fV)/\fV.length<=3/\(∀x∈fV,fI zs.length ps.length cs.length x)/\fV.map (·.1)=fJ.take fV.length/\dp L a'
 |0,a,ls,hd,hl,hk,hn=>by
  rw[To];simp only[j3Q];rw[al (by omega),j6,aW];exact⟨ls,a,rfl,by omega,hk,hn,hd⟩
 |n+1,a,ls,hd,hl,hk,hn=>by
  have bW:ls.length<fJ.length:=by show ls.length<8;omega
  obtain⟨l,a1,e1,_,l2,l3,d1⟩:=jvx (ss:=ss) hd hs (fJ.getD ls.length ByteArray.empty);rw[To];simp only[j3Q,UU,j3,show Int.ofNat (List.length ls)=(ls.length:Int) from rfl];rw[aj (by omega),aX (show (0:Int)<=(ls.length:Int) by omega) (by omega),ai (x:=((n+1:Nat):Int)-1) (by omega) (by omega),show ((n+1:Nat):Int)-1=(n:Int) by omega];simp only[j5,j7,e1,j3];rw[aj (by simp[aR];omega)];simp only[j5,aJ]
  exact U0 hs n a1 (ls++[l]) d1 (by simp;omega) (λx hx=>by
   rcases jn.1 hx with h|h
   .exact hk x h
   .simp at h;subst h;exact l2) (by
   rw[zr,hn,ja,kr,List.map_nil,l3];exact G3 bW)
theorem U3{L:List Int}{s6:Int}{nm:ByteArray}{zs:List bY}{ps:List dB}{cs:List bf}{ss:List cA}{ls:List cg}(hs:Ed zs ps cs):∀(n:Nat)(a:Int)(es:List eU),dp L a->es.length+n<=3->(∀x∈es,qV ps.length x)->
  ∃uK a',Gm s6 (n:Int) L a zs ps cs nm ss ls es=some (s6,L,a',zs,ps,cs,nm,ss,ls,uK)/\uK.length<=3/\(∀x∈uK,qV ps.length x)/\dp L a'
 |0,a,es,hd,hl,hk=>by
  rw[Tp];simp only[j3R];rw[al (by omega),j6,aW];exact⟨es,a,rfl,by omega,hk,hd⟩
 |n+1,a,es,hd,hl,hk=>by
  obtain⟨x,a1,e1,x1,d1⟩:=jz4 (zs:=zs) (cs:=cs) (ss:=ss) hd hs.p0 hs.p1;rw[Tp];simp only[j3R];rw[aj (by omega),ai (x:=((n+1:Nat):Int)-1) (by omega) (by omega),show ((n+1:Nat):Int)-1=(n:Int) by omega];simp only[j5,e1,j3];rw[aj (by simp[aR];omega)];simp only[j5,aJ]
  exact U3 hs n a1 (es++[x]) d1 (by simp;omega) (λy hy=>by
   rcases jn.1 hy with h|h
   .exact hk y h
   .simp at h;subst h;exact x1)
theorem jAs{zs:List bY}{ps:List dB}{cs:List bf}{ss:List cA}(hs:eX zs ps cs)(h0:ss.length<=12)(h1:fS (ss.map (·.1)))(h2:∀s∈ss,vU zs.length ps.length cs.length s):tP (zs,(ps,(cs,ss))):=by
 have rW:=hs.so.z1;have um:=hs.so.p1;have gy:=hs.so.c1;exact⟨by dsimp only;rw[hs.z.nm];exact jyZ.take _,hs.z.ck,by dsimp only;omega,by dsimp only;rw[hs.p.nm];exact UW.take _,hs.p.ck,by dsimp only;omega,hs.c.nm,hs.c.ck,by dsimp only;omega,h1,h2,h0⟩
structure oe(o:Int)(l:bT)(s t:Int)(k:Nat):Prop where
 hk:k<=l.length
 hks:s-cI o l k<bn l (k+1)
 bef:∀j,j<k->bn l (j+1)<=s-cI o l j
 ht:t=max (bn l k) (s-cI o l k)
section
variable{o:Int}{l:bT}(h:jD o l)
include h
theorem oe.piece{s t:Int}{k:Nat}(f:oe o l s t k):bn l k<=t/\t<bn l (k+1)/\s<=t+cI o l k:=by
 have h1:=h.frm_lt f.hk;have h2:=f.hks;have h3:=f.ht;omega
end
def El(o:Int)(l:bT)(s:Int):Int:=open Classical in if h:∃t k,oe o l s t k then Classical.choose h else 0
def fM(L:cg):Int:=if L.2.2.2.1=2 then 7*L.2.2.2.2.1 else L.2.2.2.2.1
def ei(L:cg)(k:Int):Int:=(L.2.2.1.1+k*fM L)*86400+L.2.2.1.2
def Cg(o:Int)(l:bT)(L:cg)(k:Int):Int:=if L.2.2.2.1=0 then El o l (ei L 0)+3600*L.2.2.2.2.1*k else El o l (ei L k)
structure LR(L:cg):Prop where
 d0:100<=L.2.2.1.1
 d1:L.2.2.1.1<=30000
 c0:0<=L.2.2.1.2
 c1:L.2.2.1.2<=86399
 u0:0<=L.2.2.2.1
 u1:L.2.2.2.1<=2
 e0:1<=L.2.2.2.2.1
 e1:L.2.2.2.2.1<=49
 m0:1<=L.2.2.2.2.2.1.length
 m1:L.2.2.2.2.2.1.length<=1000
def yL(o:Int)(l:bT)(s:Int):Prop:=∀j,j<=l.length->bn l (j+1)<=s-cI o l j
def fO(o:Int)(l:bT)(s:Int):Option Int:=open Classical in if h:∃t k,oe o l s t k then some (Classical.choose h) else none
theorem oe.uniq{o:Int}{l:bT}{s t t':Int}{k k':Nat}(f:oe o l s t k)(g:oe o l s t' k'):k=k'/\t=t':=by
 have hk:k=k':=by
  rcases Nat.lt_trichotomy k k' with aq|heq|yM
  .have:=g.bef k aq;have:=f.hks;omega
  .exact heq
  .have:=f.bef k' yM;have:=g.hks;omega
 subst hk;exact⟨rfl,by rw[f.ht,g.ht]⟩
theorem yN{o:Int}{l:bT}{s t:Int}{k:Nat}(f:oe o l s t k):fO o l s=some t:=by
 have he:∃t k,oe o l s t k:=⟨t,k,f⟩;unfold fO;rw[dif_pos he];obtain⟨k',g⟩:=Classical.choose_spec he;rw[(g.uniq f).2]
theorem yO{o:Int}{l:bT}{s:Int}(dM:yL o l s):fO o l s=none:=by
 unfold fO;rw[dif_neg]
 rintro⟨t,k,f⟩
 have:=dM k f.hk;have:=f.hks;omega
theorem Ng(o:Int)(l:bT)(s:Int):(∃t k,oe o l s t k)\/yL o l s:=by
 by_cases dM:yL o l s
 .exact .inr dM
 .left
  have:∃j,j<=l.length/\s-cI o l j<bn l (j+1):=by
   apply jr;intro hn
   exact dM λj hj=>by
    rcases Int.lt_or_le (s-cI o l j) (bn l (j+1)) with h|h
    .exact absurd ⟨j,hj,h⟩ hn
    .exact h
  obtain⟨j,hj,hjs⟩:=this;obtain⟨a,⟨ha,haN⟩,sL⟩:=oY (λj=>s-cI o l j<bn l (j+1)/\j<=l.length) j ⟨hjs,hj⟩;refine⟨_,a,haN,ha,λi hi=>?_,rfl⟩;rcases Int.lt_or_le (s-cI o l i) (bn l (i+1)) with h'|h'
  .have:=sL i ⟨h',by omega⟩;omega
  .exact h'
theorem G4{o:Int}{l:bT}{s t:Int}(he:fO o l s=some t):∃k,oe o l s t k:=by
 rcases Ng o l s with⟨t',k,f⟩|dM
 .rw[yN f]at he;simp at he;subst he;exact⟨k,f⟩
 .rw[yO dM]at he;simp at he
section
variable{o:Int}{l:bT}(h:jD o l)
include h
theorem Nh{s t:Int}(he:fO o l s=some t):s<=t+64800/\0<=t/\t<=8589934592:=by
 obtain⟨k,f⟩:=G4 he;obtain⟨p1,p2,p3⟩:=f.piece h;have o1:=h.of1 k f.hk;have g1:=h.frm_le (i:=0) (j:=k) (by omega) (by have:=f.hk;omega);have e0:bn l 0=0:=tK;have e1:bn l (l.length+1)=8589934593:=tL;have g2:=h.frm_le (i:=k+1) (j:=l.length+1) (by have:=f.hk;omega) (by omega);omega
theorem U4{s:Int}(hs:8589934593+64800<=s):yL o l s:=λj hj=>by
 have o1:=h.of1 j hj;have e1:bn l (l.length+1)=8589934593:=tL;have g2:=h.frm_le (i:=j+1) (j:=l.length+1) (by omega) (by omega);omega
theorem jz6{s s' t':Int}(hs:s<=s')(he:fO o l s'=some t'):∃t,fO o l s=some t/\t<=t':=by
 obtain⟨k',g⟩:=G4 he;have g1:=g.hks;have bg:=g.hk;rcases Ng o l s with⟨t,k,f⟩|dM
 .refine⟨t,yN f,?_⟩;obtain⟨p1,p2,p3⟩:=f.piece h;obtain⟨q1,q2,q3⟩:=g.piece h;have f1:=f.ht;have g2:=g.ht;rcases Nat.lt_trichotomy k k' with aq|heq|yM
  .have:=h.frm_le (i:=k+1) (j:=k') (by omega) (by omega);omega
  .subst heq;omega
  .have:=f.bef k' yM;omega
 .have:=dM k' bg;omega
theorem U5{d c s:Int}(iz:j5u (d,c)=some s)(lP : -1000000000000<=s)(l7:s<=1000000000000)(dM:yL o l s) :
  ∀(n i:Nat),i+n=l.length+1->xX ((l.length+1:Nat):Int) (i:Int) d c (o8 o l (l.length+1))=some (.inr ())
 |0,i,hi=>by
  rw[Gf];simp only[j2p];rw[al (by omega),j6,aW]
 |n+1,i,hi=>by
  have hlen:=h.len;have lE:i<=l.length:=by omega
  have o1:=h.of0 i lE;have o2:=h.of1 i lE;have hb:=dM i lE;have aq:=h.frm_lt lE;rw[Gf];simp only[j2p];rw[aj (show (i:Int)<((l.length+1:Nat):Int) by omega),aX (by omega) (by rw[yC];omega)];simp only[j5,j7,MF (show i<l.length+1 by omega),iz,j3,pc];rw[ai (x:=s-cI o l i) (by omega) (by omega),ai (x:=(i:Int)+1) (by omega) (by omega)];have hm:(if s-cI o l i>bn l i then s-cI o l i else bn l i)=max (bn l i) (s-cI o l i):=by split<;>omega
  rw[hm,al (by omega),j6,aJ];exact U5 iz lP l7 dM n (i+1) (by omega)
theorem Ni{d c s:Int}(iz:j5u (d,c)=some s)(lP : -1000000000000<=s)(l7:s<=1000000000000)(dM:yL o l s):j2H (o,l) (d,c)=some (0,false):=by
 have:=U5 h iz lP l7 dM (l.length+1) 0 (by omega);simp only[j2H,T3 h,j3,yC,show Int.ofNat (List.length l+1)=((l.length+1:Nat):Int) from rfl];rw[show (0:Int)=((0:Nat):Int) from rfl,this];rfl
theorem U6{d c:Int}(hd : -1000000<=d)(rD:d<=1000000000000000)(hc:0<=c)(lx:c<=86399) :
  j2H (o,l) (d,c)=some ((fO o l (d*86400+c)).getD 0,(fO o l (d*86400+c)).isSome):=by
 by_cases hb:d<=1000000
 .rcases Ng o l (d*86400+c) with⟨t,k,f⟩|dM
  .have e:=jx6 h hd hb (by omega) (by omega) f.hk f.hks f.bef;rw[<-f.ht]at e;rw[yN f];exact e
  .rw[yO dM];exact Ni h (MG hd hb (by omega) (by omega)) (by omega) (by omega) dM
 .have dM:yL o l (d*86400+c):=U4 h (by omega);rw[yO dM];by_cases fc:d<=1048576
  .have iz:j5u (d,c)=some (d*86400+c):=by simp only[j5u];rw[if_neg (show¬(-1048576:Int)>d by omega),if_neg (show¬(1048576:Int)<d by omega),ai (x:=d*86400) (by omega) (by omega),ai (by omega) (by omega)]
   exact Ni h iz (by omega) (by omega) dM
  .have iz:j5u (d,c)=some (1048576*86400+c):=by simp only[j5u];rw[if_neg (show¬(-1048576:Int)>d by omega),if_pos (show (1048576:Int)<d by omega),ai (x:=1048576*86400) (by omega) (by omega),ai (by omega) (by omega)]
   exact Ni h iz (by omega) (by omega) (U4 h (by omega))
end
structure Rt(L:cg):Prop where
 d0:1<=L.2.2.1.1
 d1:L.2.2.1.1<=100000
 c0:0<=L.2.2.1.2
 c1:L.2.2.1.2<=86399
 u0:0<=L.2.2.2.1
 u1:L.2.2.2.1<=2
 e0:1<=L.2.2.2.2.1
 e1:L.2.2.2.2.1<=400
 m0:L.2.2.2.2.2.1≠[]
theorem Rt.step{L:cg}(h:Rt L):1<=fM L/\fM L<=2800:=by
 have:=h.e0;have:=h.e1;unfold fM;split<;>omega
def hO(o:Int)(l:bT)(L:cg)(k:Int):Option Int:=
 if L.2.2.2.1=0 then (fO o l (ei L 0)).bind λt=>if t+3600*L.2.2.2.2.1*k<=8589934592 then some (t+3600*L.2.2.2.2.1*k) else none
 else fO o l (ei L k)
section
variable{o:Int}{l:bT}(ht:jD o l){L:cg}(h:Rt L)
include ht h
theorem Em{k t:Int}(hk:0<=k)(he:hO o l L k=some t):0<=t/\t<=8589934592/\k<=2386092:=by
 have hs:=h.step;have M6:=h.d0;have xD:=h.e0;have mP:=h.c0;unfold hO at he;by_cases h0:L.2.2.2.1=0
 .rw[if_pos h0]at he;cases hf:fO o l (ei L 0) with
  |none=>rw[hf]at he;simp at he
  |some v=>
   rw[hf]at he;simp only[j3]at he;have hv:=Nh ht hf;have hm:3600*k<=3600*L.2.2.2.2.1*k:=Int.mul_le_mul_of_nonneg_right (by omega) hk;split at he
   .simp at he;omega
   .simp at he
 .rw[if_neg h0]at he;have hv:=Nh ht he;have hm:k*1<=k*fM L:=Int.mul_le_mul_of_nonneg_left hs.1 hk;unfold ei at hv;omega
theorem jxf{k t:Int}(he:hO o l L (k+1)=some t):∃v,hO o l L k=some v/\v<=t:=by
 have hs:=h.step;have xD:=h.e0;unfold hO at he ⊢;by_cases h0:L.2.2.2.1=0
 .rw[if_pos h0]at he ⊢;cases hf:fO o l (ei L 0) with
  |none=>rw[hf]at he;simp at he
  |some v=>
   rw[hf]at he;simp only[j3]at he ⊢;have hm:3600*L.2.2.2.2.1*(k+1)=3600*L.2.2.2.2.1*k+3600*L.2.2.2.2.1:=by rw[Int.mul_add,Int.mul_one]
   split at he
   .rw[if_pos (by omega)];simp at he;exact⟨_,rfl,by omega⟩
   .simp at he
 .rw[if_neg h0]at he ⊢;have hm:(k+1)*fM L=k*fM L+fM L:=by rw[Int.add_mul,Int.one_mul]
  exact jz6 ht (by unfold ei;rw[hm];omega) he
def QO(o:Int)(l:bT)(L:cg)(t k:Int):Prop:=∃v,hO o l L k=some v/\v<=t
theorem QO.down{t:Int}:∀(n:Nat){k:Int},QO o l L t (k+n)->QO o l L t k
 |0,k,hq=>by rwa[show k+((0:Nat):Int)=k by omega]at hq
 |n+1,k,hq=>by
  rw[show k+((n+1:Nat):Int)=k+(n:Int)+1 by omega]at hq;obtain⟨v,hv,xf⟩:=hq;obtain⟨v',gC,hl⟩:=jxf ht h (k:=k+(n:Int)) hv;exact QO.down n ⟨v',gC,by omega⟩
theorem QO.le{t k j:Int}(dA:k<=j)(hq:QO o l L t j):QO o l L t k:=by
 refine QO.down ht h (j-k).toNat ?_;rwa[show k+(((j-k).toNat:Nat):Int)=j by omega]
def kT(o:Int)(l:bT)(L:cg)(t K:Int):Prop:=(K = -1/\¬QO o l L t 0)\/(0<=K/\QO o l L t K/\¬QO o l L t (K+1))
theorem kT.uniq{t K K':Int}(a:kT o l L t K)(b:kT o l L t K'):K=K':=by
 rcases a with⟨a1,a2⟩|⟨a1,a2,a3⟩<;>rcases b with⟨b1,b2⟩|⟨b1,b2,b3⟩
 .omega
 .exact absurd (QO.le ht h b1 b2) a2
 .exact absurd (QO.le ht h a1 a2) b2
 .rcases Int.lt_trichotomy K K' with aq|heq|yM
  .exact absurd (QO.le ht h (by omega) b2) a3
  .exact heq
  .exact absurd (QO.le ht h (by omega) a2) b3
end
theorem U7{L:cg}(h:Rt L):jb5 L=some (fM L):=by
 have:=h.e0;have:=h.e1;simp only[jb5,fM];by_cases h2:L.2.2.2.1=2
 .rw[ee h2,j5,if_pos h2,ai (by omega) (by omega)]
 .rw[cP h2,j6,if_neg h2]
def En(r:Option (Int×Bool))(x:Option Int):Prop:=∃v,r=some (v,x.isSome)/\∀t,x=some t->v=t
theorem og{o:Int}{l:bT}(ht:jD o l){L:cg}(h:Rt L){k:Int}(hk:0<=k)(gq:k<=8589934592):En (j1g (o,l) L k) (hO o l L k):=by
 have hs:=h.step;have M6:=h.d0;have rC:=h.d1;have mP:=h.c0;have gy:=h.c1;have xD:=h.e0;have U8:=h.e1;have dP:jb5 (L.1,L.2.1,(L.2.2.1.1,L.2.2.1.2),L.2.2.2.1,L.2.2.2.2.1,L.2.2.2.2.2.1,L.2.2.2.2.2.2.1,L.2.2.2.2.2.2.2.1,L.2.2.2.2.2.2.2.2)=_:=U7 h;simp only[En,j1g,dP,j3];rw[al (show¬k>8589934592 by omega),j6];by_cases h0:L.2.2.2.1=0
 .have hF:=U6 ht (d:=L.2.2.1.1) (c:=L.2.2.1.2) (by omega) (by omega) mP gy;have lP:L.2.2.1.1*86400+L.2.2.1.2=ei L 0:=by unfold ei;omega
  have gI:0<=3600*L.2.2.2.2.1*k:=Int.mul_nonneg (by omega) hk;have gj:3600*L.2.2.2.2.1*k<=3600*400*8589934592:=Int.mul_le_mul (by omega) gq hk (by omega);rw[show (L.2.2.2.1 != 0)=false by rw[h0];rfl,j6,hF,lP];simp only[j3];unfold hO;rw[if_pos h0];cases hf:fO o l (ei L 0) with
  |none=>exact⟨_,rfl,λt h=>by simp at h⟩
  |some v=>
   have hv:=Nh ht hf;simp only[kz,zo,j5,j3,ai (x:=3600*L.2.2.2.2.1) (show -9223372036854775808<=_ by omega) (by omega),ai (x:=3600*L.2.2.2.2.1*k) (show -9223372036854775808<=_ by omega) (by omega),ai (x:=v+3600*L.2.2.2.2.1*k) (show -9223372036854775808<=_ by omega) (by omega)];by_cases hle:v+3600*L.2.2.2.2.1*k<=8589934592
   .rw[if_pos hle,aj hle];exact⟨_,rfl,λt h=>by simpa using h⟩
   .rw[if_neg hle,al hle];exact⟨_,rfl,λt h=>by simp at h⟩
 .have gI:0<=k*fM L:=Int.mul_nonneg hk (by omega);have gj:k*fM L<=8589934592*2800:=Int.mul_le_mul gq hs.2 (by omega) (by omega);rw[show (L.2.2.2.1 != 0)=true by simp[h0],j5,ai (x:=k*fM L) (by omega) (by omega),ai (x:=L.2.2.1.1+k*fM L) (by omega) (by omega),U6 ht (by omega) (by omega) mP gy];simp only[j3];unfold hO;rw[if_neg h0];exact⟨_,rfl,λt h=>by have h:fO o l ((L.2.2.1.1+k*fM L)*86400+L.2.2.1.2)=some t:=h;rw[h];rfl⟩
theorem U9{o:Int}{l:bT}(ht:jD o l){L:cg}(h:Rt L){t N:Int}(hN:N<=8589934592)(gQ:QO o l L t 0):∀n:Nat,(n:Int)<=N->
  ∃k:Int,AO t (n:Int) o l L.1 L.2.1 L.2.2.1.1 L.2.2.1.2 L.2.2.2.1 L.2.2.2.2.1 L.2.2.2.2.2.1 L.2.2.2.2.2.2.1 L.2.2.2.2.2.2.2.1 L.2.2.2.2.2.2.2.2=
   some (t,k,o,l,L.1,L.2.1,L.2.2.1.1,L.2.2.1.2,L.2.2.2.1,L.2.2.2.2.1,L.2.2.2.2.2.1,L.2.2.2.2.2.2.1,L.2.2.2.2.2.2.2.1,L.2.2.2.2.2.2.2.2)/\0<=k/\QO o l L t k
 |0,_=>by
  rw[Sz];simp only[j2y];rw[al (by omega),j6,aW];exact⟨_,rfl,by omega,gQ⟩
 |n+1,hn=>by
  obtain⟨k,e,k0,k1⟩:=U9 ht h hN gQ n (by omega);obtain⟨v,hH,hv⟩:=og ht h (k:=((n+1:Nat):Int)) (by omega) (by omega);rw[Sz];simp only[j2y];rw[aj (by omega),j5,show j1g (o,l) (L.1,L.2.1,(L.2.2.1.1,L.2.2.1.2),L.2.2.2.1,L.2.2.2.2.1,L.2.2.2.2.2.1,L.2.2.2.2.2.2.1,L.2.2.2.2.2.2.2.1,L.2.2.2.2.2.2.2.2) ((n+1:Nat):Int)=_ from hH];simp only[j3];rw[ai (x:=((n+1:Nat):Int)-1) (by omega) (by omega),show ((n+1:Nat):Int)-1=(n:Int) by omega];cases hx:hO o l L ((n+1:Nat):Int) with
  |none=>simp only[vp,j6,aJ];exact⟨k,e,k0,k1⟩
  |some x=>
   have:=hv x hx;subst this;simp only[zo,j5];by_cases hc:v<=t
   .rw[aj hc,j5,aW];exact⟨_,rfl,by omega,v,hx,hc⟩
   .rw[al hc,j6,aJ];exact⟨k,e,k0,k1⟩
theorem Va{o:Int}{l:bT}(ht:jD o l){L:cg}(h:Rt L){t:Int}:∀(n:Nat)(k:Int),k+n=2386093->0<=k->QO o l L t k->
  ∃K:Int,AP t k o l L.1 L.2.1 L.2.2.1.1 L.2.2.1.2 L.2.2.2.1 L.2.2.2.2.1 L.2.2.2.2.2.1 L.2.2.2.2.2.2.1 L.2.2.2.2.2.2.2.1 L.2.2.2.2.2.2.2.2=some K/\0<=K/\QO o l L t K/\¬QO o l L t (K+1)
 |0,k,hn,hk,hq=>by
  obtain⟨v,hv,_⟩:=hq;have:=Em ht h hk hv;omega
 |n+1,k,hn,hk,hq=>by
  obtain⟨v,hH,hv⟩:=og ht h (k:=k+1) (by omega) (by omega);rw[jhS];simp only[j33];rw[ai (x:=k+1) (by omega) (by omega),show j1g (o,l) (L.1,L.2.1,(L.2.2.1.1,L.2.2.1.2),L.2.2.2.1,L.2.2.2.2.1,L.2.2.2.2.2.1,L.2.2.2.2.2.2.1,L.2.2.2.2.2.2.2.1,L.2.2.2.2.2.2.2.2) (k+1)=_ from hH];simp only[j3];cases hx:hO o l L (k+1) with
  |none=>simp only[vp,k7,j5,aW];exact⟨k,rfl,hk,hq,λ⟨y,hy,_⟩=>by rw[hx]at hy;simp at hy⟩
  |some x=>
   have:=hv x hx;subst this;simp only[zo,jq,j6];by_cases hc:v>t
   .rw[aj hc,j5,aW];exact⟨k,rfl,hk,hq,λ⟨y,hy,FO⟩=>by rw[hx]at hy;simp at hy;omega⟩
   .rw[al hc,j6,aJ];exact Va ht h n (k+1) (by omega) (by omega) ⟨v,hx,by omega⟩
theorem jxg{o:Int}{l:bT}{L:cg}(h:Rt L){t v:Int}(h0:L.2.2.2.1=0)(xg:t<=8589934592)(hf:fO o l (ei L 0)=some v)(xf:v<=t)(hv0:0<=v) :
  kT o l L t ((t-v)/(3600*L.2.2.2.2.1))/\0<=(t-v)/(3600*L.2.2.2.2.1)/\(t-v)/(3600*L.2.2.2.2.1)<=8589934592:=by
 have xD:=h.e0;have U8:=h.e1;have q0:0<=(t-v)/(3600*L.2.2.2.2.1):=Int.ediv_nonneg (by omega) (by omega);have q1:3600*L.2.2.2.2.1*((t-v)/(3600*L.2.2.2.2.1))<=t-v:=Int.mul_ediv_self_le (by omega);have q2:t-v<3600*L.2.2.2.2.1*((t-v)/(3600*L.2.2.2.2.1))+3600*L.2.2.2.2.1:=Int.lt_mul_ediv_self_add (by omega);have q3:(t-v)/(3600*L.2.2.2.2.1)<=t-v:=Int.ediv_le_self _ (by omega);generalize (t-v)/(3600*L.2.2.2.2.1)=K at *;refine⟨.inr ⟨q0,⟨v+3600*L.2.2.2.2.1*K,?_,by omega⟩,?_⟩,q0,by omega⟩
 .unfold hO;rw[if_pos h0,hf];simp only[j3];rw[if_pos (by omega)]
 .rintro⟨y,hy,FO⟩
  unfold hO at hy;rw[if_pos h0,hf]at hy;simp only[j3,Int.mul_add,Int.mul_one]at hy;split at hy
  .simp at hy;omega
  .simp at hy
theorem jz7{o:Int}{l:bT}{L:cg}(h0:L.2.2.2.1=0){v:Int}(hv:hO o l L 0=some v):fO o l (ei L 0)=some v:=by
 unfold hO at hv;rw[if_pos h0]at hv;cases hf:fO o l (ei L 0) with
 |none=>rw[hf]at hv;simp at hv
 |some x=>
  rw[hf]at hv;simp only[j3,Int.mul_zero,Int.add_zero]at hv;split at hv
  .simpa using hv
  .simp at hv
theorem jBy{o:Int}{l:bT}(ht:jD o l){L:cg}(h:Rt L){t:Int}(h0t:0<=t)(xg:t<=8589934592):∃K:Int,j3v (o,l) L t=some K/\kT o l L t K:=by
 have hs:=h.step;have M6:=h.d0;have rC:=h.d1;have xD:=h.e0;have U8:=h.e1;obtain⟨v0,hH,hv⟩:=og ht h (k:=0) (by omega) (by omega);have dP:jb5 (L.1,L.2.1,(L.2.2.1.1,L.2.2.1.2),L.2.2.2.1,L.2.2.2.2.1,L.2.2.2.2.2.1,L.2.2.2.2.2.2.1,L.2.2.2.2.2.2.2.1,L.2.2.2.2.2.2.2.2)=_:=U7 h;simp only[j3v,show j1g (o,l) (L.1,L.2.1,(L.2.2.1.1,L.2.2.1.2),L.2.2.2.1,L.2.2.2.2.1,L.2.2.2.2.2.1,L.2.2.2.2.2.2.1,L.2.2.2.2.2.2.2.1,L.2.2.2.2.2.2.2.2) 0=_ from hH,dP,j3];cases hx:hO o l L 0 with
 |none=>simp only[vp,k7,j5];exact⟨-1,rfl,.inl ⟨rfl,λ⟨y,hy,_⟩=>by rw[hx]at hy;simp at hy⟩⟩
 |some v=>
  have:=hv v hx;subst this;simp only[zo,jq,j6];by_cases hc:v0>t
  .rw[aj hc,j5];exact⟨-1,rfl,.inl ⟨rfl,λ⟨y,hy,FO⟩=>by rw[hx]at hy;simp at hy;omega⟩⟩
  .rw[al hc,j6];have hq:QO o l L t 0:=⟨v0,hx,by omega⟩;have hva:=Em ht h (k:=0) (by omega) hx;by_cases h0:L.2.2.2.1=0
   .obtain⟨s1,s2,s3⟩:=jxg (o:=o) (l:=l) h h0 xg (jz7 h0 hx) (by omega) hva.1;rw[ee h0,j5,ai (x:=t-v0) (by omega) (by omega),ai (x:=3600*L.2.2.2.2.1) (by omega) (by omega),cP (show¬3600*L.2.2.2.2.1=0 by omega),zt (by omega),ai (x:=(t-v0)/(3600*L.2.2.2.2.1)) (by omega) (by omega)];exact⟨_,rfl,s1⟩
   .obtain⟨j,hj,j1,j2⟩:=DW ht h0t xg;have o0:=ht.of0 j hj;have o1:=ht.of1 j hj;rw[cP h0,j6,GP ht hj j1 j2];simp only[j3];generalize hld:(t+cI o l j)/86400=ld;rw[cP (show¬fM L=0 by omega),ai (x:=ld-L.2.2.1.1) (by omega) (by omega)];simp only[k7,j5]
    obtain⟨n,hn,MP⟩:∃n:Nat,(if w64 (Int.tdiv (ld-L.2.2.1.1) (fM L))>0 then w64 (Int.tdiv (ld-L.2.2.1.1) (fM L)) else 0)=(n:Int)/\(n:Int)<=8589934592:=by
     by_cases kU:0<=ld-L.2.2.1.1
     .rw[zt kU];have q0:0<=(ld-L.2.2.1.1)/fM L:=Int.ediv_nonneg kU (by omega);have q1:(ld-L.2.2.1.1)/fM L<=ld-L.2.2.1.1:=Int.ediv_le_self _ kU;rw[ai (by omega) (by omega)];refine⟨((ld-L.2.2.1.1)/fM L).toNat,?_,?_⟩
      .split<;>omega
      .omega
     .have e:Int.tdiv (ld-L.2.2.1.1) (fM L) = -((-(ld-L.2.2.1.1))/fM L):=by rw[<-zt (by omega),Int.neg_tdiv,Int.neg_neg]
      have q0:0<=(-(ld-L.2.2.1.1))/fM L:=Int.ediv_nonneg (by omega) (by omega);have q1:(-(ld-L.2.2.1.1))/fM L <= -(ld-L.2.2.1.1):=Int.ediv_le_self _ (by omega);rw[e,ai (by omega) (by omega),if_neg (by omega)];exact⟨0,rfl,by omega⟩
    rw[hn];obtain⟨k,e,k0,k1⟩:=U9 ht h (kg _) hq n MP;have Bj:=k1;obtain⟨y,hy,_⟩:=Bj;have ca:=Em ht h k0 hy;obtain⟨K,e2,K0,K1,K2⟩:=Va ht h (t:=t) (2386093-k).toNat k (by omega) k0 k1;simp only[e,j3,e2];exact⟨K,rfl,.inr ⟨K0,K1,K2⟩⟩
end Go.Proofs.Pw
