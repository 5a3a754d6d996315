/- The NM, edits and eR that the dice make are right. -/
import Derived.Test.YtaieocafhcjelaaGreatCPD
import Derived.Test.YtaieocafhcjelaaGreatCPC
import Derived.Test.YtaieocafhcjelaaGreatCPA
open Go Go.Lft
namespace Go.Proofs.Pw
theorem NN{L:List Int}{zs:List bU}{ps:List dH}{cs:List bt}{ss:List cS}(pC:1<=ps.length)(tG:ps.length<=100){x0 y0:ByteArray}{x1 x2 x3 x4 x5 x6 x7 y1 y2 y3 y4 y5 y6 y7:Int}:∀(n:Nat)(a:Int)(ms:List Int),du L a->ms.length+n<=4->(∀m∈ms,0<=m/\m<(ps.length:Int))->
  ∃D9 a',CR (n:Int) L a zs ps cs ss x0 x1 x2 x3 x4 x5 x6 x7 y0 y1 y2 y3 y4 y5 y6 y7 ms=some (L,a',zs,ps,cs,ss,x0,x1,x2,x3,x4,x5,x6,x7,y0,y1,y2,y3,y4,y5,y6,y7,D9)/\D9.length=ms.length+n/\(∀m∈D9,0<=m/\m<(ps.length:Int))/\du L a'
 |0,a,ms,hd,_,hm=>by
  rw[To];simp only[j3R];rw[ah (by omega),j6,aU];exact⟨ms,a,rfl,rfl,hm,hd⟩
 |n+1,a,ms,hd,hl,hm=>by
  obtain⟨x,a1,e1,x0',x1',d1⟩:=cO (n:=(ps.length:Int)) hd (by omega) (by omega);rw[To];simp only[j3R,show Int.ofNat (List.length ps)=(ps.length:Int) from rfl];rw[ag (by omega),aj (x:=((n+1:Nat):Int)-1) (by omega) (by omega),show ((n+1:Nat):Int)-1=(n:Int) by omega];simp only[j5,e1,j3];rw[ag (by simp[aY];omega)];simp only[j5,aJ]
  obtain⟨D9,a',e,h1,h2,h3⟩:=NN (zs:=zs) (cs:=cs) (ss:=ss) pC tG (x0:=x0) (x1:=x1) (x2:=x2) (x3:=x3) (x4:=x4) (x5:=x5) (x6:=x6) (x7:=x7) (y0:=y0) (y1:=y1) (y2:=y2) (y3:=y3) (y4:=y4) (y5:=y5) (y6:=y6) (y7:=y7) n a1 (ms++[x]) d1 (by simp;omega) (λm h=>by
   rcases jn.1 h with h|h
   .exact hm m h
   .simp at h;subst h;exact⟨x0',x1'⟩)
  exact⟨D9,a',e,by rw[h1];simp;omega,h2,h3⟩
theorem jyU{L:List Int}{a:Int}(h:du L a){zs:List bU}{ps:List dH}{cs:List bt}{ss:List cS}(hs:D1 zs ps cs)(nm:ByteArray) :
  ∃l a',jab L a (zs,(ps,(cs,ss))) nm=some (l,L,a')/\NH l/\eD zs.length ps.length cs.length l/\l.1=nm/\du L a':=by
 have pW:=hs.z0;have rD:=hs.z1;have pC:=hs.p0;have tG:=hs.p1;have fi:=hs.c1;obtain⟨z,a1,e1,z0,z1,d1⟩:=cO (n:=(zs.length:Int)) h (by omega) (by omega);obtain⟨x,a2,e2,x0,x1,d2⟩:=cO (n:=6) d1 (by omega) (by omega);obtain⟨s,a3,e3,m3,d3⟩:=mr d2 (xs:=[(0:Int),(32400:Int),(7200:Int),(9000:Int),(79200:Int),(1:Int)]) (by simp) (by simp);obtain⟨u,a4,e4,u0,u1,d4⟩:=cO (n:=3) d3 (by omega) (by omega);obtain⟨v,a5,e5,v0,v1,d5⟩:=cO (n:=2) d4 (by omega) (by omega);have dx:0<=s/\s<=79200:=by simp at m3;omega
 simp only[jab,show Int.ofNat (List.length zs)=(zs.length:Int) from rfl,e1,e2,e3,e4,e5,j3];rw[aj (x:=20454+x) (by omega) (by omega),aj (x:=20454+x-2) (by omega) (by omega),aj (x:=1+v) (by omega) (by omega)]
 have fin:∀(ev:Int),1<=ev->ev<=49->(u≠0->ev<=2)->∀ms:List Int,1<=ms.length->ms.length<=3->(∀m∈ms,0<=m/\m<(ps.length:Int))->∀(w:WL),gW 0 w->w.length<=3->∀(c m:Int),0<=m->m<=2->(m≠0->0<=c/\c<(cs.length:Int))->(m=0->c=0)->∀(a':Int),du L a'->
   ∃l uV,some ((nm,(z,((20454+x-2,s),(u,(ev,(ms,(w,(c,m)))))))),L,a')=some (l,L,uV)/\NH l/\eD zs.length ps.length cs.length l/\l.1=nm/\du L uV:=
  λev h1 h2 h3 ms h4 h5 er w hw jH c m mv eZ PL hmz a' hd=>⟨_,_,rfl,⟨by dsimp only;omega,by dsimp only;omega,dx.1,dx.2,u0,by dsimp only;omega,h1,h2,h3,h4,h5⟩,
   ⟨z0,z1,by dsimp only;omega,NJ (by dsimp only;omega) (by dsimp only;omega),dx.1,by dsimp only;omega,u0,by dsimp only;omega,h1,by dsimp only;omega,by dsimp only;omega,by dsimp only;omega,er,hw,by dsimp only;omega,mv,eZ,PL,hmz⟩,rfl,hd⟩
 have rest:∀(ev:Int),1<=ev->ev<=49->(u≠0->ev<=2)->∀(ms:List Int),1<=ms.length->ms.length<=3->(∀m∈ms,0<=m/\m<(ps.length:Int))->∀(w:WL),gW 0 w->w.length<=3->∀(a9:Int),du L a9->
   ∃l uV,((j1s L a9 4).bind λr=>cond (cond r.1 (decide ((cs.length:Int)>0)) false) ((j06 r.2.1 r.2.2 (cs.length:Int)).bind λNO=>(j06 NO.2.1 NO.2.2 2).bind λNP=>some ((nm,(z,((20454+x-2,s),(u,(ev,(ms,(w,(NO.1,w64 (1+NP.1))))))))),NP.2.1,NP.2.2))
    (some ((nm,(z,((20454+x-2,s),(u,(ev,(ms,(w,((0:Int),(0:Int))))))))),r.2.1,r.2.2)))=some (l,L,uV)/\NH l/\eD zs.length ps.length cs.length l/\l.1=nm/\du L uV:=by
  intro ev h1 h2 h3 ms h4 h5 er w hw jH a9 d9;obtain⟨c,a11,e11,d11⟩:=Au (n:=4) d9 (by omega) (by omega);simp only[e11,j3];by_cases vR:c=true/\(cs.length:Int)>0
  .obtain⟨i,a12,JY,i0,i1,d12⟩:=cO (n:=(cs.length:Int)) d11 (by omega) (by omega);obtain⟨j,a13,e13,j0,j1,d13⟩:=cO (n:=2) d12 (by omega) (by omega);rw[vR.1,ag vR.2];simp only[j5,JY,e13,j3,aj (x:=1+j) (show -9223372036854775808<=_ by omega) (by omega)];exact fin ev h1 h2 h3 ms h4 h5 er w hw jH i (1+j) (by omega) (by omega) (λ_=>⟨i0,i1⟩) (λhh=>by omega) _ d13
  .have iG:cond c (decide ((cs.length:Int)>0)) false=false:=by
    cases c with
    |true=>exact ah (λh=>vR ⟨rfl,h⟩)
    |false=>rfl
   rw[iG];simp only[j6];exact fin ev h1 h2 h3 ms h4 h5 er w hw jH 0 0 (by omega) (by omega) (λhh=>absurd rfl hh) (λ_=>rfl) _ d11
 have Ea:gW 0 ([]:WL):=show (0:Int)<=604800 by omega
 by_cases hu:u=0
 .rw[cP hu,j5];obtain⟨ev,a6,e6,m6,d6⟩:=mr d5 (xs:=[(6:Int),(8:Int),(12:Int),(24:Int),(23:Int),(49:Int)]) (by simp) (by simp);have oG:1<=ev/\ev<=49:=by simp at m6;omega
  obtain⟨n,a7,e7,n0,n1,d7⟩:=cO (n:=3) d6 (by omega) (by omega);obtain⟨ms,a8,e8,l8,k8,d8⟩:=NN (L:=L) (zs:=zs) (ps:=ps) (cs:=cs) (ss:=ss) pC (by omega) (x0:=ByteArray.empty) (x1:=0) (x2:=0) (x3:=0) (x4:=0) (x5:=0) (x6:=0) (x7:=0) (y0:=nm) (y1:=z) (y2:=20454+x-2) (y3:=s) (y4:=u) (y5:=ev) (y6:=0) (y7:=0) (1+n).toNat a7 [] d7 (by simp;omega) (by simp);rw[show (((1+n).toNat:Nat):Int)=1+n by omega]at e8;simp at l8;obtain⟨b,a9,e9,d9⟩:=Au (n:=2) d8 (by omega) (by omega);simp only[e6,e7,j3];rw[aj (x:=1+n) (by omega) (by omega)];simp only[e8,e9,j3,show Int.ofNat (List.length cs)=(cs.length:Int) from rfl];cases b with
  |true=>obtain⟨w,NQ,NR,hw,jH,d10⟩:=NF d9;simp only[j5,NR,j3];exact rest ev oG.1 oG.2 (λh=>absurd hu h) ms (by omega) (by omega) k8 w hw jH NQ d10
  |false=>simp only[j6];exact rest ev oG.1 oG.2 (λh=>absurd hu h) ms (by omega) (by omega) k8 [] Ea (by simp) a9 d9
 .rw[bW hu,j6];obtain⟨n,a7,e7,n0,n1,d7⟩:=cO (n:=3) d5 (by omega) (by omega);obtain⟨ms,a8,e8,l8,k8,d8⟩:=NN (L:=L) (zs:=zs) (ps:=ps) (cs:=cs) (ss:=ss) pC (by omega) (x0:=ByteArray.empty) (x1:=0) (x2:=0) (x3:=0) (x4:=0) (x5:=0) (x6:=0) (x7:=0) (y0:=nm) (y1:=z) (y2:=20454+x-2) (y3:=s) (y4:=u) (y5:=1+v) (y6:=0) (y7:=0) (1+n).toNat a7 [] d7 (by simp;omega) (by simp);rw[show (((1+n).toNat:Nat):Int)=1+n by omega]at e8;simp at l8;obtain⟨b,a9,e9,d9⟩:=Au (n:=2) d8 (by omega) (by omega);simp only[e7,j3];rw[aj (x:=1+n) (by omega) (by omega)];simp only[e8,e9,j3,show Int.ofNat (List.length cs)=(cs.length:Int) from rfl];cases b with
  |true=>obtain⟨w,NQ,NR,hw,jH,d10⟩:=NF d9;simp only[j5,NR,j3];exact rest (1+v) (by omega) (by omega) (λ_=>by omega) ms (by omega) (by omega) k8 w hw jH NQ d10
  |false=>simp only[j6];exact rest (1+v) (by omega) (by omega) (λ_=>by omega) ms (by omega) (by omega) k8 [] Ea (by simp) a9 d9
theorem jCp{L:List Int}{a:Int}(h:du L a){zs:List bU}{ps:List dH}{cs:List bt}{ss:List cS}(pC:1<=ps.length)(tG:ps.length<=4) :
  ∃x a',jbv L a (zs,(ps,(cs,ss)))=some (x,L,a')/\nS ps.length x/\du L a':=by
 obtain⟨k,a1,e1,k0,k1,d1⟩:=cO (n:=3) h (by omega) (by omega);obtain⟨p,a2,e2,p0,p1,d2⟩:=cO (n:=(ps.length:Int)) d1 (by omega) (by omega);obtain⟨t,a3,e3,t0,t1,d3⟩:=Vp d2;obtain⟨y,a4,e4,m4,d4⟩:=mr d3 (xs:=[(3600:Int),(86400:Int),(7:Int),(259200:Int),(40000:Int)]) (by simp) (by simp);have hy:7<=y/\y<=259200:=by simp at m4;omega
 have nT:j17 (Int.tdiv (t+y) 86400)=some true:=by rw[sW (by omega)];exact NJ (by omega) (by omega)
 simp only[jbv,show Int.ofNat (List.length ps)=(ps.length:Int) from rfl,e1,e2,e3,e4,j3];rw[aj (x:=t+y) (by omega) (by omega)]
 have fin:∀(kd A B:Int),0<=kd->kd<=2->(0<=A/\A<(ps.length:Int)\/kd=1/\A = -1)->(kd=2->0<=B/\B<(ps.length:Int)/\A≠B)->(kd≠2->B=0)->∀a',du L a'->∃x uV,some ((kd,(A,(B,(t,t+y)))),L,a')=some (x,L,uV)/\nS ps.length x/\du L uV:=
  λkd A B h1 h2 h3 h4 h5 a' hd=>⟨_,_,rfl,⟨h1,h2,h3,h4,h5,by dsimp only;omega,by dsimp only;omega,by dsimp only;omega,nT⟩,hd⟩
 by_cases h2:k=2
 .rw[cP h2,j5];by_cases hn:(ps.length:Int)<2
  .rw[ag hn,j5];exact fin 0 p 0 (by omega) (by omega) (.inl ⟨p0,p1⟩) (λhh=>by omega) (λ_=>rfl) _ d4
  .rw[ah hn,j6,aj (x:=(ps.length:Int)-1) (by omega) (by omega)];obtain⟨q,a5,e5,q0,q1,d5⟩:=cO (n:=(ps.length:Int)-1) d4 (by omega) (by omega);simp only[e5,j3];rw[aj (x:=p+1) (by omega) (by omega),aj (x:=p+1+q) (by omega) (by omega),bW (show¬(ps.length:Int)=0 by omega),bW (show¬k=1 by omega),Ao (by omega)];simp only[jt,j5,j6];have b0:0<=(p+1+q)%(ps.length:Int):=Int.emod_nonneg _ (by omega);have b1:(p+1+q)%(ps.length:Int)<(ps.length:Int):=Int.emod_lt_of_pos _ (by omega)
   have bq:p≠(p+1+q)%(ps.length:Int):=by
    by_cases hb:p+1+q<(ps.length:Int)
    .rw[Int.emod_eq_of_lt (by omega) hb];omega
    .rw[<-Int.sub_emod_right,Int.emod_eq_of_lt (by omega) (by omega)];omega
   exact fin k p _ k0 (by omega) (.inl ⟨p0,p1⟩) (λ_=>⟨b0,b1,bq⟩) (λhh=>absurd h2 hh) _ d5
 .rw[bW h2,j6];by_cases h1:k=1
  .rw[cP h1,j5];obtain⟨b,a5,e5,d5⟩:=Au (n:=4) d4 (by omega) (by omega);simp only[e5,j3];cases b with
   |true=>exact fin k (-1) 0 k0 (by omega) (.inr ⟨h1,rfl⟩) (λhh=>absurd hh h2) (λ_=>rfl) _ d5
   |false=>exact fin k p 0 k0 (by omega) (.inl ⟨p0,p1⟩) (λhh=>absurd hh h2) (λ_=>rfl) _ d5
  .rw[bW h1,j6];exact fin k p 0 k0 (by omega) (.inl ⟨p0,p1⟩) (λhh=>absurd hh h2) (λ_=>rfl) _ d4
theorem VI{L:List Int}{s6:Int}{nm:ByteArray}{zs:List bU}{ps:List dH}{cs:List bt}{ss:List cS}(hs:D1 zs ps cs):∀(n:Nat)(a:Int)(ls:List bP),du L a->ls.length+n<=3->(∀x∈ls,eD zs.length ps.length cs.length x)->ls.map (·.1)=fJ.take ls.length->
  ∃fX a',CS s6 (n:Int) L a zs ps cs nm ss ls=some (s6,L,a',zs,ps,cs,nm,ss,fX)/\fX.length<=3/\(∀x∈fX,eD zs.length ps.length cs.length x)/\fX.map (·.1)=fJ.take fX.length/\du L a'
 |0,a,ls,hd,hl,hk,hn=>by
  rw[Tp];simp only[j3t];rw[ah (by omega),j6,aU];exact⟨ls,a,rfl,by omega,hk,hn,hd⟩
 |n+1,a,ls,hd,hl,hk,hn=>by
  have cd:ls.length<fJ.length:=by show ls.length<8;omega
  obtain⟨l,a1,e1,_,l2,l3,d1⟩:=jyU (ss:=ss) hd hs (fJ.getD ls.length ByteArray.empty);rw[Tp];simp only[j3t,VD,j3,show Int.ofNat (List.length ls)=(ls.length:Int) from rfl];rw[ag (by omega),aR (show (0:Int)<=(ls.length:Int) by omega) (by omega),aj (x:=((n+1:Nat):Int)-1) (by omega) (by omega),show ((n+1:Nat):Int)-1=(n:Int) by omega];simp only[j5,j7,e1,j3];rw[ag (by simp[aY];omega)];simp only[j5,aJ]
  exact VI hs n a1 (ls++[l]) d1 (by simp;omega) (λx hx=>by
   rcases jn.1 hx with h|h
   .exact hk x h
   .simp at h;subst h;exact l2) (by
   rw[zq,hn,ja,ku,List.map_nil,l3];exact GU cd)
theorem VJ{L:List Int}{s6:Int}{nm:ByteArray}{zs:List bU}{ps:List dH}{cs:List bt}{ss:List cS}{ls:List bP}(hs:D1 zs ps cs):∀(n:Nat)(a:Int)(es:List dE),du L a->es.length+n<=3->(∀x∈es,nS ps.length x)->
  ∃tZ a',F1 s6 (n:Int) L a zs ps cs nm ss ls es=some (s6,L,a',zs,ps,cs,nm,ss,ls,tZ)/\tZ.length<=3/\(∀x∈tZ,nS ps.length x)/\du L a'
 |0,a,es,hd,hl,hk=>by
  rw[Tq];simp only[j3u];rw[ah (by omega),j6,aU];exact⟨es,a,rfl,by omega,hk,hd⟩
 |n+1,a,es,hd,hl,hk=>by
  obtain⟨x,a1,e1,x1,d1⟩:=jCp (zs:=zs) (cs:=cs) (ss:=ss) hd hs.p0 hs.p1;rw[Tq];simp only[j3u];rw[ag (by omega),aj (x:=((n+1:Nat):Int)-1) (by omega) (by omega),show ((n+1:Nat):Int)-1=(n:Int) by omega];simp only[j5,e1,j3];rw[ag (by simp[aY];omega)];simp only[j5,aJ]
  exact VJ hs n a1 (es++[x]) d1 (by simp;omega) (λy hy=>by
   rcases jn.1 hy with h|h
   .exact hk y h
   .simp at h;subst h;exact x1)
theorem jDE{zs:List bU}{ps:List dH}{cs:List bt}{ss:List cS}(hs:fK zs ps cs)(h0:ss.length<=12)(h1:ez (ss.map (·.1)))(h2:∀s∈ss,qK zs.length ps.length cs.length s):uU (zs,(ps,(cs,ss))):=by
 have rD:=hs.so.z1;have tG:=hs.so.p1;have fi:=hs.so.c1;exact⟨by dsimp only;rw[hs.z.nm];exact jCk.take _,hs.z.ck,by dsimp only;omega,by dsimp only;rw[hs.p.nm];exact VE.take _,hs.p.ck,by dsimp only;omega,hs.c.nm,hs.c.ck,by dsimp only;omega,h1,h2,h0⟩
structure nU(o:Int)(l:bE)(s t:Int)(k:Nat):Prop where
 hk:k<=l.length
 hks:s-bB o l k<bc l (k+1)
 bef:∀j,j<k->bc l (j+1)<=s-bB o l j
 ht:t=max (bc l k) (s-bB o l k)
def VK(o:Int)(l:bE):Prop:=∀i,i<l.length -> -86400<bB o l (i+1)-bB o l i/\bB o l (i+1)-bB o l i<86400
section
variable{o:Int}{l:bE}(h:iq o l)
include h
theorem nU.piece{s t:Int}{k:Nat}(f:nU o l s t k):bc l k<=t/\t<bc l (k+1)/\s<=t+bB o l k:=by
 have h1:=h.frm_lt f.hk;have h2:=f.hks;have h3:=f.ht;omega
end
noncomputable def Eb(o:Int)(l:bE)(s:Int):Int:=open Classical in if h:∃t k,nU o l s t k then Classical.choose h else 0
def cZ(L:bP):Int:=if L.2.2.2.1=2 then 7*L.2.2.2.2.1 else L.2.2.2.2.1
def cM(L:bP)(k:Int):Int:=(L.2.2.1.1+k*cZ L)*86400+L.2.2.1.2
noncomputable def wj(o:Int)(l:bE)(L:bP)(k:Int):Int:=if L.2.2.2.1=0 then Eb o l (cM L 0)+3600*L.2.2.2.2.1*k else Eb o l (cM L k)
structure LR(L:bP):Prop where
 d0:100<=L.2.2.1.1
 d1:L.2.2.1.1<=30000
 c0:0<=L.2.2.1.2
 c1:L.2.2.1.2<=86399
 u0:0<=L.2.2.2.1
 u1:L.2.2.2.1<=2
 e0:1<=L.2.2.2.2.1
 e1:L.2.2.2.2.1<=49
 m0:1<=L.2.2.2.2.2.1.length
 m1:L.2.2.2.2.2.1.length<=1000
theorem juN(y:Int):j2n y=some (sZ y):=UU y
theorem GV(y m:Int):jg1 y m=some (fc y m):=by
 by_cases h:m<1\/12<m
 .have hk:∀k:Int,1<=k->k<=12->(m==k)=false:=λk h1 h2=>bW (by omega);have:fc y m=0:=if_pos h;rw[this]
  simp only[jg1,hk 1 (by omega) (by omega),hk 2 (by omega) (by omega),hk 3 (by omega) (by omega),hk 4 (by omega) (by omega),hk 5 (by omega) (by omega),hk 6 (by omega) (by omega),hk 7 (by omega) (by omega),
   hk 8 (by omega) (by omega),hk 9 (by omega) (by omega),hk 10 (by omega) (by omega),hk 11 (by omega) (by omega),hk 12 (by omega) (by omega),j6]
 .obtain rfl|rfl|rfl|rfl|rfl|rfl|rfl|rfl|rfl|rfl|rfl|rfl:m=1\/m=2\/m=3\/m=4\/m=5\/m=6\/m=7\/m=8\/m=9\/m=10\/m=11\/m=12:=by omega
  case inr.inl=>have e:jg1 y 2=(j2n y).bind λr=>cond r (some (29:Int)) (some (28:Int)):=rfl;rw[e,juN,fc,US];simp only[j3];cases sZ y<;>rfl
  all_goals rfl
theorem jto(y m d:Int):jkD (y,m,d)=some (decide (s7 y m d)):=by
 simp only[jkD,GV,j3];by_cases hv:s7 y m d
 .have hm:=Nq hv;have gm:=hv;obtain⟨a1,a2,a3,a4⟩:=hv;rw[ag (show y>=1970 from a1),ag a2,ag (show m>=1 from hm.1),ag hm.2,ag (show d>=1 from a3),ag a4,ag gm];rfl
 .rw[ah hv];by_cases a1:y>=1970
  .by_cases a2:y<=2240
   .by_cases a3:m>=1
    .by_cases a4:m<=12
     .by_cases a5:d>=1
      .rw[ag a1,ag a2,ag a3,ag a4,ag a5,ah (show¬d<=fc y m fromλh=>hv ⟨a1,a2,a5,h⟩)];rfl
      .rw[ag a1,ag a2,ag a3,ag a4,ah a5];rfl
     .rw[ag a1,ag a2,ag a3,ah a4];rfl
    .rw[ag a1,ag a2,ah a3];rfl
   .rw[ag a1,ah a2];rfl
  .rw[ah a1];rfl
theorem juO(y:Int)(h1:1969<=y)(h2:y<=1000000000):jkE y=some (hQ y):=by
 simp only[jkE];rw[aj (x:=y-1970) (by omega) (by omega),aj (x:=y-1969) (by omega) (by omega),aj (x:=y-1901) (by omega) (by omega),aj (x:=y-1601) (by omega) (by omega)];rw[sW (show 0<=y-1969 by omega),sW (show 0<=y-1901 by omega),sW (show 0<=y-1601 by omega)];simp (disch:=omega) only[aj];congr 1;unfold hQ;omega
theorem VL(y m d:Int)(hm:m<=13):∀(n:Nat)(s k:Int),1<=k->k+n=m -> -1000000000000<=s->s+31*n<=1000000000000->F9 s k y m d=some (s+kA y m-kA y k,y,m,d)
 |0,s,k,hk,hn,_,_=>by
  rw[TH];have:k=m:=by omega
  subst this;simp only[j8b,ah (show¬k<k by omega),j6,aU];congr 2;omega
 |n+1,s,k,hk,hn,h1,h2=>by
  rw[TH];have hd:=qH y k;have hc:=Nl y k hk (by omega);simp only[j8b,GV,j3,ag (show k<m by omega),j5,aJ];rw[aj (x:=s+fc y k) (by omega) (by omega),aj (x:=k+1) (by omega) (by omega)];rw[VL y m d hm n (s+fc y k) (k+1) (by omega) (by omega) (by omega) (by omega)];congr 2;omega
theorem fH{y m d:Int}(hv:s7 y m d):jqK (y,m,d)=some (num y m d,0):=by
 have hm:=Nq hv;have hd:=qH y m;have hb : -1000000000<=hQ y/\hQ y<=1000000000:=by have:=hv.1;have:=hv.2.1;unfold hQ;omega
 have hc:=UT y m;obtain⟨h1,h2,h3,h4⟩:=id hv;simp only[jqK,jto,ag hv,j3,ji,j6,juO y (by omega) (by omega),VL y m d (by omega) (m-1).toNat (hQ y) 1 (by omega) (by omega) (by omega) (by omega)];have:kA y 1=0:=rfl;rw[aj (x:=hQ y+kA y m-kA y 1+d) (by omega) (by omega),aj (by omega) (by omega)];unfold num;congr 2;omega
theorem VM(d:Int):jg2 d=j6Z d:=rfl
theorem VN(y m k w n e:Int)(ox:0<=n)(xT:n<=1000000)(NS:e<=6)(GW:(n+e+3)%7=w) :
  ∀(j:Nat)(s:Int),0<=s->s+j=e->Ga y m k w n (n+s)=some (y,m,k,n,n+e)
 |0,s,hs,hj=>by
  rw[TI];have:s=e:=by omega
  subst this;have hb:((n+s+3)%7 != w)=false:=by simp[GW]
  simp only[j8c,VM,GM (n+s) (by omega),j3,hb,j6,aU]
 |j+1,s,hs,hj=>by
  rw[TI];have hb:((n+s+3)%7 != w)=true:=by simp only[bne_iff_ne,ne_eq];omega
  simp only[j8c,VM,GM (n+s) (by omega),j3,hb,j5,aJ];rw[aj (x:=n+s+1) (by omega) (by omega),show n+s+1=n+(s+1) by omega];exact VN y m k w n e ox xT NS GW j (s+1) (by omega) (by omega)
theorem NU(y m n t:Int)(ox:0<=n)(xT:n<=1000000)(NI:t<n+fc y m)(ht2:n+fc y m<=t+7)(tc : -1000<=t) :
  ∀(j:Nat)(s:Int),s+7*j=t -> -1000<=s->Gb y m n s=some t
 |0,s,hs,_=>by
  have hd:=qH y m;rw[TJ];have:s=t:=by omega
  subst this;simp only[j8d,GV,j3];rw[aj (x:=s+7) (by omega) (by omega),aj (x:=n+fc y m) (by omega) (by omega),ah (show¬s+7<n+fc y m by omega),j6,aU]
 |j+1,s,hs,h1=>by
  have hd:=qH y m;rw[TJ];simp only[j8d,GV,j3];rw[aj (x:=s+7) (by omega) (by omega),aj (x:=n+fc y m) (by omega) (by omega),ag (show s+7<n+fc y m by omega),j5,aJ];exact NU y m n t ox xT NI ht2 tc j (s+7) (by omega) (by omega)
theorem fI(y m k w:Int)(h1:1970<=y)(h2:y<=2240)(eZ:1<=m)(ik:m<=12)(dj:1<=k)(eW:k<=5)(Ih:0<=w)(J5:w<=6):jqL y m k w=some (nth y m k w,0):=by
 have hv:=DU y m h1 h2 eZ ik;have hr:=DT hv;have hd:=DS y m eZ ik;have kJ:=qH y m;simp only[jqL,fH hv,j3,jj];rw[ah (show¬k<1 by omega),ah (show¬k>5 by omega),ah (show¬w<0 by omega),ah (show¬w>6 by omega)];simp only[j6];unfold nth;generalize num y m 1=n at *;obtain⟨e,rC,NS,GW,hee⟩:∃e,0<=e/\e<=6/\(n+e+3)%7=w/\n+(w-(n+3)%7+7)%7=n+e:=⟨(w-(n+3)%7+7)%7,by omega,by omega,by omega,rfl⟩;rw[hee];have hl:=VN y m k w n e hr.1 (by omega) NS GW e.toNat 0 (by omega) (by omega);rw[Int.add_zero]at hl;simp only[hl,j3];by_cases hk:k<5
 .rw[ag hk,j5,aj (x:=k-1) (by omega) (by omega),aj (x:=7*(k-1)) (by omega) (by omega),aj (by omega) (by omega),if_neg (by omega)]
 .have pS:k=5:=by omega
  subst pS;rw[ah hk,j6];by_cases hc:n+e+7*(5-1)>=n+fc y m
  .rw[NU y m n (n+e+21) hr.1 (by omega) (by omega) (by omega) (by omega) 3 (n+e) (by omega) (by omega),if_pos hc];simp only[j3];congr 2;omega
  .rw[NU y m n (n+e+28) hr.1 (by omega) (by omega) (by omega) (by omega) 4 (n+e) (by omega) (by omega),if_neg hc];simp only[j3];congr 2
theorem mw{n lo hi:Int}(h1:lo<=n)(h2:n<=hi):jb2 n lo hi=some true:=by
 simp only[jb2];rw[ag (show n>=lo from h1),ag h2];rfl
theorem jDF{n lo hi:Int}(h:¬(lo<=n/\n<=hi)):jb2 n lo hi=some false:=by
 simp only[jb2];by_cases h1:n>=lo
 .rw[ag h1,ah (λh2=>h ⟨h1,h2⟩)];rfl
 .rw[ah h1];rfl
theorem jwT{r:aO}(h:jM r):jhC r=some true:=by
 simp only[jhC,mw h.y0 (show r.1<=2240 by have:=h.y1;have:=h.y2;omega),mw h.y1 h.y2,mw h.m0 h.m1,mw h.k0 h.k1,mw h.d0 h.d1,mw h.s0 h.s1,mw h.o0 h.o1,j3,j5]
theorem VO(x:Int×Int):∀l:bE,jZ x l=l.takeWhile (λy=>decide (x.1<y.1))++x::l.dropWhile (λy=>decide (x.1<y.1))
 |[]=>rfl
 |y::ys=>by
  unfold jZ;by_cases h:x.1<y.1
  .rw[if_pos h,VO x ys];simp[h]
  .rw[if_neg h];simp[h]
theorem VP{rs:List aO}{i y a b:Int}:∀(rp mid:bE),rp.length+mid.length<=100000->
  C3 rs i y (rp.length:Int) a b (rp.reverse++mid)=some (rs,i,y,((rp.dropWhile (λz=>decide (a<z.1))).length:Int),a,b,rp.reverse++mid)
 |[],mid,_=>by
  rw[TK];simp only[j3V];rw[ah (by simp),j6,aU];rfl
 |z::zs,mid,hl=>by
  have hL:((z::zs).reverse++mid).length=zs.length+1+mid.length:=by simp;omega
  simp only[jm]at hl;have g2:((z::zs).reverse++mid).getD ((((zs.length+1:Nat):Int)-1).toNat) ((0:Int),(0:Int))=z:=by rw[show (((zs.length+1:Nat):Int)-1).toNat=zs.length by omega];simp
  rw[TK];simp only[j3V,jm];simp only[aj (x:=((zs.length+1:Nat):Int)-1) (by omega) (by omega),g2];rw[ag (show ((zs.length+1:Nat):Int)>0 by omega),aR (by omega) (by rw[hL];omega)];simp only[j5];by_cases hc:a<z.1
  .rw[ag (show z.1>a from hc)];simp only[j5,aJ];have ih:=VP (rs:=rs) (i:=i) (y:=y) (a:=a) (b:=b) zs (z::mid) (by simp;omega);have e:(z::zs).reverse++mid=zs.reverse++z::mid:=by simp
   rw[e,show ((zs.length+1:Nat):Int)-1=(zs.length:Int) by omega,ih];simp[hc]
  .rw[ah (show¬z.1>a from hc)];simp only[j6,aU];simp[hc]
theorem jAC(l:bE)(x:Int×Int){k:Nat}(hk:k<=l.length):List.set (over (l++[x]) (k+1) (List.drop k (l++[x]))) k x=l.take k++x::l.drop k:=by
 have h1:(l++[x]).length=l.length+1:=by simp
 unfold over;rw[h1,jf (show (l++[x]).length<=k+1+(List.drop k (l++[x])).length by simp;omega),k7];have e1:List.drop k (l++[x])=List.drop k l++[x]:=by rw[List.drop_append_of_le_length hk]
 rw[e1];have e2:List.take (l.length+1-(k+1)) (List.drop k l++[x])=List.drop k l:=by rw[qv (by simp),List.take_of_length_le (by simp)]
 rw[e2];by_cases h:k<l.length
 .have e3:List.take (k+1) (l++[x])=l.take k++[l[k]]:=by rw[qv (by omega),List.take_succ_eq_append_getElem h]
  rw[e3,jd,zd _ _ (by simp;omega)];simp[Nat.min_eq_left hk]
 .have br:k=l.length:=by omega
  subst br;have e3:List.take (l.length+1) (l++[x])=l++[x]:=List.take_of_length_le (by simp);rw[e3];simp
theorem VQ{rs:List aO}{i:Nat}(hi:i<rs.length){r:aO}(hr:rs[i]=r)(h:jM r):∀(n j:Nat)(acc:bE),r.1+(j:Int)+n=r.2.1+1->acc.length+n<=90000->
  Gc rs (i:Int) (r.1+(j:Int)) acc.reverse=some (rs,(i:Int),(iP ((List.range n).map λ(q:Nat)=>cB r (r.1+(j:Int)+(q:Int))) acc).reverse)
 |0,j,acc,hj,_=>by
  have hg:rs.getD i ((0:Int),((0:Int),((0:Int),((0:Int),((0:Int),((0:Int),(0:Int)))))))=r:=by simp[hi,hr]
  rw[TL];simp only[j3W];rw[aR (by omega) (by omega)];simp only[j5,j7,hg];rw[ah (by omega),j6,aU];rfl
 |n+1,j,acc,hj,hl=>by
  have hg:rs.getD i ((0:Int),((0:Int),((0:Int),((0:Int),((0:Int),((0:Int),(0:Int)))))))=r:=by simp[hi,hr]
  have h0:=h.y0;have h2:=h.y2;have hG:=h.s0;have kI:=h.s1;have hv:=DT (DU (r.1+(j:Int)) r.2.2.1 (by omega) (by omega) h.m0 h.m1);have hn:=Nv (w:=r.2.2.2.2.1) (y:=r.1+(j:Int)) (by omega) (by omega) h.m0 h.m1 h.k0 h.k1;have hd:=qH (r.1+(j:Int)) r.2.2.1;rw[TL];simp only[j3W];rw[aR (by omega) (by omega)];simp only[j5,j7,hg];rw[ag (show r.1+(j:Int)<=r.2.1 by omega),fI _ _ _ _ (by omega) (by omega) h.m0 h.m1 h.k0 h.k1 h.d0 h.d1];simp only[j5,j3];rw[aj (x:=nth (r.1+(j:Int)) r.2.2.1 r.2.2.2.1 r.2.2.2.2.1*86400) (by omega) (by omega),aj (x:=nth (r.1+(j:Int)) r.2.2.1 r.2.2.2.1 r.2.2.2.2.1*86400+r.2.2.2.2.2.1) (by omega) (by omega)];have Aq:=VP (rs:=rs) (i:=(i:Int)) (y:=r.1+(j:Int)) (a:=(cB r (r.1+(j:Int))).1) (b:=(cB r (r.1+(j:Int))).2) acc [] (by simp;omega);rw[k7]at Aq;rw[show Int.ofNat (List.length acc.reverse)=(acc.length:Int) by simp];rw[show C3 rs (i:Int) (r.1+(j:Int)) (acc.length:Int) (nth (r.1+(j:Int)) r.2.2.1 r.2.2.2.1 r.2.2.2.2.1*86400+r.2.2.2.2.2.1) r.2.2.2.2.2.2 acc.reverse=_ from Aq];simp only[j3];generalize hx:cB r (r.1+(j:Int))=x at *;have nt:(acc.dropWhile (λz=>decide (x.1<z.1))).length<=acc.length:=(List.dropWhile_sublist _).length_le;generalize hD:acc.dropWhile (λz=>decide (x.1<z.1))=D at *;have uW:(acc.reverse++[(x.1,x.2)]).length=acc.length+1:=by simp
  rw[ag (by simp[aY];omega)];simp only[j5]
  rw[aj (x:=(D.length:Int)+1) (by omega) (by omega),ag (show (0:Int)<=(D.length:Int)+1 by omega),ag (show (D.length:Int)+1<=Int.ofNat (acc.reverse++[(x.1,x.2)]).length by rw[uW];show (D.length:Int)+1<=((acc.length+1:Nat):Int);omega),
   ag (show (0:Int)<=(D.length:Int) by omega),ag (show (D.length:Int)<=Int.ofNat (acc.reverse++[(x.1,x.2)]).length by rw[uW];show (D.length:Int)<=((acc.length+1:Nat):Int);omega)]
  simp only[Bool.and_self,j5,j7,show ((D.length:Int)+1).toNat=D.length+1 by omega];have wj:(over (acc.reverse++[(x.1,x.2)]) (D.length+1) (List.drop D.length (acc.reverse++[(x.1,x.2)]))).length=acc.length+1:=by unfold over;simp;omega
  rw[aR (by omega) (by rw[wj];omega),jAC acc.reverse (x.1,x.2) (by simpa using nt)];simp only[j5];rw[aj (x:=r.1+(j:Int)+1) (by omega) (by omega),aJ];have xR:acc.reverse.take D.length++(x.1,x.2)::acc.reverse.drop D.length=(jZ x acc).reverse:=by have cE:=List.takeWhile_append_dropWhile (p:=λz:Int×Int=>decide (x.1<z.1)) (l:=acc);rw[VO,hD];rw[hD]at cE;generalize acc.takeWhile (λz=>decide (x.1<z.1))=T at cE ⊢;rw[<-cE];simp
  rw[xR];have ih:=VQ hi hr h n (j+1) (jZ x acc) (by omega) (by rw[DQ];omega);rw[show r.1+(j:Int)+1=r.1+((j+1:Nat):Int) by omega];refine ih.trans ?_
  have xS:(List.range n).map (λ(q:Nat)=>cB r (r.1+((j+1:Nat):Int)+(q:Int)))=(List.range n).map ((λ(q:Nat)=>cB r (r.1+(j:Int)+(q:Int))) ∘ Nat.succ):=List.map_congr_left λq _=>by
   simp only[Function.comp];congr 1;omega
  rw[List.range_succ_eq_map,ku,List.map_map,xS];simp[iP,hx]
theorem VR:∀(a b acc:bE),iP (a++b) acc=iP b (iP a acc)
 |[],_,_=>rfl
 |x::a,b,acc=>by simp only[q8,iP];exact VR a b _
theorem VS{rs:List aO}(h:∀r∈rs,jM r)(hlen:rs.length<=100):∀(n i:Nat)(acc:bE),i+n=rs.length->acc.length<=300*i->
  C4 rs (i:Int) acc.reverse=some (iP (occs (rs.drop i)) acc).reverse
 |0,i,acc,hi,_=>by
  rw[TM];simp only[j3X,show Int.ofNat (List.length rs)=(rs.length:Int) from rfl];rw[ah (by omega),j6,aU,jf (by omega)];rfl
 |n+1,i,acc,hi,hl=>by
  have aA:i<rs.length:=by omega
  have hr:=h rs[i] (je aA);have h0:=hr.y0;have h1:=hr.y1;have h2:=hr.y2;have hg:rs.getD i ((0:Int),((0:Int),((0:Int),((0:Int),((0:Int),((0:Int),(0:Int)))))))=rs[i]:=by simp[aA]
  have rf:=VQ aA rfl hr (rs[i].2.1-rs[i].1+1).toNat 0 acc (by omega) (by omega);rw[show rs[i].1+((0:Nat):Int)=rs[i].1 by omega]at rf;have ih:=VS h hlen n (i+1) (iP (ff rs[i]) acc) (by omega) (by rw[DR];simp[ff];omega);rw[TM];simp only[j3X,show Int.ofNat (List.length rs)=(rs.length:Int) from rfl];rw[ag (show (i:Int)<(rs.length:Int) by omega),aR (by omega) (by omega)];simp only[j5,j7,hg,rf,j3];rw[aj (by omega) (by omega),aJ,jc aA];refine ih.trans ?_;show _=some (iP (ff rs[i]++occs (rs.drop (i+1))) acc).reverse;rw[VR]
theorem jAD{rs:List aO}(h:∀r∈rs,jM r)(hlen:rs.length<=100):jad rs=some (dZ (occs rs)):=by
 have e:=VS h hlen rs.length 0 [] (by omega) (by simp);simp only[jad];rw[show C4 rs 0 []=_ from e];rfl
theorem VT{rs:List aO}(h:∀r∈rs,jM r)(hlen:rs.length<=100)(nm:ByteArray)(o:Int):∀(n i:Nat)(s:Int),i+n=rs.length->0<=s->s<=300*i->
  C5 s (i:Int) nm o rs=some (.inr (s+((occs (rs.drop i)).length:Int),nm,o,rs))
 |0,i,s,hi,_,_=>by
  rw[TN];simp only[j3Y,show Int.ofNat (List.length rs)=(rs.length:Int) from rfl];rw[ah (by omega),j6,aU,jf (by omega)];simp[occs]
 |n+1,i,s,hi,hG,kI=>by
  have aA:i<rs.length:=by omega
  have hr:=h rs[i] (je aA);have h0:=hr.y0;have h1:=hr.y1;have h2:=hr.y2;have hg:rs.getD i ((0:Int),((0:Int),((0:Int),((0:Int),((0:Int),((0:Int),(0:Int)))))))=rs[i]:=by simp[aA]
  have ih:=VT h hlen nm o n (i+1) (s+(rs[i].2.1-rs[i].1+1)) (by omega) (by omega) (by omega);have qI:jhC (rs[i].1,(rs[i].2.1,(rs[i].2.2.1,(rs[i].2.2.2.1,(rs[i].2.2.2.2.1,(rs[i].2.2.2.2.2.1,rs[i].2.2.2.2.2.2))))))=some true:=jwT hr;rw[TN];simp only[j3Y,show Int.ofNat (List.length rs)=(rs.length:Int) from rfl];rw[ag (show (i:Int)<(rs.length:Int) by omega),aR (by omega) (by omega)];simp only[j5,j7,hg,qI,j3,ji,j6];rw[aj (x:=rs[i].2.1-rs[i].1) (by omega) (by omega),aj (x:=rs[i].2.1-rs[i].1+1) (by omega) (by omega),aj (x:=s+(rs[i].2.1-rs[i].1+1)) (by omega) (by omega),aj (x:=(i:Int)+1) (by omega) (by omega),aJ];refine ih.trans ?_;rw[jc aA]
  have:((occs (rs[i]::rs.drop (i+1))).length:Int)=(rs[i].2.1-rs[i].1+1)+((occs (rs.drop (i+1))).length:Int):=by
   have e1:(ff rs[i]).length=(rs[i].2.1-rs[i].1+1).toNat:=by simp[ff]
   show ((ff rs[i]++occs (rs.drop (i+1))).length:Int)=_;rw[ja,e1];omega
  rw[this];congr 3;omega
theorem NV(L:bE)(hL:L.length<=1000):∀(n i:Nat)(now:Int)(acc:bE),i+n=L.length -> -64800<=now->now<=64800->acc.length<=i->(∀x∈acc,0<=x.1/\x.1<=8589934592)->Good now (acc.getLast?.map (·.1)) (L.drop i)->
  C6 now (i:Int) acc L=some (.inr (acc++bX now (L.drop i)))
 |0,i,now,acc,hi,_,_,_,_,_=>by
  rw[TO];simp only[j3Z,show Int.ofNat (List.length L)=(L.length:Int) from rfl];rw[ah (by omega),j6,aU,jf (by omega)];simp[bX]
 |n+1,i,now,acc,hi,ox,xT,ue,ea,hg=>by
  have aA:i<L.length:=by omega
  rw[jc aA]at hg ⊢;have bj:L.getD i ((0:Int),(0:Int))=L[i]:=by simp[aA]
  rw[TO];simp only[j3Z,show Int.ofNat (List.length L)=(L.length:Int) from rfl];rw[ag (show (i:Int)<(L.length:Int) by omega),aR (by omega) (by omega)];simp only[j5,j7,bj];generalize L[i]=x at *;rw[aj (x:=(i:Int)+1) (by omega) (by omega)];simp only[Good]at hg;by_cases hx:x.2=now
  .rw[if_pos hx]at hg;rw[cP hx];simp only[j5,aJ,bX];rw[if_pos hx];exact NV L hL n (i+1) now acc (by omega) ox xT (by omega) ea hg
  .rw[if_neg hx]at hg;obtain⟨⟨g1,g2,g3,g4,g5,g6,g7⟩,g8⟩:=hg;rw[bW hx,aj (x:=x.1-now) (by omega) (by omega),aj (x:=x.2-now) (by omega) (by omega)];simp only[j6,mw (show (-86399:Int)<=x.2-now by omega) (show x.2-now<=86399 by omega),mw (show (0:Int)<=x.1-now by omega) (show x.1-now<=8589934592 by omega),j3,ji,show Int.ofNat (List.length acc)=(acc.length:Int) from rfl]
   have fT:=NV L hL n (i+1) x.2 (acc++[(x.1-now,x.2)]) (by omega) g6 g7 (by simp;omega)
    (λy hy=>by
     rcases jn.1 hy with hy|hy
     .exact ea y hy
     .simp at hy;subst hy;exact⟨by show (0:Int)<=x.1-now;omega,by show x.1-now<=8589934592;omega⟩) (by simpa using g8)
   have cY:bX now (x::L.drop (i+1))=(x.1-now,x.2)::bX x.2 (L.drop (i+1)):=by simp[bX,hx]
   rw[cY];rw[jd]at fT;rw[aj (x:=(acc.length:Int)-1) (by omega) (by omega)];by_cases ha:acc=[]
   .subst ha;simp only[qc];rw[show decide (((0:Nat):Int)>0)=false from rfl];simp only[j6];rw[ag (by simp[aY])];simp only[j5,aJ];exact fT
   .have bV:0<acc.length:=kx.2 ha;have dD:acc.getLast? = some (acc.getD (acc.length-1) (0,0)):=by rw[List.getLast?_eq_getElem?,List.getD_eq_getElem?_getD,jh (show acc.length-1<acc.length by omega)];rfl
    rw[dD]at g5;have g5:(acc.getD (acc.length-1) ((0:Int),(0:Int))).1+604800<=x.1-now:=g5 _ rfl;have hb:=ea (acc.getD (acc.length-1) (0,0)) (List.mem_of_getLast? dD);rw[aR (by omega) (by omega),ag (show (acc.length:Int)>0 by omega),show ((acc.length:Int)-1).toNat=acc.length-1 by omega];simp only[j5];rw[aj (by omega) (by omega),ah (show¬x.1-now-(acc.getD (acc.length-1) ((0:Int),(0:Int))).1<604800 by omega),ag (by simp[aY];omega)];simp only[j5,j6,aJ];exact fT
theorem jEP{nm:ByteArray}{o:Int}{rs:List aO}(h:∀r∈rs,jM r)(lb : -64800<=o)(jF:o<=64800)(hlen:rs.length<=16)(hn:(occs rs).length<=640)(hg:Good o none (dZ (occs rs))) :
  j25 (nm,(o,rs))=some (bX o (dZ (occs rs)),0):=by
 have hl:(dZ (occs rs)).length<=1000:=by simp[dZ,DR];omega
 have e0:=VT h (by omega) nm o rs.length 0 0 (by omega) (by omega) (by omega);rw[kc]at e0;have e2:=NV (dZ (occs rs)) hl (dZ (occs rs)).length 0 o [] (by omega) lb jF (by simp) (by simp) hg;rw[kc]at e2;simp only[j25,mw lb jF,j3,ji,j6,show Int.ofNat (List.length rs)=(rs.length:Int) from rfl];rw[ah (show¬(rs.length:Int)>16 by omega),j6,show C5 0 0 nm o rs=_ from e0];simp only[j3,jK];rw[ah (by omega),j6,jAD h (by omega)];simp only[j3];rw[show C6 o 0 [] (dZ (occs rs))=_ from e2];rfl
def Z4(z:ByteArray×(Int×List aO))(l:bE):Prop:=j25 z=some (l,0)/\iq z.2.1 l
theorem MZ.r4{o:Int}{rs:List aO}(h:MZ o rs)(nm:ByteArray):Z4 (nm,(o,rs)) (bX o (dZ (occs rs))):=by
 have ht:=h.tab nm;refine⟨jEP h.ok (by have:=h.o0;omega) (by have:=h.o1;omega) ?_ ?_ h.good,ht.2⟩
 .have:=h.len;omega
 .have:=h.few;omega
end Go.Proofs.Pw
