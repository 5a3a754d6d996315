/- The zA, edits and iL that the Pl make are right. -/
import Derived.Test.YtbpjdcbbmibehaaGreatLJPC
import Derived.Test.YtbpjdcbbmibehaaGreatLJPB
import Derived.Test.YtbpjdcbbmibehaaGreatLJPA
open Go Go.Lft
namespace Go.Proofs.Pw
theorem Pm{L:List Int}{zs:List bP}{ps:List dm}{cs:List aO}{ss:List dD}(pT:1<=ps.length)(si:ps.length<=100){x0 y0:ByteArray}{x1 x2 x3 x4 x5 x6 x7 y1 y2 y3 y4 y5 y6 y7:Int}:∀(n:Nat)(a:Int)(ms:List Int),dx L a->ms.length+n<=4->(∀m∈ms,0<=m/\m<(ps.length:Int))->
  ∃Fe a',DQ (n:Int) L a zs ps cs ss x0 x1 x2 x3 x4 x5 x6 x7 y0 y1 y2 y3 y4 y5 y6 y7 ms=some (L,a',zs,ps,cs,ss,x0,x1,x2,x3,x4,x5,x6,x7,y0,y1,y2,y3,y4,y5,y6,y7,Fe)/\Fe.length=ms.length+n/\(∀m∈Fe,0<=m/\m<(ps.length:Int))/\dx L a'
 |0,a,ms,hd,_,hm=>by
  rw[Up];simp only[j2t];rw[ao (by omega),j6,aY];exact⟨ms,a,rfl,rfl,hm,hd⟩
 |n+1,a,ms,hd,hl,hm=>by
  obtain⟨x,a1,e1,x0',x1',d1⟩:=dg (n:=(ps.length:Int)) hd (by omega) (by omega);rw[Up];simp only[j2t,show Int.ofNat (List.length ps)=(ps.length:Int) from rfl];rw[ag (by omega),aj (x:=((n+1:Nat):Int)-1) (by omega) (by omega),show ((n+1:Nat):Int)-1=(n:Int) by omega];simp only[j5,e1,j3];rw[ag (by simp[aQ];omega)];simp only[j5,aP]
  obtain⟨Fe,a',e,h1,h2,h3⟩:=Pm (zs:=zs) (cs:=cs) (ss:=ss) pT si (x0:=x0) (x1:=x1) (x2:=x2) (x3:=x3) (x4:=x4) (x5:=x5) (x6:=x6) (x7:=x7) (y0:=y0) (y1:=y1) (y2:=y2) (y3:=y3) (y4:=y4) (y5:=y5) (y6:=y6) (y7:=y7) n a1 (ms++[x]) d1 (by simp;omega) (λm h=>by
   rcases jm.1 h with h|h
   .exact hm m h
   .simp at h;subst h;exact⟨x0',x1'⟩)
  exact⟨Fe,a',e,by rw[h1];simp;omega,h2,h3⟩
theorem jtZ{L:List Int}{a:Int}(h:dx L a){zs:List bP}{ps:List dm}{cs:List aO}{ss:List dD}(hs:E7 zs ps cs)(nm:ByteArray) :
  ∃l a',j7W L a (zs,(ps,(cs,ss))) nm=some (l,L,a')/\E8 l/\fR zs.length ps.length cs.length l/\l.1=nm/\dx L a':=by
 have kT:=hs.z0;have p8:=hs.z1;have pT:=hs.p0;have si:=hs.p1;have fc:=hs.c1;obtain⟨z,a1,e1,z0,z1,d1⟩:=dg (n:=(zs.length:Int)) h (by omega) (by omega);obtain⟨x,a2,e2,x0,x1,d2⟩:=dg (n:=6) d1 (by omega) (by omega);obtain⟨s,a3,e3,m3,d3⟩:=nR d2 (xs:=[(0:Int),(32400:Int),(7200:Int),(9000:Int),(79200:Int),(1:Int)]) (by simp) (by simp);obtain⟨u,a4,e4,u0,u1,d4⟩:=dg (n:=3) d3 (by omega) (by omega);obtain⟨v,a5,e5,v0,v1,d5⟩:=dg (n:=2) d4 (by omega) (by omega);have dP:0<=s/\s<=79200:=by simp at m3;omega
 simp only[j7W,show Int.ofNat (List.length zs)=(zs.length:Int) from rfl,e1,e2,e3,e4,e5,j3];rw[aj (x:=20454+x) (by omega) (by omega),aj (x:=20454+x-2) (by omega) (by omega),aj (x:=1+v) (by omega) (by omega)]
 have fin:∀(ev:Int),1<=ev->ev<=49->(u≠0->ev<=2)->(u=0->6<=ev)->∀ms:List Int,1<=ms.length->ms.length<=3->(∀m∈ms,0<=m/\m<(ps.length:Int))->∀(w:WL),gu 0 w->w.length<=3->∀(c m:Int),0<=m->m<=2->(m≠0->0<=c/\c<(cs.length:Int))->(m=0->c=0)->∀(a':Int),dx L a'->
   ∃l wP,some ((nm,(z,((20454+x-2,s),(u,(ev,(ms,(w,(c,m)))))))),L,a')=some (l,L,wP)/\E8 l/\fR zs.length ps.length cs.length l/\l.1=nm/\dx L wP:=
  λev h1 h2 h3 wz ms h4 h5 eb w hw iX c m yV gp Am hmz a' hd=>⟨_,_,rfl,⟨by dsimp only;omega,by dsimp only;omega,dP.1,dP.2,u0,by dsimp only;omega,h1,h2,h3,h4,h5⟩,
   ⟨z0,z1,by dsimp only;omega,Pe (by dsimp only;omega) (by dsimp only;omega),dP.1,by dsimp only;omega,u0,by dsimp only;omega,h1,by dsimp only;omega,by dsimp only;omega,by dsimp only;omega,eb,hw,by dsimp only;omega,yV,gp,Am,hmz,iX,wz⟩,rfl,hd⟩
 have rest:∀(ev:Int),1<=ev->ev<=49->(u≠0->ev<=2)->(u=0->6<=ev)->∀(ms:List Int),1<=ms.length->ms.length<=3->(∀m∈ms,0<=m/\m<(ps.length:Int))->∀(w:WL),gu 0 w->w.length<=3->∀(a9:Int),dx L a9->
   ∃l wP,((j0N L a9 4).bind λr=>cond (cond r.1 (decide ((cs.length:Int)>0)) false) ((j04 r.2.1 r.2.2 (cs.length:Int)).bind λPn=>(j04 Pn.2.1 Pn.2.2 2).bind λPo=>some ((nm,(z,((20454+x-2,s),(u,(ev,(ms,(w,(Pn.1,w64 (1+Po.1))))))))),Po.2.1,Po.2.2))
    (some ((nm,(z,((20454+x-2,s),(u,(ev,(ms,(w,((0:Int),(0:Int))))))))),r.2.1,r.2.2)))=some (l,L,wP)/\E8 l/\fR zs.length ps.length cs.length l/\l.1=nm/\dx L wP:=by
  intro ev h1 h2 h3 wz ms h4 h5 eb w hw iX a9 d9;obtain⟨c,a11,e11,d11⟩:=Bq (n:=4) d9 (by omega) (by omega);simp only[e11,j3];by_cases pM:c=true/\(cs.length:Int)>0
  .obtain⟨i,a12,L6,i0,i1,d12⟩:=dg (n:=(cs.length:Int)) d11 (by omega) (by omega);obtain⟨j,a13,e13,j0,j1,d13⟩:=dg (n:=2) d12 (by omega) (by omega);rw[pM.1,ag pM.2];simp only[j5,L6,e13,j3,aj (x:=1+j) (show -9223372036854775808<=_ by omega) (by omega)];exact fin ev h1 h2 h3 wz ms h4 h5 eb w hw iX i (1+j) (by omega) (by omega) (λ_=>⟨i0,i1⟩) (λhh=>by omega) _ d13
  .have ng:cond c (decide ((cs.length:Int)>0)) false=false:=by
    cases c with
    |true=>exact ao (λh=>pM ⟨rfl,h⟩)
    |false=>rfl
   rw[ng];simp only[j6];exact fin ev h1 h2 h3 wz ms h4 h5 eb w hw iX 0 0 (by omega) (by omega) (λhh=>absurd rfl hh) (λ_=>rfl) _ d11
 have Ff:gu 0 ([]:WL):=show (0:Int)<=604800 by omega
 by_cases hu:u=0
 .rw[ff hu,j5];obtain⟨ev,a6,e6,m6,d6⟩:=nR d5 (xs:=[(6:Int),(8:Int),(12:Int),(24:Int),(23:Int),(49:Int)]) (by simp) (by simp);have l7:6<=ev/\ev<=49:=by simp at m6;omega
  obtain⟨n,a7,e7,n0,n1,d7⟩:=dg (n:=3) d6 (by omega) (by omega);obtain⟨ms,a8,e8,l8,k8,d8⟩:=Pm (L:=L) (zs:=zs) (ps:=ps) (cs:=cs) (ss:=ss) pT (by omega) (x0:=ByteArray.empty) (x1:=0) (x2:=0) (x3:=0) (x4:=0) (x5:=0) (x6:=0) (x7:=0) (y0:=nm) (y1:=z) (y2:=20454+x-2) (y3:=s) (y4:=u) (y5:=ev) (y6:=0) (y7:=0) (1+n).toNat a7 [] d7 (by simp;omega) (by simp);rw[show (((1+n).toNat:Nat):Int)=1+n by omega]at e8;simp at l8;obtain⟨b,a9,e9,d9⟩:=Bq (n:=2) d8 (by omega) (by omega);simp only[e6,e7,j3];rw[aj (x:=1+n) (by omega) (by omega)];simp only[e8,e9,j3,show Int.ofNat (List.length cs)=(cs.length:Int) from rfl];cases b with
  |true=>obtain⟨w,Pp,Pq,hw,iX,d10⟩:=Io d9;simp only[j5,Pq,j3];exact rest ev (by omega) l7.2 (λh=>absurd hu h) (λ_=>l7.1) ms (by omega) (by omega) k8 w hw iX Pp d10
  |false=>simp only[j6];exact rest ev (by omega) l7.2 (λh=>absurd hu h) (λ_=>l7.1) ms (by omega) (by omega) k8 [] Ff (by simp) a9 d9
 .rw[cP hu,j6];obtain⟨n,a7,e7,n0,n1,d7⟩:=dg (n:=3) d5 (by omega) (by omega);obtain⟨ms,a8,e8,l8,k8,d8⟩:=Pm (L:=L) (zs:=zs) (ps:=ps) (cs:=cs) (ss:=ss) pT (by omega) (x0:=ByteArray.empty) (x1:=0) (x2:=0) (x3:=0) (x4:=0) (x5:=0) (x6:=0) (x7:=0) (y0:=nm) (y1:=z) (y2:=20454+x-2) (y3:=s) (y4:=u) (y5:=1+v) (y6:=0) (y7:=0) (1+n).toNat a7 [] d7 (by simp;omega) (by simp);rw[show (((1+n).toNat:Nat):Int)=1+n by omega]at e8;simp at l8;obtain⟨b,a9,e9,d9⟩:=Bq (n:=2) d8 (by omega) (by omega);simp only[e7,j3];rw[aj (x:=1+n) (by omega) (by omega)];simp only[e8,e9,j3,show Int.ofNat (List.length cs)=(cs.length:Int) from rfl];cases b with
  |true=>obtain⟨w,Pp,Pq,hw,iX,d10⟩:=Io d9;simp only[j5,Pq,j3];exact rest (1+v) (by omega) (by omega) (λ_=>by omega) (λh=>absurd h hu) ms (by omega) (by omega) k8 w hw iX Pp d10
  |false=>simp only[j6];exact rest (1+v) (by omega) (by omega) (λ_=>by omega) (λh=>absurd h hu) ms (by omega) (by omega) k8 [] Ff (by simp) a9 d9
theorem jxv{L:List Int}{a:Int}(h:dx L a){zs:List bP}{ps:List dm}{cs:List aO}{ss:List dD}(pT:1<=ps.length)(si:ps.length<=4) :
  ∃x a',j8Z L a (zs,(ps,(cs,ss)))=some (x,L,a')/\pt ps.length x/\dx L a':=by
 obtain⟨k,a1,e1,k0,k1,d1⟩:=dg (n:=3) h (by omega) (by omega);obtain⟨p,a2,e2,p0,p1,d2⟩:=dg (n:=(ps.length:Int)) d1 (by omega) (by omega);obtain⟨t,a3,e3,t0,t1,d3⟩:=Wy d2;obtain⟨y,a4,e4,m4,d4⟩:=nR d3 (xs:=[(3600:Int),(86400:Int),(7:Int),(259200:Int),(40000:Int)]) (by simp) (by simp);have hy:7<=y/\y<=259200:=by simp at m4;omega
 have yW:j18 (Int.tdiv (t+y) 86400)=some true:=by rw[yO (by omega)];exact Pe (by omega) (by omega)
 simp only[j8Z,show Int.ofNat (List.length ps)=(ps.length:Int) from rfl,e1,e2,e3,e4,j3];rw[aj (x:=t+y) (by omega) (by omega)]
 have fin:∀(kd A B:Int),0<=kd->kd<=2->(0<=A/\A<(ps.length:Int)\/kd=1/\A = -1)->(kd=2->0<=B/\B<(ps.length:Int)/\A≠B)->(kd≠2->B=0)->∀a',dx L a'->∃x wP,some ((kd,(A,(B,(t,t+y)))),L,a')=some (x,L,wP)/\pt ps.length x/\dx L wP:=
  λkd A B h1 h2 h3 h4 h5 a' hd=>⟨_,_,rfl,⟨h1,h2,h3,h4,h5,by dsimp only;omega,by dsimp only;omega,by dsimp only;omega,yW⟩,hd⟩
 by_cases h2:k=2
 .rw[ff h2,j5];by_cases hn:(ps.length:Int)<2
  .rw[ag hn,j5];exact fin 0 p 0 (by omega) (by omega) (.inl ⟨p0,p1⟩) (λhh=>by omega) (λ_=>rfl) _ d4
  .rw[ao hn,j6,aj (x:=(ps.length:Int)-1) (by omega) (by omega)];obtain⟨q,a5,e5,q0,q1,d5⟩:=dg (n:=(ps.length:Int)-1) d4 (by omega) (by omega);simp only[e5,j3];rw[aj (x:=p+1) (by omega) (by omega),aj (x:=p+1+q) (by omega) (by omega),cP (show¬(ps.length:Int)=0 by omega),cP (show¬k=1 by omega),ER (by omega)];simp only[kf,j5,j6];have b0:0<=(p+1+q)%(ps.length:Int):=Int.emod_nonneg _ (by omega);have b1:(p+1+q)%(ps.length:Int)<(ps.length:Int):=Int.emod_lt_of_pos _ (by omega)
   have aN:p≠(p+1+q)%(ps.length:Int):=by
    by_cases hb:p+1+q<(ps.length:Int)
    .rw[Int.emod_eq_of_lt (by omega) hb];omega
    .rw[<-Int.sub_emod_right,Int.emod_eq_of_lt (by omega) (by omega)];omega
   exact fin k p _ k0 (by omega) (.inl ⟨p0,p1⟩) (λ_=>⟨b0,b1,aN⟩) (λhh=>absurd h2 hh) _ d5
 .rw[cP h2,j6];by_cases h1:k=1
  .rw[ff h1,j5];obtain⟨b,a5,e5,d5⟩:=Bq (n:=4) d4 (by omega) (by omega);simp only[e5,j3];cases b with
   |true=>exact fin k (-1) 0 k0 (by omega) (.inr ⟨h1,rfl⟩) (λhh=>absurd hh h2) (λ_=>rfl) _ d5
   |false=>exact fin k p 0 k0 (by omega) (.inl ⟨p0,p1⟩) (λhh=>absurd hh h2) (λ_=>rfl) _ d5
  .rw[cP h1,j6];exact fin k p 0 k0 (by omega) (.inl ⟨p0,p1⟩) (λhh=>absurd hh h2) (λ_=>rfl) _ d4
theorem WT{L:List Int}{s6:Int}{nm:ByteArray}{zs:List bP}{ps:List dm}{cs:List aO}{ss:List dD}(hs:E7 zs ps cs):∀(n:Nat)(a:Int)(ls:List cb),dx L a->ls.length+n<=3->(∀x∈ls,fR zs.length ps.length cs.length x)->ls.map (·.1)=gj.take ls.length->
  ∃fH a',DR s6 (n:Int) L a zs ps cs nm ss ls=some (s6,L,a',zs,ps,cs,nm,ss,fH)/\fH.length<=3/\(∀x∈fH,fR zs.length ps.length cs.length x)/\fH.map (·.1)=gj.take fH.length/\dx L a'
 |0,a,ls,hd,hl,hk,hn=>by
  rw[Uq];simp only[j26];rw[ao (by omega),j6,aY];exact⟨ls,a,rfl,by omega,hk,hn,hd⟩
 |n+1,a,ls,hd,hl,hk,hn=>by
  have bT:ls.length<gj.length:=by show ls.length<8;omega
  obtain⟨l,a1,e1,_,l2,l3,d1⟩:=jtZ (ss:=ss) hd hs (gj.getD ls.length ByteArray.empty);rw[Uq];simp only[j26,WN,j3,show Int.ofNat (List.length ls)=(ls.length:Int) from rfl];rw[ag (by omega),ba (show (0:Int)<=(ls.length:Int) by omega) (by omega),aj (x:=((n+1:Nat):Int)-1) (by omega) (by omega),show ((n+1:Nat):Int)-1=(n:Int) by omega];simp only[j5,j7,e1,j3];rw[ag (by simp[aQ];omega)];simp only[j5,aP]
  exact WT hs n a1 (ls++[l]) d1 (by simp;omega) (λx hx=>by
   rcases jm.1 hx with h|h
   .exact hk x h
   .simp at h;subst h;exact l2) (by
   rw[zq,hn,jf,jz,List.map_nil,l3];exact Ir bT)
theorem WU{L:List Int}{s6:Int}{nm:ByteArray}{zs:List bP}{ps:List dm}{cs:List aO}{ss:List dD}{ls:List cb}(hs:E7 zs ps cs):∀(n:Nat)(a:Int)(es:List eU),dx L a->es.length+n<=3->(∀x∈es,pt ps.length x)->
  ∃es' a',Ho s6 (n:Int) L a zs ps cs nm ss ls es=some (s6,L,a',zs,ps,cs,nm,ss,ls,es')/\es'.length<=3/\(∀x∈es',pt ps.length x)/\dx L a'
 |0,a,es,hd,hl,hk=>by
  rw[Ur];simp only[j27];rw[ao (by omega),j6,aY];exact⟨es,a,rfl,by omega,hk,hd⟩
 |n+1,a,es,hd,hl,hk=>by
  obtain⟨x,a1,e1,x1,d1⟩:=jxv (zs:=zs) (cs:=cs) (ss:=ss) hd hs.p0 hs.p1;rw[Ur];simp only[j27];rw[ag (by omega),aj (x:=((n+1:Nat):Int)-1) (by omega) (by omega),show ((n+1:Nat):Int)-1=(n:Int) by omega];simp only[j5,e1,j3];rw[ag (by simp[aQ];omega)];simp only[j5,aP]
  exact WU hs n a1 (es++[x]) d1 (by simp;omega) (λy hy=>by
   rcases jm.1 hy with h|h
   .exact hk y h
   .simp at h;subst h;exact x1)
theorem jyM{zs:List bP}{ps:List dm}{cs:List aO}{ss:List dD}(hs:cQ zs ps cs)(h0:ss.length<=12)(h1:gr (ss.map (·.1)))(h2:∀s∈ss,sO zs.length ps.length cs.length s):uE (zs,(ps,(cs,ss))):=by
 have p8:=hs.so.z1;have si:=hs.so.p1;have fc:=hs.so.c1;exact⟨by dsimp only;rw[hs.z.nm];exact jxq.take _,hs.z.ck,by dsimp only;omega,by dsimp only;rw[hs.p.nm];exact WO.take _,hs.p.ck,by dsimp only;omega,hs.c.nm,hs.c.ck,by dsimp only;omega,h1,h2,h0⟩
structure mN(o:Int)(l:bA)(s t:Int)(k:Nat):Prop where
 hk:k<=l.length
 hks:s-cu o l k<bh l (k+1)
 bef:∀j,j<k->bh l (j+1)<=s-cu o l j
 ht:t=max (bh l k) (s-cu o l k)
def Dif(o:Int)(l:bA):Prop:=∀i,i<l.length -> -86400<cu o l (i+1)-cu o l i/\cu o l (i+1)-cu o l i<86400
section
variable{o:Int}{l:bA}(h:gU o l)
include h
theorem mN.piece{s t:Int}{k:Nat}(f:mN o l s t k):bh l k<=t/\t<bh l (k+1)/\s<=t+cu o l k:=by
 have h1:=h.frm_lt f.hk;have h2:=f.hks;have h3:=f.ht;omega
theorem mN.up{s s' t t':Int}{k k':Nat}(hd:Dif o l)(hs:200000<s)(he:s+86400<=s')(f:mN o l s t k)(g:mN o l s' t' k'):t<t':=by
 obtain⟨p1,p2,p3⟩:=f.piece h;obtain⟨q1,q2,q3⟩:=g.piece h;have g1:=g.hks;have g2:=g.ht;have f2:=f.ht;have Bt:=f.hk;have hkN':=g.hk;rcases yj k k' with ak|heq|Bu
 .have m1:=h.frm_le (i:=k+1) (j:=k') (by omega) (by omega);omega
 .subst heq;by_cases h0:k=0
  .subst h0;have e0:bh l 0=0:=rY;have o1:=h.of1 0 (by omega);omega
  .obtain⟨j,rfl⟩:∃j,k=j+1:=⟨k-1,by omega⟩;have b:=f.bef j (by omega);have d:=hd j (by omega);omega
 .have:=f.bef k' Bu;omega
end
noncomputable def Fg(o:Int)(l:bA)(s:Int):Int:=open Classical in if h:∃t k,mN o l s t k then Classical.choose h else 0
def fE(L:cb):Int:=if L.2.2.2.1=2 then 7*L.2.2.2.2.1 else L.2.2.2.2.1
def eJ(L:cb)(k:Int):Int:=(L.2.2.1.1+k*fE L)*86400+L.2.2.1.2
noncomputable def xo(o:Int)(l:bA)(L:cb)(k:Int):Int:=if L.2.2.2.1=0 then Fg o l (eJ L 0)+3600*L.2.2.2.2.1*k else Fg o l (eJ L k)
structure LR(L:cb):Prop where
 d0:100<=L.2.2.1.1
 d1:L.2.2.1.1<=30000
 c0:0<=L.2.2.1.2
 c1:L.2.2.1.2<=86399
 u0:0<=L.2.2.2.1
 u1:L.2.2.2.1<=2
 e0:1<=L.2.2.2.2.1
 e1:L.2.2.2.2.1<=49
 m0:1<=L.2.2.2.2.2.1.length
 m1:L.2.2.2.2.2.1.length<=1000
theorem E8.lr{L:cb}(h:E8 L):LR L:=⟨by have:=h.d0;omega,by have:=h.d1;omega,h.c0,by have:=h.c1;omega,h.u0,h.u1,h.e0,h.e1,h.m0,by have:=h.m1;omega⟩
theorem LR.step{L:cb}(h:LR L):1<=fE L/\fE L<=343:=by
 have:=h.e0;have:=h.e1;unfold fE;split<;>omega
section
variable{o:Int}{l:bA}(h:gU o l)
include h
end
theorem jpT(y:Int):j1k y=some (uB y):=V8 y
theorem Is(y m:Int):jcQ y m=some (fD y m):=by
 by_cases h:m<1\/12<m
 .have hk:∀k:Int,1<=k->k<=12->(m==k)=false:=λk h1 h2=>cP (by omega);have:fD y m=0:=if_pos h;rw[this]
  simp only[jcQ,hk 1 (by omega) (by omega),hk 2 (by omega) (by omega),hk 3 (by omega) (by omega),hk 4 (by omega) (by omega),hk 5 (by omega) (by omega),hk 6 (by omega) (by omega),hk 7 (by omega) (by omega),
   hk 8 (by omega) (by omega),hk 9 (by omega) (by omega),hk 10 (by omega) (by omega),hk 11 (by omega) (by omega),hk 12 (by omega) (by omega),j6]
 .obtain rfl|rfl|rfl|rfl|rfl|rfl|rfl|rfl|rfl|rfl|rfl|rfl:m=1\/m=2\/m=3\/m=4\/m=5\/m=6\/m=7\/m=8\/m=9\/m=10\/m=11\/m=12:=by omega
  case inr.inl=>have e:jcQ y 2=(j1k y).bind λr=>cond r (some (29:Int)) (some (28:Int)):=rfl;rw[e,jpT,fD,V6];simp only[j3];cases uB y<;>rfl
  all_goals rfl
theorem joE(y m d:Int):jgh (y,m,d)=some (decide (uC y m d)):=by
 simp only[jgh,Is,j3];by_cases hv:uC y m d
 .have hm:=O3 hv;have gx:=hv;obtain⟨a1,a2,a3,a4⟩:=hv;rw[ag (show y>=1970 from a1),ag a2,ag (show m>=1 from hm.1),ag hm.2,ag (show d>=1 from a3),ag a4,ag gx];rfl
 .rw[ao hv];by_cases a1:y>=1970
  .by_cases a2:y<=2240
   .by_cases a3:m>=1
    .by_cases a4:m<=12
     .by_cases a5:d>=1
      .rw[ag a1,ag a2,ag a3,ag a4,ag a5,ao (show¬d<=fD y m fromλh=>hv ⟨a1,a2,a5,h⟩)];rfl
      .rw[ag a1,ag a2,ag a3,ag a4,ao a5];rfl
     .rw[ag a1,ag a2,ag a3,ao a4];rfl
    .rw[ag a1,ag a2,ao a3];rfl
   .rw[ag a1,ao a2];rfl
  .rw[ao a1];rfl
theorem jpU(y:Int)(h1:1969<=y)(h2:y<=1000000000):jil y=some (iY y):=by
 simp only[jil];rw[aj (x:=y-1970) (by omega) (by omega),aj (x:=y-1969) (by omega) (by omega),aj (x:=y-1901) (by omega) (by omega),aj (x:=y-1601) (by omega) (by omega)];rw[yO (show 0<=y-1969 by omega),yO (show 0<=y-1901 by omega),yO (show 0<=y-1601 by omega)];simp (disch:=omega) only[aj];congr 1;unfold iY;omega
theorem WV(y m d:Int)(hm:m<=13):∀(n:Nat)(s k:Int),1<=k->k+n=m -> -1000000000000<=s->s+31*n<=1000000000000->HP s k y m d=some (s+lD y m-lD y k,y,m,d)
 |0,s,k,hk,hn,_,_=>by
  rw[Vn];have:k=m:=by omega
  subst this;simp only[j6k,ao (show¬k<k by omega),j6,aY];congr 2;omega
 |n+1,s,k,hk,hn,h1,h2=>by
  rw[Vn];have hd:=r5 y k;have hc:=O0 y k hk (by omega);simp only[j6k,Is,j3,ag (show k<m by omega),j5,aP];rw[aj (x:=s+fD y k) (by omega) (by omega),aj (x:=k+1) (by omega) (by omega)];rw[WV y m d hm n (s+fD y k) (k+1) (by omega) (by omega) (by omega) (by omega)];congr 2;omega
theorem gh{y m d:Int}(hv:uC y m d):jma (y,m,d)=some (num y m d,0):=by
 have hm:=O3 hv;have hd:=r5 y m;have hb : -1000000000<=iY y/\iY y<=1000000000:=by have:=hv.1;have:=hv.2.1;unfold iY;omega
 have hc:=V7 y m;obtain⟨h1,h2,h3,h4⟩:=id hv;simp only[jma,joE,ag hv,j3,jw,j6,jpU y (by omega) (by omega),WV y m d (by omega) (m-1).toNat (iY y) 1 (by omega) (by omega) (by omega) (by omega)];have:lD y 1=0:=rfl;rw[aj (x:=iY y+lD y m-lD y 1+d) (by omega) (by omega),aj (by omega) (by omega)];unfold num;congr 2;omega
theorem WW(d:Int):jfj d=j5s d:=rfl
theorem WX(y m k w n e:Int)(oQ:0<=n)(mF:n<=1000000)(Pr:e<=6)(It:(n+e+3)%7=w) :
  ∀(j:Nat)(s:Int),0<=s->s+j=e->HQ y m k w n (n+s)=some (y,m,k,n,n+e)
 |0,s,hs,hj=>by
  rw[Vo];have:s=e:=by omega
  subst this;have hb:((n+s+3)%7 != w)=false:=by simp[It]
  simp only[j6l,WW,Ih (n+s) (by omega),j3,hb,j6,aY]
 |j+1,s,hs,hj=>by
  rw[Vo];have hb:((n+s+3)%7 != w)=true:=by simp only[bne_iff_ne,ne_eq];omega
  simp only[j6l,WW,Ih (n+s) (by omega),j3,hb,j5,aP];rw[aj (x:=n+s+1) (by omega) (by omega),show n+s+1=n+(s+1) by omega];exact WX y m k w n e oQ mF Pr It j (s+1) (by omega) (by omega)
theorem Ps(y m n t:Int)(oQ:0<=n)(mF:n<=1000000)(WJ:t<n+fD y m)(AQ:n+fD y m<=t+7)(ht0 : -1000<=t) :
  ∀(j:Nat)(s:Int),s+7*j=t -> -1000<=s->HR y m n s=some t
 |0,s,hs,_=>by
  have hd:=r5 y m;rw[Vp];have:s=t:=by omega
  subst this;simp only[j6m,Is,j3];rw[aj (x:=s+7) (by omega) (by omega),aj (x:=n+fD y m) (by omega) (by omega),ao (show¬s+7<n+fD y m by omega),j6,aY]
 |j+1,s,hs,h1=>by
  have hd:=r5 y m;rw[Vp];simp only[j6m,Is,j3];rw[aj (x:=s+7) (by omega) (by omega),aj (x:=n+fD y m) (by omega) (by omega),ag (show s+7<n+fD y m by omega),j5,aP];exact Ps y m n t oQ mF WJ AQ ht0 j (s+7) (by omega) (by omega)
theorem gi(y m k w:Int)(h1:1970<=y)(h2:y<=2240)(gp:1<=m)(gI:m<=12)(dT:1<=k)(gn:k<=5)(JO:0<=w)(wm:w<=6):jmb y m k w=some (nth y m k w,0):=by
 have hv:=EY y m h1 h2 gp gI;have hr:=EX hv;have hd:=EW y m gp gI;have lO:=r5 y m;simp only[jmb,gh hv,j3,ju];rw[ao (show¬k<1 by omega),ao (show¬k>5 by omega),ao (show¬w<0 by omega),ao (show¬w>6 by omega)];simp only[j6];unfold nth;generalize num y m 1=n at *;obtain⟨e,wy,Pr,It,C3⟩:∃e,0<=e/\e<=6/\(n+e+3)%7=w/\n+(w-(n+3)%7+7)%7=n+e:=⟨(w-(n+3)%7+7)%7,by omega,by omega,by omega,rfl⟩;rw[C3];have hl:=WX y m k w n e hr.1 (by omega) Pr It e.toNat 0 (by omega) (by omega);rw[zd]at hl;simp only[hl,j3];by_cases hk:k<5
 .rw[ag hk,j5,aj (x:=k-1) (by omega) (by omega),aj (x:=7*(k-1)) (by omega) (by omega),aj (by omega) (by omega),if_neg (by omega)]
 .have kB:k=5:=by omega
  subst kB;rw[ao hk,j6];by_cases hc:n+e+7*(5-1)>=n+fD y m
  .rw[Ps y m n (n+e+21) hr.1 (by omega) (by omega) (by omega) (by omega) 3 (n+e) (by omega) (by omega),if_pos hc];simp only[j3];congr 2;omega
  .rw[Ps y m n (n+e+28) hr.1 (by omega) (by omega) (by omega) (by omega) 4 (n+e) (by omega) (by omega),if_neg hc];simp only[j3];congr 2
end Go.Proofs.Pw
