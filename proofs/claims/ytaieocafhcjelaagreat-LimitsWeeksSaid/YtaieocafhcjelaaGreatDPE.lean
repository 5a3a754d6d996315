/- The yC, edits and gS that the dice make are right. -/
import Derived.Test.YtaieocafhcjelaaGreatDPD
import Derived.Test.YtaieocafhcjelaaGreatDPC
import Derived.Test.YtaieocafhcjelaaGreatDPA
noncomputable section
open Go Go.Lft
namespace Go.Proofs.Pw
theorem MV{L:List Int}{zs:List cg}{ps:List dP}{cs:List bk}{ss:List cM}(sO:1<=ps.length)(ui:ps.length<=100){x0 y0:ByteArray}{x1 x2 x3 x4 x5 x6 x7 y1 y2 y3 y4 y5 y6 y7:Int}:∀(n:Nat)(a:Int)(ms:List Int),dm L a->ms.length+n<=4->(∀m∈ms,0<=m/\m<(ps.length:Int))->
  ∃D6 a',Dp (n:Int) L a zs ps cs ss x0 x1 x2 x3 x4 x5 x6 x7 y0 y1 y2 y3 y4 y5 y6 y7 ms=some (L,a',zs,ps,cs,ss,x0,x1,x2,x3,x4,x5,x6,x7,y0,y1,y2,y3,y4,y5,y6,y7,D6)/\D6.length=ms.length+n/\(∀m∈D6,0<=m/\m<(ps.length:Int))/\dm L a'
 |0,a,ms,hd,_,hm=>by
  rw[S8];simp only[j4a];rw[ak (by omega),j6,aW];exact⟨ms,a,rfl,rfl,hm,hd⟩
 |n+1,a,ms,hd,hl,hm=>by
  obtain⟨x,a1,e1,x0',x1',d1⟩:=cH (n:=(ps.length:Int)) hd (by omega) (by omega);rw[S8];simp only[j4a,show Int.ofNat (List.length ps)=(ps.length:Int) from rfl];rw[aj (by omega),ah (x:=((n+1:Nat):Int)-1) (by omega) (by omega),show ((n+1:Nat):Int)-1=(n:Int) by omega];simp only[j5,e1,j3];rw[aj (by simp[aS];omega)];simp only[j5,aF]
  obtain⟨D6,a',e,h1,h2,h3⟩:=MV (zs:=zs) (cs:=cs) (ss:=ss) sO ui (x0:=x0) (x1:=x1) (x2:=x2) (x3:=x3) (x4:=x4) (x5:=x5) (x6:=x6) (x7:=x7) (y0:=y0) (y1:=y1) (y2:=y2) (y3:=y3) (y4:=y4) (y5:=y5) (y6:=y6) (y7:=y7) n a1 (ms++[x]) d1 (by simp;omega) (λm h=>by
   rcases jn.1 h with h|h
   .exact hm m h
   .simp at h;subst h;exact⟨x0',x1'⟩)
  exact⟨D6,a',e,by rw[h1];simp;omega,h2,h3⟩
theorem jvo{L:List Int}{a:Int}(h:dm L a){zs:List cg}{ps:List dP}{cs:List bk}{ss:List cM}(hs:D0 zs ps cs)(nm:ByteArray) :
  ∃l a',ja8 L a (zs,(ps,(cs,ss))) nm=some (l,L,a')/\MQ l/\fD zs.length ps.length cs.length l/\l.1=nm/\dm L a':=by
 have qB:=hs.z0;have rT:=hs.z1;have sO:=hs.p0;have ui:=hs.p1;have gu:=hs.c1;obtain⟨z,a1,e1,z0,z1,d1⟩:=cH (n:=(zs.length:Int)) h (by omega) (by omega);obtain⟨x,a2,e2,x0,x1,d2⟩:=cH (n:=6) d1 (by omega) (by omega);obtain⟨s,a3,e3,m3,d3⟩:=mD d2 (xs:=[(0:Int),(32400:Int),(7200:Int),(9000:Int),(79200:Int),(1:Int)]) (by simp) (by simp);obtain⟨u,a4,e4,u0,u1,d4⟩:=cH (n:=3) d3 (by omega) (by omega);obtain⟨v,a5,e5,v0,v1,d5⟩:=cH (n:=2) d4 (by omega) (by omega);have dp:0<=s/\s<=79200:=by simp at m3;omega
 simp only[ja8,show Int.ofNat (List.length zs)=(zs.length:Int) from rfl,e1,e2,e3,e4,e5,j3];rw[ah (x:=20454+x) (by omega) (by omega),ah (x:=20454+x-2) (by omega) (by omega),ah (x:=1+v) (by omega) (by omega)]
 have fin:∀(ev:Int),1<=ev->ev<=49->(u≠0->ev<=2)->∀ms:List Int,1<=ms.length->ms.length<=3->(∀m∈ms,0<=m/\m<(ps.length:Int))->∀(w:WL),iJ 0 w->w.length<=3->∀(c m:Int),0<=m->m<=2->(m≠0->0<=c/\c<(cs.length:Int))->(m=0->c=0)->∀(a':Int),dm L a'->
   ∃l vO,some ((nm,(z,((20454+x-2,s),(u,(ev,(ms,(w,(c,m)))))))),L,a')=some (l,L,vO)/\MQ l/\fD zs.length ps.length cs.length l/\l.1=nm/\dm L vO:=
  λev h1 h2 h3 ms h4 h5 dV w hw kB c m gj fF O4 hmz a' hd=>⟨_,_,rfl,⟨by dsimp only;omega,by dsimp only;omega,dp.1,dp.2,u0,by dsimp only;omega,h1,h2,h3,h4,h5⟩,
   ⟨z0,z1,by dsimp only;omega,MS (by dsimp only;omega) (by dsimp only;omega),dp.1,by dsimp only;omega,u0,by dsimp only;omega,h1,by dsimp only;omega,by dsimp only;omega,by dsimp only;omega,dV,hw,by dsimp only;omega,gj,fF,O4,hmz⟩,rfl,hd⟩
 have rest:∀(ev:Int),1<=ev->ev<=49->(u≠0->ev<=2)->∀(ms:List Int),1<=ms.length->ms.length<=3->(∀m∈ms,0<=m/\m<(ps.length:Int))->∀(w:WL),iJ 0 w->w.length<=3->∀(a9:Int),dm L a9->
   ∃l vO,((j1R L a9 4).bind λr=>cond (cond r.1 (decide ((cs.length:Int)>0)) false) ((j07 r.2.1 r.2.2 (cs.length:Int)).bind λMW=>(j07 MW.2.1 MW.2.2 2).bind λMX=>some ((nm,(z,((20454+x-2,s),(u,(ev,(ms,(w,(MW.1,w64 (1+MX.1))))))))),MX.2.1,MX.2.2))
    (some ((nm,(z,((20454+x-2,s),(u,(ev,(ms,(w,((0:Int),(0:Int))))))))),r.2.1,r.2.2)))=some (l,L,vO)/\MQ l/\fD zs.length ps.length cs.length l/\l.1=nm/\dm L vO:=by
  intro ev h1 h2 h3 ms h4 h5 dV w hw kB a9 d9;obtain⟨c,a11,e11,d11⟩:=AZ (n:=4) d9 (by omega) (by omega);simp only[e11,j3];by_cases wq:c=true/\(cs.length:Int)>0
  .obtain⟨i,a12,JV,i0,i1,d12⟩:=cH (n:=(cs.length:Int)) d11 (by omega) (by omega);obtain⟨j,a13,e13,j0,j1,d13⟩:=cH (n:=2) d12 (by omega) (by omega);rw[wq.1,aj wq.2];simp only[j5,JV,e13,j3,ah (x:=1+j) (show -9223372036854775808<=_ by omega) (by omega)];exact fin ev h1 h2 h3 ms h4 h5 dV w hw kB i (1+j) (by omega) (by omega) (λ_=>⟨i0,i1⟩) (λhh=>by omega) _ d13
  .have mL:cond c (decide ((cs.length:Int)>0)) false=false:=by
    cases c with
    |true=>exact ak (λh=>wq ⟨rfl,h⟩)
    |false=>rfl
   rw[mL];simp only[j6];exact fin ev h1 h2 h3 ms h4 h5 dV w hw kB 0 0 (by omega) (by omega) (λhh=>absurd rfl hh) (λ_=>rfl) _ d11
 have D7:iJ 0 ([]:WL):=show (0:Int)<=604800 by omega
 by_cases hu:u=0
 .rw[dT hu,j5];obtain⟨ev,a6,e6,m6,d6⟩:=mD d5 (xs:=[(6:Int),(8:Int),(12:Int),(24:Int),(23:Int),(49:Int)]) (by simp) (by simp);have oP:1<=ev/\ev<=49:=by simp at m6;omega
  obtain⟨n,a7,e7,n0,n1,d7⟩:=cH (n:=3) d6 (by omega) (by omega);obtain⟨ms,a8,e8,l8,k8,d8⟩:=MV (L:=L) (zs:=zs) (ps:=ps) (cs:=cs) (ss:=ss) sO (by omega) (x0:=ByteArray.empty) (x1:=0) (x2:=0) (x3:=0) (x4:=0) (x5:=0) (x6:=0) (x7:=0) (y0:=nm) (y1:=z) (y2:=20454+x-2) (y3:=s) (y4:=u) (y5:=ev) (y6:=0) (y7:=0) (1+n).toNat a7 [] d7 (by simp;omega) (by simp);rw[show (((1+n).toNat:Nat):Int)=1+n by omega]at e8;simp at l8;obtain⟨b,a9,e9,d9⟩:=AZ (n:=2) d8 (by omega) (by omega);simp only[e6,e7,j3];rw[ah (x:=1+n) (by omega) (by omega)];simp only[e8,e9,j3,show Int.ofNat (List.length cs)=(cs.length:Int) from rfl];cases b with
  |true=>obtain⟨w,MY,M0,hw,kB,d10⟩:=MP d9;simp only[j5,M0,j3];exact rest ev oP.1 oP.2 (λh=>absurd hu h) ms (by omega) (by omega) k8 w hw kB MY d10
  |false=>simp only[j6];exact rest ev oP.1 oP.2 (λh=>absurd hu h) ms (by omega) (by omega) k8 [] D7 (by simp) a9 d9
 .rw[cJ hu,j6];obtain⟨n,a7,e7,n0,n1,d7⟩:=cH (n:=3) d5 (by omega) (by omega);obtain⟨ms,a8,e8,l8,k8,d8⟩:=MV (L:=L) (zs:=zs) (ps:=ps) (cs:=cs) (ss:=ss) sO (by omega) (x0:=ByteArray.empty) (x1:=0) (x2:=0) (x3:=0) (x4:=0) (x5:=0) (x6:=0) (x7:=0) (y0:=nm) (y1:=z) (y2:=20454+x-2) (y3:=s) (y4:=u) (y5:=1+v) (y6:=0) (y7:=0) (1+n).toNat a7 [] d7 (by simp;omega) (by simp);rw[show (((1+n).toNat:Nat):Int)=1+n by omega]at e8;simp at l8;obtain⟨b,a9,e9,d9⟩:=AZ (n:=2) d8 (by omega) (by omega);simp only[e7,j3];rw[ah (x:=1+n) (by omega) (by omega)];simp only[e8,e9,j3,show Int.ofNat (List.length cs)=(cs.length:Int) from rfl];cases b with
  |true=>obtain⟨w,MY,M0,hw,kB,d10⟩:=MP d9;simp only[j5,M0,j3];exact rest (1+v) (by omega) (by omega) (λ_=>by omega) ms (by omega) (by omega) k8 w hw kB MY d10
  |false=>simp only[j6];exact rest (1+v) (by omega) (by omega) (λ_=>by omega) ms (by omega) (by omega) k8 [] D7 (by simp) a9 d9
theorem jyR{L:List Int}{a:Int}(h:dm L a){zs:List cg}{ps:List dP}{cs:List bk}{ss:List cM}(sO:1<=ps.length)(ui:ps.length<=4) :
  ∃x a',jbf L a (zs,(ps,(cs,ss)))=some (x,L,a')/\qT ps.length x/\dm L a':=by
 obtain⟨k,a1,e1,k0,k1,d1⟩:=cH (n:=3) h (by omega) (by omega);obtain⟨p,a2,e2,p0,p1,d2⟩:=cH (n:=(ps.length:Int)) d1 (by omega) (by omega);obtain⟨t,a3,e3,t0,t1,d3⟩:=Uv d2;obtain⟨y,a4,e4,m4,d4⟩:=mD d3 (xs:=[(3600:Int),(86400:Int),(7:Int),(259200:Int),(40000:Int)]) (by simp) (by simp);have hy:7<=y/\y<=259200:=by simp at m4;omega
 have yy:j2f (Int.tdiv (t+y) 86400)=some true:=by rw[GG (by omega)];exact MS (by omega) (by omega)
 simp only[jbf,show Int.ofNat (List.length ps)=(ps.length:Int) from rfl,e1,e2,e3,e4,j3];rw[ah (x:=t+y) (by omega) (by omega)]
 have fin:∀(kd A B:Int),0<=kd->kd<=2->(0<=A/\A<(ps.length:Int)\/kd=1/\A = -1)->(kd=2->0<=B/\B<(ps.length:Int)/\A≠B)->(kd≠2->B=0)->∀a',dm L a'->∃x vO,some ((kd,(A,(B,(t,t+y)))),L,a')=some (x,L,vO)/\qT ps.length x/\dm L vO:=
  λkd A B h1 h2 h3 h4 h5 a' hd=>⟨_,_,rfl,⟨h1,h2,h3,h4,h5,by dsimp only;omega,by dsimp only;omega,by dsimp only;omega,yy⟩,hd⟩
 by_cases h2:k=2
 .rw[dT h2,j5];by_cases hn:(ps.length:Int)<2
  .rw[aj hn,j5];exact fin 0 p 0 (by omega) (by omega) (.inl ⟨p0,p1⟩) (λhh=>by omega) (λ_=>rfl) _ d4
  .rw[ak hn,j6,ah (x:=(ps.length:Int)-1) (by omega) (by omega)];obtain⟨q,a5,e5,q0,q1,d5⟩:=cH (n:=(ps.length:Int)-1) d4 (by omega) (by omega);simp only[e5,j3];rw[ah (x:=p+1) (by omega) (by omega),ah (x:=p+1+q) (by omega) (by omega),cJ (show¬(ps.length:Int)=0 by omega),cJ (show¬k=1 by omega),DG (by omega)];simp only[jy,j5,j6];have b0:0<=(p+1+q)%(ps.length:Int):=Int.emod_nonneg _ (by omega);have b1:(p+1+q)%(ps.length:Int)<(ps.length:Int):=Int.emod_lt_of_pos _ (by omega)
   have aZ:p≠(p+1+q)%(ps.length:Int):=by
    by_cases hb:p+1+q<(ps.length:Int)
    .rw[Int.emod_eq_of_lt (by omega) hb];omega
    .rw[<-Int.sub_emod_right,Int.emod_eq_of_lt (by omega) (by omega)];omega
   exact fin k p _ k0 (by omega) (.inl ⟨p0,p1⟩) (λ_=>⟨b0,b1,aZ⟩) (λhh=>absurd h2 hh) _ d5
 .rw[cJ h2,j6];by_cases h1:k=1
  .rw[dT h1,j5];obtain⟨b,a5,e5,d5⟩:=AZ (n:=4) d4 (by omega) (by omega);simp only[e5,j3];cases b with
   |true=>exact fin k (-1) 0 k0 (by omega) (.inr ⟨h1,rfl⟩) (λhh=>absurd hh h2) (λ_=>rfl) _ d5
   |false=>exact fin k p 0 k0 (by omega) (.inl ⟨p0,p1⟩) (λhh=>absurd hh h2) (λ_=>rfl) _ d5
  .rw[cJ h1,j6];exact fin k p 0 k0 (by omega) (.inl ⟨p0,p1⟩) (λhh=>absurd hh h2) (λ_=>rfl) _ d4
theorem UN{L:List Int}{s6:Int}{nm:ByteArray}{zs:List cg}{ps:List dP}{cs:List bk}{ss:List cM}(hs:D0 zs ps cs):∀(n:Nat)(a:Int)(ls:List cb),dm L a->ls.length+n<=3->(∀x∈ls,fD zs.length ps.length cs.length x)->ls.map (·.1)=fE.take ls.length->
  ∃fR a',Dq s6 (n:Int) L a zs ps cs nm ss ls=some (s6,L,a',zs,ps,cs,nm,ss,fR)/\fR.length<=3/\(∀x∈fR,fD zs.length ps.length cs.length x)/\fR.map (·.1)=fE.take fR.length/\dm L a'
 |0,a,ls,hd,hl,hk,hn=>by
  rw[S9];simp only[j3Q];rw[ak (by omega),j6,aW];exact⟨ls,a,rfl,by omega,hk,hn,hd⟩
 |n+1,a,ls,hd,hl,hk,hn=>by
  have bV:ls.length<fE.length:=by show ls.length<8;omega
  obtain⟨l,a1,e1,_,l2,l3,d1⟩:=jvo (ss:=ss) hd hs (fE.getD ls.length ByteArray.empty);rw[S9];simp only[j3Q,UI,j3,show Int.ofNat (List.length ls)=(ls.length:Int) from rfl];rw[aj (by omega),aU (show (0:Int)<=(ls.length:Int) by omega) (by omega),ah (x:=((n+1:Nat):Int)-1) (by omega) (by omega),show ((n+1:Nat):Int)-1=(n:Int) by omega];simp only[j5,j7,e1,j3];rw[aj (by simp[aS];omega)];simp only[j5,aF]
  exact UN hs n a1 (ls++[l]) d1 (by simp;omega) (λx hx=>by
   rcases jn.1 hx with h|h
   .exact hk x h
   .simp at h;subst h;exact l2) (by
   rw[zq,hn,ja,kr,List.map_nil,l3];exact GW bV)
theorem UO{L:List Int}{s6:Int}{nm:ByteArray}{zs:List cg}{ps:List dP}{cs:List bk}{ss:List cM}{ls:List cb}(hs:D0 zs ps cs):∀(n:Nat)(a:Int)(es:List eJ),dm L a->es.length+n<=3->(∀x∈es,qT ps.length x)->
  ∃uJ a',F9 s6 (n:Int) L a zs ps cs nm ss ls es=some (s6,L,a',zs,ps,cs,nm,ss,ls,uJ)/\uJ.length<=3/\(∀x∈uJ,qT ps.length x)/\dm L a'
 |0,a,es,hd,hl,hk=>by
  rw[Ta];simp only[j3R];rw[ak (by omega),j6,aW];exact⟨es,a,rfl,by omega,hk,hd⟩
 |n+1,a,es,hd,hl,hk=>by
  obtain⟨x,a1,e1,x1,d1⟩:=jyR (zs:=zs) (cs:=cs) (ss:=ss) hd hs.p0 hs.p1;rw[Ta];simp only[j3R];rw[aj (by omega),ah (x:=((n+1:Nat):Int)-1) (by omega) (by omega),show ((n+1:Nat):Int)-1=(n:Int) by omega];simp only[j5,e1,j3];rw[aj (by simp[aS];omega)];simp only[j5,aF]
  exact UO hs n a1 (es++[x]) d1 (by simp;omega) (λy hy=>by
   rcases jn.1 hy with h|h
   .exact hk y h
   .simp at h;subst h;exact x1)
theorem jAc{zs:List cg}{ps:List dP}{cs:List bk}{ss:List cM}(hs:fe zs ps cs)(h0:ss.length<=12)(h1:fN (ss.map (·.1)))(h2:∀s∈ss,nY zs.length ps.length cs.length s):tK (zs,(ps,(cs,ss))):=by
 have rT:=hs.so.z1;have ui:=hs.so.p1;have gu:=hs.so.c1;exact⟨by dsimp only;rw[hs.z.nm];exact jyM.take _,hs.z.ck,by dsimp only;omega,by dsimp only;rw[hs.p.nm];exact UJ.take _,hs.p.ck,by dsimp only;omega,hs.c.nm,hs.c.ck,by dsimp only;omega,h1,h2,h0⟩
structure nZ(o:Int)(l:bR)(s t:Int)(k:Nat):Prop where
 hk:k<=l.length
 hks:s-cG o l k<bn l (k+1)
 bef:∀j,j<k->bn l (j+1)<=s-cG o l j
 ht:t=max (bn l k) (s-cG o l k)
section
variable{o:Int}{l:bR}(h:iY o l)
include h
theorem nZ.piece{s t:Int}{k:Nat}(f:nZ o l s t k):bn l k<=t/\t<bn l (k+1)/\s<=t+cG o l k:=by
 have h1:=h.frm_lt f.hk;have h2:=f.hks;have h3:=f.ht;omega
end
def D8(o:Int)(l:bR)(s:Int):Int:=open Classical in if h:∃t k,nZ o l s t k then Classical.choose h else 0
def fI(L:cb):Int:=if L.2.2.2.1=2 then 7*L.2.2.2.2.1 else L.2.2.2.2.1
def ec(L:cb)(k:Int):Int:=(L.2.2.1.1+k*fI L)*86400+L.2.2.1.2
def B9(o:Int)(l:bR)(L:cb)(k:Int):Int:=if L.2.2.2.1=0 then D8 o l (ec L 0)+3600*L.2.2.2.2.1*k else D8 o l (ec L k)
structure LR(L:cb):Prop where
 d0:100<=L.2.2.1.1
 d1:L.2.2.1.1<=30000
 c0:0<=L.2.2.1.2
 c1:L.2.2.1.2<=86399
 u0:0<=L.2.2.2.1
 u1:L.2.2.2.1<=2
 e0:1<=L.2.2.2.2.1
 e1:L.2.2.2.2.1<=49
 m0:1<=L.2.2.2.2.2.1.length
 m1:L.2.2.2.2.2.1.length<=1000
def yD(o:Int)(l:bR)(s:Int):Prop:=∀j,j<=l.length->bn l (j+1)<=s-cG o l j
def fO(o:Int)(l:bR)(s:Int):Option Int:=open Classical in if h:∃t k,nZ o l s t k then some (Classical.choose h) else none
theorem nZ.uniq{o:Int}{l:bR}{s t t':Int}{k k':Nat}(f:nZ o l s t k)(g:nZ o l s t' k'):k=k'/\t=t':=by
 have hk:k=k':=by
  rcases Nat.lt_trichotomy k k' with an|heq|yE
  .have:=g.bef k an;have:=f.hks;omega
  .exact heq
  .have:=f.bef k' yE;have:=g.hks;omega
 subst hk;exact⟨rfl,by rw[f.ht,g.ht]⟩
theorem yF{o:Int}{l:bR}{s t:Int}{k:Nat}(f:nZ o l s t k):fO o l s=some t:=by
 have he:∃t k,nZ o l s t k:=⟨t,k,f⟩;unfold fO;rw[dif_pos he];obtain⟨k',g⟩:=Classical.choose_spec he;rw[(g.uniq f).2]
theorem yG{o:Int}{l:bR}{s:Int}(dI:yD o l s):fO o l s=none:=by
 unfold fO;rw[dif_neg]
 rintro⟨t,k,f⟩
 have:=dI k f.hk;have:=f.hks;omega
theorem M1(o:Int)(l:bR)(s:Int):(∃t k,nZ o l s t k)\/yD o l s:=by
 by_cases dI:yD o l s
 .exact .inr dI
 .left
  have:∃j,j<=l.length/\s-cG o l j<bn l (j+1):=by
   apply jq;intro hn
   exact dI λj hj=>by
    rcases Int.lt_or_le (s-cG o l j) (bn l (j+1)) with h|h
    .exact absurd ⟨j,hj,h⟩ hn
    .exact h
  obtain⟨j,hj,hjs⟩:=this;obtain⟨a,⟨ha,haN⟩,sG⟩:=oQ (λj=>s-cG o l j<bn l (j+1)/\j<=l.length) j ⟨hjs,hj⟩;refine⟨_,a,haN,ha,λi hi=>?_,rfl⟩;rcases Int.lt_or_le (s-cG o l i) (bn l (i+1)) with h'|h'
  .have:=sG i ⟨h',by omega⟩;omega
  .exact h'
theorem GX{o:Int}{l:bR}{s t:Int}(he:fO o l s=some t):∃k,nZ o l s t k:=by
 rcases M1 o l s with⟨t',k,f⟩|dI
 .rw[yF f]at he;simp at he;subst he;exact⟨k,f⟩
 .rw[yG dI]at he;simp at he
section
variable{o:Int}{l:bR}(h:iY o l)
include h
theorem M3{s t:Int}(he:fO o l s=some t):s<=t+64800/\0<=t/\t<=8589934592:=by
 obtain⟨k,f⟩:=GX he;obtain⟨p1,p2,p3⟩:=f.piece h;have o1:=h.of1 k f.hk;have g1:=h.frm_le (i:=0) (j:=k) (by omega) (by have:=f.hk;omega);have e0:bn l 0=0:=tF;have e1:bn l (l.length+1)=8589934593:=tG;have g2:=h.frm_le (i:=k+1) (j:=l.length+1) (by have:=f.hk;omega) (by omega);omega
theorem UP{s:Int}(hs:8589934593+64800<=s):yD o l s:=λj hj=>by
 have o1:=h.of1 j hj;have e1:bn l (l.length+1)=8589934593:=tG;have g2:=h.frm_le (i:=j+1) (j:=l.length+1) (by omega) (by omega);omega
theorem jyT{s s' t':Int}(hs:s<=s')(he:fO o l s'=some t'):∃t,fO o l s=some t/\t<=t':=by
 obtain⟨k',g⟩:=GX he;have g1:=g.hks;have bg:=g.hk;rcases M1 o l s with⟨t,k,f⟩|dI
 .refine⟨t,yF f,?_⟩;obtain⟨p1,p2,p3⟩:=f.piece h;obtain⟨q1,q2,q3⟩:=g.piece h;have f1:=f.ht;have g2:=g.ht;rcases Nat.lt_trichotomy k k' with an|heq|yE
  .have:=h.frm_le (i:=k+1) (j:=k') (by omega) (by omega);omega
  .subst heq;omega
  .have:=f.bef k' yE;omega
 .have:=dI k' bg;omega
theorem UQ{d c s:Int}(iu:j5v (d,c)=some s)(lJ : -1000000000000<=s)(lX:s<=1000000000000)(dI:yD o l s) :
  ∀(n i:Nat),i+n=l.length+1->xP ((l.length+1:Nat):Int) (i:Int) d c (oX o l (l.length+1))=some (.inr ())
 |0,i,hi=>by
  rw[F3];simp only[j2k];rw[ak (by omega),j6,aW]
 |n+1,i,hi=>by
  have hlen:=h.len;have lj:i<=l.length:=by omega
  have o1:=h.of0 i lj;have o2:=h.of1 i lj;have hb:=dI i lj;have an:=h.frm_lt lj;rw[F3];simp only[j2k];rw[aj (show (i:Int)<((l.length+1:Nat):Int) by omega),aU (by omega) (by rw[yt];omega)];simp only[j5,j7,Ms (show i<l.length+1 by omega),iu,j3,pc];rw[ah (x:=s-cG o l i) (by omega) (by omega),ah (x:=(i:Int)+1) (by omega) (by omega)];have hm:(if s-cG o l i>bn l i then s-cG o l i else bn l i)=max (bn l i) (s-cG o l i):=by split<;>omega
  rw[hm,ak (by omega),j6,aF];exact UQ iu lJ lX dI n (i+1) (by omega)
theorem M4{d c s:Int}(iu:j5v (d,c)=some s)(lJ : -1000000000000<=s)(lX:s<=1000000000000)(dI:yD o l s):j2F (o,l) (d,c)=some (0,false):=by
 have:=UQ h iu lJ lX dI (l.length+1) 0 (by omega);simp only[j2F,TQ h,j3,yt,show Int.ofNat (List.length l+1)=((l.length+1:Nat):Int) from rfl];rw[show (0:Int)=((0:Nat):Int) from rfl,this];rfl
theorem UR{d c:Int}(hd : -1000000<=d)(rz:d<=1000000000000000)(hc:0<=c)(lg:c<=86399) :
  j2F (o,l) (d,c)=some ((fO o l (d*86400+c)).getD 0,(fO o l (d*86400+c)).isSome):=by
 by_cases hb:d<=1000000
 .rcases M1 o l (d*86400+c) with⟨t,k,f⟩|dI
  .have e:=jwV h hd hb (by omega) (by omega) f.hk f.hks f.bef;rw[<-f.ht]at e;rw[yF f];exact e
  .rw[yG dI];exact M4 h (Mt hd hb (by omega) (by omega)) (by omega) (by omega) dI
 .have dI:yD o l (d*86400+c):=UP h (by omega);rw[yG dI];by_cases eP:d<=1048576
  .have iu:j5v (d,c)=some (d*86400+c):=by simp only[j5v];rw[if_neg (show¬(-1048576:Int)>d by omega),if_neg (show¬(1048576:Int)<d by omega),ah (x:=d*86400) (by omega) (by omega),ah (by omega) (by omega)]
   exact M4 h iu (by omega) (by omega) dI
  .have iu:j5v (d,c)=some (1048576*86400+c):=by simp only[j5v];rw[if_neg (show¬(-1048576:Int)>d by omega),if_pos (show (1048576:Int)<d by omega),ah (x:=1048576*86400) (by omega) (by omega),ah (by omega) (by omega)]
   exact M4 h iu (by omega) (by omega) (UP h (by omega))
end
structure Rt(L:cb):Prop where
 d0:1<=L.2.2.1.1
 d1:L.2.2.1.1<=100000
 c0:0<=L.2.2.1.2
 c1:L.2.2.1.2<=86399
 u0:0<=L.2.2.2.1
 u1:L.2.2.2.1<=2
 e0:1<=L.2.2.2.2.1
 e1:L.2.2.2.2.1<=400
 m0:L.2.2.2.2.2.1≠[]
theorem Rt.step{L:cb}(h:Rt L):1<=fI L/\fI L<=2800:=by
 have:=h.e0;have:=h.e1;unfold fI;split<;>omega
def hO(o:Int)(l:bR)(L:cb)(k:Int):Option Int:=
 if L.2.2.2.1=0 then (fO o l (ec L 0)).bind λt=>if t+3600*L.2.2.2.2.1*k<=8589934592 then some (t+3600*L.2.2.2.2.1*k) else none
 else fO o l (ec L k)
section
variable{o:Int}{l:bR}(ht:iY o l){L:cb}(h:Rt L)
include ht h
theorem D9{k t:Int}(hk:0<=k)(he:hO o l L k=some t):0<=t/\t<=8589934592/\k<=2386092:=by
 have hs:=h.step;have MR:=h.d0;have xv:=h.e0;have mL:=h.c0;unfold hO at he;by_cases h0:L.2.2.2.1=0
 .rw[if_pos h0]at he;cases hf:fO o l (ec L 0) with
  |none=>rw[hf]at he;simp at he
  |some v=>
   rw[hf]at he;simp only[j3]at he;have hv:=M3 ht hf;have hm:3600*k<=3600*L.2.2.2.2.1*k:=Int.mul_le_mul_of_nonneg_right (by omega) hk;split at he
   .simp at he;omega
   .simp at he
 .rw[if_neg h0]at he;have hv:=M3 ht he;have hm:k*1<=k*fI L:=Int.mul_le_mul_of_nonneg_left hs.1 hk;unfold ec at hv;omega
theorem jx4{k t:Int}(he:hO o l L (k+1)=some t):∃v,hO o l L k=some v/\v<=t:=by
 have hs:=h.step;have xv:=h.e0;unfold hO at he ⊢;by_cases h0:L.2.2.2.1=0
 .rw[if_pos h0]at he ⊢;cases hf:fO o l (ec L 0) with
  |none=>rw[hf]at he;simp at he
  |some v=>
   rw[hf]at he;simp only[j3]at he ⊢;have hm:3600*L.2.2.2.2.1*(k+1)=3600*L.2.2.2.2.1*k+3600*L.2.2.2.2.1:=by rw[Int.mul_add,Int.mul_one]
   split at he
   .rw[if_pos (by omega)];simp at he;exact⟨_,rfl,by omega⟩
   .simp at he
 .rw[if_neg h0]at he ⊢;have hm:(k+1)*fI L=k*fI L+fI L:=by rw[Int.add_mul,Int.one_mul]
  exact jyT ht (by unfold ec;rw[hm];omega) he
def QO(o:Int)(l:bR)(L:cb)(t k:Int):Prop:=∃v,hO o l L k=some v/\v<=t
theorem QO.down{t:Int}:∀(n:Nat){k:Int},QO o l L t (k+n)->QO o l L t k
 |0,k,hq=>by rwa[show k+((0:Nat):Int)=k by omega]at hq
 |n+1,k,hq=>by
  rw[show k+((n+1:Nat):Int)=k+(n:Int)+1 by omega]at hq;obtain⟨v,hv,w8⟩:=hq;obtain⟨v',gw,hl⟩:=jx4 ht h (k:=k+(n:Int)) hv;exact QO.down n ⟨v',gw,by omega⟩
theorem QO.le{t k j:Int}(dx:k<=j)(hq:QO o l L t j):QO o l L t k:=by
 refine QO.down ht h (j-k).toNat ?_;rwa[show k+(((j-k).toNat:Nat):Int)=j by omega]
def kO(o:Int)(l:bR)(L:cb)(t K:Int):Prop:=(K = -1/\¬QO o l L t 0)\/(0<=K/\QO o l L t K/\¬QO o l L t (K+1))
theorem kO.uniq{t K K':Int}(a:kO o l L t K)(b:kO o l L t K'):K=K':=by
 rcases a with⟨a1,a2⟩|⟨a1,a2,a3⟩<;>rcases b with⟨b1,b2⟩|⟨b1,b2,b3⟩
 .omega
 .exact absurd (QO.le ht h b1 b2) a2
 .exact absurd (QO.le ht h a1 a2) b2
 .rcases Int.lt_trichotomy K K' with an|heq|yE
  .exact absurd (QO.le ht h (by omega) b2) a3
  .exact heq
  .exact absurd (QO.le ht h (by omega) a2) b3
end
theorem US{L:cb}(h:Rt L):jb0 L=some (fI L):=by
 have:=h.e0;have:=h.e1;simp only[jb0,fI];by_cases h2:L.2.2.2.1=2
 .rw[dT h2,j5,if_pos h2,ah (by omega) (by omega)]
 .rw[cJ h2,j6,if_neg h2]
def Ea(r:Option (Int×Bool))(x:Option Int):Prop:=∃v,r=some (v,x.isSome)/\∀t,x=some t->v=t
theorem n4{o:Int}{l:bR}(ht:iY o l){L:cb}(h:Rt L){k:Int}(hk:0<=k)(gl:k<=8589934592):Ea (j1d (o,l) L k) (hO o l L k):=by
 have hs:=h.step;have MR:=h.d0;have ry:=h.d1;have mL:=h.c0;have gu:=h.c1;have xv:=h.e0;have UT:=h.e1;have dM:jb0 (L.1,L.2.1,(L.2.2.1.1,L.2.2.1.2),L.2.2.2.1,L.2.2.2.2.1,L.2.2.2.2.2.1,L.2.2.2.2.2.2.1,L.2.2.2.2.2.2.2.1,L.2.2.2.2.2.2.2.2)=_:=US h;simp only[Ea,j1d,dM,j3];rw[ak (show¬k>8589934592 by omega),j6];by_cases h0:L.2.2.2.1=0
 .have hF:=UR ht (d:=L.2.2.1.1) (c:=L.2.2.1.2) (by omega) (by omega) mL gu;have lJ:L.2.2.1.1*86400+L.2.2.1.2=ec L 0:=by unfold ec;omega
  have gj:0<=3600*L.2.2.2.2.1*k:=Int.mul_nonneg (by omega) hk;have fF:3600*L.2.2.2.2.1*k<=3600*400*8589934592:=Int.mul_le_mul (by omega) gl hk (by omega);rw[show (L.2.2.2.1 != 0)=false by rw[h0];rfl,j6,hF,lJ];simp only[j3];unfold hO;rw[if_pos h0];cases hf:fO o l (ec L 0) with
  |none=>exact⟨_,rfl,λt h=>by simp at h⟩
  |some v=>
   have hv:=M3 ht hf;simp only[q9,zk,j5,j3,ah (x:=3600*L.2.2.2.2.1) (show -9223372036854775808<=_ by omega) (by omega),ah (x:=3600*L.2.2.2.2.1*k) (show -9223372036854775808<=_ by omega) (by omega),ah (x:=v+3600*L.2.2.2.2.1*k) (show -9223372036854775808<=_ by omega) (by omega)];by_cases hle:v+3600*L.2.2.2.2.1*k<=8589934592
   .rw[if_pos hle,aj hle];exact⟨_,rfl,λt h=>by simpa using h⟩
   .rw[if_neg hle,ak hle];exact⟨_,rfl,λt h=>by simp at h⟩
 .have gj:0<=k*fI L:=Int.mul_nonneg hk (by omega);have fF:k*fI L<=8589934592*2800:=Int.mul_le_mul gl hs.2 (by omega) (by omega);rw[show (L.2.2.2.1 != 0)=true by simp[h0],j5,ah (x:=k*fI L) (by omega) (by omega),ah (x:=L.2.2.1.1+k*fI L) (by omega) (by omega),UR ht (by omega) (by omega) mL gu];simp only[j3];unfold hO;rw[if_neg h0];exact⟨_,rfl,λt h=>by have h:fO o l ((L.2.2.1.1+k*fI L)*86400+L.2.2.1.2)=some t:=h;rw[h];rfl⟩
theorem UU{o:Int}{l:bR}(ht:iY o l){L:cb}(h:Rt L){t N:Int}(hN:N<=8589934592)(gM:QO o l L t 0):∀n:Nat,(n:Int)<=N->
  ∃k:Int,AF t (n:Int) o l L.1 L.2.1 L.2.2.1.1 L.2.2.1.2 L.2.2.2.1 L.2.2.2.2.1 L.2.2.2.2.2.1 L.2.2.2.2.2.2.1 L.2.2.2.2.2.2.2.1 L.2.2.2.2.2.2.2.2=
   some (t,k,o,l,L.1,L.2.1,L.2.2.1.1,L.2.2.1.2,L.2.2.2.1,L.2.2.2.2.1,L.2.2.2.2.2.1,L.2.2.2.2.2.2.1,L.2.2.2.2.2.2.2.1,L.2.2.2.2.2.2.2.2)/\0<=k/\QO o l L t k
 |0,_=>by
  rw[Sd];simp only[j2v];rw[ak (by omega),j6,aW];exact⟨_,rfl,by omega,gM⟩
 |n+1,hn=>by
  obtain⟨k,e,k0,k1⟩:=UU ht h hN gM n (by omega);obtain⟨v,hH,hv⟩:=n4 ht h (k:=((n+1:Nat):Int)) (by omega) (by omega);rw[Sd];simp only[j2v];rw[aj (by omega),j5,show j1d (o,l) (L.1,L.2.1,(L.2.2.1.1,L.2.2.1.2),L.2.2.2.1,L.2.2.2.2.1,L.2.2.2.2.2.1,L.2.2.2.2.2.2.1,L.2.2.2.2.2.2.2.1,L.2.2.2.2.2.2.2.2) ((n+1:Nat):Int)=_ from hH];simp only[j3];rw[ah (x:=((n+1:Nat):Int)-1) (by omega) (by omega),show ((n+1:Nat):Int)-1=(n:Int) by omega];cases hx:hO o l L ((n+1:Nat):Int) with
  |none=>simp only[vi,j6,aF];exact⟨k,e,k0,k1⟩
  |some x=>
   have:=hv x hx;subst this;simp only[zk,j5];by_cases hc:v<=t
   .rw[aj hc,j5,aW];exact⟨_,rfl,by omega,v,hx,hc⟩
   .rw[ak hc,j6,aF];exact⟨k,e,k0,k1⟩
theorem UW{o:Int}{l:bR}(ht:iY o l){L:cb}(h:Rt L){t:Int}:∀(n:Nat)(k:Int),k+n=2386093->0<=k->QO o l L t k->
  ∃K:Int,AG t k o l L.1 L.2.1 L.2.2.1.1 L.2.2.1.2 L.2.2.2.1 L.2.2.2.2.1 L.2.2.2.2.2.1 L.2.2.2.2.2.2.1 L.2.2.2.2.2.2.2.1 L.2.2.2.2.2.2.2.2=some K/\0<=K/\QO o l L t K/\¬QO o l L t (K+1)
 |0,k,hn,hk,hq=>by
  obtain⟨v,hv,_⟩:=hq;have:=D9 ht h hk hv;omega
 |n+1,k,hn,hk,hq=>by
  obtain⟨v,hH,hv⟩:=n4 ht h (k:=k+1) (by omega) (by omega);rw[jhL];simp only[j32];rw[ah (x:=k+1) (by omega) (by omega),show j1d (o,l) (L.1,L.2.1,(L.2.2.1.1,L.2.2.1.2),L.2.2.2.1,L.2.2.2.2.1,L.2.2.2.2.2.1,L.2.2.2.2.2.2.1,L.2.2.2.2.2.2.2.1,L.2.2.2.2.2.2.2.2) (k+1)=_ from hH];simp only[j3];cases hx:hO o l L (k+1) with
  |none=>simp only[vi,jy,j5,aW];exact⟨k,rfl,hk,hq,λ⟨y,hy,_⟩=>by rw[hx]at hy;simp at hy⟩
  |some x=>
   have:=hv x hx;subst this;simp only[zk,jr,j6];by_cases hc:v>t
   .rw[aj hc,j5,aW];exact⟨k,rfl,hk,hq,λ⟨y,hy,FC⟩=>by rw[hx]at hy;simp at hy;omega⟩
   .rw[ak hc,j6,aF];exact UW ht h n (k+1) (by omega) (by omega) ⟨v,hx,by omega⟩
theorem jx5{o:Int}{l:bR}{L:cb}(h:Rt L){t v:Int}(h0:L.2.2.2.1=0)(w9:t<=8589934592)(hf:fO o l (ec L 0)=some v)(w8:v<=t)(hv0:0<=v) :
  kO o l L t ((t-v)/(3600*L.2.2.2.2.1))/\0<=(t-v)/(3600*L.2.2.2.2.1)/\(t-v)/(3600*L.2.2.2.2.1)<=8589934592:=by
 have xv:=h.e0;have UT:=h.e1;have q0:0<=(t-v)/(3600*L.2.2.2.2.1):=Int.ediv_nonneg (by omega) (by omega);have q1:3600*L.2.2.2.2.1*((t-v)/(3600*L.2.2.2.2.1))<=t-v:=Int.mul_ediv_self_le (by omega);have q2:t-v<3600*L.2.2.2.2.1*((t-v)/(3600*L.2.2.2.2.1))+3600*L.2.2.2.2.1:=Int.lt_mul_ediv_self_add (by omega);have q3:(t-v)/(3600*L.2.2.2.2.1)<=t-v:=Int.ediv_le_self _ (by omega);generalize (t-v)/(3600*L.2.2.2.2.1)=K at *;refine⟨.inr ⟨q0,⟨v+3600*L.2.2.2.2.1*K,?_,by omega⟩,?_⟩,q0,by omega⟩
 .unfold hO;rw[if_pos h0,hf];simp only[j3];rw[if_pos (by omega)]
 .rintro⟨y,hy,FC⟩
  unfold hO at hy;rw[if_pos h0,hf]at hy;simp only[j3,Int.mul_add,Int.mul_one]at hy;split at hy
  .simp at hy;omega
  .simp at hy
theorem jyU{o:Int}{l:bR}{L:cb}(h0:L.2.2.2.1=0){v:Int}(hv:hO o l L 0=some v):fO o l (ec L 0)=some v:=by
 unfold hO at hv;rw[if_pos h0]at hv;cases hf:fO o l (ec L 0) with
 |none=>rw[hf]at hv;simp at hv
 |some x=>
  rw[hf]at hv;simp only[j3,Int.mul_zero,Int.add_zero]at hv;split at hv
  .simpa using hv
  .simp at hv
theorem jBg{o:Int}{l:bR}(ht:iY o l){L:cb}(h:Rt L){t:Int}(h0t:0<=t)(w9:t<=8589934592):∃K:Int,j3u (o,l) L t=some K/\kO o l L t K:=by
 have hs:=h.step;have MR:=h.d0;have ry:=h.d1;have xv:=h.e0;have UT:=h.e1;obtain⟨v0,hH,hv⟩:=n4 ht h (k:=0) (by omega) (by omega);have dM:jb0 (L.1,L.2.1,(L.2.2.1.1,L.2.2.1.2),L.2.2.2.1,L.2.2.2.2.1,L.2.2.2.2.2.1,L.2.2.2.2.2.2.1,L.2.2.2.2.2.2.2.1,L.2.2.2.2.2.2.2.2)=_:=US h;simp only[j3u,show j1d (o,l) (L.1,L.2.1,(L.2.2.1.1,L.2.2.1.2),L.2.2.2.1,L.2.2.2.2.1,L.2.2.2.2.2.1,L.2.2.2.2.2.2.1,L.2.2.2.2.2.2.2.1,L.2.2.2.2.2.2.2.2) 0=_ from hH,dM,j3];cases hx:hO o l L 0 with
 |none=>simp only[vi,jy,j5];exact⟨-1,rfl,.inl ⟨rfl,λ⟨y,hy,_⟩=>by rw[hx]at hy;simp at hy⟩⟩
 |some v=>
  have:=hv v hx;subst this;simp only[zk,jr,j6];by_cases hc:v0>t
  .rw[aj hc,j5];exact⟨-1,rfl,.inl ⟨rfl,λ⟨y,hy,FC⟩=>by rw[hx]at hy;simp at hy;omega⟩⟩
  .rw[ak hc,j6];have hq:QO o l L t 0:=⟨v0,hx,by omega⟩;have hva:=D9 ht h (k:=0) (by omega) hx;by_cases h0:L.2.2.2.1=0
   .obtain⟨s1,s2,s3⟩:=jx5 (o:=o) (l:=l) h h0 w9 (jyU h0 hx) (by omega) hva.1;rw[dT h0,j5,ah (x:=t-v0) (by omega) (by omega),ah (x:=3600*L.2.2.2.2.1) (by omega) (by omega),cJ (show¬3600*L.2.2.2.2.1=0 by omega),zr (by omega),ah (x:=(t-v0)/(3600*L.2.2.2.2.1)) (by omega) (by omega)];exact⟨_,rfl,s1⟩
   .obtain⟨j,hj,j1,j2⟩:=DJ ht h0t w9;have o0:=ht.of0 j hj;have o1:=ht.of1 j hj;rw[cJ h0,j6,GH ht hj j1 j2];simp only[j3];generalize hld:(t+cG o l j)/86400=ld;rw[cJ (show¬fI L=0 by omega),ah (x:=ld-L.2.2.1.1) (by omega) (by omega)];simp only[jy,j5]
    obtain⟨n,hn,GM⟩:∃n:Nat,(if w64 (Int.tdiv (ld-L.2.2.1.1) (fI L))>0 then w64 (Int.tdiv (ld-L.2.2.1.1) (fI L)) else 0)=(n:Int)/\(n:Int)<=8589934592:=by
     by_cases kP:0<=ld-L.2.2.1.1
     .rw[zr kP];have q0:0<=(ld-L.2.2.1.1)/fI L:=Int.ediv_nonneg kP (by omega);have q1:(ld-L.2.2.1.1)/fI L<=ld-L.2.2.1.1:=Int.ediv_le_self _ kP;rw[ah (by omega) (by omega)];refine⟨((ld-L.2.2.1.1)/fI L).toNat,?_,?_⟩
      .split<;>omega
      .omega
     .have e:Int.tdiv (ld-L.2.2.1.1) (fI L) = -((-(ld-L.2.2.1.1))/fI L):=by rw[<-zr (by omega),Int.neg_tdiv,Int.neg_neg]
      have q0:0<=(-(ld-L.2.2.1.1))/fI L:=Int.ediv_nonneg (by omega) (by omega);have q1:(-(ld-L.2.2.1.1))/fI L <= -(ld-L.2.2.1.1):=Int.ediv_le_self _ (by omega);rw[e,ah (by omega) (by omega),if_neg (by omega)];exact⟨0,rfl,by omega⟩
    rw[hn];obtain⟨k,e,k0,k1⟩:=UU ht h (kg _) hq n GM;have Bc:=k1;obtain⟨y,hy,_⟩:=Bc;have bY:=D9 ht h k0 hy;obtain⟨K,e2,K0,K1,K2⟩:=UW ht h (t:=t) (2386093-k).toNat k (by omega) k0 k1;simp only[e,j3,e2];exact⟨K,rfl,.inr ⟨K0,K1,K2⟩⟩
end Go.Proofs.Pw
