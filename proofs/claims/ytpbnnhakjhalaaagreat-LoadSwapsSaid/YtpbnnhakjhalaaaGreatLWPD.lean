/- The xg, edits and eW that the dice make are right. -/
import Derived.Test.YtpbnnhakjhalaaaGreatLWPC
import Derived.Test.YtpbnnhakjhalaaaGreatLWPB
import Derived.Test.YtpbnnhakjhalaaaGreatLWPA
open Go Go.Lft
namespace Go.Proofs.Pw
theorem M4{L:List Int}{zs:List bI}{ps:List c9}{cs:List aW}{ss:List dA}(iU:1<=ps.length)(oX:ps.length<=100){x0 y0:ByteArray}{x1 x2 x3 x4 x5 x6 x7 y1 y2 y3 y4 y5 y6 y7:Int}:∀(n:Nat)(a:Int)(ms:List Int),dv L a->ms.length+n<=4->(∀m∈ms,0<=m/\m<(ps.length:Int))->
  ∃De a',BM (n:Int) L a zs ps cs ss x0 x1 x2 x3 x4 x5 x6 x7 y0 y1 y2 y3 y4 y5 y6 y7 ms=some (L,a',zs,ps,cs,ss,x0,x1,x2,x3,x4,x5,x6,x7,y0,y1,y2,y3,y4,y5,y6,y7,De)/\De.length=ms.length+n/\(∀m∈De,0<=m/\m<(ps.length:Int))/\dv L a'
 |0,a,ms,hd,_,hm=>by
  rw[RD];simp only[j2f];rw[aj (by omega),j6,aY];exact⟨ms,a,rfl,rfl,hm,hd⟩
 |n+1,a,ms,hd,hl,hm=>by
  obtain⟨x,a1,e1,x0',x1',d1⟩:=cM (n:=(ps.length:Int)) hd (by omega) (by omega);rw[RD];simp only[j2f,show Int.ofNat (List.length ps)=(ps.length:Int) from rfl];rw[ag (by omega),ah (x:=((n+1:Nat):Int)-1) (by omega) (by omega),show ((n+1:Nat):Int)-1=(n:Int) by omega];simp only[j5,e1,j3];rw[ag (by simp[aP];omega)];simp only[j5,aQ]
  obtain⟨De,a',e,h1,h2,h3⟩:=M4 (zs:=zs) (cs:=cs) (ss:=ss) iU oX (x0:=x0) (x1:=x1) (x2:=x2) (x3:=x3) (x4:=x4) (x5:=x5) (x6:=x6) (x7:=x7) (y0:=y0) (y1:=y1) (y2:=y2) (y3:=y3) (y4:=y4) (y5:=y5) (y6:=y6) (y7:=y7) n a1 (ms++[x]) d1 (by simp;omega) (λm h=>by
   rcases js.1 h with h|h
   .exact hm m h
   .simp at h;subst h;exact⟨x0',x1'⟩)
  exact⟨De,a',e,by rw[h1];simp;omega,h2,h3⟩
theorem jtY{L:List Int}{a:Int}(h:dv L a){zs:List bI}{ps:List c9}{cs:List aW}{ss:List dA}(hs:C7 zs ps cs)(nm:ByteArray) :
  ∃l a',j7T L a (zs,(ps,(cs,ss))) nm=some (l,L,a')/\C8 l/\eX zs.length ps.length cs.length l/\l.1=nm/\dv L a':=by
 have mj:=hs.z0;have rq:=hs.z1;have iU:=hs.p0;have oX:=hs.p1;have fa:=hs.c1;obtain⟨z,a1,e1,z0,z1,d1⟩:=cM (n:=(zs.length:Int)) h (by omega) (by omega);obtain⟨x,a2,e2,x0,x1,d2⟩:=cM (n:=6) d1 (by omega) (by omega);obtain⟨s,a3,e3,m3,d3⟩:=mJ d2 (xs:=[(0:Int),(32400:Int),(7200:Int),(9000:Int),(79200:Int),(1:Int)]) (by simp) (by simp);obtain⟨u,a4,e4,u0,u1,d4⟩:=cM (n:=3) d3 (by omega) (by omega);obtain⟨v,a5,e5,v0,v1,d5⟩:=cM (n:=2) d4 (by omega) (by omega);have dI:0<=s/\s<=79200:=by simp at m3;omega
 simp only[j7T,show Int.ofNat (List.length zs)=(zs.length:Int) from rfl,e1,e2,e3,e4,e5,j3];rw[ah (x:=20454+x) (by omega) (by omega),ah (x:=20454+x-2) (by omega) (by omega),ah (x:=1+v) (by omega) (by omega)]
 have fin:∀(ev:Int),1<=ev->ev<=49->(u≠0->ev<=2)->(u=0->6<=ev)->∀ms:List Int,1<=ms.length->ms.length<=3->(∀m∈ms,0<=m/\m<(ps.length:Int))->∀(w:WL),iq 0 w->w.length<=3->∀(c m:Int),0<=m->m<=2->(m≠0->0<=c/\c<(cs.length:Int))->(m=0->c=0)->∀(a':Int),dv L a'->
   ∃l uF,some ((nm,(z,((20454+x-2,s),(u,(ev,(ms,(w,(c,m)))))))),L,a')=some (l,L,uF)/\C8 l/\eX zs.length ps.length cs.length l/\l.1=nm/\dv L uF:=
  λev h1 h2 h3 ui ms h4 h5 eF w hw iX c m uE gf OR hmz a' hd=>⟨_,_,rfl,⟨by dsimp only;omega,by dsimp only;omega,dI.1,dI.2,u0,by dsimp only;omega,h1,h2,h3,h4,h5⟩,
   ⟨z0,z1,by dsimp only;omega,F9 (by dsimp only;omega) (by dsimp only;omega),dI.1,by dsimp only;omega,u0,by dsimp only;omega,h1,by dsimp only;omega,by dsimp only;omega,by dsimp only;omega,eF,hw,by dsimp only;omega,uE,gf,OR,hmz,iX,ui⟩,rfl,hd⟩
 have rest:∀(ev:Int),1<=ev->ev<=49->(u≠0->ev<=2)->(u=0->6<=ev)->∀(ms:List Int),1<=ms.length->ms.length<=3->(∀m∈ms,0<=m/\m<(ps.length:Int))->∀(w:WL),iq 0 w->w.length<=3->∀(a9:Int),dv L a9->
   ∃l uF,((j0K L a9 4).bind λr=>cond (cond r.1 (decide ((cs.length:Int)>0)) false) ((j05 r.2.1 r.2.2 (cs.length:Int)).bind λM5=>(j05 M5.2.1 M5.2.2 2).bind λM6=>some ((nm,(z,((20454+x-2,s),(u,(ev,(ms,(w,(M5.1,w64 (1+M6.1))))))))),M6.2.1,M6.2.2))
    (some ((nm,(z,((20454+x-2,s),(u,(ev,(ms,(w,((0:Int),(0:Int))))))))),r.2.1,r.2.2)))=some (l,L,uF)/\C8 l/\eX zs.length ps.length cs.length l/\l.1=nm/\dv L uF:=by
  intro ev h1 h2 h3 ui ms h4 h5 eF w hw iX a9 d9;obtain⟨c,a11,e11,d11⟩:=yI (n:=4) d9 (by omega) (by omega);simp only[e11,j3];by_cases u7:c=true/\(cs.length:Int)>0
  .obtain⟨i,a12,JD,i0,i1,d12⟩:=cM (n:=(cs.length:Int)) d11 (by omega) (by omega);obtain⟨j,a13,e13,j0,j1,d13⟩:=cM (n:=2) d12 (by omega) (by omega);rw[u7.1,ag u7.2];simp only[j5,JD,e13,j3,ah (x:=1+j) (show -9223372036854775808<=_ by omega) (by omega)];exact fin ev h1 h2 h3 ui ms h4 h5 eF w hw iX i (1+j) (by omega) (by omega) (λ_=>⟨i0,i1⟩) (λhh=>by omega) _ d13
  .have mh:cond c (decide ((cs.length:Int)>0)) false=false:=by
    cases c with
    |true=>exact aj (λh=>u7 ⟨rfl,h⟩)
    |false=>rfl
   rw[mh];simp only[j6];exact fin ev h1 h2 h3 ui ms h4 h5 eF w hw iX 0 0 (by omega) (by omega) (λhh=>absurd rfl hh) (λ_=>rfl) _ d11
 have Df:iq 0 ([]:WL):=show (0:Int)<=604800 by omega
 by_cases hu:u=0
 .rw[eA hu,j5];obtain⟨ev,a6,e6,m6,d6⟩:=mJ d5 (xs:=[(6:Int),(8:Int),(12:Int),(24:Int),(23:Int),(49:Int)]) (by simp) (by simp);have oz:6<=ev/\ev<=49:=by simp at m6;omega
  obtain⟨n,a7,e7,n0,n1,d7⟩:=cM (n:=3) d6 (by omega) (by omega);obtain⟨ms,a8,e8,l8,k8,d8⟩:=M4 (L:=L) (zs:=zs) (ps:=ps) (cs:=cs) (ss:=ss) iU (by omega) (x0:=ByteArray.empty) (x1:=0) (x2:=0) (x3:=0) (x4:=0) (x5:=0) (x6:=0) (x7:=0) (y0:=nm) (y1:=z) (y2:=20454+x-2) (y3:=s) (y4:=u) (y5:=ev) (y6:=0) (y7:=0) (1+n).toNat a7 [] d7 (by simp;omega) (by simp);rw[show (((1+n).toNat:Nat):Int)=1+n by omega]at e8;simp at l8;obtain⟨b,a9,e9,d9⟩:=yI (n:=2) d8 (by omega) (by omega);simp only[e6,e7,j3];rw[ah (x:=1+n) (by omega) (by omega)];simp only[e8,e9,j3,show Int.ofNat (List.length cs)=(cs.length:Int) from rfl];cases b with
  |true=>obtain⟨w,M7,M8,hw,iX,d10⟩:=MV d9;simp only[j5,M8,j3];exact rest ev (by omega) oz.2 (λh=>absurd hu h) (λ_=>oz.1) ms (by omega) (by omega) k8 w hw iX M7 d10
  |false=>simp only[j6];exact rest ev (by omega) oz.2 (λh=>absurd hu h) (λ_=>oz.1) ms (by omega) (by omega) k8 [] Df (by simp) a9 d9
 .rw[cB hu,j6];obtain⟨n,a7,e7,n0,n1,d7⟩:=cM (n:=3) d5 (by omega) (by omega);obtain⟨ms,a8,e8,l8,k8,d8⟩:=M4 (L:=L) (zs:=zs) (ps:=ps) (cs:=cs) (ss:=ss) iU (by omega) (x0:=ByteArray.empty) (x1:=0) (x2:=0) (x3:=0) (x4:=0) (x5:=0) (x6:=0) (x7:=0) (y0:=nm) (y1:=z) (y2:=20454+x-2) (y3:=s) (y4:=u) (y5:=1+v) (y6:=0) (y7:=0) (1+n).toNat a7 [] d7 (by simp;omega) (by simp);rw[show (((1+n).toNat:Nat):Int)=1+n by omega]at e8;simp at l8;obtain⟨b,a9,e9,d9⟩:=yI (n:=2) d8 (by omega) (by omega);simp only[e7,j3];rw[ah (x:=1+n) (by omega) (by omega)];simp only[e8,e9,j3,show Int.ofNat (List.length cs)=(cs.length:Int) from rfl];cases b with
  |true=>obtain⟨w,M7,M8,hw,iX,d10⟩:=MV d9;simp only[j5,M8,j3];exact rest (1+v) (by omega) (by omega) (λ_=>by omega) (λh=>absurd h hu) ms (by omega) (by omega) k8 w hw iX M7 d10
  |false=>simp only[j6];exact rest (1+v) (by omega) (by omega) (λ_=>by omega) (λh=>absurd h hu) ms (by omega) (by omega) k8 [] Df (by simp) a9 d9
theorem jxt{L:List Int}{a:Int}(h:dv L a){zs:List bI}{ps:List c9}{cs:List aW}{ss:List dA}(iU:1<=ps.length)(oX:ps.length<=4) :
  ∃x a',j8Q L a (zs,(ps,(cs,ss)))=some (x,L,a')/\kF ps.length x/\dv L a':=by
 obtain⟨k,a1,e1,k0,k1,d1⟩:=cM (n:=3) h (by omega) (by omega);obtain⟨p,a2,e2,p0,p1,d2⟩:=cM (n:=(ps.length:Int)) d1 (by omega) (by omega);obtain⟨t,a3,e3,t0,t1,d3⟩:=T6 d2;obtain⟨y,a4,e4,m4,d4⟩:=mJ d3 (xs:=[(3600:Int),(86400:Int),(7:Int),(259200:Int),(40000:Int)]) (by simp) (by simp);have hy:7<=y/\y<=259200:=by simp at m4;omega
 have xc:j0t (Int.tdiv (t+y) 86400)=some true:=by rw[sG (by omega)];exact F9 (by omega) (by omega)
 simp only[j8Q,show Int.ofNat (List.length ps)=(ps.length:Int) from rfl,e1,e2,e3,e4,j3];rw[ah (x:=t+y) (by omega) (by omega)]
 have fin:∀(kd A B:Int),0<=kd->kd<=2->(0<=A/\A<(ps.length:Int)\/kd=1/\A = -1)->(kd=2->0<=B/\B<(ps.length:Int)/\A≠B)->(kd≠2->B=0)->∀a',dv L a'->∃x uF,some ((kd,(A,(B,(t,t+y)))),L,a')=some (x,L,uF)/\kF ps.length x/\dv L uF:=
  λkd A B h1 h2 h3 h4 h5 a' hd=>⟨_,_,rfl,⟨h1,h2,h3,h4,h5,by dsimp only;omega,by dsimp only;omega,by dsimp only;omega,xc⟩,hd⟩
 by_cases h2:k=2
 .rw[eA h2,j5];by_cases hn:(ps.length:Int)<2
  .rw[ag hn,j5];exact fin 0 p 0 (by omega) (by omega) (.inl ⟨p0,p1⟩) (λhh=>by omega) (λ_=>rfl) _ d4
  .rw[aj hn,j6,ah (x:=(ps.length:Int)-1) (by omega) (by omega)];obtain⟨q,a5,e5,q0,q1,d5⟩:=cM (n:=(ps.length:Int)-1) d4 (by omega) (by omega);simp only[e5,j3];rw[ah (x:=p+1) (by omega) (by omega),ah (x:=p+1+q) (by omega) (by omega),cB (show¬(ps.length:Int)=0 by omega),cB (show¬k=1 by omega),CU (by omega)];simp only[k5,j5,j6];have b0:0<=(p+1+q)%(ps.length:Int):=Int.emod_nonneg _ (by omega);have b1:(p+1+q)%(ps.length:Int)<(ps.length:Int):=Int.emod_lt_of_pos _ (by omega)
   have aT:p≠(p+1+q)%(ps.length:Int):=by
    by_cases hb:p+1+q<(ps.length:Int)
    .rw[Int.emod_eq_of_lt (by omega) hb];omega
    .rw[<-Int.sub_emod_right,Int.emod_eq_of_lt (by omega) (by omega)];omega
   exact fin k p _ k0 (by omega) (.inl ⟨p0,p1⟩) (λ_=>⟨b0,b1,aT⟩) (λhh=>absurd h2 hh) _ d5
 .rw[cB h2,j6];by_cases h1:k=1
  .rw[eA h1,j5];obtain⟨b,a5,e5,d5⟩:=yI (n:=4) d4 (by omega) (by omega);simp only[e5,j3];cases b with
   |true=>exact fin k (-1) 0 k0 (by omega) (.inr ⟨h1,rfl⟩) (λhh=>absurd hh h2) (λ_=>rfl) _ d5
   |false=>exact fin k p 0 k0 (by omega) (.inl ⟨p0,p1⟩) (λhh=>absurd hh h2) (λ_=>rfl) _ d5
  .rw[cB h1,j6];exact fin k p 0 k0 (by omega) (.inl ⟨p0,p1⟩) (λhh=>absurd hh h2) (λ_=>rfl) _ d4
theorem Un{L:List Int}{s6:Int}{nm:ByteArray}{zs:List bI}{ps:List c9}{cs:List aW}{ss:List dA}(hs:C7 zs ps cs):∀(n:Nat)(a:Int)(ls:List bM),dv L a->ls.length+n<=3->(∀x∈ls,eX zs.length ps.length cs.length x)->ls.map (·.1)=fG.take ls.length->
  ∃fh a',BN s6 (n:Int) L a zs ps cs nm ss ls=some (s6,L,a',zs,ps,cs,nm,ss,fh)/\fh.length<=3/\(∀x∈fh,eX zs.length ps.length cs.length x)/\fh.map (·.1)=fG.take fh.length/\dv L a'
 |0,a,ls,hd,hl,hk,hn=>by
  rw[RE];simp only[j1T];rw[aj (by omega),j6,aY];exact⟨ls,a,rfl,by omega,hk,hn,hd⟩
 |n+1,a,ls,hd,hl,hk,hn=>by
  have bT:ls.length<fG.length:=by show ls.length<8;omega
  obtain⟨l,a1,e1,_,l2,l3,d1⟩:=jtY (ss:=ss) hd hs (fG.getD ls.length ByteArray.empty);rw[RE];simp only[j1T,Ui,j3,show Int.ofNat (List.length ls)=(ls.length:Int) from rfl];rw[ag (by omega),aZ (show (0:Int)<=(ls.length:Int) by omega) (by omega),ah (x:=((n+1:Nat):Int)-1) (by omega) (by omega),show ((n+1:Nat):Int)-1=(n:Int) by omega];simp only[j5,j7,e1,j3];rw[ag (by simp[aP];omega)];simp only[j5,aQ]
  exact Un hs n a1 (ls++[l]) d1 (by simp;omega) (λx hx=>by
   rcases js.1 hx with h|h
   .exact hk x h
   .simp at h;subst h;exact l2) (by
   rw[z8,hn,je,ka,List.map_nil,l3];exact Ga bT)
theorem Uo{L:List Int}{s6:Int}{nm:ByteArray}{zs:List bI}{ps:List c9}{cs:List aW}{ss:List dA}{ls:List bM}(hs:C7 zs ps cs):∀(n:Nat)(a:Int)(es:List cR),dv L a->es.length+n<=3->(∀x∈es,kF ps.length x)->
  ∃lQ a',E0 s6 (n:Int) L a zs ps cs nm ss ls es=some (s6,L,a',zs,ps,cs,nm,ss,ls,lQ)/\lQ.length<=3/\(∀x∈lQ,kF ps.length x)/\dv L a'
 |0,a,es,hd,hl,hk=>by
  rw[RF];simp only[j1U];rw[aj (by omega),j6,aY];exact⟨es,a,rfl,by omega,hk,hd⟩
 |n+1,a,es,hd,hl,hk=>by
  obtain⟨x,a1,e1,x1,d1⟩:=jxt (zs:=zs) (cs:=cs) (ss:=ss) hd hs.p0 hs.p1;rw[RF];simp only[j1U];rw[ag (by omega),ah (x:=((n+1:Nat):Int)-1) (by omega) (by omega),show ((n+1:Nat):Int)-1=(n:Int) by omega];simp only[j5,e1,j3];rw[ag (by simp[aP];omega)];simp only[j5,aQ]
  exact Uo hs n a1 (es++[x]) d1 (by simp;omega) (λy hy=>by
   rcases js.1 hy with h|h
   .exact hk y h
   .simp at h;subst h;exact x1)
theorem jyG{zs:List bI}{ps:List c9}{cs:List aW}{ss:List dA}(hs:cW zs ps cs)(h0:ss.length<=12)(h1:eG (ss.map (·.1)))(h2:∀s∈ss,rr zs.length ps.length cs.length s):mL (zs,(ps,(cs,ss))):=by
 have rq:=hs.so.z1;have oX:=hs.so.p1;have fa:=hs.so.c1;exact⟨by dsimp only;rw[hs.z.nm];exact jxo.take _,hs.z.ck,by dsimp only;omega,by dsimp only;rw[hs.p.nm];exact Uj.take _,hs.p.ck,by dsimp only;omega,hs.c.nm,hs.c.ck,by dsimp only;omega,h1,h2,h0⟩
structure lU(o:Int)(l:bC)(s t:Int)(k:Nat):Prop where
 hk:k<=l.length
 hks:s-cp o l k<bq l (k+1)
 bef:∀j,j<k->bq l (j+1)<=s-cp o l j
 ht:t=max (bq l k) (s-cp o l k)
def M9(o:Int)(l:bC):Prop:=∀i,i<l.length -> -86400<cp o l (i+1)-cp o l i/\cp o l (i+1)-cp o l i<86400
section
variable{o:Int}{l:bC}(h:ic o l)
include h
theorem lU.piece{s t:Int}{k:Nat}(f:lU o l s t k):bq l k<=t/\t<bq l (k+1)/\s<=t+cp o l k:=by
 have h1:=h.frm_lt f.hk;have h2:=f.hks;have h3:=f.ht;omega
theorem lU.up{s s' t t':Int}{k k':Nat}(hd:M9 o l)(hs:200000<s)(he:s+86400<=s')(f:lU o l s t k)(g:lU o l s' t' k'):t<t':=by
 obtain⟨p1,p2,p3⟩:=f.piece h;obtain⟨q1,q2,q3⟩:=g.piece h;have g1:=g.hks;have g2:=g.ht;have f2:=f.ht;have yK:=f.hk;have hkN':=g.hk;rcases vv k k' with au|heq|yL
 .have m1:=h.frm_le (i:=k+1) (j:=k') (by omega) (by omega);omega
 .subst heq;by_cases h0:k=0
  .subst h0;have e0:bq l 0=0:=p9;have o1:=h.of1 0 (by omega);omega
  .obtain⟨j,rfl⟩:∃j,k=j+1:=⟨k-1,by omega⟩;have b:=f.bef j (by omega);have d:=hd j (by omega);omega
 .have:=f.bef k' yL;omega
end
noncomputable def Dg(o:Int)(l:bC)(s:Int):Int:=open Classical in if h:∃t k,lU o l s t k then Classical.choose h else 0
def fe(L:bM):Int:=if L.2.2.2.1=2 then 7*L.2.2.2.2.1 else L.2.2.2.2.1
def ej(L:bM)(k:Int):Int:=(L.2.2.1.1+k*fe L)*86400+L.2.2.1.2
noncomputable def vJ(o:Int)(l:bC)(L:bM)(k:Int):Int:=if L.2.2.2.1=0 then Dg o l (ej L 0)+3600*L.2.2.2.2.1*k else Dg o l (ej L k)
structure LR(L:bM):Prop where
 d0:100<=L.2.2.1.1
 d1:L.2.2.1.1<=30000
 c0:0<=L.2.2.1.2
 c1:L.2.2.1.2<=86399
 u0:0<=L.2.2.2.1
 u1:L.2.2.2.1<=2
 e0:1<=L.2.2.2.2.1
 e1:L.2.2.2.2.1<=49
 m0:1<=L.2.2.2.2.2.1.length
 m1:L.2.2.2.2.2.1.length<=1000
theorem C8.lr{L:bM}(h:C8 L):LR L:=⟨by have:=h.d0;omega,by have:=h.d1;omega,h.c0,by have:=h.c1;omega,h.u0,h.u1,h.e0,h.e1,h.m0,by have:=h.m1;omega⟩
theorem LR.step{L:bM}(h:LR L):1<=fe L/\fe L<=343:=by
 have:=h.e0;have:=h.e1;unfold fe;split<;>omega
section
variable{o:Int}{l:bC}(h:ic o l)
include h
end
theorem jqa(y:Int):j1a y=some (sK y):=TL y
theorem Gb(y m:Int):jcO y m=some (fc y m):=by
 by_cases h:m<1\/12<m
 .have hk:∀k:Int,1<=k->k<=12->(m==k)=false:=λk h1 h2=>cB (by omega);have:fc y m=0:=if_pos h;rw[this]
  simp only[jcO,hk 1 (by omega) (by omega),hk 2 (by omega) (by omega),hk 3 (by omega) (by omega),hk 4 (by omega) (by omega),hk 5 (by omega) (by omega),hk 6 (by omega) (by omega),hk 7 (by omega) (by omega),
   hk 8 (by omega) (by omega),hk 9 (by omega) (by omega),hk 10 (by omega) (by omega),hk 11 (by omega) (by omega),hk 12 (by omega) (by omega),j6]
 .obtain rfl|rfl|rfl|rfl|rfl|rfl|rfl|rfl|rfl|rfl|rfl|rfl:m=1\/m=2\/m=3\/m=4\/m=5\/m=6\/m=7\/m=8\/m=9\/m=10\/m=11\/m=12:=by omega
  case inr.inl=>have e:jcO y 2=(j1a y).bind λr=>cond r (some (29:Int)) (some (28:Int)):=rfl;rw[e,jqa,fc,TJ];simp only[j3];cases sK y<;>rfl
  all_goals rfl
theorem joP(y m d:Int):jgr (y,m,d)=some (decide (sL y m d)):=by
 simp only[jgr,Gb,j3];by_cases hv:sL y m d
 .have hm:=MJ hv;have fQ:=hv;obtain⟨a1,a2,a3,a4⟩:=hv;rw[ag (show y>=1970 from a1),ag a2,ag (show m>=1 from hm.1),ag hm.2,ag (show d>=1 from a3),ag a4,ag fQ];rfl
 .rw[aj hv];by_cases a1:y>=1970
  .by_cases a2:y<=2240
   .by_cases a3:m>=1
    .by_cases a4:m<=12
     .by_cases a5:d>=1
      .rw[ag a1,ag a2,ag a3,ag a4,ag a5,aj (show¬d<=fc y m fromλh=>hv ⟨a1,a2,a5,h⟩)];rfl
      .rw[ag a1,ag a2,ag a3,ag a4,aj a5];rfl
     .rw[ag a1,ag a2,ag a3,aj a4];rfl
    .rw[ag a1,ag a2,aj a3];rfl
   .rw[ag a1,aj a2];rfl
  .rw[aj a1];rfl
theorem jqb(y:Int)(h1:1969<=y)(h2:y<=1000000000):jgs y=some (im y):=by
 simp only[jgs];rw[ah (x:=y-1970) (by omega) (by omega),ah (x:=y-1969) (by omega) (by omega),ah (x:=y-1901) (by omega) (by omega),ah (x:=y-1601) (by omega) (by omega)];rw[sG (show 0<=y-1969 by omega),sG (show 0<=y-1901 by omega),sG (show 0<=y-1601 by omega)];simp (disch:=omega) only[ah];congr 1;unfold im;omega
theorem Up(y m d:Int)(hm:m<=13):∀(n:Nat)(s k:Int),1<=k->k+n=m -> -1000000000000<=s->s+31*n<=1000000000000->E4 s k y m d=some (s+kD y m-kD y k,y,m,d)
 |0,s,k,hk,hn,_,_=>by
  rw[RJ];have:k=m:=by omega
  subst this;simp only[j6g,aj (show¬k<k by omega),j6,aY];congr 2;omega
 |n+1,s,k,hk,hn,h1,h2=>by
  rw[RJ];have hd:=qB y k;have hc:=MG y k hk (by omega);simp only[j6g,Gb,j3,ag (show k<m by omega),j5,aQ];rw[ah (x:=s+fc y k) (by omega) (by omega),ah (x:=k+1) (by omega) (by omega)];rw[Up y m d hm n (s+fc y k) (k+1) (by omega) (by omega) (by omega) (by omega)];congr 2;omega
theorem fE{y m d:Int}(hv:sL y m d):jmh (y,m,d)=some (num y m d,0):=by
 have hm:=MJ hv;have hd:=qB y m;have hb : -1000000000<=im y/\im y<=1000000000:=by have:=hv.1;have:=hv.2.1;unfold im;omega
 have hc:=TK y m;obtain⟨h1,h2,h3,h4⟩:=id hv;simp only[jmh,joP,ag hv,j3,jn,j6,jqb y (by omega) (by omega),Up y m d (by omega) (m-1).toNat (im y) 1 (by omega) (by omega) (by omega) (by omega)];have:kD y 1=0:=rfl;rw[ah (x:=im y+kD y m-kD y 1+d) (by omega) (by omega),ah (by omega) (by omega)];unfold num;congr 2;omega
theorem Uq(d:Int):jfu d=j5o d:=rfl
theorem Ur(y m k w n e:Int)(pb:0<=n)(nB:n<=1000000)(Na:e<=6)(Gc:(n+e+3)%7=w) :
  ∀(j:Nat)(s:Int),0<=s->s+j=e->E5 y m k w n (n+s)=some (y,m,k,n,n+e)
 |0,s,hs,hj=>by
  rw[RK];have:s=e:=by omega
  subst this;have hb:((n+s+3)%7 != w)=false:=by simp[Gc]
  simp only[j6h,Uq,F2 (n+s) (by omega),j3,hb,j6,aY]
 |j+1,s,hs,hj=>by
  rw[RK];have hb:((n+s+3)%7 != w)=true:=by simp only[bne_iff_ne,ne_eq];omega
  simp only[j6h,Uq,F2 (n+s) (by omega),j3,hb,j5,aQ];rw[ah (x:=n+s+1) (by omega) (by omega),show n+s+1=n+(s+1) by omega];exact Ur y m k w n e pb nB Na Gc j (s+1) (by omega) (by omega)
theorem Nb(y m n t:Int)(pb:0<=n)(nB:n<=1000000)(M0:t<n+fc y m)(ht2:n+fc y m<=t+7)(ht0 : -1000<=t) :
  ∀(j:Nat)(s:Int),s+7*j=t -> -1000<=s->E6 y m n s=some t
 |0,s,hs,_=>by
  have hd:=qB y m;rw[RM];have:s=t:=by omega
  subst this;simp only[j6i,Gb,j3];rw[ah (x:=s+7) (by omega) (by omega),ah (x:=n+fc y m) (by omega) (by omega),aj (show¬s+7<n+fc y m by omega),j6,aY]
 |j+1,s,hs,h1=>by
  have hd:=qB y m;rw[RM];simp only[j6i,Gb,j3];rw[ah (x:=s+7) (by omega) (by omega),ah (x:=n+fc y m) (by omega) (by omega),ag (show s+7<n+fc y m by omega),j5,aQ];exact Nb y m n t pb nB M0 ht2 ht0 j (s+7) (by omega) (by omega)
theorem fF(y m k w:Int)(h1:1970<=y)(h2:y<=2240)(gf:1<=m)(iB:m<=12)(dD:1<=k)(fL:k<=5)(Hu:0<=w)(JJ:w<=6):jmi y m k w=some (nth y m k w,0):=by
 have hv:=C2 y m h1 h2 gf iB;have hr:=C1 hv;have hd:=C0 y m gf iB;have me:=qB y m;simp only[jmi,fE hv,j3,ji];rw[aj (show¬k<1 by omega),aj (show¬k>5 by omega),aj (show¬w<0 by omega),aj (show¬w>6 by omega)];simp only[j6];unfold nth;generalize num y m 1=n at *;obtain⟨e,uh,Na,Gc,Im⟩:∃e,0<=e/\e<=6/\(n+e+3)%7=w/\n+(w-(n+3)%7+7)%7=n+e:=⟨(w-(n+3)%7+7)%7,by omega,by omega,by omega,rfl⟩;rw[Im];have hl:=Ur y m k w n e hr.1 (by omega) Na Gc e.toNat 0 (by omega) (by omega);rw[Int.add_zero]at hl;simp only[hl,j3];by_cases hk:k<5
 .rw[ag hk,j5,ah (x:=k-1) (by omega) (by omega),ah (x:=7*(k-1)) (by omega) (by omega),ah (by omega) (by omega),if_neg (by omega)]
 .have pO:k=5:=by omega
  subst pO;rw[aj hk,j6];by_cases hc:n+e+7*(5-1)>=n+fc y m
  .rw[Nb y m n (n+e+21) hr.1 (by omega) (by omega) (by omega) (by omega) 3 (n+e) (by omega) (by omega),if_pos hc];simp only[j3];congr 2;omega
  .rw[Nb y m n (n+e+28) hr.1 (by omega) (by omega) (by omega) (by omega) 4 (n+e) (by omega) (by omega),if_neg hc];simp only[j3];congr 2
end Go.Proofs.Pw
