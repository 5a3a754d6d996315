/- The Q2, edits and fM that the dice make are right. -/
import Derived.Test.YtjpgjpnfacnmaaaGreatLSPC
import Derived.Test.YtjpgjpnfacnmaaaGreatLSPB
import Derived.Test.YtjpgjpnfacnmaaaGreatLSPA
open Go Go.Lft
namespace Go.Proofs.Pw
theorem Q3{L:List Int}{zs:List br}{ps:List cZ}{cs:List aX}{ss:List cF}(pS:1<=ps.length)(s7:ps.length<=100){x0 y0:ByteArray}{x1 x2 x3 x4 x5 x6 x7 y1 y2 y3 y4 y5 y6 y7:Int}:∀(n:Nat)(a:Int)(ms:List Int),dD L a->ms.length+n<=4->(∀m∈ms,0<=m/\m<(ps.length:Int))->
  ∃Gf a',Er (n:Int) L a zs ps cs ss x0 x1 x2 x3 x4 x5 x6 x7 y0 y1 y2 y3 y4 y5 y6 y7 ms=some (L,a',zs,ps,cs,ss,x0,x1,x2,x3,x4,x5,x6,x7,y0,y1,y2,y3,y4,y5,y6,y7,Gf)/\Gf.length=ms.length+n/\(∀m∈Gf,0<=m/\m<(ps.length:Int))/\dD L a'
 |0,a,ms,hd,_,hm=>by
  rw[Wm];simp only[j2k];rw[ah (by omega),j7,aW];exact⟨ms,a,rfl,rfl,hm,hd⟩
 |n+1,a,ms,hd,hl,hm=>by
  obtain⟨x,a1,e1,x0',x1',d1⟩:=dj (n:=(ps.length:Int)) hd (by omega) (by omega);rw[Wm];simp only[j2k,show Int.ofNat (List.length ps)=(ps.length:Int) from rfl];rw[ag (by omega),ai (x:=((n+1:Nat):Int)-1),show ((n+1:Nat):Int)-1=(n:Int) by omega];simp only[j6,e1,j4];rw[ag (by simp[aN];omega)];simp only[j6,aK]
  obtain⟨Gf,a',e,h1,h2,h3⟩:=Q3 (zs:=zs) (cs:=cs) (ss:=ss) pS s7 (x0:=x0) (x1:=x1) (x2:=x2) (x3:=x3) (x4:=x4) (x5:=x5) (x6:=x6) (x7:=x7) (y0:=y0) (y1:=y1) (y2:=y2) (y3:=y3) (y4:=y4) (y5:=y5) (y6:=y6) (y7:=y7) n a1 (ms++[x]) d1 (by simp;omega) (λm h=>by
   rcases jn.1 h with h|h
   .exact hm m h
   .simp at h;subst h;exact⟨x0',x1'⟩)
  exact⟨Gf,a',e,by rw[h1];simp;omega,h2,h3⟩
theorem jyQ{L:List Int}{a:Int}(h:dD L a){zs:List br}{ps:List cZ}{cs:List aX}{ss:List cF}(hs:F6 zs ps cs)(nm:ByteArray) :
  ∃l a',j8Z L a (zs,(ps,(cs,ss))) nm=some (l,L,a')/\F7 l/\eD zs.length ps.length cs.length l/\l.1=nm/\dD L a':=by
 have rb:=hs.z0;have rh:=hs.z1;have pS:=hs.p0;have s7:=hs.p1;have eG:=hs.c1;obtain⟨z,a1,e1,z0,z1,d1⟩:=dj (n:=(zs.length:Int)) h (by omega) (by omega);obtain⟨x,a2,e2,x0,x1,d2⟩:=dj (n:=6) d1 (by omega) (by omega);obtain⟨s,a3,e3,m3,d3⟩:=ow d2 (xs:=[(0:Int),(32400:Int),(7200:Int),(9000:Int),(79200:Int),(1:Int)]) (by simp) (by simp);obtain⟨u,a4,e4,u0,u1,d4⟩:=dj (n:=3) d3 (by omega) (by omega);obtain⟨v,a5,e5,v0,v1,d5⟩:=dj (n:=2) d4 (by omega) (by omega);have dC:0<=s/\s<=79200:=by simp at m3;omega
 simp only[j8Z,show Int.ofNat (List.length zs)=(zs.length:Int) from rfl,e1,e2,e3,e4,e5,j4];rw[ai (x:=20454+x),ai (x:=20454+x-2),ai (x:=1+v)]
 have fin:∀(ev:Int),1<=ev->ev<=49->(u≠0->ev<=2)->(u=0->6<=ev)->∀ms:List Int,1<=ms.length->ms.length<=3->(∀m∈ms,0<=m/\m<(ps.length:Int))->∀(w:WL),ei 0 w->w.length<=3->∀(c m:Int),0<=m->m<=2->(m≠0->0<=c/\c<(cs.length:Int))->(m=0->c=0)->∀(a':Int),dD L a'->
   ∃l xk,some ((nm,(z,((20454+x-2,s),(u,(ev,(ms,(w,(c,m)))))))),L,a')=some (l,L,xk)/\F7 l/\eD zs.length ps.length cs.length l/\l.1=nm/\dD L xk:=
  λev h1 h2 h3 w8 ms h4 h5 ez w hw iD c m oy fD Ba hmz a' hd=>⟨_,_,rfl,⟨by dsimp only;omega,by dsimp only;omega,dC.1,dC.2,u0,by dsimp only;omega,h1,h2,h3,h4,h5⟩,
   ⟨z0,z1,by dsimp only;omega,QZ (by dsimp only;omega) (by dsimp only;omega),dC.1,by dsimp only;omega,u0,by dsimp only;omega,h1,by dsimp only;omega,by dsimp only;omega,by dsimp only;omega,ez,hw,by dsimp only;omega,oy,fD,Ba,hmz,iD,w8⟩,rfl,hd⟩
 have rest:∀(ev:Int),1<=ev->ev<=49->(u≠0->ev<=2)->(u=0->6<=ev)->∀(ms:List Int),1<=ms.length->ms.length<=3->(∀m∈ms,0<=m/\m<(ps.length:Int))->∀(w:WL),ei 0 w->w.length<=3->∀(a9:Int),dD L a9->
   ∃l xk,((j0N L a9 4).bind λr=>cond (cond r.1 (decide ((cs.length:Int)>0)) false) ((j07 r.2.1 r.2.2 (cs.length:Int)).bind λQ4=>(j07 Q4.2.1 Q4.2.2 2).bind λQ5=>some ((nm,(z,((20454+x-2,s),(u,(ev,(ms,(w,(Q4.1,w64 (1+Q5.1))))))))),Q5.2.1,Q5.2.2))
    (some ((nm,(z,((20454+x-2,s),(u,(ev,(ms,(w,((0:Int),(0:Int))))))))),r.2.1,r.2.2)))=some (l,L,xk)/\F7 l/\eD zs.length ps.length cs.length l/\l.1=nm/\dD L xk:=by
  intro ev h1 h2 h3 w8 ms h4 h5 ez w hw iD a9 d9;obtain⟨c,a11,e11,d11⟩:=Cd (n:=4) d9 (by omega) (by omega);simp only[e11,j4];by_cases nM:c=true/\(cs.length:Int)>0
  .obtain⟨i,a12,Na,i0,i1,d12⟩:=dj (n:=(cs.length:Int)) d11 (by omega) (by omega);obtain⟨j,a13,e13,j0,j1,d13⟩:=dj (n:=2) d12 (by omega) (by omega);rw[nM.1,ag nM.2];simp only[j6,Na,e13,j4,im (x:=1+j) (show -9223372036854775808<=_ by omega) (by omega)];exact fin ev h1 h2 h3 w8 ms h4 h5 ez w hw iD i (1+j) (by omega) (by omega) (λ_=>⟨i0,i1⟩) (λhh=>by omega) _ d13
  .have iS:cond c (decide ((cs.length:Int)>0)) false=false:=by
    cases c with
    |true=>exact ah (λh=>nM ⟨rfl,h⟩)
    |false=>rfl
   rw[iS];simp only[j7];exact fin ev h1 h2 h3 w8 ms h4 h5 ez w hw iD 0 0 (by omega) (by omega) (λhh=>absurd rfl hh) (λ_=>rfl) _ d11
 have Gg:ei 0 ([]:WL):=show (0:Int)<=604800 by omega
 by_cases hu:u=0
 .rw[di hu,j6];obtain⟨ev,a6,e6,m6,d6⟩:=ow d5 (xs:=[(6:Int),(8:Int),(12:Int),(24:Int),(23:Int),(49:Int)]) (by simp) (by simp);have mJ:6<=ev/\ev<=49:=by simp at m6;omega
  obtain⟨n,a7,e7,n0,n1,d7⟩:=dj (n:=3) d6 (by omega) (by omega);obtain⟨ms,a8,e8,l8,k8,d8⟩:=Q3 (L:=L) (zs:=zs) (ps:=ps) (cs:=cs) (ss:=ss) pS (by omega) (x0:=ByteArray.empty) (x1:=0) (x2:=0) (x3:=0) (x4:=0) (x5:=0) (x6:=0) (x7:=0) (y0:=nm) (y1:=z) (y2:=20454+x-2) (y3:=s) (y4:=u) (y5:=ev) (y6:=0) (y7:=0) (1+n).toNat a7 [] d7 (by simp;omega) (by simp);rw[show (((1+n).toNat:Nat):Int)=1+n by omega]at e8;simp at l8;obtain⟨b,a9,e9,d9⟩:=Cd (n:=2) d8 (by omega) (by omega);simp only[e6,e7,j4];rw[ai (x:=1+n)];simp only[e8,e9,j4,show Int.ofNat (List.length cs)=(cs.length:Int) from rfl];cases b with
  |true=>obtain⟨w,Q6,Q7,hw,iD,d10⟩:=JI d9;simp only[j6,Q7,j4];exact rest ev (by omega) mJ.2 (λh=>absurd hu h) (λ_=>mJ.1) ms (by omega) (by omega) k8 w hw iD Q6 d10
  |false=>simp only[j7];exact rest ev (by omega) mJ.2 (λh=>absurd hu h) (λ_=>mJ.1) ms (by omega) (by omega) k8 [] Gg (by simp) a9 d9
 .rw[bW hu,j7];obtain⟨n,a7,e7,n0,n1,d7⟩:=dj (n:=3) d5 (by omega) (by omega);obtain⟨ms,a8,e8,l8,k8,d8⟩:=Q3 (L:=L) (zs:=zs) (ps:=ps) (cs:=cs) (ss:=ss) pS (by omega) (x0:=ByteArray.empty) (x1:=0) (x2:=0) (x3:=0) (x4:=0) (x5:=0) (x6:=0) (x7:=0) (y0:=nm) (y1:=z) (y2:=20454+x-2) (y3:=s) (y4:=u) (y5:=1+v) (y6:=0) (y7:=0) (1+n).toNat a7 [] d7 (by simp;omega) (by simp);rw[show (((1+n).toNat:Nat):Int)=1+n by omega]at e8;simp at l8;obtain⟨b,a9,e9,d9⟩:=Cd (n:=2) d8 (by omega) (by omega);simp only[e7,j4];rw[ai (x:=1+n)];simp only[e8,e9,j4,show Int.ofNat (List.length cs)=(cs.length:Int) from rfl];cases b with
  |true=>obtain⟨w,Q6,Q7,hw,iD,d10⟩:=JI d9;simp only[j6,Q7,j4];exact rest (1+v) (by omega) (by omega) (λ_=>by omega) (λh=>absurd h hu) ms (by omega) (by omega) k8 w hw iD Q6 d10
  |false=>simp only[j7];exact rest (1+v) (by omega) (by omega) (λ_=>by omega) (λh=>absurd h hu) ms (by omega) (by omega) k8 [] Gg (by simp) a9 d9
theorem jDh{L:List Int}{a:Int}(h:dD L a){zs:List br}{ps:List cZ}{cs:List aX}{ss:List cF}(pS:1<=ps.length)(s7:ps.length<=4) :
  ∃x a',ja9 L a (zs,(ps,(cs,ss)))=some (x,L,a')/\mT ps.length x/\dD L a':=by
 obtain⟨k,a1,e1,k0,k1,d1⟩:=dj (n:=3) h (by omega) (by omega);obtain⟨p,a2,e2,p0,p1,d2⟩:=dj (n:=(ps.length:Int)) d1 (by omega) (by omega);obtain⟨t,a3,e3,t0,t1,d3⟩:=Ze d2;obtain⟨y,a4,e4,m4,d4⟩:=ow d3 (xs:=[(3600:Int),(86400:Int),(7:Int),(259200:Int),(40000:Int)]) (by simp) (by simp);have hy:7<=y/\y<=259200:=by simp at m4;omega
 have pU:j0A (Int.tdiv (t+y) 86400)=some true:=by rw[sG (by omega)];exact QZ (by omega) (by omega)
 simp only[ja9,show Int.ofNat (List.length ps)=(ps.length:Int) from rfl,e1,e2,e3,e4,j4];rw[ai (x:=t+y)]
 have fin:∀(kd A B:Int),0<=kd->kd<=2->(0<=A/\A<(ps.length:Int)\/kd=1/\A = -1)->(kd=2->0<=B/\B<(ps.length:Int)/\A≠B)->(kd≠2->B=0)->∀a',dD L a'->∃x xk,some ((kd,(A,(B,(t,t+y)))),L,a')=some (x,L,xk)/\mT ps.length x/\dD L xk:=
  λkd A B h1 h2 h3 h4 h5 a' hd=>⟨_,_,rfl,⟨h1,h2,h3,h4,h5,by dsimp only;omega,by dsimp only;omega,by dsimp only;omega,pU⟩,hd⟩
 by_cases h2:k=2
 .rw[di h2,j6];by_cases hn:(ps.length:Int)<2
  .rw[ag hn,j6];exact fin 0 p 0 (by omega) (by omega) (.inl ⟨p0,p1⟩) (λhh=>by omega) (λ_=>rfl) _ d4
  .rw[ah hn,j7,ai (x:=(ps.length:Int)-1)];obtain⟨q,a5,e5,q0,q1,d5⟩:=dj (n:=(ps.length:Int)-1) d4 (by omega) (by omega);simp only[e5,j4];rw[ai (x:=p+1),ai (x:=p+1+q),bW (show¬(ps.length:Int)=0 by omega),bW (show¬k=1 by omega),xg (by omega)];simp only[ka,j6,j7];have b0:0<=(p+1+q)%(ps.length:Int):=Int.emod_nonneg _ (by omega);have b1:(p+1+q)%(ps.length:Int)<(ps.length:Int):=Int.emod_lt_of_pos _ (by omega)
   have bk:p≠(p+1+q)%(ps.length:Int):=by
    by_cases hb:p+1+q<(ps.length:Int)
    .rw[Int.emod_eq_of_lt (by omega) hb];omega
    .rw[<-Int.sub_emod_right,Int.emod_eq_of_lt (by omega) (by omega)];omega
   exact fin k p _ k0 (by omega) (.inl ⟨p0,p1⟩) (λ_=>⟨b0,b1,bk⟩) (λhh=>absurd h2 hh) _ d5
 .rw[bW h2,j7];by_cases h1:k=1
  .rw[di h1,j6];obtain⟨b,a5,e5,d5⟩:=Cd (n:=4) d4 (by omega) (by omega);simp only[e5,j4];cases b with
   |true=>exact fin k (-1) 0 k0 (by omega) (.inr ⟨h1,rfl⟩) (λhh=>absurd hh h2) (λ_=>rfl) _ d5
   |false=>exact fin k p 0 k0 (by omega) (.inl ⟨p0,p1⟩) (λhh=>absurd hh h2) (λ_=>rfl) _ d5
  .rw[bW h1,j7];exact fin k p 0 k0 (by omega) (.inl ⟨p0,p1⟩) (λhh=>absurd hh h2) (λ_=>rfl) _ d4
theorem Zv{L:List Int}{s6:Int}{nm:ByteArray}{zs:List br}{ps:List cZ}{cs:List aX}{ss:List cF}(hs:F6 zs ps cs):∀(n:Nat)(a:Int)(ls:List bI),dD L a->ls.length+n<=3->(∀x∈ls,eD zs.length ps.length cs.length x)->ls.map (·.1)=gr.take ls.length->
  ∃ie a',Es s6 (n:Int) L a zs ps cs nm ss ls=some (s6,L,a',zs,ps,cs,nm,ss,ie)/\ie.length<=3/\(∀x∈ie,eD zs.length ps.length cs.length x)/\ie.map (·.1)=gr.take ie.length/\dD L a'
 |0,a,ls,hd,hl,hk,hn=>by
  rw[Wn];simp only[j22];rw[ah (by omega),j7,aW];exact⟨ls,a,rfl,by omega,hk,hn,hd⟩
 |n+1,a,ls,hd,hl,hk,hn=>by
  have cb:ls.length<gr.length:=by show ls.length<8;omega
  obtain⟨l,a1,e1,_,l2,l3,d1⟩:=jyQ (ss:=ss) hd hs (gr.getD ls.length ByteArray.empty);rw[Wn];simp only[j22,Zq,j4,show Int.ofNat (List.length ls)=(ls.length:Int) from rfl];rw[ag (by omega),cw (show (0:Int)<=(ls.length:Int) by omega) (by omega),ai (x:=((n+1:Nat):Int)-1),show ((n+1:Nat):Int)-1=(n:Int) by omega];simp only[j6,j8,e1,j4];rw[ag (by simp[aN];omega)];simp only[j6,aK]
  exact Zv hs n a1 (ls++[l]) d1 (by simp;omega) (λx hx=>by
   rcases jn.1 hx with h|h
   .exact hk x h
   .simp at h;subst h;exact l2) (by
   rw[za,hn,jg,ke,List.map_nil,l3];exact JK cb)
theorem Zw{L:List Int}{s6:Int}{nm:ByteArray}{zs:List br}{ps:List cZ}{cs:List aX}{ss:List cF}{ls:List bI}(hs:F6 zs ps cs):∀(n:Nat)(a:Int)(es:List dA),dD L a->es.length+n<=3->(∀x∈es,mT ps.length x)->
  ∃es' a',Ih s6 (n:Int) L a zs ps cs nm ss ls es=some (s6,L,a',zs,ps,cs,nm,ss,ls,es')/\es'.length<=3/\(∀x∈es',mT ps.length x)/\dD L a'
 |0,a,es,hd,hl,hk=>by
  rw[Wo];simp only[j23];rw[ah (by omega),j7,aW];exact⟨es,a,rfl,by omega,hk,hd⟩
 |n+1,a,es,hd,hl,hk=>by
  obtain⟨x,a1,e1,x1,d1⟩:=jDh (zs:=zs) (cs:=cs) (ss:=ss) hd hs.p0 hs.p1;rw[Wo];simp only[j23];rw[ag (by omega),ai (x:=((n+1:Nat):Int)-1),show ((n+1:Nat):Int)-1=(n:Int) by omega];simp only[j6,e1,j4];rw[ag (by simp[aN];omega)];simp only[j6,aK]
  exact Zw hs n a1 (es++[x]) d1 (by simp;omega) (λy hy=>by
   rcases jn.1 hy with h|h
   .exact hk y h
   .simp at h;subst h;exact x1)
theorem jEC{zs:List br}{ps:List cZ}{cs:List aX}{ss:List cF}(hs:cN zs ps cs)(h0:ss.length<=12)(h1:fq (ss.map (·.1)))(h2:∀s∈ss,pV zs.length ps.length cs.length s):ny (zs,(ps,(cs,ss))):=by
 have rh:=hs.so.z1;have s7:=hs.so.p1;have eG:=hs.so.c1;exact⟨by dsimp only;rw[hs.z.nm];exact jDc.take _,hs.z.ck,by dsimp only;omega,by dsimp only;rw[hs.p.nm];exact Zr.take _,hs.p.ck,by dsimp only;omega,hs.c.nm,hs.c.ck,by dsimp only;omega,h1,h2,h0⟩
structure nA(o:Int)(l:bn)(s t:Int)(k:Nat):Prop where
 hk:k<=l.length
 hks:s-ba o l k<aO l (k+1)
 bef:∀j,j<k->aO l (j+1)<=s-ba o l j
 ht:t=max (aO l k) (s-ba o l k)
def Q8(o:Int)(l:bn):Prop:=∀i,i<l.length -> -86400<ba o l (i+1)-ba o l i/\ba o l (i+1)-ba o l i<86400
section
variable{o:Int}{l:bn}(h:gW o l)
include h
theorem nA.piece{s t:Int}{k:Nat}(f:nA o l s t k):aO l k<=t/\t<aO l (k+1)/\s<=t+ba o l k:=by
 have h1:=h.frm_lt f.hk;have h2:=f.hks;have h3:=f.ht;omega
theorem nA.up{s s' t t':Int}{k k':Nat}(hd:Q8 o l)(hs:200000<s)(he:s+86400<=s')(f:nA o l s t k)(g:nA o l s' t' k'):t<t':=by
 obtain⟨p1,p2,p3⟩:=f.piece h;obtain⟨q1,q2,q3⟩:=g.piece h;have g1:=g.hks;have g2:=g.ht;have f2:=f.ht;have Cf:=f.hk;have hkN':=g.hk;rcases vw k k' with ak|heq|Cg
 .have m1:=h.frm_le (i:=k+1) (j:=k') (by omega) (by omega);omega
 .subst heq;by_cases h0:k=0
  .subst h0;have e0:aO l 0=0:=ov;have o1:=h.of1 0 (by omega);omega
  .obtain⟨j,rfl⟩:∃j,k=j+1:=⟨k-1,by omega⟩;have b:=f.bef j (by omega);have d:=hd j (by omega);omega
 .have:=f.bef k' Cg;omega
end
noncomputable def Gj(o:Int)(l:bn)(s:Int):Int:=open Classical in if h:∃t k,nA o l s t k then Classical.choose h else 0
def dv(L:bI):Int:=if L.2.2.2.1=2 then 7*L.2.2.2.2.1 else L.2.2.2.2.1
def dm(L:bI)(k:Int):Int:=(L.2.2.1.1+k*dv L)*86400+L.2.2.1.2
noncomputable def xS(o:Int)(l:bn)(L:bI)(k:Int):Int:=if L.2.2.2.1=0 then Gj o l (dm L 0)+3600*L.2.2.2.2.1*k else Gj o l (dm L k)
structure LR(L:bI):Prop where
 d0:100<=L.2.2.1.1
 d1:L.2.2.1.1<=30000
 c0:0<=L.2.2.1.2
 c1:L.2.2.1.2<=86399
 u0:0<=L.2.2.2.1
 u1:L.2.2.2.1<=2
 e0:1<=L.2.2.2.2.1
 e1:L.2.2.2.2.1<=49
 m0:1<=L.2.2.2.2.2.1.length
 m1:L.2.2.2.2.2.1.length<=1000
theorem F7.lr{L:bI}(h:F7 L):LR L:=⟨by have:=h.d0;omega,by have:=h.d1;omega,h.c0,by have:=h.c1;omega,h.u0,h.u1,h.e0,h.e1,h.m0,by have:=h.m1;omega⟩
theorem LR.step{L:bI}(h:LR L):1<=dv L/\dv L<=343:=by
 have:=h.e0;have:=h.e1;unfold dv;split<;>omega
section
variable{o:Int}{l:bn}(h:gW o l)
include h
end
theorem juc(y:Int):j1j y=some (vC y):=YT y
theorem JL(y m:Int):jf4 y m=some (fT y m):=by
 by_cases h:m<1\/12<m
 .have hk:∀k:Int,1<=k->k<=12->(m==k)=false:=λk h1 h2=>bW (by omega);have:fT y m=0:=if_pos h;rw[this]
  simp only[jf4,hk 1 (by omega) (by omega),hk 2 (by omega) (by omega),hk 3 (by omega) (by omega),hk 4 (by omega) (by omega),hk 5 (by omega) (by omega),hk 6 (by omega) (by omega),hk 7 (by omega) (by omega),
   hk 8 (by omega) (by omega),hk 9 (by omega) (by omega),hk 10 (by omega) (by omega),hk 11 (by omega) (by omega),hk 12 (by omega) (by omega),j7]
 .obtain rfl|rfl|rfl|rfl|rfl|rfl|rfl|rfl|rfl|rfl|rfl|rfl:m=1\/m=2\/m=3\/m=4\/m=5\/m=6\/m=7\/m=8\/m=9\/m=10\/m=11\/m=12:=by omega
  case inr.inl=>have e:jf4 y 2=(j1j y).bind λr=>cond r (some (29:Int)) (some (28:Int)):=rfl;rw[e,juc,fT,YR];simp only[j4];cases vC y<;>rfl
  all_goals rfl
theorem jsB(y m d:Int):jjr (y,m,d)=some (decide (vD y m d)):=by
 simp only[jjr,JL,j4];by_cases hv:vD y m d
 .have hm:=QK hv;have gI:=hv;obtain⟨a1,a2,a3,a4⟩:=hv;rw[ag (show y>=1970 from a1),ag a2,ag (show m>=1 from hm.1),ag hm.2,ag (show d>=1 from a3),ag a4,ag gI];rfl
 .rw[ah hv];by_cases a1:y>=1970
  .by_cases a2:y<=2240
   .by_cases a3:m>=1
    .by_cases a4:m<=12
     .by_cases a5:d>=1
      .rw[ag a1,ag a2,ag a3,ag a4,ag a5,ah (show¬d<=fT y m fromλh=>hv ⟨a1,a2,a5,h⟩)];rfl
      .rw[ag a1,ag a2,ag a3,ag a4,ah a5];rfl
     .rw[ag a1,ag a2,ag a3,ah a4];rfl
    .rw[ag a1,ag a2,ah a3];rfl
   .rw[ag a1,ah a2];rfl
  .rw[ah a1];rfl
theorem jud(y:Int)(h1:1969<=y)(h2:y<=1000000000):jjs y=some (jN y):=by
 simp only[jjs];rw[ai (x:=y-1970),ai (x:=y-1969),ai (x:=y-1901),ai (x:=y-1601)];rw[sG (show 0<=y-1969 by omega),sG (show 0<=y-1901 by omega),sG (show 0<=y-1601 by omega)];simp (disch:=omega) only[im];congr 1;unfold jN;omega
theorem Zx(y m d:Int)(hm:m<=13):∀(n:Nat)(s k:Int),1<=k->k+n=m -> -1000000000000<=s->s+31*n<=1000000000000->II s k y m d=some (s+mm y m-mm y k,y,m,d)
 |0,s,k,hk,hn,_,_=>by
  rw[Xt];have:k=m:=by omega
  subst this;simp only[j78,ah (show¬k<k by omega),j7,aW];congr 2;omega
 |n+1,s,k,hk,hn,h1,h2=>by
  rw[Xt];have hd:=sK y k;have hc:=QH y k hk (by omega);simp only[j78,JL,j4,ag (show k<m by omega),j6,aK];rw[ai (x:=s+fT y k),ai (x:=k+1)];rw[Zx y m d hm n (s+fT y k) (k+1) (by omega) (by omega) (by omega) (by omega)];congr 2;omega
theorem gp{y m d:Int}(hv:vD y m d):jpy (y,m,d)=some (num y m d,0):=by
 have hm:=QK hv;have hd:=sK y m;have hb : -1000000000<=jN y/\jN y<=1000000000:=by have:=hv.1;have:=hv.2.1;unfold jN;omega
 have hc:=YS y m;obtain⟨h1,h2,h3,h4⟩:=id hv;simp only[jpy,jsB,ag hv,j4,jl,j7,jud y (by omega) (by omega),Zx y m d (by omega) (m-1).toNat (jN y) 1 (by omega) (by omega) (by omega) (by omega)];have:mm y 1=0:=rfl;rw[ai (x:=jN y+mm y m-mm y 1+d),ai];unfold num;congr 2;omega
theorem Zy(d:Int):jcc d=j5U d:=rfl
theorem Zz(y m k w n e:Int)(oO:0<=n)(qX:n<=1000000)(Q9:e<=6)(JM:(n+e+3)%7=w) :
  ∀(j:Nat)(s:Int),0<=s->s+j=e->IJ y m k w n (n+s)=some (y,m,k,n,n+e)
 |0,s,hs,hj=>by
  rw[Xu];have:s=e:=by omega
  subst this;have hb:((n+s+3)%7 != w)=false:=by simp[JM]
  simp only[j79,Zy,JD (n+s) (by omega),j4,hb,j7,aW]
 |j+1,s,hs,hj=>by
  rw[Xu];have hb:((n+s+3)%7 != w)=true:=by simp only[bne_iff_ne,ne_eq];omega
  simp only[j79,Zy,JD (n+s) (by omega),j4,hb,j6,aK];rw[ai (x:=n+s+1),show n+s+1=n+(s+1) by omega];exact Zz y m k w n e oO qX Q9 JM j (s+1) (by omega) (by omega)
theorem Ra(y m n t:Int)(oO:0<=n)(qX:n<=1000000)(QY:t<n+fT y m)(BE:n+fT y m<=t+7)(pW : -1000<=t) :
  ∀(j:Nat)(s:Int),s+7*j=t -> -1000<=s->IK y m n s=some t
 |0,s,hs,_=>by
  have hd:=sK y m;rw[Xv];have:s=t:=by omega
  subst this;simp only[j7a,JL,j4];rw[ai (x:=s+7),ai (x:=n+fT y m),ah (show¬s+7<n+fT y m by omega),j7,aW]
 |j+1,s,hs,h1=>by
  have hd:=sK y m;rw[Xv];simp only[j7a,JL,j4];rw[ai (x:=s+7),ai (x:=n+fT y m),ag (show s+7<n+fT y m by omega),j6,aK];exact Ra y m n t oO qX QY BE pW j (s+7) (by omega) (by omega)
theorem gq(y m k w:Int)(h1:1970<=y)(h2:y<=2240)(fD:1<=m)(gL:m<=12)(dJ:1<=k)(ga:k<=5)(hw1:0<=w)(BG:w<=6):jpz y m k w=some (nth y m k w,0):=by
 have hv:=FZ y m h1 h2 fD gL;have hr:=FY hv;have hd:=FX y m fD gL;have gZ:=sK y m;simp only[jpz,gp hv,j4,jh];rw[ah (show¬k<1 by omega),ah (show¬k>5 by omega),ah (show¬w<0 by omega),ah (show¬w>6 by omega)];simp only[j7];unfold nth;generalize num y m 1=n at *;obtain⟨e,tI,Q9,JM,DH⟩:∃e,0<=e/\e<=6/\(n+e+3)%7=w/\n+(w-(n+3)%7+7)%7=n+e:=⟨(w-(n+3)%7+7)%7,by omega,by omega,by omega,rfl⟩;rw[DH];have hl:=Zz y m k w n e hr.1 (by omega) Q9 JM e.toNat 0 (by omega) (by omega);rw[yf]at hl;simp only[hl,j4];by_cases hk:k<5
 .rw[ag hk,j6,ai (x:=k-1),ai (x:=7*(k-1)),ai,if_neg (by omega)]
 .have kV:k=5:=by omega
  subst kV;rw[ah hk,j7];by_cases hc:n+e+7*(5-1)>=n+fT y m
  .rw[Ra y m n (n+e+21) hr.1 (by omega) (by omega) (by omega) (by omega) 3 (n+e) (by omega) (by omega),if_pos hc];simp only[j4];congr 2;omega
  .rw[Ra y m n (n+e+28) hr.1 (by omega) (by omega) (by omega) (by omega) 4 (n+e) (by omega) (by omega),if_neg hc];simp only[j4];congr 2
theorem nB{n lo hi:Int}(h1:lo<=n)(h2:n<=hi):j9d n lo hi=some true:=by
 simp only[j9d];rw[ag (show n>=lo from h1),ag h2];rfl
theorem jED{n lo hi:Int}(h:¬(lo<=n/\n<=hi)):j9d n lo hi=some false:=by
 simp only[j9d];by_cases h1:n>=lo
 .rw[ag h1,ah (λh2=>h ⟨h1,h2⟩)];rfl
 .rw[ah h1];rfl
theorem jwN{r:aD}(h:lY r):jgC r=some true:=by
 simp only[jgC,nB h.y0 (show r.1<=2240 by have:=h.y1;have:=h.y2;omega),nB h.y1 h.y2,nB h.m0 h.m1,nB h.k0 h.k1,nB h.d0 h.d1,nB h.s0 h.s1,nB h.o0 h.o1,j4,j6]
theorem ZA(x:Int×Int):∀l:bn,ml x l=l.takeWhile (λy=>decide (x.1<y.1))++x::l.dropWhile (λy=>decide (x.1<y.1))
 |[]=>rfl
 |y::ys=>by
  unfold ml;by_cases h:x.1<y.1
  .rw[if_pos h,ZA x ys];simp[h]
  .rw[if_neg h];simp[h]
theorem ZB{rs:List aD}{i y a b:Int}:∀(rp mid:bn),rp.length+mid.length<=100000->
  E4 rs i y (rp.length:Int) a b (rp.reverse++mid)=some (rs,i,y,((rp.dropWhile (λz=>decide (a<z.1))).length:Int),a,b,rp.reverse++mid)
 |[],mid,_=>by
  rw[Xw];simp only[j2q];rw[ah (by simp),j7,aW];rfl
 |z::zs,mid,hl=>by
  have hL:((z::zs).reverse++mid).length=zs.length+1+mid.length:=by simp;omega
  simp only[jm]at hl;have g2:((z::zs).reverse++mid).getD ((((zs.length+1:Nat):Int)-1).toNat) ((0:Int),(0:Int))=z:=by rw[show (((zs.length+1:Nat):Int)-1).toNat=zs.length by omega];simp
  rw[Xw];simp only[j2q,jm];simp only[ai (x:=((zs.length+1:Nat):Int)-1),g2];rw[ag (show ((zs.length+1:Nat):Int)>0 by omega),cw (by omega) (by rw[hL];omega)];simp only[j6];by_cases hc:a<z.1
  .rw[ag (show z.1>a from hc)];simp only[j6,aK];have ih:=ZB (rs:=rs) (i:=i) (y:=y) (a:=a) (b:=b) zs (z::mid) (by simp;omega);have e:(z::zs).reverse++mid=zs.reverse++z::mid:=by simp
   rw[e,show ((zs.length+1:Nat):Int)-1=(zs.length:Int) by omega,ih];simp[hc]
  .rw[ah (show¬z.1>a from hc)];simp only[j7,aW];simp[hc]
theorem jAW(l:bn)(x:Int×Int){k:Nat}(hk:k<=l.length):List.set (over (l++[x]) (k+1) (List.drop k (l++[x]))) k x=l.take k++x::l.drop k:=by
 have h1:(l++[x]).length=l.length+1:=by simp
 unfold over;rw[h1,jd (show (l++[x]).length<=k+1+(List.drop k (l++[x])).length by simp;omega),qm];have e1:List.drop k (l++[x])=List.drop k l++[x]:=by rw[List.drop_append_of_le_length hk]
 rw[e1];have e2:List.take (l.length+1-(k+1)) (List.drop k l++[x])=List.drop k l:=by rw[ze (by simp),List.take_of_length_le (by simp)]
 rw[e2];by_cases h:k<l.length
 .have e3:List.take (k+1) (l++[x])=l.take k++[l[k]]:=by rw[ze (by omega),yg h]
  rw[e3,jj,vp _ _ (by simp;omega)];simp[Nat.min_eq_left hk]
 .have bK:k=l.length:=by omega
  subst bK;have e3:List.take (l.length+1) (l++[x])=l++[x]:=List.take_of_length_le (by simp);rw[e3];simp
theorem ZC{rs:List aD}{i:Nat}(hi:i<rs.length){r:aD}(hr:rs[i]=r)(h:lY r):∀(n j:Nat)(acc:bn),r.1+(j:Int)+n=r.2.1+1->acc.length+n<=90000->
  IL rs (i:Int) (r.1+(j:Int)) acc.reverse=some (rs,(i:Int),(lb ((List.range n).map λ(q:Nat)=>cP r (r.1+(j:Int)+(q:Int))) acc).reverse)
 |0,j,acc,hj,_=>by
  have hg:rs.getD i ((0:Int),((0:Int),((0:Int),((0:Int),((0:Int),((0:Int),(0:Int)))))))=r:=by simp[hi,hr]
  rw[Xx];simp only[j2r];rw[bz];simp only[j6,j8,hg];rw[ah (by omega),j7,aW];rfl
 |n+1,j,acc,hj,hl=>by
  have hg:rs.getD i ((0:Int),((0:Int),((0:Int),((0:Int),((0:Int),((0:Int),(0:Int)))))))=r:=by simp[hi,hr]
  have h0:=h.y0;have h2:=h.y2;have jL:=h.s0;have nN:=h.s1;have hv:=FY (FZ (r.1+(j:Int)) r.2.2.1 (by omega) (by omega) h.m0 h.m1);have hn:=QM (w:=r.2.2.2.2.1) (y:=r.1+(j:Int)) (by omega) (by omega) h.m0 h.m1 h.k0 h.k1;have hd:=sK (r.1+(j:Int)) r.2.2.1;rw[Xx];simp only[j2r];rw[bz];simp only[j6,j8,hg];rw[ag (show r.1+(j:Int)<=r.2.1 by omega),gq _ _ _ _ (by omega) (by omega) h.m0 h.m1 h.k0 h.k1 h.d0 h.d1];simp only[j6,j4];rw[ai (x:=nth (r.1+(j:Int)) r.2.2.1 r.2.2.2.1 r.2.2.2.2.1*86400),ai (x:=nth (r.1+(j:Int)) r.2.2.1 r.2.2.2.1 r.2.2.2.2.1*86400+r.2.2.2.2.2.1)];have vE:=ZB (rs:=rs) (i:=(i:Int)) (y:=r.1+(j:Int)) (a:=(cP r (r.1+(j:Int))).1) (b:=(cP r (r.1+(j:Int))).2) acc [] (by simp;omega);rw[qm]at vE;rw[show Int.ofNat (List.length acc.reverse)=(acc.length:Int) by simp];rw[show E4 rs (i:Int) (r.1+(j:Int)) (acc.length:Int) (nth (r.1+(j:Int)) r.2.2.1 r.2.2.2.1 r.2.2.2.2.1*86400+r.2.2.2.2.2.1) r.2.2.2.2.2.2 acc.reverse=_ from vE];simp only[j4];generalize hx:cP r (r.1+(j:Int))=x at *;have uu:(acc.dropWhile (λz=>decide (x.1<z.1))).length<=acc.length:=(List.dropWhile_sublist _).length_le;generalize hD:acc.dropWhile (λz=>decide (x.1<z.1))=D at *;have xl:(acc.reverse++[(x.1,x.2)]).length=acc.length+1:=by simp
  rw[ag (by simp[aN];omega)];simp only[j6]
  rw[ai (x:=(D.length:Int)+1),ag (show (0:Int)<=(D.length:Int)+1 by omega),ag (show (D.length:Int)+1<=Int.ofNat (acc.reverse++[(x.1,x.2)]).length by rw[xl];show (D.length:Int)+1<=((acc.length+1:Nat):Int);omega),
   ag (show (0:Int)<=(D.length:Int) by omega),ag (show (D.length:Int)<=Int.ofNat (acc.reverse++[(x.1,x.2)]).length by rw[xl];show (D.length:Int)<=((acc.length+1:Nat):Int);omega)]
  simp only[vu,j6,j8,show ((D.length:Int)+1).toNat=D.length+1 by omega];have xS:(over (acc.reverse++[(x.1,x.2)]) (D.length+1) (List.drop D.length (acc.reverse++[(x.1,x.2)]))).length=acc.length+1:=by unfold over;simp;omega
  rw[cw (by omega) (by rw[xS];omega),jAW acc.reverse (x.1,x.2) (by simpa using uu)];simp only[j6];rw[ai (x:=r.1+(j:Int)+1),aK];have Ab:acc.reverse.take D.length++(x.1,x.2)::acc.reverse.drop D.length=(ml x acc).reverse:=by have dQ:=List.takeWhile_append_dropWhile (p:=λz:Int×Int=>decide (x.1<z.1)) (l:=acc);rw[ZA,hD];rw[hD]at dQ;generalize acc.takeWhile (λz=>decide (x.1<z.1))=T at dQ ⊢;rw[<-dQ];simp
  rw[Ab];have ih:=ZC hi hr h n (j+1) (ml x acc) (by omega) (by rw[FV];omega);rw[show r.1+(j:Int)+1=r.1+((j+1:Nat):Int) by omega];refine ih.trans ?_
  have Ac:(List.range n).map (λ(q:Nat)=>cP r (r.1+((j+1:Nat):Int)+(q:Int)))=(List.range n).map ((λ(q:Nat)=>cP r (r.1+(j:Int)+(q:Int))) ∘ Nat.succ):=yi λq _=>by
   simp only[Function.comp];congr 1;omega
  rw[List.range_succ_eq_map,ke,List.map_map,Ac];simp[lb,hx]
theorem ZD:∀(a b acc:bn),lb (a++b) acc=lb b (lb a acc)
 |[],_,_=>rfl
 |x::a,b,acc=>by simp only[zv,lb];exact ZD a b _
theorem ZE{rs:List aD}(h:∀r∈rs,lY r)(hlen:rs.length<=100):∀(n i:Nat)(acc:bn),i+n=rs.length->acc.length<=300*i->
  E5 rs (i:Int) acc.reverse=some (lb (occs (rs.drop i)) acc).reverse
 |0,i,acc,hi,_=>by
  rw[Xy];simp only[j2s,show Int.ofNat (List.length rs)=(rs.length:Int) from rfl];rw[ah (by omega),j7,aW,jd (by omega)];rfl
 |n+1,i,acc,hi,hl=>by
  have ak:i<rs.length:=by omega
  have hr:=h rs[i] (jf ak);have h0:=hr.y0;have h1:=hr.y1;have h2:=hr.y2;have hg:rs.getD i ((0:Int),((0:Int),((0:Int),((0:Int),((0:Int),((0:Int),(0:Int)))))))=rs[i]:=by simp[ak]
  have th:=ZC ak rfl hr (rs[i].2.1-rs[i].1+1).toNat 0 acc (by omega) (by omega);rw[show rs[i].1+((0:Nat):Int)=rs[i].1 by omega]at th;have ih:=ZE h hlen n (i+1) (lb (fY rs[i]) acc) (by omega) (by rw[FW];simp[fY];omega);rw[Xy];simp only[j2s,show Int.ofNat (List.length rs)=(rs.length:Int) from rfl];rw[ag (show (i:Int)<(rs.length:Int) by omega),bz];simp only[j6,j8,hg,th,j4];rw[ai,aK,jb ak];refine ih.trans ?_;show _=some (lb (fY rs[i]++occs (rs.drop (i+1))) acc).reverse;rw[ZD]
theorem jAX{rs:List aD}(h:∀r∈rs,lY r)(hlen:rs.length<=100):j9e rs=some (ff (occs rs)):=by
 have e:=ZE h hlen rs.length 0 [] (by omega) (by simp);simp only[j9e];rw[show E5 rs 0 []=_ from e];rfl
theorem ZF{rs:List aD}(h:∀r∈rs,lY r)(hlen:rs.length<=100)(nm:ByteArray)(o:Int):∀(n i:Nat)(s:Int),i+n=rs.length->0<=s->s<=300*i->
  E6 s (i:Int) nm o rs=some (.inr (s+((occs (rs.drop i)).length:Int),nm,o,rs))
 |0,i,s,hi,_,_=>by
  rw[Xz];simp only[j2t,show Int.ofNat (List.length rs)=(rs.length:Int) from rfl];rw[ah (by omega),j7,aW,jd (by omega)];simp[occs]
 |n+1,i,s,hi,jL,nN=>by
  have ak:i<rs.length:=by omega
  have hr:=h rs[i] (jf ak);have h0:=hr.y0;have h1:=hr.y1;have h2:=hr.y2;have hg:rs.getD i ((0:Int),((0:Int),((0:Int),((0:Int),((0:Int),((0:Int),(0:Int)))))))=rs[i]:=by simp[ak]
  have ih:=ZF h hlen nm o n (i+1) (s+(rs[i].2.1-rs[i].1+1)) (by omega) (by omega) (by omega);have sL:jgC (rs[i].1,(rs[i].2.1,(rs[i].2.2.1,(rs[i].2.2.2.1,(rs[i].2.2.2.2.1,(rs[i].2.2.2.2.2.1,rs[i].2.2.2.2.2.2))))))=some true:=jwN hr;rw[Xz];simp only[j2t,show Int.ofNat (List.length rs)=(rs.length:Int) from rfl];rw[ag (show (i:Int)<(rs.length:Int) by omega),bz];simp only[j6,j8,hg,sL,j4,jl,j7];rw[ai (x:=rs[i].2.1-rs[i].1),ai (x:=rs[i].2.1-rs[i].1+1),ai (x:=s+(rs[i].2.1-rs[i].1+1)),ai (x:=(i:Int)+1),aK];refine ih.trans ?_;rw[jb ak]
  have:((occs (rs[i]::rs.drop (i+1))).length:Int)=(rs[i].2.1-rs[i].1+1)+((occs (rs.drop (i+1))).length:Int):=by
   have e1:(fY rs[i]).length=(rs[i].2.1-rs[i].1+1).toNat:=by simp[fY]
   show ((fY rs[i]++occs (rs.drop (i+1))).length:Int)=_;rw[jg,e1];omega
  rw[this];congr 3;omega
theorem Rb(L:bn)(hL:L.length<=1000):∀(n i:Nat)(now:Int)(acc:bn),i+n=L.length -> -64800<=now->now<=64800->acc.length<=i->(∀x∈acc,0<=x.1/\x.1<=8589934592)->Good now (acc.getLast?.map (·.1)) (L.drop i)->
  E7 now (i:Int) acc L=some (.inr (acc++cj now (L.drop i)))
 |0,i,now,acc,hi,_,_,_,_,_=>by
  rw[XA];simp only[j2u,show Int.ofNat (List.length L)=(L.length:Int) from rfl];rw[ah (by omega),j7,aW,jd (by omega)];simp[cj]
 |n+1,i,now,acc,hi,oO,qX,nk,dZ,hg=>by
  have ak:i<L.length:=by omega
  rw[jb ak]at hg ⊢;have aR:L.getD i ((0:Int),(0:Int))=L[i]:=by simp[ak]
  rw[XA];simp only[j2u,show Int.ofNat (List.length L)=(L.length:Int) from rfl];rw[ag (show (i:Int)<(L.length:Int) by omega),bz];simp only[j6,j8,aR];generalize L[i]=x at *;rw[ai (x:=(i:Int)+1)];simp only[Good]at hg;by_cases hx:x.2=now
  .rw[if_pos hx]at hg;rw[di hx];simp only[j6,aK,cj];rw[if_pos hx];exact Rb L hL n (i+1) now acc (by omega) oO qX (by omega) dZ hg
  .rw[if_neg hx]at hg;obtain⟨⟨g1,g2,g3,g4,g5,g6,g7⟩,g8⟩:=hg;rw[bW hx,ai (x:=x.1-now),ai (x:=x.2-now)];simp only[j7,nB (show (-86399:Int)<=x.2-now by omega) (show x.2-now<=86399 by omega),nB (show (0:Int)<=x.1-now by omega) (show x.1-now<=8589934592 by omega),j4,jl,show Int.ofNat (List.length acc)=(acc.length:Int) from rfl]
   have gR:=Rb L hL n (i+1) x.2 (acc++[(x.1-now,x.2)]) (by omega) g6 g7 (by simp;omega)
    (λy hy=>by
     rcases jn.1 hy with hy|hy
     .exact dZ y hy
     .simp at hy;subst hy;exact⟨by show (0:Int)<=x.1-now;omega,by show x.1-now<=8589934592;omega⟩) (by simpa using g8)
   have dG:cj now (x::L.drop (i+1))=(x.1-now,x.2)::cj x.2 (L.drop (i+1)):=by simp[cj,hx]
   rw[dG];rw[jj]at gR;rw[ai (x:=(acc.length:Int)-1)];by_cases ha:acc=[]
   .subst ha;simp only[qc];rw[show decide (((0:Nat):Int)>0)=false from rfl];simp only[j7];rw[ag (by simp[aN])];simp only[j6,aK];exact gR
   .have bJ:0<acc.length:=List.length_pos_iff.2 ha;have cU:acc.getLast? = some (acc.getD (acc.length-1) (0,0)):=by rw[List.getLast?_eq_getElem?,List.getD_eq_getElem?_getD,jk (show acc.length-1<acc.length by omega)];rfl
    rw[cU]at g5;have g5:(acc.getD (acc.length-1) ((0:Int),(0:Int))).1+604800<=x.1-now:=g5 _ rfl;have hb:=dZ (acc.getD (acc.length-1) (0,0)) (List.mem_of_getLast? cU);rw[bz,ag (show (acc.length:Int)>0 by omega),show ((acc.length:Int)-1).toNat=acc.length-1 by omega];simp only[j6];rw[ai,ah (show¬x.1-now-(acc.getD (acc.length-1) ((0:Int),(0:Int))).1<604800 by omega),ag (by simp[aN];omega)];simp only[j6,j7,aK];exact gR
theorem jFO{nm:ByteArray}{o:Int}{rs:List aD}(h:∀r∈rs,lY r)(mR : -64800<=o)(jK:o<=64800)(hlen:rs.length<=16)(hn:(occs rs).length<=640)(hg:Good o none (ff (occs rs))) :
  j0h (nm,(o,rs))=some (cj o (ff (occs rs)),0):=by
 have hl:(ff (occs rs)).length<=1000:=by simp[ff,FW];omega
 have e0:=ZF h (by omega) nm o rs.length 0 0 (by omega) (by omega) (by omega);rw[jr]at e0;have e2:=Rb (ff (occs rs)) hl (ff (occs rs)).length 0 o [] (by omega) mR jK (by simp) (by simp) hg;rw[jr]at e2;simp only[j0h,nB mR jK,j4,jl,j7,show Int.ofNat (List.length rs)=(rs.length:Int) from rfl];rw[ah (show¬(rs.length:Int)>16 by omega),j7,show E6 0 0 nm o rs=_ from e0];simp only[j4,nw];rw[ah (by omega),j7,jAX h (by omega)];simp only[j4];rw[show E7 o 0 [] (ff (occs rs))=_ from e2];rfl
def Z4(z:ByteArray×(Int×List aD))(l:bn):Prop:=j0h z=some (l,0)/\gW z.2.1 l
theorem MZ.r4{o:Int}{rs:List aD}(h:MZ o rs)(nm:ByteArray):Z4 (nm,(o,rs)) (cj o (ff (occs rs))):=by
 have ht:=h.tab nm;refine⟨jFO h.ok (by have:=h.o0;omega) (by have:=h.o1;omega) ?_ ?_ h.good,ht.2⟩
 .have:=h.len;omega
 .have:=h.few;omega
end Go.Proofs.Pw
