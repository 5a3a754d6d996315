/- IP that the Pl make; what Cv add. -/
import Derived.Test.YtbpjdcbbmibehaaGreatLJPM
import Derived.Test.YtbpjdcbbmibehaaGreatLJPB
noncomputable section
open Go Go.Lft
namespace Go.Proofs.Pw
abbrev mS:=List ((Int×Int)×Int)
theorem YS{f:Int->Int}{p:Int}:∀{S:bF}{a:Int}{N:Nat},Ch f (a+N) a S->ei p S=bq (λx=>decide (f x=p)) a N
 |[],a,N,h=>by
  have h:a=a+N:=h;have:N=0:=by omega
  subst this;rfl
 |s::r,a,N,h=>by
  obtain⟨h1,h2,h3,h4⟩:=h;have hle:=h4.le;obtain⟨k,hk⟩:∃k:Nat,s.2.1=a+k:=⟨(s.2.1-a).toNat,by omega⟩;obtain⟨m,rfl⟩:∃m:Nat,N=k+m:=⟨N-k,by omega⟩;rw[hk]at h4;have ih:=YS (f:=f) (p:=p) (S:=r) (a:=a+k) (N:=m) (by rw[show a+(k:Int)+(m:Int)=a+((k+m:Nat):Int) by omega];exact h4);simp only[ei,ih,BB];congr 1;by_cases hs:s.2.2=p
  .rw[if_pos hs,Qm (λx x1 x2=>by rw[h3 x x1 (by omega),hs];simp)];omega
  .rw[if_neg hs,II (λx x1 x2=>by rw[h3 x x1 (by omega)];simp[hs])]
structure uK(ws:mS):Prop where
 w:gu 0 (ws.map λy=>y.1)
 l:ws.length<=4
 g:∀y∈ws,1<=y.2/\y.2<=4
theorem YT{L:List Int}{w:WL}(hw:w.length<=4):∀(n i:Nat)(a:Int)(acc:mS),i+n=w.length->dx L a->acc.map (λy=>y.1)=w.take i->(∀y∈acc,1<=y.2/\y.2<=4)->
  ∃a' out,DS (i:Int) L a acc w=some (L,a',out)/\out.map (λy=>y.1)=w/\(∀y∈out,1<=y.2/\y.2<=4)/\dx L a'
 |0,i,a,acc,hi,hd,h1,h2=>by
  refine⟨a,acc,?_,by rw[h1,List.take_of_length_le (by omega)],h2,hd⟩;rw[Ut];simp only[j1W,show Int.ofNat w.length=(w.length:Int) from rfl];rw[ao (by omega),j6,aY]
 |n+1,i,a,acc,hi,hd,h1,h2=>by
  have ak:i<w.length:=by omega
  have bk:w.getD i ((0:Int),(0:Int))=w[i]:=by simp[List.getD,ak]
  have mH:acc.length=i:=by have:=jj List.length h1;simpa[Nat.min_eq_left (Nat.le_of_lt ak)]using this
  obtain⟨x,a1,e,x0,x1,d1⟩:=dg (n:=4) hd (by omega) (by omega);rw[Ut];simp only[j1W,show Int.ofNat w.length=(w.length:Int) from rfl,e,j3,kn];rw[ag (show (i:Int)<(w.length:Int) by omega),ba (by omega) (by omega),aj (x:=1+x) (by omega) (by omega),aj (x:=(i:Int)+1) (by omega) (by omega),ag (show acc.length+1<=aQ by simp[aQ];omega)];simp only[j5,j7,bk,aP]
  exact YT hw n (i+1) a1 (acc++[((w[i].1,w[i].2),1+x)]) (by omega) d1 (by rw[zq,h1,qt ak];rfl) (λy hy=>by
   rcases jm.1 hy with h|h
   .exact h2 y h
   .simp only[km]at h;subst h;exact⟨by show 1<=1+x;omega,by show 1+x<=4;omega⟩)
theorem jrX{L:List Int}{a:Int}(h:dx L a):∃ws a',j6y L a=some (ws,L,a')/\uK ws/\dx L a':=by
 obtain⟨w,a1,e,h1,h2,d1⟩:=Io h;obtain⟨a',out,e2,q1,q2,d2⟩:=YT (w:=w) (by omega) w.length 0 a1 [] (by omega) d1 (by simp) (by simp);refine⟨out,a',?_,⟨by rw[q1];exact h1,?_,q2⟩,d2⟩
 .simp only[j6y,e,j3];rw[show DS 0 L a1 [] w=_ from e2];rfl
 .have:=jj List.length q1;simp only[ka]at this;omega
theorem YU{ws:mS}(hl:ws.length<=100):∀(n i:Nat)(acc:WL),i+n=ws.length->acc.length=i->Eh ws (ws.length:Int) (i:Int) acc=some (acc++(ws.drop i).map λy=>y.1)
 |0,i,acc,hi,ha=>by
  rw[Ve];simp only[j3D];rw[ao (by omega),j6,aY,jd (by omega)];simp
 |n+1,i,acc,hi,ha=>by
  have ak:i<ws.length:=by omega
  have bk:ws.getD i (((0:Int),(0:Int)),(0:Int))=ws[i]:=by simp[List.getD,ak]
  have ih:=YU hl n (i+1) (acc++[ws[i].1]) (by omega) (by simp;omega);rw[Ve];simp only[j3D,kn];rw[ag (show (i:Int)<(ws.length:Int) by omega),ba (by omega) (by omega),aj (x:=(i:Int)+1) (by omega) (by omega),ag (show acc.length+1<=aQ by simp[aQ];omega),jb ak];simp only[j5,j7,bk,aP];rw[jg]at ih;exact ih
theorem YV{ws:mS}(hl:ws.length<=100)(hg:∀y∈ws,1<=y.2/\y.2<=8):∀(n i:Nat),i+n=ws.length->Ei ws (ws.length:Int) (i:Int)=some (.inr ())
 |0,i,hi=>by
  rw[Vf];simp only[j0i];rw[ao (by omega),j6,aY]
 |n+1,i,hi=>by
  have ak:i<ws.length:=by omega
  have bk:ws.getD i (((0:Int),(0:Int)),(0:Int))=ws[i]:=by simp[List.getD,ak]
  obtain⟨g1,g2⟩:=hg _ (ji ak);rw[Vf];simp only[j0i,jcO];rw[ag (show (i:Int)<(ws.length:Int) by omega),ba (by omega) (by omega),aj (x:=(i:Int)+1) (by omega) (by omega)];simp only[j5,j7,bk,j3];rw[ao (show¬ws[i].2<1 by omega),ao (show¬ws[i].2>8 by omega)];simp only[j6,aP];exact YV hl hg n (i+1) (by omega)
theorem jrY{ws:mS}(h:uK ws):jex ws=some 0:=by
 have hl:=h.l;have e0:jbp ws=some (ws.map λy=>y.1):=by have:=YU (ws:=ws) (by omega) ws.length 0 [] (by omega) rfl;simp only[jbp];rw[show Eh ws (Int.ofNat ws.length) 0 []=_ from this];simp
 have e2:j0K ws=some false:=by have:=YV (ws:=ws) (by omega) (λy hy=>by have:=h.g y hy;omega) ws.length 0 (by omega);simp only[j0K,j1H];rw[show Ei ws (Int.ofNat ws.length) 0=_ from this];rfl
 simp only[jex,e0,j3,Pc (w:=ws.map λy=>y.1) h.w (by simp;omega),ju,j6,e2]
def dW(f:Int->Int)(o:Int)(l:bA)(a:Int)(N:Nat)(p:Int):mS->Int
 |[]=>0
 |y::r=>(y.2-1)*bq (λx=>decide (f x=p)&&iu o l [y.1] x) a N+dW f o l a N p r
theorem Qv{f:Int->Int}{o:Int}{l:bA}{a:Int}{p:Int}(n m:Nat):∀ws:mS,dW f o l a (n+m) p ws=dW f o l a n p ws+dW f o l (a+n) m p ws
 |[]=>rfl
 |y::r=>by
  simp only[dW,Qv n m r,BB,Int.mul_add];omega
theorem jvZ(s:Int)(v:Int×Int):hasB s [v]=(decide (v.1<=s)&&decide (s<v.2)):=by
 rw[yg,Fm];simp
def lj(s:Int):WL->Int
 |[]=>0
 |v::r=>cond (hasB s [v]) 1 0+lj s r
theorem YW{s:Int}:∀{w:WL}{p:Int},gu p w->0<=lj s w/\lj s w<=1/\(s<p->lj s w=0)
 |[],_,_=>by simp[lj]
 |v::r,p,h=>by
  obtain⟨h1,h2,h3,h4⟩:=h;obtain⟨i1,i2,i3⟩:=YW (s:=s) h4;simp only[lj,jvZ];by_cases q1:v.1<=s
  .by_cases q2:s<v.2
   .have:=i3 q2;simp only[ag q1,ag q2,vp,j5];omega
   .simp only[ag q1,ao q2,Bool.and_false,j6];omega
  .simp only[ao q1,Bool.false_and,j6];refine⟨by omega,by omega,λhs=>?_⟩;have:=i3 (by omega);omega
theorem YX{f:Int->Int}{o:Int}{l:bA}(h:gU o l){a:Int}{p:Int}(ha:0<=a){ws:mS}(hw:gu 0 (ws.map λy=>y.1))(hg:∀y∈ws,1<=y.2/\y.2<=4):∀N:Nat,a+N<=8589934592->
  0<=dW f o l a N p ws/\dW f o l a N p ws<=3*bq (λx=>decide (f x=p)) a N
 |0,_=>by
  have:∀ws:mS,dW f o l a 0 p ws=0:=by
   intro ws;induction ws with
   |nil=>rfl
   |cons y r ih=>simp only[dW,ih,bq];omega
  rw[this];simp[bq]
 |N+1,hN=>by
  obtain⟨i1,i2⟩:=YX (f:=f) (p:=p) h ha hw hg N (by omega);obtain⟨k,hk,k1,k2⟩:=wM h (t:=a+N) (by omega) (by omega);have hj:=λws:mS=>Qv (f:=f) (o:=o) (l:=l) (a:=a) (p:=p) N 1 ws;have e1:bq (λx=>decide (f x=p)) a (N+1)=bq (λx=>decide (f x=p)) a N+cond (decide (f (a+N)=p)) 1 0:=rfl
  have step:∀ws:mS,(∀y∈ws,1<=y.2/\y.2<=4)->0<=dW f o l (a+N) 1 p ws/\dW f o l (a+N) 1 p ws<=3*(cond (decide (f (a+N)=p)) (lj ((a+N+cu o l k+259200)%604800) (ws.map λy=>y.1)) 0):=by
   intro ws;induction ws with
   |nil=>intro _;simp only[dW,List.map_nil,lj];cases decide (f (a+N)=p)<;>simp
   |cons y r ih=>
    intro hg;obtain⟨j1,j2⟩:=ih (λz hz=>hg z (by simp[hz]));obtain⟨g1,g2⟩:=hg y (by simp);have ec:bq (λx=>decide (f x=p)&&iu o l [y.1] x) (a+N) 1=cond (decide (f (a+N)=p)&&hasB ((a+N+cu o l k+259200)%604800) [y.1]) 1 0:=by show 0+cond (decide (f (a+N+((0:Nat):Int))=p)&&iu o l [y.1] (a+N+((0:Nat):Int))) 1 0=_;rw[show a+(N:Int)+((0:Nat):Int)=a+N by omega,Qt h hk k1 k2,Int.zero_add]
    simp only[dW,ec,jz,lj];cases hq:decide (f (a+N)=p) with
    |false=>rw[hq]at j2;simp only[Bool.false_and,j6]at j2 ⊢;omega
    |true=>
     rw[hq]at j2;simp only[Bool.true_and,j5]at j2 ⊢;cases hasB ((a+N+cu o l k+259200)%604800) [y.1]with
     |false=>simp only[j6];omega
     |true=>simp only[j5];omega
  obtain⟨s1,s2⟩:=step ws hg;have hh:=YW (s:=(a+N+cu o l k+259200)%604800) hw;rw[hj ws,e1];cases hq:decide (f (a+N)=p) with
  |false=>rw[hq]at s2;simp only[j6]at s2 ⊢;omega
  |true=>rw[hq]at s2;simp only[j5]at s2 ⊢;omega
theorem eV.nil0{f:Int->Int}{a:Int}{q:Option Int}:∀{S:bF},eV f a q a S->S=[]
 |[],_=>rfl
 |s::r,h=>by
  have:=h.2.2.2.2.ch.le;have:=h.2.1;omega
section
variable{zs:List bP}{ps:List dm}{cs:List aO}(hs:cQ zs ps cs)
include hs
theorem jw0{s:dD}(hk:sO zs.length ps.length cs.length s)(fM:s.2.1.length<=3)(fg:s.2.2.length<=6){ss:List dD}{a:Int}(ha:0<=a)(hb:a<=8589934592) :
  j39 ((zs,(ps,(cs,ss))),zs.map tb) s a a=some []:=by
 obtain⟨S,eS,hS,lS⟩:=Yv hs (nm:=s.1) hk.ly (by omega) hk.ed (by omega) (ss:=ss) ha (ke a) hb (by omega);obtain rfl:=hS.nil0;have l0:=Qf (es:=s.2.2) (by omega) (f:=a) (t:=a) (zs:=zs) (ps:=ps) (cs:=cs) (ss:=ss) (tbs:=zs.map tb) (nm:=s.1) (ls:=s.2.1) s.2.2.length 0 [] (by omega) (by simp);rw[js,k5]at l0;have sC:=Fz s.2.2;obtain⟨C,eC,c1,c2,c3⟩:=Ys (l:=nV s.2.2) (by omega) (f:=a) (t:=a);obtain⟨out,e3,h3,l3⟩:=IB (l:=[]) (by simp) (show Ch (fT zs cs s) a a [] from rfl);obtain rfl:=h3.nil0;have e2:yJ 0 0 s.1 s.2.1 s.2.2 (C++[a]) [] []=some []:=by rw[Mx];simp only[j1G];rw[ao (show¬(0:Int)<0 by omega),j6,aY]
 simp only[j39,show Int.ofNat s.2.2.length=(s.2.2.length:Int) from rfl];rw[show Bh a a s.2.2 (s.2.2.length:Int) 0 zs ps cs ss (zs.map tb) s.1 s.2.1 s.2.2 []=_ from l0];simp only[j3,eC];rw[show j3q ((zs,(ps,(cs,ss))),zs.map tb) (s.1,(s.2.1,s.2.2)) a a=_ from eS];simp only[j3,qq];rw[show yJ (Int.ofNat 0) 0 s.1 s.2.1 s.2.2 (C++[a]) [] []=_ from e2];simp only[j3,e3]
theorem juI{s:dD}(hc:uE (zs,(ps,(cs,[s]))))(fM:s.2.1.length<=3)(fg:s.2.2.length<=6){a:Int}{N:Nat}(ha:0<=a)(hb:a+N<=8589934592)(hN:N<=1209600) :
  ∃S,j46 (zs,(ps,(cs,[s]))) 0 a (a+N)=some (S,0)/\eV (fT zs cs s) (a+N) none a S/\S.length<=16384:=by
 by_cases h0:N=0
 .subst h0;have hk:=hc.sc s (by simp);refine⟨[],?_,show a=a+((0:Nat):Int) by omega,by simp⟩;rw[show a+((0:Nat):Int)=a by omega];simp only[j46];have e:=Yn hs hc (i:=0) (by simp) (a:=a) (b:=a) ha (ke a) (by omega) (by omega);rw[show j8N (zs,(ps,(cs,[s]))) 0 a a=_ from e];simp only[j3,ju,j6,kn];rw[ba (show (0:Int)<=0 by omega) (show (0:Int)<((1:Nat):Int) by omega)];simp only[j5,show Int.toNat 0=0 from rfl,List.getD_cons_zero];rw[show j39 ((zs,(ps,(cs,[s]))),zs.map tb) (s.1,(s.2.1,s.2.2)) a a=_ from jw0 hs hk fM fg ha (by omega)];simp only[j3,qq];rw[ao (show¬Int.ofNat 0>(16384:Int) by decide)];rfl
 .exact jvY hs hc (i:=0) (by simp) fM fg ha (by omega) hb (by omega)
end
theorem YY{p:Int}:∀{S:bF},(∀s∈S,s.1<s.2.1)->0<=ei p S
 |[],_=>ke _
 |s::r,h=>by
  have:=YY (p:=p) (S:=r) (λx hx=>h x (by simp[hx]));have:=h s (by simp);simp only[ei];split<;>omega
theorem Qw{np:Nat}{f:Int->Int}{u:Int}(hu:u<=8589934592){S:bF}(hl:S.length<=100000)(bB:∀s∈S,s.1<s.2.1){a1 a2:Int}{ws:mS}{o:Int}{tl:bA}(hp:∀s∈S,s.2.2<(np:Int)) :
  ∀(n i:Nat)(m:mR)(x:Int),i+n=S.length->0<=x->Ch f u x (S.drop i)->sR m np i (λp=>ei p (S.take i)) (λp=>ei p (S.take i))->(∀p,0<=p->ei p (S.take i)<=x)->
  ∃m',Em a1 a2 ws (S.length:Int) (i:Int) o tl S m=some (a1,a2,ws,o,tl,S,m')/\sR m' np S.length (λp=>ei p S) (λp=>ei p S)
 |0,i,m,x,hi,tz,hc,hm,hb=>by
  refine⟨m,?_,?_⟩
  .rw[Vj];simp only[j4u];rw[ao (by omega),j6,aY]
  .rw[List.take_of_length_le (by omega),show i=S.length by omega]at hm;exact hm
 |n+1,i,m,x,hi,tz,hc,hm,hb=>by
  have ak:i<S.length:=by omega
  have bk:S.getD i ((0:Int),((0:Int),(0:Int)))=S[i]:=by simp[List.getD,ak]
  have fU:=hp _ (ji ak);have yn:=bB _ (ji ak);rw[jb ak]at hc;obtain⟨h1,h2,h3,h4⟩:=hc;have hle:=h4.le
  have jZ:∀p,ei p (S.take (i+1))=ei p (S.take i)+(if S[i].2.2=p then S[i].2.1-S[i].1 else 0):=λp=>by
   rw[qt ak,YB];simp only[ei];omega
  have hnn:=λp=>YY (p:=p) (S:=S.take i) (λs hs=>bB s (kp hs));rw[Vj];simp only[j4u];rw[ag (show (i:Int)<(S.length:Int) by omega),ba (by omega) (by omega),aj (x:=(i:Int)+1) (by omega) (by omega)];simp only[j5,j7,bk];generalize S[i]=s at *;by_cases gl:s.2.2>=0
  .rw[ag gl];have di:=hb s.2.2 gl;have dX:=hnn s.2.2
   have CA:(cR ir m s.2.2).2.1=ei s.2.2 (S.take i):=by
    cases hh:dN m s.2.2 with
    |true=>rw[hm.get _ gl fU hh]
    |false=>
     have hn:¬0<ei s.2.2 (S.take i):=λhq=>by
      have:=(hm.has _ gl fU).2 hq;rw[hh]at this;simp at this
     rw[YE hh];show (0:Int)=_;omega
   rw[show (cR ((0:Int),((0:Int),(0:Int))) m s.2.2)=cR ir m s.2.2 from rfl,CA,aj (x:=ei s.2.2 (S.take i)+s.2.1) (by omega) (by omega),aj (x:=ei s.2.2 (S.take i)+s.2.1-s.1) (by omega) (by omega)];simp only[j5,aP]
   obtain⟨m',e,q1⟩:=Qw hu hl bB (a1:=a1) (a2:=a2) (ws:=ws) (o:=o) (tl:=tl) hp n (i+1) (dO m s.2.2 (s.2.2,(ei s.2.2 (S.take i)+s.2.1-s.1,ei s.2.2 (S.take i)+s.2.1-s.1))) s.2.1 (by omega) (by omega) h4
    ⟨⟨by have:=hm.ok.len;have:=YD (m:=m) (k:=s.2.2) (v:=(s.2.2,(ei s.2.2 (S.take i)+s.2.1-s.1,ei s.2.2 (S.take i)+s.2.1-s.1)));omega,λy hy=>by
      rcases YC hy with hy|rfl
      .exact hm.ok.key y hy
      .exact⟨gl,fU,rfl⟩⟩,(YJ hm.nd).1,λp p0 p1=>by
     rw[Fw];show _↔0<ei p (S.take (i+1));rw[jZ];by_cases pz:p=s.2.2
     .subst pz;rw[qe,Bool.true_or,if_pos rfl];simp only[true_iff];omega
     .rw[cP pz,ze,if_neg (λh=>pz h.symm),zd];exact hm.has p p0 p1,λp p0 p1 hh=>by
     rw[ID];show _=(p,(ei p (S.take (i+1)),ei p (S.take (i+1))));rw[jZ];by_cases pz:p=s.2.2
     .subst pz;rw[qe,j5,if_pos rfl,show ei s.2.2 (S.take i)+s.2.1-s.1=ei s.2.2 (S.take i)+(s.2.1-s.1) by omega]
     .rw[Fw,cP pz,ze]at hh;rw[cP pz,j6,if_neg (λh=>pz h.symm),zd];exact hm.get p p0 p1 hh⟩ (λp pT=>by
     have:=hb p pT;rw[jZ];split<;>omega)
   rw[show ((i+1:Nat):Int)=(i:Int)+1 by omega]at e;exact⟨m',e,q1⟩
  .rw[ao gl];simp only[j6,aP]
   obtain⟨m',e,q1⟩:=Qw hu hl bB (a1:=a1) (a2:=a2) (ws:=ws) (o:=o) (tl:=tl) hp n (i+1) m s.2.1 (by omega) (by omega) h4
    ⟨⟨by have:=hm.ok.len;omega,hm.ok.key⟩,hm.nd,λp p0 p1=>by
      show _↔0<ei p (S.take (i+1));rw[jZ,if_neg (by omega),zd];exact hm.has p p0 p1,λp p0 p1 hh=>by
      show _=(p,(ei p (S.take (i+1)),ei p (S.take (i+1))));rw[jZ,if_neg (by omega),zd];exact hm.get p p0 p1 hh⟩ (λp pT=>by
      have:=hb p pT;rw[jZ,if_neg (by omega)];omega)
   rw[show ((i+1:Nat):Int)=(i:Int)+1 by omega]at e;exact⟨m',e,q1⟩
def lu(c:Int->Int)(m:mR):mR:=m.map λx=>(x.1,(x.2.1,(x.2.2.1,x.2.2.2+c x.1)))
theorem YZ{c:Int->Int}(p:Int):∀m:mR,dN (lu c m) p=dN m p:=by
 intro m;simp only[dN,lu,List.any_map];rfl
theorem Y0{c:Int->Int}{p:Int}:∀{m:mR},dN m p=true->cR ir (lu c m) p=((cR ir m p).1,((cR ir m p).2.1,(cR ir m p).2.2+c p))
 |[],h=>by simp[dN]at h
 |x::r,h=>by
  show cond (p==x.1) (x.2.1,(x.2.2.1,x.2.2.2+c x.1)) (cR ir (lu c r) p)=_;by_cases hp:p=x.1
  .rw[ff hp,j5];have:cR ir (x::r) p=x.2:=by show cond (p==x.1) x.2 (cR ir r p)=x.2;rw[ff hp];rfl
   rw[this,hp]
  .rw[cP hp,j6];have:cR ir (x::r) p=cR ir r p:=by show cond (p==x.1) x.2 (cR ir r p)=_;rw[cP hp];rfl
   rw[this];refine Y0 ?_;have e:dN (x::r) p=(p==x.1||dN r p):=rfl;rw[e,cP hp,ze]at h;exact h
theorem jy1{m:mR}{np n:Nat}{u v c:Int->Int}(h:sR m np n u v):sR (lu c m) np n u (λp=>v p+c p):=by
 refine⟨⟨by have:=h.ok.len;simp only[lu,ka];exact this,λx hx=>?_⟩,?_,λp p0 p1=>?_,λp p0 p1 hh=>?_⟩
 .obtain⟨y,hy,rfl⟩:=jn.1 hx;exact h.ok.key y hy
 .have:(lu c m).map (λx=>x.1)=m.map (λx=>x.1):=by simp[lu,List.map_map,Function.comp_def]
  rw[this];exact h.nd
 .rw[YZ];exact h.has p p0 p1
 .rw[YZ]at hh;rw[Y0 hh,h.get p p0 p1 hh]
def mT(zs:List bP)(cs:List aO)(s:dD)(a:Int)(N:Nat)(p:Int):Int:=bq (λx=>decide (fT zs cs s x=p)) a N
def nX(zs:List bP)(cs:List aO)(s:dD)(t:Int×bA)(ws:mS)(a:Int)(N:Nat)(p:Int):Int:=mT zs cs s a N p+dW (fT zs cs s) t.1 t.2 a N p ws
def Y1:Prop:=∀{zs:List bP}{ps:List dm}{cs:List aO}{s:dD},cQ zs ps cs->uE (zs,(ps,(cs,[s])))->s.2.1.length<=3->s.2.2.length<=6->∀{z:Nat}(hz:z<zs.length){ws:mS},uK ws->∀{a:Int}{N:Nat},0<=a->a+N<=8589934592->N<=1209600->
 j6F (zs,(ps,(cs,[s]))) 0 a (a+N) (z:Int) ws=some (fB ps.length (mT zs cs s a N) (nX zs cs s (tb zs[z]) ws a N),0)
theorem Y2{zs:List bP}{ps:List dm}{cs:List aO}{s:dD}(hs:cQ zs ps cs){z:Nat}(hz:z<zs.length){ws:mS}(hw:uK ws){a:Int}{N:Nat}(ha:0<=a)(hb:a+N<=8589934592)(hN:N<=1209600){np:Nat} :
  UV np (mT zs cs s a N) (nX zs cs s (tb zs[z]) ws a N):=by
 have ax:∀p,0<=dW (fT zs cs s) (tb zs[z]).1 (tb zs[z]).2 a N p ws/\dW (fT zs cs s) (tb zs[z]).1 (tb zs[z]).2 a N p ws<=3*bq (λx=>decide (fT zs cs s x=p)) a N:=λp=>YX (f:=fT zs cs s) (p:=p) (hs.so.ok zs[z] (ji hz)).ztab.2 ha hw.w hw.g N hb;have hc:=λp=>IH (λx=>decide (fT zs cs s x=p)) a N;refine⟨λp=>(hc p).1,λp=>?_,λp=>?_,λp=>?_⟩
 .have:=(hc p).2;show bq _ a N<=_;omega
 .have:=(ax p).1;show bq _ a N<=bq _ a N+_;omega
 .have:=(ax p).2;have:=(hc p).1;show bq _ a N+_<=8*bq _ a N;omega
theorem joP(hL:Y1)(t:List Int)(n m:Int):j8b t n m=some true:=by
 simp only[j8b,jh5,j3,show Int.ofNat (List.length t)=(t.length:Int) from rfl];by_cases hl:(t.length:Int)<=500
 .rw[ag hl];simp only[jw,j6,jjg,j3];obtain⟨zs,ps,cs,nm,ls,es,a1,e1,hs,hc,fM,fg,d1⟩:=jxR (L:=t) (a:=0) ⟨by omega,by omega,by omega⟩;have si:=hs.so.p1;have kT:=hs.so.z0;have p8:=hs.so.z1;obtain⟨x,a2,e2,x0,x1,d2⟩:=Wy d1;have n0:=Int.emod_nonneg n (show (432000:Int)≠0 by omega);have n1:=Int.emod_lt_of_pos n (show (0:Int)<432000 by omega);have m0:=Int.emod_nonneg m (show (432000:Int)≠0 by omega);have m1:=Int.emod_lt_of_pos m (show (0:Int)<432000 by omega);simp only[e1,e2,j3,Wb n 432000 (by omega) (by omega),Wb m 432000 (by omega) (by omega),show Int.ofNat zs.length=(zs.length:Int) from rfl];obtain⟨N,hN⟩:∃N:Nat,n%432000=N:=⟨(n%432000).toNat,by omega⟩;obtain⟨M,hM⟩:∃M:Nat,m%432000=M:=⟨(m%432000).toNat,by omega⟩;rw[hN]at n1 ⊢;rw[hM]at m1 ⊢;obtain⟨zi,a3,e3,z0,z1,d3⟩:=dg (n:=(zs.length:Int)) d2 (by omega) (by omega);obtain⟨z,rfl⟩:∃z:Nat,zi=(z:Int):=⟨zi.toNat,by omega⟩;have hz:z<zs.length:=by omega
  obtain⟨ws,a4,e4,hw,d4⟩:=jrX d3;have zM:(nm,(ls,es)).2.2.length<=6:=by show es.length<=6;omega
  rw[aj (x:=x+(N:Int)) (by omega) (by omega),aj (x:=x+(N:Int)+(M:Int)) (by omega) (by omega)];simp only[e3,e4,j3];have q1:=hL hs hc fM zM hz hw (a:=x) (N:=N) (by omega) (by omega) (by omega);have q2:=hL hs hc fM zM hz hw (a:=x+N) (N:=M) (by omega) (by omega) (by omega);have q3:=hL hs hc fM zM hz hw (a:=x) (N:=N+M) (by omega) (by omega) (by omega);have u1:=Y2 (cs:=cs) (s:=(nm,(ls,es))) hs hz hw (a:=x) (N:=N) (by omega) (by omega) (by omega) (np:=ps.length);have u2:=Y2 (cs:=cs) (s:=(nm,(ls,es))) hs hz hw (a:=x+N) (N:=M) (by omega) (by omega) (by omega) (np:=ps.length);have eu:∀p,mT zs cs (nm,(ls,es)) x (N+M) p=mT zs cs (nm,(ls,es)) x N p+mT zs cs (nm,(ls,es)) (x+N) M p:=λp=>BB _ _ _ _
  have ev:∀p,nX zs cs (nm,(ls,es)) (tb zs[z]) ws x (N+M) p=nX zs cs (nm,(ls,es)) (tb zs[z]) ws x N p+nX zs cs (nm,(ls,es)) (tb zs[z]) ws (x+N) M p:=λp=>by
   have:=Qv (f:=fT zs cs (nm,(ls,es))) (o:=(tb zs[z]).1) (l:=(tb zs[z]).2) (a:=x) (p:=p) N M ws;have:=eu p;unfold nX;omega
  have j1:=YP (np:=ps.length) (by omega) u1 u2;have j2:=YP (np:=ps.length) (by omega) u2 u1
  rw[show (λp=>mT zs cs (nm,(ls,es)) x N p+mT zs cs (nm,(ls,es)) (x+N) M p)=mT zs cs (nm,(ls,es)) x (N+M) from funext λp=>(eu p).symm,
   show (λp=>nX zs cs (nm,(ls,es)) (tb zs[z]) ws x N p+nX zs cs (nm,(ls,es)) (tb zs[z]) ws (x+N) M p)=nX zs cs (nm,(ls,es)) (tb zs[z]) ws x (N+M) from funext λp=>(ev p).symm]at j1
  rw[show (λp=>mT zs cs (nm,(ls,es)) (x+N) M p+mT zs cs (nm,(ls,es)) x N p)=mT zs cs (nm,(ls,es)) x (N+M) from funext λp=>by rw[eu];omega,
   show (λp=>nX zs cs (nm,(ls,es)) (tb zs[z]) ws (x+N) M p+nX zs cs (nm,(ls,es)) (tb zs[z]) ws x N p)=nX zs cs (nm,(ls,es)) (tb zs[z]) ws x (N+M) from funext λp=>by rw[ev];omega]at j2
  rw[show j6F (zs,(ps,(cs,[(nm,(ls,es))]))) 0 x (x+(N:Int)) (z:Int) ws=_ from q1];simp only[j3];rw[show j6F (zs,(ps,(cs,[(nm,(ls,es))]))) 0 (x+(N:Int)) (x+(N:Int)+(M:Int)) (z:Int) ws=_ from q2];simp only[j3];rw[show x+(N:Int)+(M:Int)=x+((N+M:Nat):Int) by omega,show j6F (zs,(ps,(cs,[(nm,(ls,es))]))) 0 x (x+((N+M:Nat):Int)) (z:Int) ws=_ from q3];simp only[j3,j1,j2,qe,j5,jq6 (show (fB ps.length (mT zs cs (nm,(ls,es)) x (N+M)) (nX zs cs (nm,(ls,es)) (tb zs[z]) ws x (N+M))).length<=1000 by have:=Qs ps.length (mT zs cs (nm,(ls,es)) x (N+M)) (nX zs cs (nm,(ls,es)) (tb zs[z]) ws x (N+M));omega),We]
 .rw[ao hl];simp only[kf,j5,We,j3]
theorem Y3{α β:Type}{G:α->β->Option β}{g:α×β->β}:∀{m:List (α×β)},(∀x∈m,G x.1 x.2=some (g x))->pI G m=some (m.map λx=>(x.1,g x))
 |[],_=>rfl
 |x::r,h=>by
  have ih:=Y3 (m:=r) (λy hy=>h y (by simp[hy]));simp only[pI,h x (by simp),ih,j3,jz]
theorem juJ{m:mR}:∀{x:Int×my},(m.map λx=>x.1).Nodup->x∈m->dN m x.1=true/\cR ir m x.1=x.2:=by
 induction m with
 |nil=>intro x _ hx;simp at hx
 |cons y r ih=>
  intro x hn hx;have hc:=q8.1 (show (y.1::r.map λx=>x.1).Nodup from hn);rcases jc.1 hx with rfl|hx
  .refine⟨by simp[dN],?_⟩;show cond (x.1==x.1) x.2 (cR ir r x.1)=x.2;rw[qe];rfl
  .obtain⟨i1,i2⟩:=ih hc.2 hx;have aN:¬x.1=y.1:=λhe=>hc.1 (he▸jn.2 ⟨x,hx,rfl⟩);refine⟨?_,?_⟩
   .show (x.1==y.1||dN r x.1)=true;rw[i1,Bool.or_true]
   .show cond (x.1==y.1) y.2 (cR ir r x.1)=x.2;rw[cP aN];exact i2
theorem Y4{np K:Nat}{f:Int->Int}{a:Int}{N:Nat}(ha:0<=a)(hb:a+N<=8589934592)(hN:N<=1209600){S:bF}(hS:eV f (a+N) none a S)(BA:S.length<=16384){o:Int}{tl:bA}(h:gU o tl)(fM:tl.length<=20)
  {ws:mS}(hw:∀y∈ws,gu 0 [y.1])(hg:∀y∈ws,1<=y.2/\y.2<=4)(hl:ws.length<=100){u:Int->Int}:∀(n j:Nat)(m:mR)(v:Int->Int),j+n=ws.length->sR m np K u v->(∀p,0<=v p/\v p+5000000*n<=1000000000000)->
  ∃m',En a (a+N) ws (ws.length:Int) (j:Int) o tl S m=some m'/\sR m' np K u (λp=>v p+dW f o tl a N p (ws.drop j))
 |0,j,m,v,hj,hm,_=>by
  refine⟨m,?_,?_⟩
  .rw[Vk];simp only[j4v];rw[ao (by omega),j6,aY]
  .rw[jd (by omega)];simp only[dW,zd];exact hm
 |n+1,j,m,v,hj,hm,hv=>by
  have ak:j<ws.length:=by omega
  have bk:ws.getD j (((0:Int),(0:Int)),(0:Int))=ws[j]:=by simp[List.getD,ak]
  have Y5:=hw _ (ji ak);obtain⟨g1,g2⟩:=hg _ (ji ak);obtain⟨W,eW,_⟩:=PF h fM Y5 (by simp) (M:=60) (by omega) ha (show a<=a+(N:Int) by omega) hb (by omega);have oq:=λp=>IH (λx=>decide (f x=p)&&iu o tl [ws[j].1] x) a N
  have hme:=Y3 (m:=m) (G:=λ(zN:Int)(zO:my)=>jaa a (a+N) ws (ws.length:Int) (j:Int) o tl ws[j].1.1 ws[j].1.2 ws[j].2 S W m zN zO some)
   (g:=λx=>(x.2.1,(x.2.2.1,x.2.2.2+(ws[j].2-1)*bq (λt=>decide (f t=x.1)&&iu o tl [ws[j].1] t) a N))) (λx hx=>by
    obtain⟨T,eT,_⟩:=YR ha hb hS BA x.1;obtain⟨C,eC,eL⟩:=jy0 ha hb (by omega) hS BA eT h fM Y5 (by simp) eW;have hk:=hm.ok.key x hx;obtain⟨m1,m2⟩:=juJ hm.nd hx;have tA:x.2=(x.1,(u x.1,v x.1)):=by rw[<-m2];exact hm.get x.1 hk.1 hk.2.1 m1
    have hvp:=hv x.1;have hc:=oq x.1;have xX:x.2.2.2=v x.1:=by rw[tA]
    have hmul:0<=(ws[j].2-1)*bq (λt=>decide (f t=x.1)&&iu o tl [ws[j].1] t) a N/\(ws[j].2-1)*bq (λt=>decide (f t=x.1)&&iu o tl [ws[j].1] t) a N<=3*1209600:=by
     refine⟨Int.mul_nonneg (by omega) hc.1,?_⟩
     calc (ws[j].2-1)*bq (λt=>decide (f t=x.1)&&iu o tl [ws[j].1] t) a N<=3*bq (λt=>decide (f t=x.1)&&iu o tl [ws[j].1] t) a N:=v6 (by omega) hc.1
      _<=3*1209600:=by omega
    simp only[jaa,eT,eC,eL,j3]
    rw[aj (x:=ws[j].2-1) (by omega) (by omega),aj (x:=(ws[j].2-1)*bq (λt=>decide (f t=x.1)&&iu o tl [ws[j].1] t) a N) (by omega) (by omega),xX,
     aj (x:=v x.1+(ws[j].2-1)*bq (λt=>decide (f t=x.1)&&iu o tl [ws[j].1] t) a N) (by omega) (by omega)])
  have gI:=jy1 (c:=λp=>(ws[j].2-1)*bq (λt=>decide (f t=p)&&iu o tl [ws[j].1] t) a N) hm
  obtain⟨m',e,q⟩:=Y4 ha hb hN hS BA h fM hw hg hl n (j+1) (lu (λp=>(ws[j].2-1)*bq (λt=>decide (f t=p)&&iu o tl [ws[j].1] t) a N) m) (λp=>v p+(ws[j].2-1)*bq (λt=>decide (f t=p)&&iu o tl [ws[j].1] t) a N) (by omega) gI (λp=>by
   have hc:=oq p;have hvp:=hv p;have h1:0<=(ws[j].2-1)*bq (λt=>decide (f t=p)&&iu o tl [ws[j].1] t) a N:=Int.mul_nonneg (by omega) hc.1;have h2:(ws[j].2-1)*bq (λt=>decide (f t=p)&&iu o tl [ws[j].1] t) a N<=3*bq (λt=>decide (f t=p)&&iu o tl [ws[j].1] t) a N:=v6 (by omega) hc.1;omega)
  refine⟨m',?_,?_⟩
  .rw[Vk];simp only[j4v];rw[ag (show (j:Int)<(ws.length:Int) by omega),ba (by omega) (by omega),aj (x:=(j:Int)+1) (by omega) (by omega)];simp only[j5,j7,bk];rw[show j33 (o,tl) [(ws[j].1.1,ws[j].1.2)] a (a+N)=_ from eW];simp only[j3];rw[hme];simp only[j3,aP];rw[show ((j+1:Nat):Int)=(j:Int)+1 by omega]at e;exact e
  .rw[jb ak]
   have:(λp=>v p+dW f o tl a N p (ws[j]::ws.drop (j+1)))=(λp=>(v p+(ws[j].2-1)*bq (λt=>decide (f t=p)&&iu o tl [ws[j].1] t) a N)+dW f o tl a N p (ws.drop (j+1))):=by
    funext p
    simp only[dW];omega
   rw[this];exact q
theorem jy2{w:WL}:∀{p:Int},0<=p->gu p w->∀v∈w,gu 0 [v]:=by
 induction w with
 |nil=>intro p _ _ v hv;simp at hv
 |cons x r ih=>
  intro p hp h v hv;obtain⟨h1,h2,h3,h4⟩:=h;rcases jc.1 hv with rfl|hv
  .exact⟨by omega,h2,h3,h3⟩
  .exact ih (p:=x.2) (by omega) h4 v hv
theorem jrZ:Y1:=by
 intro zs ps cs s hs hc fM fg z hz ws hw a N ha hb hN;obtain⟨S,eS,hS,lS⟩:=juI hs hc fM fg ha hb hN;have hk:=hc.sc s (by simp);have p8:=hs.so.z1;have si:=hs.so.p1;have iX:=hw.l
 have eb:∀x∈S,x.2.2<(ps.length:Int):=λx hx=>by
  obtain⟨h1,h2,h3,h4⟩:=hS.ch.mem x hx;have bB:=hS.pos x hx;rw[<-h4 x.1 (ke _) bB];exact jxY hs hk (by omega) (by omega)
 have zI:=hs.so.ok zs[z] (ji hz);have bk:zs.getD z (ByteArray.empty,((0:Int),([]:List aT)))=zs[z]:=by simp[List.getD,hz]
 have hO:=Wl zI.ztab;have Fs:(tb zs[z]).2.length<=20:=Xu zI;have xn:=λp=>(hS.ch.tot_le (p:=p))
 obtain⟨m,e1,hm⟩:=Qw (np:=ps.length) hb (by omega) (λx hx=>hS.pos x hx) (a1:=a) (a2:=a+N) (ws:=ws) (o:=(tb zs[z]).1) (tl:=(tb zs[z]).2) eb S.length 0 [] a (by omega) ha hS.ch
  ⟨⟨by simp,by simp⟩,zg,λp _ _=>by simp[dN,ei],λp _ _ h=>by simp[dN]at h⟩ (λp _=>ha)
 obtain⟨m2,e2,gI⟩:=Y4 ha hb hN hS lS zI.ztab.2 Fs (ws:=ws) (λy hy=>jy2 (ke 0) hw.w y.1 (jn.2 ⟨y,hy,rfl⟩)) hw.g (by omega) ws.length 0 m (λp=>ei p S) (by omega) hm (λp=>by have:=xn p;omega);rw[k5]at gI;have hL:=YK gI (by omega) (by omega);have eu:(λp=>ei p S)=mT zs cs s a N:=funext λp=>YS hS.ch
 have ev:(λp=>ei p S+dW (fT zs cs s) zs[z].2.1 (tb zs[z]).2 a N p ws)=nX zs cs s (tb zs[z]) ws a N:=funext λp=>by
  show ei p S+_=mT zs cs s a N p+_;rw[<-congrFun eu p];rfl
 rw[eu,ev]at hL;simp only[j6F];rw[show j46 (zs,(ps,(cs,[s]))) 0 a (a+N)=_ from eS];simp only[j3,ju,j6,show Int.ofNat zs.length=(zs.length:Int) from rfl];rw[ao (show¬(z:Int)<0 by omega),ao (show¬(z:Int)>=(zs.length:Int) by omega),jrY hw];simp only[j3,ju,j6];rw[ba (show (0:Int)<=(z:Int) by omega) (show (z:Int)<(zs.length:Int) by omega)];simp only[j5,j7,bk];rw[show jfd (zs[z].1,(zs[z].2.1,zs[z].2.2))=_ from hO];simp only[j3];rw[show Em a (a+N) ws (Int.ofNat S.length) 0 zs[z].2.1 (tb zs[z]).2 S []=_ from e1];simp only[j3];rw[show En a (a+N) ws (Int.ofNat ws.length) 0 (tb zs[z]).1 (tb zs[z]).2 S m=_ from e2];simp only[j3,hL]
theorem jkz(t:List Int)(_h:Wf (.list (.int .i64)) t)(n:Int)(_h1:Wf (.int .i64) n)(m:Int)(_h2:Wf (.int .i64) m):j8b t n m=some true:=joP jrZ t n m
end Go.Proofs.Pw
