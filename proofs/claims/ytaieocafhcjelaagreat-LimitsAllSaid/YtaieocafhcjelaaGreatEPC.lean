/- sane of GW 12. -/
import Derived.Test.YtaieocafhcjelaaGreatEPB
import Derived.KernelRfl
import Derived.Test.YtaieocafhcjelaaGreatEPA
open Go Go.Lft
namespace Go.Proofs.Pw
abbrev bm:=Int×(Int×(Int×(Int×(Int×(Int×Int)))))
theorem jE{n lo hi:Int}(h1:lo<=n)(h2:n<=hi):jbW n lo hi=some true:=by
 simp only[jbW];rw[aj (show n>=lo from h1),aj h2];rfl
structure oc(r:bm):Prop where
 y0:1970<=r.1
 y1:r.1<=r.2.1
 y2:r.2.1<=2240
 m0:1<=r.2.2.1
 m1:r.2.2.1<=12
 k0:1<=r.2.2.2.1
 k1:r.2.2.2.1<=5
 d0:0<=r.2.2.2.2.1
 d1:r.2.2.2.2.1<=6
 s0:0<=r.2.2.2.2.2.1
 s1:r.2.2.2.2.2.1<=86399
 o0 : -64800<=r.2.2.2.2.2.2
 o1:r.2.2.2.2.2.2<=64800
theorem jyT{r:bm}(h:oc r):jgx r=some 0:=by
 simp only[jgx,jE h.y0 (show r.1<=2240 by have:=h.y1;have:=h.y2;omega),jE h.y1 h.y2,jE h.m0 h.m1,jE h.k0 h.k1,jE h.d0 h.d1,jE h.s0 h.s1,jE h.o0 h.o1,j3,jq,j6]
theorem Ur{y m k w:Int}(_h1:1970<=y)(_h2:y<=2240)(gj:1<=m)(jX:m<=12)(dE:1<=k)(gq:k<=5):num y m 1<=nth y m k w/\nth y m k w<num y m 1+iw y m\/nth y m k w<num y m 1+35/\num y m 1<=nth y m k w:=by
 right;have hd:=GU y m gj jX;unfold nth;dsimp only;split<;>omega
def cC(r:bm)(y:Int):Int×Int:=(nth y r.2.2.1 r.2.2.2.1 r.2.2.2.2.1*86400+r.2.2.2.2.2.1,r.2.2.2.2.2.2)
def ix(r:bm):bT:=(List.range (r.2.1-r.1+1).toNat).map λ(i:Nat)=>cC r (r.1+(i:Int))
def occs(l:List bm):bT:=l.flatMap ix
theorem jvo{r:bm}(h:oc r){y:Int}(h1:1970<=y)(h2:y<=2240):0<=(cC r y).1/\(cC r y).1<=10000000000:=by
 have hv:=jmp (MN y r.2.2.1 h1 h2 h.m0 h.m1);have lP:=h.s0;have l7:=h.s1;have:=Ur (w:=r.2.2.2.2.1) h1 h2 h.m0 h.m1 h.k0 h.k1;have hd:=DX y r.2.2.1;unfold cC;dsimp only;omega
theorem jyU{r:bm}(h:oc r):Sm (ix r):=by
 intro x hx;obtain⟨i,hi,rfl⟩:=ju.1 hx;have hi:=List.mem_range.1 hi;have h0:=h.y0;have h2:=h.y2;have:=jvo h (y:=r.1+(i:Int)) (by omega) (by omega);omega
theorem jyV{l:List bm}(h:∀r∈l,oc r):Sm (occs l):=by
 intro x hx;obtain⟨r,hr,hx⟩:=zk.1 hx;exact jyU (h r hr) x hx
theorem Us{r:bm}(h:oc r)(rs:List bm)(a b:Int):∀(n:Nat)(i:Nat)(acc:bT),r.1+(i:Int)+n=r.2.1+1->acc.length+n<=100000->
  Ax (r.1+(i:Int)) rs a b r.1 r.2.1 r.2.2.1 r.2.2.2.1 r.2.2.2.2.1 r.2.2.2.2.2.1 r.2.2.2.2.2.2 acc=some (rs,a,b,acc++(List.range n).map λ(j:Nat)=>cC r (r.1+(i:Int)+(j:Int)))
 |0,i,acc,hi,_=>by
  rw[RY];simp only[j1G];rw[al (by omega),j6,aW];simp
 |n+1,i,acc,hi,hl=>by
  have h0:=h.y0;have h2:=h.y2;have lP:=h.s0;have l7:=h.s1;have hv:=jmp (MN (r.1+(i:Int)) r.2.2.1 (by omega) (by omega) h.m0 h.m1);have hn:=Ur (w:=r.2.2.2.2.1) (y:=r.1+(i:Int)) (by omega) (by omega) h.m0 h.m1 h.k0 h.k1;have hd:=DX (r.1+(i:Int)) r.2.2.1;rw[RY];simp only[j1G];rw[aj (show r.1+(i:Int)<=r.2.1 by omega),jAe _ _ _ _ (by omega) (by omega) h.m0 h.m1 h.k0 h.k1 h.d0 h.d1];simp only[j5,j3]
  rw[ai (x:=nth (r.1+(i:Int)) r.2.2.1 r.2.2.2.1 r.2.2.2.2.1*86400) (by omega) (by omega),ai (x:=nth (r.1+(i:Int)) r.2.2.1 r.2.2.2.1 r.2.2.2.2.1*86400+r.2.2.2.2.2.1) (by omega) (by omega),
   ai (x:=r.1+(i:Int)+1) (by omega) (by omega)]
  rw[aj (by simp[aR];omega)];simp only[j5,aJ];have ih:=Us h rs a b n (i+1) (acc++[cC r (r.1+(i:Int))]) (by omega) (by simp;omega);rw[show r.1+(i:Int)+1=r.1+((i+1:Nat):Int) by omega];refine ih.trans ?_
  have MU:(List.range n).map (λ(j:Nat)=>cC r (r.1+((i+1:Nat):Int)+(j:Int)))=(List.range n).map ((λ(j:Nat)=>cC r (r.1+(i:Int)+(j:Int))) ∘ Nat.succ):=List.map_congr_left λj _=>by
   simp only[Function.comp];congr 1;omega
  rw[List.range_succ_eq_map,kr,List.map_map,MU];simp
theorem Ut{rs:List bm}(h:∀r∈rs,oc r)(hlen:rs.length<=100):∀(n i:Nat)(acc:bT),i+n=rs.length->acc.length<=300*i->
  xN rs (rs.length:Int) (i:Int) acc=some (acc++occs (rs.drop i))
 |0,i,acc,hi,_=>by
  rw[RZ];simp only[j1H];rw[al (by omega),j6,aW,jf (by omega)];simp[occs]
 |n+1,i,acc,hi,hl=>by
  have aq:i<rs.length:=by omega
  have hr:=h rs[i] (jh aq);have h0:=hr.y0;have h1:=hr.y1;have h2:=hr.y2;have hg:rs.getD i ((0:Int),((0:Int),((0:Int),((0:Int),((0:Int),((0:Int),(0:Int)))))))=rs[i]:=by simp[aq]
  have MV:=Us hr rs (rs.length:Int) (i:Int) (rs[i].2.1-rs[i].1+1).toNat 0 acc (by omega) (by omega);rw[show rs[i].1+((0:Nat):Int)=rs[i].1 by omega]at MV;have ih:=Ut h hlen n (i+1) (acc++ix rs[i]) (by omega) (by simp[ix];omega);rw[RZ];simp only[j1H];rw[aj (show (i:Int)<(rs.length:Int) by omega),aX (by omega) (by omega)];simp only[j5,j7,hg,MV,j3];rw[ai (by omega) (by omega),aJ,jc aq];refine ih.trans ?_;rw[jd];rfl
theorem Uu{rs:List bm}(h:∀r∈rs,oc r)(hlen:rs.length<=100)(nm:ByteArray)(o:Int):∀(n i:Nat)(s:Int),i+n=rs.length->0<=s->s<=300*i->
  xM s rs (rs.length:Int) (i:Int) nm o rs=some (.inr (s+((occs (rs.drop i)).length:Int),nm,o,rs))
 |0,i,s,hi,_,_=>by
  rw[RX];simp only[j3L];rw[al (by omega),j6,aW,jf (by omega)];simp[occs]
 |n+1,i,s,hi,lP,l7=>by
  have aq:i<rs.length:=by omega
  have hr:=h rs[i] (jh aq);have h0:=hr.y0;have h1:=hr.y1;have h2:=hr.y2;have hg:rs.getD i ((0:Int),((0:Int),((0:Int),((0:Int),((0:Int),((0:Int),(0:Int)))))))=rs[i]:=by simp[aq]
  have ih:=Uu h hlen nm o n (i+1) (s+(rs[i].2.1-rs[i].1+1)) (by omega) (by omega) (by omega);have D8:jgx (rs[i].1,(rs[i].2.1,(rs[i].2.2.1,(rs[i].2.2.2.1,(rs[i].2.2.2.2.1,(rs[i].2.2.2.2.2.1,rs[i].2.2.2.2.2.2))))))=some 0:=jyT hr;rw[RX];simp only[j3L];rw[aj (show (i:Int)<(rs.length:Int) by omega),aX (by omega) (by omega)];simp only[j5,j7,hg,D8,j3,jp,j6];rw[ai (x:=rs[i].2.1-rs[i].1) (by omega) (by omega),ai (x:=rs[i].2.1-rs[i].1+1) (by omega) (by omega),ai (x:=s+(rs[i].2.1-rs[i].1+1)) (by omega) (by omega),ai (x:=(i:Int)+1) (by omega) (by omega),aJ];refine ih.trans ?_;rw[jc aq]
  have:((occs (rs[i]::rs.drop (i+1))).length:Int)=(rs[i].2.1-rs[i].1+1)+((occs (rs.drop (i+1))).length:Int):=by
   have e1:(ix rs[i]).length=(rs[i].2.1-rs[i].1+1).toNat:=by simp[ix]
   show ((ix rs[i]++occs (rs.drop (i+1))).length:Int)=_;rw[ja,e1];omega
  rw[this];congr 3;omega
theorem jnb{nm:ByteArray}{o:Int}{rs:List bm}(h:∀r∈rs,oc r)(nn : -64800<=o)(lN:o<=64800)(hlen:rs.length<=16)(hn:(occs rs).length<20):j51 (nm,(o,rs))=some (fL (occs rs),0):=by
 have e0:=Uu h (by omega) nm o rs.length 0 0 (by omega) (by omega) (by omega);have e2:=Ut h (by omega) rs.length 0 [] (by omega) (by simp);rw[jv]at e0 e2;simp only[j51,jE nn lN,j3,jq,j6,show Int.ofNat (List.length rs)=(rs.length:Int) from rfl];rw[al (show¬(rs.length:Int)>16 by omega),j6,show xM 0 rs (rs.length:Int) 0 nm o rs=_ from e0];simp only[j3,nV];rw[al (by omega),j6,show Int.ofNat (List.length rs)=(rs.length:Int) from rfl,show xN rs (rs.length:Int) 0 []=_ from e2];simp only[j3,jl,joY (jyV h) hn]
def eh(now:Int):bT->bT
 |[]=>[]
 |x::r=>if x.2=now then eh now r else (x.1-now,x.2)::eh x.2 r
def Good(now:Int)(p:Option Int):bT->Prop
 |[]=>True
 |x::r=>if x.2=now then Good now p r else (-86400<x.2-now/\x.2-now<86400/\1000000<x.1-now/\x.1-now<=8589000000/\(∀q,p=some q->q+604800<=x.1-now) /\ -64800<=x.2/\x.2<=64800)/\Good x.2 (some (x.1-now)) r
theorem MW(L:bT)(hL:L.length<=1000):∀(n i:Nat)(now:Int)(acc:bT),i+n=L.length -> -64800<=now->now<=64800->acc.length<=i->(∀x∈acc,0<=x.1/\x.1<=8589934592)->Good now (acc.getLast?.map (·.1)) (L.drop i)->
  xO now (L.length:Int) (i:Int) acc L=some (.inr (acc++eh now (L.drop i)))
 |0,i,now,acc,hi,_,_,_,_,_=>by
  rw[R0];simp only[j3M];rw[al (by omega),j6,aW,jf (by omega)];simp[eh]
 |n+1,i,now,acc,hi,sE,hn1,xh,eT,hg=>by
  have aq:i<L.length:=by omega
  rw[jc aq]at hg ⊢;have bh:L.getD i ((0:Int),(0:Int))=L[i]:=by simp[aq]
  rw[R0];simp only[j3M];rw[aj (show (i:Int)<(L.length:Int) by omega),aX (by omega) (by omega)];simp only[j5,j7,bh];generalize L[i]=x at *;rw[ai (x:=(i:Int)+1) (by omega) (by omega)];simp only[Good]at hg;by_cases hx:x.2=now
  .rw[if_pos hx]at hg;rw[ee hx];simp only[j5,aJ,eh];rw[if_pos hx];exact MW L hL n (i+1) now acc (by omega) sE hn1 (by omega) eT hg
  .rw[if_neg hx]at hg;obtain⟨⟨g1,g2,g3,g4,g5,g6,g7⟩,g8⟩:=hg;rw[cP hx,ai (x:=x.1-now) (by omega) (by omega),ai (x:=x.2-now) (by omega) (by omega),al (show¬x.2-now>=86400 by omega),al (show¬x.2-now <= -86400 by omega)];simp only[j6,jE (show (0:Int)<=x.1-now by omega) (show x.1-now<=8589934592 by omega),j3,jq,k7,Bool.true_and,show Int.ofNat (List.length acc)=(acc.length:Int) from rfl];rw[ai (x:=(acc.length:Int)-1) (by omega) (by omega)]
   have kN:=MW L hL n (i+1) x.2 (acc++[(x.1-now,x.2)]) (by omega) g6 g7 (by simp;omega)
    (λy hy=>by
     rcases jn.1 hy with hy|hy
     .exact eT y hy
     .simp at hy;subst hy;exact⟨by show (0:Int)<=x.1-now;omega,by show x.1-now<=8589934592;omega⟩) (by simpa using g8)
   have dg:eh now (x::L.drop (i+1))=(x.1-now,x.2)::eh x.2 (L.drop (i+1)):=by simp[eh,hx]
   rw[dg];rw[jd]at kN;by_cases ha:acc=[]
   .subst ha;simp only[kq];rw[show inR (((0:Nat):Int)-1) 0=false from rfl,show decide (((0:Nat):Int)>0)=false from rfl];simp only[k7,j5,j6,Bool.or_true];rw[aj (by simp[aR])];simp only[j5,aJ];exact kN
   .have bP:0<acc.length:=qa.2 ha;have cW:acc.getLast? = some (acc.getD (acc.length-1) (0,0)):=by rw[List.getLast?_eq_getElem?,List.getD_eq_getElem?_getD,jj (show acc.length-1<acc.length by omega)];rfl
    rw[cW]at g5;have g5:(acc.getD (acc.length-1) ((0:Int),(0:Int))).1+604800<=x.1-now:=g5 _ rfl;have hb:=eT (acc.getD (acc.length-1) (0,0)) (List.mem_of_getLast? cW);rw[aX (by omega) (by omega),aj (show (acc.length:Int)>0 by omega),show ((acc.length:Int)-1).toNat=acc.length-1 by omega];simp only[Bool.true_or,j5];rw[ai (by omega) (by omega),al (show¬x.1-now<(acc.getD (acc.length-1) ((0:Int),(0:Int))).1+604800 by omega),aj (by simp[aR];omega)];simp only[j5,j6,aJ];exact kN
def GX(p:Option Int):bT->Prop
 |[]=>True
 |x::r=>(1000000<x.1/\x.1<=8589000000/\(∀q,p=some q->q+604800<=x.1) /\ -64800<=x.2/\x.2<=64800)/\GX (some x.1) r
theorem MX:∀(L:bT)(now:Int)(p:Option Int),Good now p L->GX p (eh now L)
 |[],_,_,_=>trivial
 |x::r,now,p,h=>by
  simp only[Good]at h;by_cases hx:x.2=now
  .rw[if_pos hx]at h;simp only[eh];rw[if_pos hx];exact MX r now p h
  .rw[if_neg hx]at h;simp only[eh];rw[if_neg hx];obtain⟨⟨g1,g2,g3,g4,g5,g6,g7⟩,g8⟩:=h;exact⟨⟨g3,g4,g5,g6,g7⟩,MX r x.2 _ g8⟩
theorem GY:∀(L:bT)(now:Int),(eh now L).length<=L.length
 |[],_=>jg _
 |x::r,now=>by
  simp only[eh];split
  .have:=GY r now;simp;omega
  .have:=GY r x.2;simp;omega
theorem Uv:∀(l:bT)(p:Option Int),GX p l->(∀i,i+1<l.length->gW l i+604800<=gW l (i+1))/\(∀i,i<l.length->1000000<gW l i/\gW l i<=8589000000)/\
  (∀o i, -64800<=o->o<=64800->i<=l.length -> -64800<=cI o l i/\cI o l i<=64800)
 |[],_,_=>⟨λi h=>by simp at h,λi h=>by simp at h,λo i h1 h2 h3=>by
  have:i=0:=by simpa using h3
  subst this;exact⟨h1,h2⟩⟩
 |x::r,p,h=>by
  obtain⟨⟨g3,g4,g5,g6,g7⟩,g8⟩:=h;obtain⟨h1,h2,h3⟩:=Uv r _ g8;refine⟨λi hi=>?_,λi hi=>?_,λo i nn lN hi=>?_⟩
  .cases i with
   |zero=>
    cases r with
    |nil=>simp at hi
    |cons y ys=>have:=g8.1.2.2.1 _ rfl;exact this
   |succ i=>exact h1 i (by simp at hi ⊢;omega)
  .cases i with
   |zero=>exact⟨g3,g4⟩
   |succ i=>exact h2 i (by simp at hi ⊢;omega)
  .cases i with
   |zero=>exact⟨nn,lN⟩
   |succ i=>
    cases i with
    |zero=>exact⟨g6,g7⟩
    |succ i=>exact h3 x.2 (i+1) g6 g7 (by simp at hi ⊢;omega)
theorem jyW{o:Int}{l:bT}(h:GX none l)(hl:l.length<=1000)(h0 : -64800<=o)(h1:o<=64800):jD o l:=by
 obtain⟨a,b,c⟩:=Uv l none h;exact⟨hl,a,λi hi=>(b i hi).1,λi hi=>(b i hi).2,λi hi=>(c o i h0 h1 hi).1,λi hi=>(c o i h0 h1 hi).2⟩
def tN(z:ByteArray×(Int×List bm))(l:bT):Prop:=j38 z=some (l,0)/\jD z.2.1 l
theorem jyX{nm:ByteArray}{o:Int}{rs:List bm}(h:∀r∈rs,oc r)(nn : -64800<=o)(lN:o<=64800)(hlen:rs.length<=16)(hn:(occs rs).length<20)(hg:Good o none (fL (occs rs))):tN (nm,(o,rs)) (eh o (fL (occs rs))):=by
 have hl:(fL (occs rs)).length<=1000:=by simp[fL,MH];omega
 refine⟨?_,jyW (MX _ _ _ hg) (by have:=GY (fL (occs rs)) o;omega) nn lN⟩;have:=MW (fL (occs rs)) hl (fL (occs rs)).length 0 o [] (by omega) nn lN (by simp) (by simp) hg;simp only[j38,jnb h nn lN hlen hn,j3,jp,j6,show Int.ofNat (List.length (fL (occs rs)))=((fL (occs rs)).length:Int) from rfl];rw[jv]at this;rw[show xO o ((fL (occs rs)).length:Int) 0 [] (fL (occs rs))=_ from this];rfl
theorem jBn{z:ByteArray×(Int×List bm)}{l:bT}(h:tN z l):jgy z=some ((z.2.1,l),0):=by
 simp only[jgy,show j38 (z.1,(z.2.1,z.2.2))=_ from h.1,j3]
theorem Uw{y m k w:Int}(gj:1<=m)(jX:m<=12)(dE:2<=k)(gq:k<=5):num y m 1+7<=nth y m k w/\nth y m k w<=num y m 1+34:=by
 have hd:=GU y m gj jX;unfold nth;dsimp only;split<;>omega
theorem MY{y m k w:Int}(gj:1<=m)(jX:m<=12)(dE:1<=k)(gq:k<=4):num y m 1<=nth y m k w/\nth y m k w<=num y m 1+27:=by
 have hd:=GU y m gj jX;unfold nth;dsimp only;split<;>omega
theorem Ux{a b:Int×Int}(h:a.1<b.1):fL [a,b]=[a,b]:=by
 simp[fL,qQ,nk,show¬b.1<a.1 by omega]
theorem Uy{a b c d:Int×Int}(h1:a.1<c.1)(h2:c.1<b.1)(h3:b.1<d.1):fL [a,b,c,d]=[a,c,b,d]:=by
 simp[fL,qQ,nk,show¬b.1<a.1 by omega,h2,show¬c.1<a.1 by omega,show¬d.1<b.1 by omega]
theorem Uz(r1 r2:bm)(h1:r1.1=2025)(h2:r1.2.1=2025)(h3:r2.1=2025)(h4:r2.2.1=2025):occs [r1,r2]=[cC r1 2025,cC r2 2025]:=by
 simp[occs,ix,h1,h2,h3,h4]
theorem UA(r1 r2:bm)(h1:r1.1=2025)(h2:r1.2.1=2026)(h3:r2.1=2025)(h4:r2.2.1=2026):occs [r1,r2]=[cC r1 2025,cC r1 2026,cC r2 2025,cC r2 2026]:=by
 simp[occs,ix,h1,h2,h3,h4,List.range_succ]
theorem od{now:Int}{p:Option Int}{x:Int×Int}{r:bT}(hx:x.2≠now)(h : -86400<x.2-now/\x.2-now<86400/\1000000<x.1-now/\x.1-now<=8589000000 /\ -64800<=x.2/\x.2<=64800)
  (hp:∀q,p=some q->q+604800<=x.1-now)(hr:Good x.2 (some (x.1-now)) r):Good now p (x::r):=by
 simp only[Good];rw[if_neg hx];exact⟨⟨h.1,h.2.1,h.2.2.1,h.2.2.2.1,hp,h.2.2.2.2.1,h.2.2.2.2.2⟩,hr⟩
theorem jvr{now:Int}{p:Option Int}{x:Int×Int}{r:bT}(hx:x.2=now)(hr:Good now p r):Good now p (x::r):=by
 simp only[Good];rw[if_pos hx];exact hr
theorem D9{P:Int->Prop}:∀q,(none:Option Int)=some q->P q:=λ_ h=>by simp at h
theorem vS{P:Int->Prop}{a:Int}(h:P a):∀q,some a=some q->P q:=λq hq=>by simp at hq;subst hq;exact h
theorem n251:num 2025 1 1=20089:=by decide
theorem n261:num 2026 1 1=20454:=by decide
theorem n252:num 2025 2 1=20120:=by decide
theorem n253:num 2025 3 1=20148:=by decide
theorem n262:num 2026 2 1=20485:=by decide
theorem n263:num 2026 3 1=20513:=by decide
structure MZ(o:Int)(rs:List bm):Prop where
 o0 : -43200<=o
 o1:o<=45000
 ok:∀r∈rs,oc r
 len:rs.length<=2
 few:(occs rs).length<=4
 good:Good o none (fL (occs rs))
theorem MZ.tab{o:Int}{rs:List bm}(h:MZ o rs)(nm:ByteArray):tN (nm,(o,rs)) (eh o (fL (occs rs))):=
 jyX h.ok (by have:=h.o0;omega) (by have:=h.o1;omega) (by have:=h.len;omega) (by have:=h.few;omega) h.good
theorem mz0{o:Int}(h0 : -43200<=o)(h1:o<=45000):MZ o []:=⟨h0,h1,by simp,by simp,by decide,trivial⟩
theorem UB{r1 r2:bm}(h1:oc r1)(h2:oc r2):∀r∈[r1,r2],oc r:=by
 intro r hr;simp at hr;rcases hr with rfl|rfl
 .exact h1
 .exact h2
theorem mz1{o last:Int}(h0 : -43200<=o)(h1:o<=45000)(hl:last=2025\/last=2026):MZ o [(2025,(last,(3,(5,(6,(7200,o+3600)))))),(2025,(last,(10,(5,(6,(10800,o))))))]:=by
 have a1:nth 2025 3 5 6=20177:=by decide
 have a2:nth 2025 10 5 6=20387:=by decide
 have a3:nth 2026 3 5 6=20541:=by decide
 have a4:nth 2026 10 5 6=20751:=by decide
 have bH:=UB (r1:=(2025,(last,(3,(5,(6,(7200,o+3600))))))) (r2:=(2025,(last,(10,(5,(6,(10800,o))))))) (by constructor<;>(dsimp only;omega)) (by constructor<;>(dsimp only;omega));rcases hl with rfl|rfl
 .have e:=Uz (2025,(2025,(3,(5,(6,(7200,o+3600)))))) (2025,(2025,(10,(5,(6,(10800,o)))))) rfl rfl rfl rfl;refine⟨h0,h1,bH,by simp,by rw[e];simp,?_⟩;rw[e,Ux (by simp only[cC];omega)];refine od (by simp only[cC];omega) (by simp only[cC];omega) D9 (od (by simp only[cC];omega) (by simp only[cC];omega) (vS (by simp only[cC];omega)) trivial)
 .have e:=UA (2025,(2026,(3,(5,(6,(7200,o+3600)))))) (2025,(2026,(10,(5,(6,(10800,o)))))) rfl rfl rfl rfl;refine⟨h0,h1,bH,by simp,by rw[e];simp,?_⟩;rw[e,Uy (by simp only[cC];omega) (by simp only[cC];omega) (by simp only[cC];omega)]
  refine od (by simp only[cC];omega) (by simp only[cC];omega) D9 (od (by simp only[cC];omega) (by simp only[cC];omega) (vS (by simp only[cC];omega))
   (od (by simp only[cC];omega) (by simp only[cC];omega) (vS (by simp only[cC];omega)) (od (by simp only[cC];omega) (by simp only[cC];omega) (vS (by simp only[cC];omega)) trivial)))
theorem mz2{o last k1 w1 s1 c m2 k2 w2 s2:Int}(h0 : -43200<=o)(h1:o<=45000)(hl:last=2025\/last=2026)(hk:1<=k1)(bg:k1<=4)(hw:0<=w1)(IE:w1<=6)(hs:0<=s1)(dr:s1<=82800)(hc:1800<=c)(eE:c<=14400)
  (hm:m2=2\/m2=3)(hj:2<=k2)(eJ:k2<=5)(hx:0<=w2)(gN:w2<=6)(ht:0<=s2)(rG:s2<=82800):MZ o [(2025,(last,(1,(k1,(w1,(s1,o+c)))))),(2025,(last,(m2,(k2,(w2,(s2,o))))))]:=by
 have bH:=UB (r1:=(2025,(last,(1,(k1,(w1,(s1,o+c))))))) (r2:=(2025,(last,(m2,(k2,(w2,(s2,o))))))) (by constructor<;>(dsimp only;omega)) (by constructor<;>(dsimp only;omega));have b1:=MY (y:=2025) (m:=1) (k:=k1) (w:=w1) (by omega) (by omega) hk bg;have b2:=MY (y:=2026) (m:=1) (k:=k1) (w:=w1) (by omega) (by omega) hk bg;have b3:=Uw (y:=2025) (m:=m2) (k:=k2) (w:=w2) (by omega) (by omega) hj eJ;have b4:=Uw (y:=2026) (m:=m2) (k:=k2) (w:=w2) (by omega) (by omega) hj eJ;have c1:20120<=num 2025 m2 1/\num 2025 m2 1<=20148:=by rcases hm with rfl|rfl<;>simp[n252,n253]
 have c2:20485<=num 2026 m2 1/\num 2026 m2 1<=20513:=by rcases hm with rfl|rfl<;>simp[n262,n263]
 rw[n251]at b1;rw[n261]at b2;rcases hl with rfl|rfl
 .have e:=Uz (2025,(2025,(1,(k1,(w1,(s1,o+c)))))) (2025,(2025,(m2,(k2,(w2,(s2,o)))))) rfl rfl rfl rfl;refine⟨h0,h1,bH,by simp,by rw[e];simp,?_⟩;rw[e,Ux (by simp only[cC];omega)];refine od (by simp only[cC];omega) (by simp only[cC];omega) D9 (od (by simp only[cC];omega) (by simp only[cC];omega) (vS (by simp only[cC];omega)) trivial)
 .have e:=UA (2025,(2026,(1,(k1,(w1,(s1,o+c)))))) (2025,(2026,(m2,(k2,(w2,(s2,o)))))) rfl rfl rfl rfl;refine⟨h0,h1,bH,by simp,by rw[e];simp,?_⟩;rw[e,Uy (by simp only[cC];omega) (by simp only[cC];omega) (by simp only[cC];omega)]
  refine od (by simp only[cC];omega) (by simp only[cC];omega) D9 (od (by simp only[cC];omega) (by simp only[cC];omega) (vS (by simp only[cC];omega))
   (od (by simp only[cC];omega) (by simp only[cC];omega) (vS (by simp only[cC];omega)) (od (by simp only[cC];omega) (by simp only[cC];omega) (vS (by simp only[cC];omega)) trivial)))
theorem UC{o w s x:Int}(h0 : -43200<=o)(h1:o<=45000)(hw:0<=w)(IE:w<=6)(hs:0<=s)(dr:s<=84600)(rE : -64800<=x)(nP:x<=64800)(mP : -86400<x-o)(gy:x-o<86400):MZ o [(2026,(2026,(1,(2,(w,(s,x))))))]:=by
 have b:=MY (y:=2026) (m:=1) (k:=2) (w:=w) (by omega) (by omega) (by omega) (by omega);rw[n261]at b;have e:occs [((2026:Int),((2026:Int),((1:Int),((2:Int),(w,(s,x))))))]=[cC (2026,(2026,(1,(2,(w,(s,x)))))) 2026]:=by simp[occs,ix]
 refine⟨h0,h1,λr hr=>?_,by simp,by rw[e];simp,?_⟩
 .simp at hr;subst hr;constructor<;>(dsimp only;omega)
 .rw[e];have hi:fL [cC (2026,(2026,(1,(2,(w,(s,x)))))) 2026]=[cC (2026,(2026,(1,(2,(w,(s,x)))))) 2026]:=by simp[fL,qQ,nk]
  rw[hi];by_cases UD:x=o
  .exact jvr UD trivial
  .exact od UD (by simp only[cC];omega) D9 trivial
theorem jyY{L:List Int}{a:Int}(h:dp L a)(nm:ByteArray):∃o rs a',j5y L a nm=some ((nm,(o,rs)),L,a')/\MZ o rs/\dp L a':=by
 obtain⟨p,a1,e1,m1,d1⟩:=mG h (xs:=[(0:Int),(4:Int),(-20:Int),(22:Int),(48:Int),(-47:Int)]) (by simp) (by simp);obtain⟨x2,a2,e2,x20,x21,d2⟩:=cK (n:=2) d1 (by omega) (by omega);obtain⟨x3,a3,e3,x30,x31,d3⟩:=cK (n:=3) d2 (by omega) (by omega);obtain⟨y,a4,e4,y0,y1,d4⟩:=cK (n:=2) d3 (by omega) (by omega);obtain⟨q,a5,e5,q0,q1,d5⟩:=cK (n:=4) d4 (by omega) (by omega);have hp : -47<=p/\p<=48:=by simp at m1;omega
 have hmul:0<=x2*x3/\x2*x3<=2:=by
  obtain rfl|rfl:x2=0\/x2=1:=by omega
  all_goals omega
 have nn : -43200<=900*(p+x2*x3):=by omega
 have lN:900*(p+x2*x3)<=45000:=by omega
 have cW:2025+y=2025\/2025+y=2026:=by omega
 simp only[j5y,e1,e2,e3,e4,e5,j3];rw[ai (x:=x2*x3) (by omega) (by omega),ai (x:=p+x2*x3) (by omega) (by omega),ai (x:=900*(p+x2*x3)) (by omega) (by omega),ai (x:=2025+y) (by omega) (by omega)];generalize 900*(p+x2*x3)=o at *;generalize 2025+y=last at *;by_cases yE:q=1
 .rw[ee yE,j5,ai (x:=o+3600) (by omega) (by omega)];exact⟨_,_,_,rfl,mz1 nn lN cW,d5⟩
 .rw[cP yE,j6];by_cases Ea:q=2
  .rw[ee Ea,j5];obtain⟨b1,c1,f1,b10,b11,g1⟩:=cK (n:=4) d5 (by omega) (by omega);obtain⟨b2,c2,f2,Bf,M0,g2⟩:=cK (n:=7) g1 (by omega) (by omega);obtain⟨b3,c3,f3,M1,M3,g3⟩:=cK (n:=24) g2 (by omega) (by omega);obtain⟨b4,c4,f4,b40,b41,g4⟩:=cK (n:=8) g3 (by omega) (by omega);obtain⟨b5,c5,f5,b50,b51,g5⟩:=cK (n:=2) g4 (by omega) (by omega);obtain⟨b6,c6,f6,m6,g6⟩:=mG g5 (xs:=[(2:Int),(3:Int),(5:Int)]) (by simp) (by simp);obtain⟨b7,c7,f7,UE,b71,g7⟩:=cK (n:=7) g6 (by omega) (by omega);obtain⟨b8,c8,f8,b80,b81,g8⟩:=cK (n:=24) g7 (by omega) (by omega);have h6:2<=b6/\b6<=5:=by simp at m6;omega
   simp only[f1,f2,f3,f4,f5,f6,f7,f8,j3]
   rw[ai (x:=1+b1) (by omega) (by omega),ai (x:=3600*b3) (by omega) (by omega),ai (x:=1+b4) (by omega) (by omega),ai (x:=1800*(1+b4)) (by omega) (by omega),ai (x:=o+1800*(1+b4)) (by omega) (by omega),
    ai (x:=2+b5) (by omega) (by omega),ai (x:=3600*b8) (by omega) (by omega)]
   exact⟨_,_,_,rfl,mz2 nn lN cW (by omega) (by omega) Bf (by omega) (by omega) (by omega) (by omega) (by omega) (by omega) h6.1 h6.2 UE (by omega) (by omega) (by omega),g8⟩
  .rw[cP Ea,j6];by_cases Eb:q=3
   .rw[ee Eb,j5];obtain⟨b1,c1,f1,m1,g1⟩:=mG d5 (xs:=[(3600:Int),(-3600:Int),(82800:Int),(-82800:Int),(43200:Int)]) (by simp) (by simp);obtain⟨b2,c2,f2,Bf,M0,g2⟩:=cK (n:=7) g1 (by omega) (by omega);obtain⟨b3,c3,f3,M1,M3,g3⟩:=cK (n:=48) g2 (by omega) (by omega);have da : -82800<=b1/\b1<=82800:=by simp at m1;omega
    simp only[f1,f2,f3,j3];rw[ai (x:=o+b1) (by omega) (by omega),ai (x:=1800*b3) (by omega) (by omega)];by_cases kR:o+b1>64800\/o+b1 < -64800
    .have hb:cond (decide (o+b1>64800)) true (decide (o+b1 < -64800))=true:=by
      rcases kR with kR|kR
      .rw[aj kR];rfl
      .rw[aj kR];cases decide (o+b1>64800)<;>rfl
     rw[hb,j5];exact⟨_,_,_,rfl,UC nn lN Bf (by omega) (by omega) (by omega) (by omega) (by omega) (by omega) (by omega),g3⟩
    .rw[al (show¬o+b1>64800 by omega),al (show¬o+b1 < -64800 by omega)];simp only[j6];exact⟨_,_,_,rfl,UC nn lN Bf (by omega) (by omega) (by omega) (by omega) (by omega) (by omega) (by omega),g3⟩
   .rw[cP Eb,j6];exact⟨_,_,_,rfl,mz0 nn lN,d5⟩
section
variable{o:Int}{l:bT}(h:jD o l)
include h
theorem GZ{i j:Nat}{t:Int}(hi:i<=l.length)(hj:j<=l.length)(a1:bn l i<=t)(a2:t<bn l (i+1))(b1:bn l j<=t)(b2:t<bn l (j+1)):i=j:=by
 rcases Nat.lt_trichotomy i j with dK|dK|dK
 .have:=h.frm_le (i:=i+1) (j:=j) (by omega) (by omega);omega
 .exact dK
 .have:=h.frm_le (i:=j+1) (j:=i) (by omega) (by omega);omega
end
abbrev WL:=List (Int×Int)
def iP(p:Int):WL->Prop
 |[]=>p<=604800
 |x::r=>p<=x.1/\x.1<x.2/\x.2<=604800/\iP x.2 r
def hasB(s:Int):WL->Bool
 |[]=>false
 |x::r=>cond (cond (decide (x.1<=s)) (decide (s<x.2)) false) true (hasB s r)
theorem iP.weak{p q:Int}(hq:q<=p):∀{w:WL},iP p w->iP q w
 |[],h=>by show q<=604800;have:p<=604800:=h;omega
 |_::_,h=>⟨by have:=h.1;omega,h.2⟩
theorem Ec:∀{w:WL}{p:Int},iP p w->∀i,i<w.length->p<=(w.getD i (0,0)).1/\(w.getD i (0,0)).1<(w.getD i (0,0)).2/\(w.getD i (0,0)).2<=604800
 |[],_,_,i,hi=>by simp at hi
 |x::r,p,h,i,hi=>by
  obtain⟨h1,h2,h3,h4⟩:=h;cases i with
  |zero=>exact⟨h1,h2,h3⟩
  |succ i=>exact Ec (h4.weak (show p<=x.2 by omega)) i (by simpa using hi)
theorem UF:∀{w:WL}{p:Int},iP p w->∀i,i+1<w.length->(w.getD i (0,0)).2<=(w.getD (i+1) (0,0)).1
 |[],_,_,i,hi=>by simp at hi
 |x::[],_,_,i,hi=>by simp at hi
 |x::y::r,p,h,i,hi=>by
  cases i with
  |zero=>exact h.2.2.2.1
  |succ i=>exact UF h.2.2.2 i (by simpa using hi)
theorem UG{L:List Int}:∀(n:Nat)(p a:Int)(acc:WL),dp L a->0<=p->p<=604800->acc.length+n<=100->
  ∃w a',Gg p (n:Int) L a acc=some (L,a',acc++w)/\iP p w/\w.length<=n/\dp L a'
 |0,p,a,acc,hd,_,hp,_=>by
  rw[Tj];simp only[j3u];rw[al (by omega),j6,aW];exact⟨[],a,by simp,hp,by simp,hd⟩
 |n+1,p,a,acc,hd,uN,hp,ha=>by
  obtain⟨x,a1,e1,x0,x1,d1⟩:=cK (n:=30) hd (by omega) (by omega);obtain⟨y,a2,e2,y0,y1,d2⟩:=cK (n:=2) d1 (by omega) (by omega);obtain⟨q,a3,e3,m3,d3⟩:=mG d2 (xs:=[(3600:Int),(28800:Int),(43200:Int),(86400:Int),(61:Int),(1:Int)]) (by simp) (by simp);have hq:1<=q/\q<=86400:=by simp at m3;omega
  rw[Tj];simp only[j3u];rw[aj (by omega)];simp only[j5,e1,e2,e3,j3];rw[ai (x:=3600*x) (by omega) (by omega),ai (x:=p+3600*x) (by omega) (by omega),ai (x:=60*y) (by omega) (by omega),ai (x:=p+3600*x+60*y) (by omega) (by omega),ai (x:=p+3600*x+60*y+q) (by omega) (by omega),ai (x:=((n+1:Nat):Int)-1) (by omega) (by omega)];by_cases kR:p+3600*x+60*y+q>604800
  .rw[aj kR,j5,aW];exact⟨[],a3,by simp,hp,by simp,d3⟩
  .rw[al kR,aj (by simp[aR];omega)];simp only[j6,j5,aJ];obtain⟨w,a4,e4,hw,kG,d4⟩:=UG n (p+3600*x+60*y+q) a3 (acc++[(p+3600*x+60*y,p+3600*x+60*y+q)]) d3 (by omega) (by omega) (by simp;omega);rw[show ((n+1:Nat):Int)-1=(n:Int) by omega];refine⟨(p+3600*x+60*y,p+3600*x+60*y+q)::w,a4,by rw[e4,jd];rfl,⟨by dsimp only;omega,by dsimp only;omega,by dsimp only;omega,hw⟩,by simp;omega,d4⟩
theorem M4{L:List Int}{a:Int}(h:dp L a):∃w a',j5E L a=some (w,L,a')/\iP 0 w/\w.length<=3/\dp L a':=by
 obtain⟨x,a1,e1,x0,x1,d1⟩:=cK (n:=4) h (by omega) (by omega);obtain⟨w,a',e2,h1,h2,h3⟩:=UG x.toNat 0 a1 [] d1 (by omega) (by omega) (by simp;omega);rw[show ((x.toNat:Nat):Int)=x by omega,jl]at e2;simp only[j5E,e1,j3,e2];exact⟨w,a',rfl,h1,by omega,h3⟩
theorem UH{L:List Int}{a:Int}(h:dp L a):∃t a',j6Y L a=some (t,L,a')/\1767139199<=t/\t<=1767139200+3600*575+3599/\dp L a':=by
 obtain⟨x,a1,e1,x0,x1,d1⟩:=cK (n:=576) h (by omega) (by omega);obtain⟨y,a2,e2,y0,y1,d2⟩:=cK (n:=3) d1 (by omega) (by omega);obtain⟨q,a3,e3,m3,d3⟩:=mG d2 (xs:=[(-1:Int),(1:Int),(1800:Int),(3599:Int)]) (by simp) (by simp);have hq : -1<=q/\q<=3599:=by simp at m3;omega
 simp only[j6Y,e1,j3,j1T,e2,e3];rw[ai (x:=3600*x) (by omega) (by omega),ai (x:=1767139200+3600*x) (by omega) (by omega),ai (x:=1767139200+3600*x+q) (by omega) (by omega)];cases (y==w64 (3-1)) with
 |true=>exact⟨_,_,rfl,by omega,by omega,d3⟩
 |false=>exact⟨_,_,rfl,by omega,by omega,d2⟩
theorem UI{w:WL}(h:iP 0 w)(hl:w.length<=14):∀(n i:Nat),i+n=w.length->Az w w (w.length:Int) (i:Int)=some (.inr ())
 |0,i,hi=>by
  rw[R3];simp only[j66];rw[al (by omega),j6,aW]
 |n+1,i,hi=>by
  have ih:=UI h hl n (i+1) (by omega);have hg:=Ec h i (by omega);rw[R3];simp only[j66];rw[aj (show (i:Int)<(w.length:Int) by omega),aX (by omega) (by omega)];simp only[j5,j7];rw[al (show¬(w.getD i ((0:Int),(0:Int))).1<0 by omega),al (show¬(w.getD i ((0:Int),(0:Int))).1>=(w.getD i ((0:Int),(0:Int))).2 by omega),al (show¬(w.getD i ((0:Int),(0:Int))).2>604800 by omega)];rw[ai (x:=(i:Int)+1) (by omega) (by omega)];simp only[j6];by_cases h0:i=0
  .rw[al (by omega)];simp only[j6,aJ];exact ih
  .obtain⟨j,rfl⟩:∃j,i=j+1:=⟨i-1,by omega⟩;have hgap:=UF h j (by omega);rw[aj (by omega),ai (x:=((j+1:Nat):Int)-1) (by omega) (by omega),aX (by omega) (by omega),show (((j+1:Nat):Int)-1).toNat=j by omega,al (by omega)];simp only[j5,j6,aJ];exact ih
theorem UJ{w:WL}(h:iP 0 w)(hl:w.length<=14):j9S w=some 0:=by
 have:=UI h hl w.length 0 (by omega);rw[show ((0:Nat):Int)=0 from rfl]at this;simp only[j9S,show Int.ofNat (List.length w)=(w.length:Int) from rfl];rw[al (by omega),j6,this];rfl
abbrev bY:=ByteArray×(Int×List bm)
abbrev dB:=ByteArray×(Int×(WL×(Int×(Int×Bool))))
abbrev bf:=ByteArray×(Int×List Int)
abbrev cg:=ByteArray×(Int×((Int×Int)×(Int×(Int×(List Int×(WL×(Int×Int)))))))
abbrev cA:=ByteArray×(List cg×List (Int×(Int×(Int×(Int×Int)))))
def nq(z:bY):Prop:=MZ z.2.1 z.2.2
theorem Bg{L:List Int}{a n:Int}(h:dp L a)(hn:1<=n)(MP:n<=1000000):∃b a',j1T L a n=some (b,L,a')/\dp L a':=by
 obtain⟨x,a1,e1,x0,x1,d1⟩:=cK (n:=n) h (by omega) (by omega);simp only[j1T,e1,j3];exact⟨_,_,rfl,d1⟩
structure Ed(zs:List bY)(ps:List dB)(cs:List bf):Prop where
 z0:1<=zs.length
 z1:zs.length<=2
 ok:∀z∈zs,nq z
 p0:1<=ps.length
 p1:ps.length<=4
 c1:cs.length<=1
structure M5(l:cg):Prop where
 d0:20452<=l.2.2.1.1
 d1:l.2.2.1.1<=20457
 c0:0<=l.2.2.1.2
 c1:l.2.2.1.2<=79200
 u0:0<=l.2.2.2.1
 u1:l.2.2.2.1<=2
 e0:1<=l.2.2.2.2.1
 e1:l.2.2.2.2.1<=49
 e2:l.2.2.2.1≠0->l.2.2.2.2.1<=2
 m0:1<=l.2.2.2.2.2.1.length
 m1:l.2.2.2.2.2.1.length<=3
end Go.Proofs.Pw
