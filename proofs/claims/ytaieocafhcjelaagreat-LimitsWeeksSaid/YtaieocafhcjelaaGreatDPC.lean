/- sane of GO 12. -/
import Derived.Test.YtaieocafhcjelaaGreatDPB
import Derived.KernelRfl
import Derived.Test.YtaieocafhcjelaaGreatDPA
open Go Go.Lft
namespace Go.Proofs.Pw
abbrev bj:=Int×(Int×(Int×(Int×(Int×(Int×Int)))))
theorem iZ{n lo hi:Int}(h1:lo<=n)(h2:n<=hi):jbQ n lo hi=some true:=by
 simp only[jbQ];rw[aj (show n>=lo from h1),aj h2];rfl
structure nW(r:bj):Prop where
 y0:1970<=r.1
 y1:r.1<=r.2.1
 y2:r.2.1<=2240
 m0:1<=r.2.2.1
 m1:r.2.2.1<=12
 k0:1<=r.2.2.2.1
 k1:r.2.2.2.1<=5
 d0:0<=r.2.2.2.2.1
 d1:r.2.2.2.2.1<=6
 s0:0<=r.2.2.2.2.2.1
 s1:r.2.2.2.2.2.1<=86399
 o0 : -64800<=r.2.2.2.2.2.2
 o1:r.2.2.2.2.2.2<=64800
theorem jyG{r:bj}(h:nW r):jgo r=some 0:=by
 simp only[jgo,iZ h.y0 (show r.1<=2240 by have:=h.y1;have:=h.y2;omega),iZ h.y1 h.y2,iZ h.m0 h.m1,iZ h.k0 h.k1,iZ h.d0 h.d1,iZ h.s0 h.s1,iZ h.o0 h.o1,j3,jr,j6]
theorem Uf{y m k w:Int}(_h1:1970<=y)(_h2:y<=2240)(fF:1<=m)(jS:m<=12)(dz:1<=k)(gl:k<=5):num y m 1<=nth y m k w/\nth y m k w<num y m 1+im y m\/nth y m k w<num y m 1+35/\num y m 1<=nth y m k w:=by
 right;have hd:=GL y m fF jS;unfold nth;dsimp only;split<;>omega
def cA(r:bj)(y:Int):Int×Int:=(nth y r.2.2.1 r.2.2.2.1 r.2.2.2.2.1*86400+r.2.2.2.2.2.1,r.2.2.2.2.2.2)
def iq(r:bj):bR:=(List.range (r.2.1-r.1+1).toNat).map λ(i:Nat)=>cA r (r.1+(i:Int))
def occs(l:List bj):bR:=l.flatMap iq
theorem jvf{r:bj}(h:nW r){y:Int}(h1:1970<=y)(h2:y<=2240):0<=(cA r y).1/\(cA r y).1<=10000000000:=by
 have hv:=MA (MB y r.2.2.1 h1 h2 h.m0 h.m1);have lJ:=h.s0;have lX:=h.s1;have:=Uf (w:=r.2.2.2.2.1) h1 h2 h.m0 h.m1 h.k0 h.k1;have hd:=DK y r.2.2.1;unfold cA;dsimp only;omega
theorem jyH{r:bj}(h:nW r):Sm (iq r):=by
 intro x hx;obtain⟨i,hi,rfl⟩:=jt.1 hx;have hi:=List.mem_range.1 hi;have h0:=h.y0;have h2:=h.y2;have:=jvf h (y:=r.1+(i:Int)) (by omega) (by omega);omega
theorem jyI{l:List bj}(h:∀r∈l,nW r):Sm (occs l):=by
 intro x hx;obtain⟨r,hr,hx⟩:=zi.1 hx;exact jyH (h r hr) x hx
theorem Ug{r:bj}(h:nW r)(rs:List bj)(a b:Int):∀(n:Nat)(i:Nat)(acc:bR),r.1+(i:Int)+n=r.2.1+1->acc.length+n<=100000->
  Ao (r.1+(i:Int)) rs a b r.1 r.2.1 r.2.2.1 r.2.2.2.1 r.2.2.2.2.1 r.2.2.2.2.2.1 r.2.2.2.2.2.2 acc=some (rs,a,b,acc++(List.range n).map λ(j:Nat)=>cA r (r.1+(i:Int)+(j:Int)))
 |0,i,acc,hi,_=>by
  rw[RH];simp only[j1E];rw[ak (by omega),j6,aW];simp
 |n+1,i,acc,hi,hl=>by
  have h0:=h.y0;have h2:=h.y2;have lJ:=h.s0;have lX:=h.s1;have hv:=MA (MB (r.1+(i:Int)) r.2.2.1 (by omega) (by omega) h.m0 h.m1);have hn:=Uf (w:=r.2.2.2.2.1) (y:=r.1+(i:Int)) (by omega) (by omega) h.m0 h.m1 h.k0 h.k1;have hd:=DK (r.1+(i:Int)) r.2.2.1;rw[RH];simp only[j1E];rw[aj (show r.1+(i:Int)<=r.2.1 by omega),jzX _ _ _ _ (by omega) (by omega) h.m0 h.m1 h.k0 h.k1 h.d0 h.d1];simp only[j5,j3]
  rw[ah (x:=nth (r.1+(i:Int)) r.2.2.1 r.2.2.2.1 r.2.2.2.2.1*86400) (by omega) (by omega),ah (x:=nth (r.1+(i:Int)) r.2.2.1 r.2.2.2.1 r.2.2.2.2.1*86400+r.2.2.2.2.2.1) (by omega) (by omega),
   ah (x:=r.1+(i:Int)+1) (by omega) (by omega)]
  rw[aj (by simp[aS];omega)];simp only[j5,aF];have ih:=Ug h rs a b n (i+1) (acc++[cA r (r.1+(i:Int))]) (by omega) (by simp;omega);rw[show r.1+(i:Int)+1=r.1+((i+1:Nat):Int) by omega];refine ih.trans ?_
  have MH:(List.range n).map (λ(j:Nat)=>cA r (r.1+((i+1:Nat):Int)+(j:Int)))=(List.range n).map ((λ(j:Nat)=>cA r (r.1+(i:Int)+(j:Int))) ∘ Nat.succ):=List.map_congr_left λj _=>by
   simp only[Function.comp];congr 1;omega
  rw[List.range_succ_eq_map,kr,List.map_map,MH];simp
theorem Uh{rs:List bj}(h:∀r∈rs,nW r)(hlen:rs.length<=100):∀(n i:Nat)(acc:bR),i+n=rs.length->acc.length<=300*i->
  xF rs (rs.length:Int) (i:Int) acc=some (acc++occs (rs.drop i))
 |0,i,acc,hi,_=>by
  rw[RI];simp only[j1F];rw[ak (by omega),j6,aW,jf (by omega)];simp[occs]
 |n+1,i,acc,hi,hl=>by
  have an:i<rs.length:=by omega
  have hr:=h rs[i] (jg an);have h0:=hr.y0;have h1:=hr.y1;have h2:=hr.y2;have hg:rs.getD i ((0:Int),((0:Int),((0:Int),((0:Int),((0:Int),((0:Int),(0:Int)))))))=rs[i]:=by simp[an]
  have MI:=Ug hr rs (rs.length:Int) (i:Int) (rs[i].2.1-rs[i].1+1).toNat 0 acc (by omega) (by omega);rw[show rs[i].1+((0:Nat):Int)=rs[i].1 by omega]at MI;have ih:=Uh h hlen n (i+1) (acc++iq rs[i]) (by omega) (by simp[iq];omega);rw[RI];simp only[j1F];rw[aj (show (i:Int)<(rs.length:Int) by omega),aU (by omega) (by omega)];simp only[j5,j7,hg,MI,j3];rw[ah (by omega) (by omega),aF,jc an];refine ih.trans ?_;rw[jd];rfl
theorem Ui{rs:List bj}(h:∀r∈rs,nW r)(hlen:rs.length<=100)(nm:ByteArray)(o:Int):∀(n i:Nat)(s:Int),i+n=rs.length->0<=s->s<=300*i->
  xE s rs (rs.length:Int) (i:Int) nm o rs=some (.inr (s+((occs (rs.drop i)).length:Int),nm,o,rs))
 |0,i,s,hi,_,_=>by
  rw[RG];simp only[j3L];rw[ak (by omega),j6,aW,jf (by omega)];simp[occs]
 |n+1,i,s,hi,lJ,lX=>by
  have an:i<rs.length:=by omega
  have hr:=h rs[i] (jg an);have h0:=hr.y0;have h1:=hr.y1;have h2:=hr.y2;have hg:rs.getD i ((0:Int),((0:Int),((0:Int),((0:Int),((0:Int),((0:Int),(0:Int)))))))=rs[i]:=by simp[an]
  have ih:=Ui h hlen nm o n (i+1) (s+(rs[i].2.1-rs[i].1+1)) (by omega) (by omega) (by omega);have DV:jgo (rs[i].1,(rs[i].2.1,(rs[i].2.2.1,(rs[i].2.2.2.1,(rs[i].2.2.2.2.1,(rs[i].2.2.2.2.2.1,rs[i].2.2.2.2.2.2))))))=some 0:=jyG hr;rw[RG];simp only[j3L];rw[aj (show (i:Int)<(rs.length:Int) by omega),aU (by omega) (by omega)];simp only[j5,j7,hg,DV,j3,jp,j6];rw[ah (x:=rs[i].2.1-rs[i].1) (by omega) (by omega),ah (x:=rs[i].2.1-rs[i].1+1) (by omega) (by omega),ah (x:=s+(rs[i].2.1-rs[i].1+1)) (by omega) (by omega),ah (x:=(i:Int)+1) (by omega) (by omega),aF];refine ih.trans ?_;rw[jc an]
  have:((occs (rs[i]::rs.drop (i+1))).length:Int)=(rs[i].2.1-rs[i].1+1)+((occs (rs.drop (i+1))).length:Int):=by
   have e1:(iq rs[i]).length=(rs[i].2.1-rs[i].1+1).toNat:=by simp[iq]
   show ((iq rs[i]++occs (rs.drop (i+1))).length:Int)=_;rw[ja,e1];omega
  rw[this];congr 3;omega
theorem jn6{nm:ByteArray}{o:Int}{rs:List bj}(h:∀r∈rs,nW r)(nh : -64800<=o)(lI:o<=64800)(hlen:rs.length<=16)(hn:(occs rs).length<20):j51 (nm,(o,rs))=some (fH (occs rs),0):=by
 have e0:=Ui h (by omega) nm o rs.length 0 0 (by omega) (by omega) (by omega);have e2:=Uh h (by omega) rs.length 0 [] (by omega) (by simp);rw[jw]at e0 e2;simp only[j51,iZ nh lI,j3,jr,j6,show Int.ofNat (List.length rs)=(rs.length:Int) from rfl];rw[ak (show¬(rs.length:Int)>16 by omega),j6,show xE 0 rs (rs.length:Int) 0 nm o rs=_ from e0];simp only[j3,qA];rw[ak (by omega),j6,show Int.ofNat (List.length rs)=(rs.length:Int) from rfl,show xF rs (rs.length:Int) 0 []=_ from e2];simp only[j3,jm,joQ (jyI h) hn]
def eb(now:Int):bR->bR
 |[]=>[]
 |x::r=>if x.2=now then eb now r else (x.1-now,x.2)::eb x.2 r
def Good(now:Int)(p:Option Int):bR->Prop
 |[]=>True
 |x::r=>if x.2=now then Good now p r else (-86400<x.2-now/\x.2-now<86400/\1000000<x.1-now/\x.1-now<=8589000000/\(∀q,p=some q->q+604800<=x.1-now) /\ -64800<=x.2/\x.2<=64800)/\Good x.2 (some (x.1-now)) r
theorem MJ(L:bR)(hL:L.length<=1000):∀(n i:Nat)(now:Int)(acc:bR),i+n=L.length -> -64800<=now->now<=64800->acc.length<=i->(∀x∈acc,0<=x.1/\x.1<=8589934592)->Good now (acc.getLast?.map (·.1)) (L.drop i)->
  xG now (L.length:Int) (i:Int) acc L=some (.inr (acc++eb now (L.drop i)))
 |0,i,now,acc,hi,_,_,_,_,_=>by
  rw[RJ];simp only[j3M];rw[ak (by omega),j6,aW,jf (by omega)];simp[eb]
 |n+1,i,now,acc,hi,sx,hn1,xa,fc,hg=>by
  have an:i<L.length:=by omega
  rw[jc an]at hg ⊢;have bf:L.getD i ((0:Int),(0:Int))=L[i]:=by simp[an]
  rw[RJ];simp only[j3M];rw[aj (show (i:Int)<(L.length:Int) by omega),aU (by omega) (by omega)];simp only[j5,j7,bf];generalize L[i]=x at *;rw[ah (x:=(i:Int)+1) (by omega) (by omega)];simp only[Good]at hg;by_cases hx:x.2=now
  .rw[if_pos hx]at hg;rw[dT hx];simp only[j5,aF,eb];rw[if_pos hx];exact MJ L hL n (i+1) now acc (by omega) sx hn1 (by omega) fc hg
  .rw[if_neg hx]at hg;obtain⟨⟨g1,g2,g3,g4,g5,g6,g7⟩,g8⟩:=hg;rw[cJ hx,ah (x:=x.1-now) (by omega) (by omega),ah (x:=x.2-now) (by omega) (by omega),ak (show¬x.2-now>=86400 by omega),ak (show¬x.2-now <= -86400 by omega)];simp only[j6,iZ (show (0:Int)<=x.1-now by omega) (show x.1-now<=8589934592 by omega),j3,jr,jy,Bool.true_and,show Int.ofNat (List.length acc)=(acc.length:Int) from rfl];rw[ah (x:=(acc.length:Int)-1) (by omega) (by omega)]
   have kI:=MJ L hL n (i+1) x.2 (acc++[(x.1-now,x.2)]) (by omega) g6 g7 (by simp;omega)
    (λy hy=>by
     rcases jn.1 hy with hy|hy
     .exact fc y hy
     .simp at hy;subst hy;exact⟨by show (0:Int)<=x.1-now;omega,by show x.1-now<=8589934592;omega⟩) (by simpa using g8)
   have dg:eb now (x::L.drop (i+1))=(x.1-now,x.2)::eb x.2 (L.drop (i+1)):=by simp[eb,hx]
   rw[dg];rw[jd]at kI;by_cases ha:acc=[]
   .subst ha;simp only[qc];rw[show inR (((0:Nat):Int)-1) 0=false from rfl,show decide (((0:Nat):Int)>0)=false from rfl];simp only[jy,j5,j6,Bool.or_true];rw[aj (by simp[aS])];simp only[j5,aF];exact kI
   .have bP:0<acc.length:=q8.2 ha;have cV:acc.getLast? = some (acc.getD (acc.length-1) (0,0)):=by rw[List.getLast?_eq_getElem?,List.getD_eq_getElem?_getD,ji (show acc.length-1<acc.length by omega)];rfl
    rw[cV]at g5;have g5:(acc.getD (acc.length-1) ((0:Int),(0:Int))).1+604800<=x.1-now:=g5 _ rfl;have hb:=fc (acc.getD (acc.length-1) (0,0)) (List.mem_of_getLast? cV);rw[aU (by omega) (by omega),aj (show (acc.length:Int)>0 by omega),show ((acc.length:Int)-1).toNat=acc.length-1 by omega];simp only[Bool.true_or,j5];rw[ah (by omega) (by omega),ak (show¬x.1-now<(acc.getD (acc.length-1) ((0:Int),(0:Int))).1+604800 by omega),aj (by simp[aS];omega)];simp only[j5,j6,aF];exact kI
def GP(p:Option Int):bR->Prop
 |[]=>True
 |x::r=>(1000000<x.1/\x.1<=8589000000/\(∀q,p=some q->q+604800<=x.1) /\ -64800<=x.2/\x.2<=64800)/\GP (some x.1) r
theorem MK:∀(L:bR)(now:Int)(p:Option Int),Good now p L->GP p (eb now L)
 |[],_,_,_=>trivial
 |x::r,now,p,h=>by
  simp only[Good]at h;by_cases hx:x.2=now
  .rw[if_pos hx]at h;simp only[eb];rw[if_pos hx];exact MK r now p h
  .rw[if_neg hx]at h;simp only[eb];rw[if_neg hx];obtain⟨⟨g1,g2,g3,g4,g5,g6,g7⟩,g8⟩:=h;exact⟨⟨g3,g4,g5,g6,g7⟩,MK r x.2 _ g8⟩
theorem GQ:∀(L:bR)(now:Int),(eb now L).length<=L.length
 |[],_=>jj _
 |x::r,now=>by
  simp only[eb];split
  .have:=GQ r now;simp;omega
  .have:=GQ r x.2;simp;omega
theorem Uj:∀(l:bR)(p:Option Int),GP p l->(∀i,i+1<l.length->gR l i+604800<=gR l (i+1))/\(∀i,i<l.length->1000000<gR l i/\gR l i<=8589000000)/\
  (∀o i, -64800<=o->o<=64800->i<=l.length -> -64800<=cG o l i/\cG o l i<=64800)
 |[],_,_=>⟨λi h=>by simp at h,λi h=>by simp at h,λo i h1 h2 h3=>by
  have:i=0:=by simpa using h3
  subst this;exact⟨h1,h2⟩⟩
 |x::r,p,h=>by
  obtain⟨⟨g3,g4,g5,g6,g7⟩,g8⟩:=h;obtain⟨h1,h2,h3⟩:=Uj r _ g8;refine⟨λi hi=>?_,λi hi=>?_,λo i nh lI hi=>?_⟩
  .cases i with
   |zero=>
    cases r with
    |nil=>simp at hi
    |cons y ys=>have:=g8.1.2.2.1 _ rfl;exact this
   |succ i=>exact h1 i (by simp at hi ⊢;omega)
  .cases i with
   |zero=>exact⟨g3,g4⟩
   |succ i=>exact h2 i (by simp at hi ⊢;omega)
  .cases i with
   |zero=>exact⟨nh,lI⟩
   |succ i=>
    cases i with
    |zero=>exact⟨g6,g7⟩
    |succ i=>exact h3 x.2 (i+1) g6 g7 (by simp at hi ⊢;omega)
theorem jyJ{o:Int}{l:bR}(h:GP none l)(hl:l.length<=1000)(h0 : -64800<=o)(h1:o<=64800):iY o l:=by
 obtain⟨a,b,c⟩:=Uj l none h;exact⟨hl,a,λi hi=>(b i hi).1,λi hi=>(b i hi).2,λi hi=>(c o i h0 h1 hi).1,λi hi=>(c o i h0 h1 hi).2⟩
def tI(z:ByteArray×(Int×List bj))(l:bR):Prop:=j38 z=some (l,0)/\iY z.2.1 l
theorem jyK{nm:ByteArray}{o:Int}{rs:List bj}(h:∀r∈rs,nW r)(nh : -64800<=o)(lI:o<=64800)(hlen:rs.length<=16)(hn:(occs rs).length<20)(hg:Good o none (fH (occs rs))):tI (nm,(o,rs)) (eb o (fH (occs rs))):=by
 have hl:(fH (occs rs)).length<=1000:=by simp[fH,Mu];omega
 refine⟨?_,jyJ (MK _ _ _ hg) (by have:=GQ (fH (occs rs)) o;omega) nh lI⟩;have:=MJ (fH (occs rs)) hl (fH (occs rs)).length 0 o [] (by omega) nh lI (by simp) (by simp) hg;simp only[j38,jn6 h nh lI hlen hn,j3,jp,j6,show Int.ofNat (List.length (fH (occs rs)))=((fH (occs rs)).length:Int) from rfl];rw[jw]at this;rw[show xG o ((fH (occs rs)).length:Int) 0 [] (fH (occs rs))=_ from this];rfl
theorem jB5{z:ByteArray×(Int×List bj)}{l:bR}(h:tI z l):jgp z=some ((z.2.1,l),0):=by
 simp only[jgp,show j38 (z.1,(z.2.1,z.2.2))=_ from h.1,j3]
theorem Uk{y m k w:Int}(fF:1<=m)(jS:m<=12)(dz:2<=k)(gl:k<=5):num y m 1+7<=nth y m k w/\nth y m k w<=num y m 1+34:=by
 have hd:=GL y m fF jS;unfold nth;dsimp only;split<;>omega
theorem ML{y m k w:Int}(fF:1<=m)(jS:m<=12)(dz:1<=k)(gl:k<=4):num y m 1<=nth y m k w/\nth y m k w<=num y m 1+27:=by
 have hd:=GL y m fF jS;unfold nth;dsimp only;split<;>omega
theorem Ul{a b:Int×Int}(h:a.1<b.1):fH [a,b]=[a,b]:=by
 simp[fH,qN,ng,show¬b.1<a.1 by omega]
theorem Um{a b c d:Int×Int}(h1:a.1<c.1)(h2:c.1<b.1)(h3:b.1<d.1):fH [a,b,c,d]=[a,c,b,d]:=by
 simp[fH,qN,ng,show¬b.1<a.1 by omega,h2,show¬c.1<a.1 by omega,show¬d.1<b.1 by omega]
theorem Un(r1 r2:bj)(h1:r1.1=2025)(h2:r1.2.1=2025)(h3:r2.1=2025)(h4:r2.2.1=2025):occs [r1,r2]=[cA r1 2025,cA r2 2025]:=by
 simp[occs,iq,h1,h2,h3,h4]
theorem Uo(r1 r2:bj)(h1:r1.1=2025)(h2:r1.2.1=2026)(h3:r2.1=2025)(h4:r2.2.1=2026):occs [r1,r2]=[cA r1 2025,cA r1 2026,cA r2 2025,cA r2 2026]:=by
 simp[occs,iq,h1,h2,h3,h4,List.range_succ]
theorem nX{now:Int}{p:Option Int}{x:Int×Int}{r:bR}(hx:x.2≠now)(h : -86400<x.2-now/\x.2-now<86400/\1000000<x.1-now/\x.1-now<=8589000000 /\ -64800<=x.2/\x.2<=64800)
  (hp:∀q,p=some q->q+604800<=x.1-now)(hr:Good x.2 (some (x.1-now)) r):Good now p (x::r):=by
 simp only[Good];rw[if_neg hx];exact⟨⟨h.1,h.2.1,h.2.2.1,h.2.2.2.1,hp,h.2.2.2.2.1,h.2.2.2.2.2⟩,hr⟩
theorem jvi{now:Int}{p:Option Int}{x:Int×Int}{r:bR}(hx:x.2=now)(hr:Good now p r):Good now p (x::r):=by
 simp only[Good];rw[if_pos hx];exact hr
theorem DW{P:Int->Prop}:∀q,(none:Option Int)=some q->P q:=λ_ h=>by simp at h
theorem vM{P:Int->Prop}{a:Int}(h:P a):∀q,some a=some q->P q:=λq hq=>by simp at hq;subst hq;exact h
theorem n251:num 2025 1 1=20089:=by decide
theorem n261:num 2026 1 1=20454:=by decide
theorem n252:num 2025 2 1=20120:=by decide
theorem n253:num 2025 3 1=20148:=by decide
theorem n262:num 2026 2 1=20485:=by decide
theorem n263:num 2026 3 1=20513:=by decide
structure MZ(o:Int)(rs:List bj):Prop where
 o0 : -43200<=o
 o1:o<=45000
 ok:∀r∈rs,nW r
 len:rs.length<=2
 few:(occs rs).length<=4
 good:Good o none (fH (occs rs))
theorem MZ.tab{o:Int}{rs:List bj}(h:MZ o rs)(nm:ByteArray):tI (nm,(o,rs)) (eb o (fH (occs rs))):=
 jyK h.ok (by have:=h.o0;omega) (by have:=h.o1;omega) (by have:=h.len;omega) (by have:=h.few;omega) h.good
theorem mz0{o:Int}(h0 : -43200<=o)(h1:o<=45000):MZ o []:=⟨h0,h1,by simp,by simp,by decide,trivial⟩
theorem Up{r1 r2:bj}(h1:nW r1)(h2:nW r2):∀r∈[r1,r2],nW r:=by
 intro r hr;simp at hr;rcases hr with rfl|rfl
 .exact h1
 .exact h2
theorem mz1{o last:Int}(h0 : -43200<=o)(h1:o<=45000)(hl:last=2025\/last=2026):MZ o [(2025,(last,(3,(5,(6,(7200,o+3600)))))),(2025,(last,(10,(5,(6,(10800,o))))))]:=by
 have a1:nth 2025 3 5 6=20177:=by decide
 have a2:nth 2025 10 5 6=20387:=by decide
 have a3:nth 2026 3 5 6=20541:=by decide
 have a4:nth 2026 10 5 6=20751:=by decide
 have bH:=Up (r1:=(2025,(last,(3,(5,(6,(7200,o+3600))))))) (r2:=(2025,(last,(10,(5,(6,(10800,o))))))) (by constructor<;>(dsimp only;omega)) (by constructor<;>(dsimp only;omega));rcases hl with rfl|rfl
 .have e:=Un (2025,(2025,(3,(5,(6,(7200,o+3600)))))) (2025,(2025,(10,(5,(6,(10800,o)))))) rfl rfl rfl rfl;refine⟨h0,h1,bH,by simp,by rw[e];simp,?_⟩;rw[e,Ul (by simp only[cA];omega)];refine nX (by simp only[cA];omega) (by simp only[cA];omega) DW (nX (by simp only[cA];omega) (by simp only[cA];omega) (vM (by simp only[cA];omega)) trivial)
 .have e:=Uo (2025,(2026,(3,(5,(6,(7200,o+3600)))))) (2025,(2026,(10,(5,(6,(10800,o)))))) rfl rfl rfl rfl;refine⟨h0,h1,bH,by simp,by rw[e];simp,?_⟩;rw[e,Um (by simp only[cA];omega) (by simp only[cA];omega) (by simp only[cA];omega)]
  refine nX (by simp only[cA];omega) (by simp only[cA];omega) DW (nX (by simp only[cA];omega) (by simp only[cA];omega) (vM (by simp only[cA];omega))
   (nX (by simp only[cA];omega) (by simp only[cA];omega) (vM (by simp only[cA];omega)) (nX (by simp only[cA];omega) (by simp only[cA];omega) (vM (by simp only[cA];omega)) trivial)))
theorem mz2{o last k1 w1 s1 c m2 k2 w2 s2:Int}(h0 : -43200<=o)(h1:o<=45000)(hl:last=2025\/last=2026)(hk:1<=k1)(bg:k1<=4)(hw:0<=w1)(Iw:w1<=6)(hs:0<=s1)(dp:s1<=82800)(hc:1800<=c)(ej:c<=14400)
  (hm:m2=2\/m2=3)(hj:2<=k2)(ez:k2<=5)(hx:0<=w2)(gJ:w2<=6)(ht:0<=s2)(rC:s2<=82800):MZ o [(2025,(last,(1,(k1,(w1,(s1,o+c)))))),(2025,(last,(m2,(k2,(w2,(s2,o))))))]:=by
 have bH:=Up (r1:=(2025,(last,(1,(k1,(w1,(s1,o+c))))))) (r2:=(2025,(last,(m2,(k2,(w2,(s2,o))))))) (by constructor<;>(dsimp only;omega)) (by constructor<;>(dsimp only;omega));have b1:=ML (y:=2025) (m:=1) (k:=k1) (w:=w1) (by omega) (by omega) hk bg;have b2:=ML (y:=2026) (m:=1) (k:=k1) (w:=w1) (by omega) (by omega) hk bg;have b3:=Uk (y:=2025) (m:=m2) (k:=k2) (w:=w2) (by omega) (by omega) hj ez;have b4:=Uk (y:=2026) (m:=m2) (k:=k2) (w:=w2) (by omega) (by omega) hj ez;have c1:20120<=num 2025 m2 1/\num 2025 m2 1<=20148:=by rcases hm with rfl|rfl<;>simp[n252,n253]
 have c2:20485<=num 2026 m2 1/\num 2026 m2 1<=20513:=by rcases hm with rfl|rfl<;>simp[n262,n263]
 rw[n251]at b1;rw[n261]at b2;rcases hl with rfl|rfl
 .have e:=Un (2025,(2025,(1,(k1,(w1,(s1,o+c)))))) (2025,(2025,(m2,(k2,(w2,(s2,o)))))) rfl rfl rfl rfl;refine⟨h0,h1,bH,by simp,by rw[e];simp,?_⟩;rw[e,Ul (by simp only[cA];omega)];refine nX (by simp only[cA];omega) (by simp only[cA];omega) DW (nX (by simp only[cA];omega) (by simp only[cA];omega) (vM (by simp only[cA];omega)) trivial)
 .have e:=Uo (2025,(2026,(1,(k1,(w1,(s1,o+c)))))) (2025,(2026,(m2,(k2,(w2,(s2,o)))))) rfl rfl rfl rfl;refine⟨h0,h1,bH,by simp,by rw[e];simp,?_⟩;rw[e,Um (by simp only[cA];omega) (by simp only[cA];omega) (by simp only[cA];omega)]
  refine nX (by simp only[cA];omega) (by simp only[cA];omega) DW (nX (by simp only[cA];omega) (by simp only[cA];omega) (vM (by simp only[cA];omega))
   (nX (by simp only[cA];omega) (by simp only[cA];omega) (vM (by simp only[cA];omega)) (nX (by simp only[cA];omega) (by simp only[cA];omega) (vM (by simp only[cA];omega)) trivial)))
theorem Uq{o w s x:Int}(h0 : -43200<=o)(h1:o<=45000)(hw:0<=w)(Iw:w<=6)(hs:0<=s)(dp:s<=84600)(rA : -64800<=x)(nK:x<=64800)(mL : -86400<x-o)(gu:x-o<86400):MZ o [(2026,(2026,(1,(2,(w,(s,x))))))]:=by
 have b:=ML (y:=2026) (m:=1) (k:=2) (w:=w) (by omega) (by omega) (by omega) (by omega);rw[n261]at b;have e:occs [((2026:Int),((2026:Int),((1:Int),((2:Int),(w,(s,x))))))]=[cA (2026,(2026,(1,(2,(w,(s,x)))))) 2026]:=by simp[occs,iq]
 refine⟨h0,h1,λr hr=>?_,by simp,by rw[e];simp,?_⟩
 .simp at hr;subst hr;constructor<;>(dsimp only;omega)
 .rw[e];have hi:fH [cA (2026,(2026,(1,(2,(w,(s,x)))))) 2026]=[cA (2026,(2026,(1,(2,(w,(s,x)))))) 2026]:=by simp[fH,qN,ng]
  rw[hi];by_cases Ur:x=o
  .exact jvi Ur trivial
  .exact nX Ur (by simp only[cA];omega) DW trivial
theorem jyL{L:List Int}{a:Int}(h:dm L a)(nm:ByteArray):∃o rs a',j5z L a nm=some ((nm,(o,rs)),L,a')/\MZ o rs/\dm L a':=by
 obtain⟨p,a1,e1,m1,d1⟩:=mD h (xs:=[(0:Int),(4:Int),(-20:Int),(22:Int),(48:Int),(-47:Int)]) (by simp) (by simp);obtain⟨x2,a2,e2,x20,x21,d2⟩:=cH (n:=2) d1 (by omega) (by omega);obtain⟨x3,a3,e3,x30,x31,d3⟩:=cH (n:=3) d2 (by omega) (by omega);obtain⟨y,a4,e4,y0,y1,d4⟩:=cH (n:=2) d3 (by omega) (by omega);obtain⟨q,a5,e5,q0,q1,d5⟩:=cH (n:=4) d4 (by omega) (by omega);have hp : -47<=p/\p<=48:=by simp at m1;omega
 have hmul:0<=x2*x3/\x2*x3<=2:=by
  obtain rfl|rfl:x2=0\/x2=1:=by omega
  all_goals omega
 have nh : -43200<=900*(p+x2*x3):=by omega
 have lI:900*(p+x2*x3)<=45000:=by omega
 have cV:2025+y=2025\/2025+y=2026:=by omega
 simp only[j5z,e1,e2,e3,e4,e5,j3];rw[ah (x:=x2*x3) (by omega) (by omega),ah (x:=p+x2*x3) (by omega) (by omega),ah (x:=900*(p+x2*x3)) (by omega) (by omega),ah (x:=2025+y) (by omega) (by omega)];generalize 900*(p+x2*x3)=o at *;generalize 2025+y=last at *;by_cases yw:q=1
 .rw[dT yw,j5,ah (x:=o+3600) (by omega) (by omega)];exact⟨_,_,_,rfl,mz1 nh lI cV,d5⟩
 .rw[cJ yw,j6];by_cases DX:q=2
  .rw[dT DX,j5];obtain⟨b1,c1,f1,b10,b11,g1⟩:=cH (n:=4) d5 (by omega) (by omega);obtain⟨b2,c2,f2,AY,MM,g2⟩:=cH (n:=7) g1 (by omega) (by omega);obtain⟨b3,c3,f3,MN,MO,g3⟩:=cH (n:=24) g2 (by omega) (by omega);obtain⟨b4,c4,f4,b40,b41,g4⟩:=cH (n:=8) g3 (by omega) (by omega);obtain⟨b5,c5,f5,b50,b51,g5⟩:=cH (n:=2) g4 (by omega) (by omega);obtain⟨b6,c6,f6,m6,g6⟩:=mD g5 (xs:=[(2:Int),(3:Int),(5:Int)]) (by simp) (by simp);obtain⟨b7,c7,f7,Us,b71,g7⟩:=cH (n:=7) g6 (by omega) (by omega);obtain⟨b8,c8,f8,b80,b81,g8⟩:=cH (n:=24) g7 (by omega) (by omega);have h6:2<=b6/\b6<=5:=by simp at m6;omega
   simp only[f1,f2,f3,f4,f5,f6,f7,f8,j3]
   rw[ah (x:=1+b1) (by omega) (by omega),ah (x:=3600*b3) (by omega) (by omega),ah (x:=1+b4) (by omega) (by omega),ah (x:=1800*(1+b4)) (by omega) (by omega),ah (x:=o+1800*(1+b4)) (by omega) (by omega),
    ah (x:=2+b5) (by omega) (by omega),ah (x:=3600*b8) (by omega) (by omega)]
   exact⟨_,_,_,rfl,mz2 nh lI cV (by omega) (by omega) AY (by omega) (by omega) (by omega) (by omega) (by omega) (by omega) h6.1 h6.2 Us (by omega) (by omega) (by omega),g8⟩
  .rw[cJ DX,j6];by_cases DY:q=3
   .rw[dT DY,j5];obtain⟨b1,c1,f1,m1,g1⟩:=mD d5 (xs:=[(3600:Int),(-3600:Int),(82800:Int),(-82800:Int),(43200:Int)]) (by simp) (by simp);obtain⟨b2,c2,f2,AY,MM,g2⟩:=cH (n:=7) g1 (by omega) (by omega);obtain⟨b3,c3,f3,MN,MO,g3⟩:=cH (n:=48) g2 (by omega) (by omega);have da : -82800<=b1/\b1<=82800:=by simp at m1;omega
    simp only[f1,f2,f3,j3];rw[ah (x:=o+b1) (by omega) (by omega),ah (x:=1800*b3) (by omega) (by omega)];by_cases kM:o+b1>64800\/o+b1 < -64800
    .have hb:cond (decide (o+b1>64800)) true (decide (o+b1 < -64800))=true:=by
      rcases kM with kM|kM
      .rw[aj kM];rfl
      .rw[aj kM];cases decide (o+b1>64800)<;>rfl
     rw[hb,j5];exact⟨_,_,_,rfl,Uq nh lI AY (by omega) (by omega) (by omega) (by omega) (by omega) (by omega) (by omega),g3⟩
    .rw[ak (show¬o+b1>64800 by omega),ak (show¬o+b1 < -64800 by omega)];simp only[j6];exact⟨_,_,_,rfl,Uq nh lI AY (by omega) (by omega) (by omega) (by omega) (by omega) (by omega) (by omega),g3⟩
   .rw[cJ DY,j6];exact⟨_,_,_,rfl,mz0 nh lI,d5⟩
section
variable{o:Int}{l:bR}(h:iY o l)
include h
theorem GR{i j:Nat}{t:Int}(hi:i<=l.length)(hj:j<=l.length)(a1:bn l i<=t)(a2:t<bn l (i+1))(b1:bn l j<=t)(b2:t<bn l (j+1)):i=j:=by
 rcases Nat.lt_trichotomy i j with dG|dG|dG
 .have:=h.frm_le (i:=i+1) (j:=j) (by omega) (by omega);omega
 .exact dG
 .have:=h.frm_le (i:=j+1) (j:=i) (by omega) (by omega);omega
end
abbrev WL:=List (Int×Int)
def iJ(p:Int):WL->Prop
 |[]=>p<=604800
 |x::r=>p<=x.1/\x.1<x.2/\x.2<=604800/\iJ x.2 r
def hasB(s:Int):WL->Bool
 |[]=>false
 |x::r=>cond (cond (decide (x.1<=s)) (decide (s<x.2)) false) true (hasB s r)
theorem iJ.weak{p q:Int}(hq:q<=p):∀{w:WL},iJ p w->iJ q w
 |[],h=>by show q<=604800;have:p<=604800:=h;omega
 |_::_,h=>⟨by have:=h.1;omega,h.2⟩
theorem DZ:∀{w:WL}{p:Int},iJ p w->∀i,i<w.length->p<=(w.getD i (0,0)).1/\(w.getD i (0,0)).1<(w.getD i (0,0)).2/\(w.getD i (0,0)).2<=604800
 |[],_,_,i,hi=>by simp at hi
 |x::r,p,h,i,hi=>by
  obtain⟨h1,h2,h3,h4⟩:=h;cases i with
  |zero=>exact⟨h1,h2,h3⟩
  |succ i=>exact DZ (h4.weak (show p<=x.2 by omega)) i (by simpa using hi)
theorem Ut:∀{w:WL}{p:Int},iJ p w->∀i,i+1<w.length->(w.getD i (0,0)).2<=(w.getD (i+1) (0,0)).1
 |[],_,_,i,hi=>by simp at hi
 |x::[],_,_,i,hi=>by simp at hi
 |x::y::r,p,h,i,hi=>by
  cases i with
  |zero=>exact h.2.2.2.1
  |succ i=>exact Ut h.2.2.2 i (by simpa using hi)
theorem Uu{L:List Int}:∀(n:Nat)(p a:Int)(acc:WL),dm L a->0<=p->p<=604800->acc.length+n<=100->
  ∃w a',F4 p (n:Int) L a acc=some (L,a',acc++w)/\iJ p w/\w.length<=n/\dm L a'
 |0,p,a,acc,hd,_,hp,_=>by
  rw[SX];simp only[j3r];rw[ak (by omega),j6,aW];exact⟨[],a,by simp,hp,by simp,hd⟩
 |n+1,p,a,acc,hd,sO,hp,ha=>by
  obtain⟨x,a1,e1,x0,x1,d1⟩:=cH (n:=30) hd (by omega) (by omega);obtain⟨y,a2,e2,y0,y1,d2⟩:=cH (n:=2) d1 (by omega) (by omega);obtain⟨q,a3,e3,m3,d3⟩:=mD d2 (xs:=[(3600:Int),(28800:Int),(43200:Int),(86400:Int),(61:Int),(1:Int)]) (by simp) (by simp);have hq:1<=q/\q<=86400:=by simp at m3;omega
  rw[SX];simp only[j3r];rw[aj (by omega)];simp only[j5,e1,e2,e3,j3];rw[ah (x:=3600*x) (by omega) (by omega),ah (x:=p+3600*x) (by omega) (by omega),ah (x:=60*y) (by omega) (by omega),ah (x:=p+3600*x+60*y) (by omega) (by omega),ah (x:=p+3600*x+60*y+q) (by omega) (by omega),ah (x:=((n+1:Nat):Int)-1) (by omega) (by omega)];by_cases kM:p+3600*x+60*y+q>604800
  .rw[aj kM,j5,aW];exact⟨[],a3,by simp,hp,by simp,d3⟩
  .rw[ak kM,aj (by simp[aS];omega)];simp only[j6,j5,aF];obtain⟨w,a4,e4,hw,kB,d4⟩:=Uu n (p+3600*x+60*y+q) a3 (acc++[(p+3600*x+60*y,p+3600*x+60*y+q)]) d3 (by omega) (by omega) (by simp;omega);rw[show ((n+1:Nat):Int)-1=(n:Int) by omega];refine⟨(p+3600*x+60*y,p+3600*x+60*y+q)::w,a4,by rw[e4,jd];rfl,⟨by dsimp only;omega,by dsimp only;omega,by dsimp only;omega,hw⟩,by simp;omega,d4⟩
theorem MP{L:List Int}{a:Int}(h:dm L a):∃w a',j5F L a=some (w,L,a')/\iJ 0 w/\w.length<=3/\dm L a':=by
 obtain⟨x,a1,e1,x0,x1,d1⟩:=cH (n:=4) h (by omega) (by omega);obtain⟨w,a',e2,h1,h2,h3⟩:=Uu x.toNat 0 a1 [] d1 (by omega) (by omega) (by simp;omega);rw[show ((x.toNat:Nat):Int)=x by omega,jm]at e2;simp only[j5F,e1,j3,e2];exact⟨w,a',rfl,h1,by omega,h3⟩
theorem Uv{L:List Int}{a:Int}(h:dm L a):∃t a',j6V L a=some (t,L,a')/\1767139199<=t/\t<=1767139200+3600*575+3599/\dm L a':=by
 obtain⟨x,a1,e1,x0,x1,d1⟩:=cH (n:=576) h (by omega) (by omega);obtain⟨y,a2,e2,y0,y1,d2⟩:=cH (n:=3) d1 (by omega) (by omega);obtain⟨q,a3,e3,m3,d3⟩:=mD d2 (xs:=[(-1:Int),(1:Int),(1800:Int),(3599:Int)]) (by simp) (by simp);have hq : -1<=q/\q<=3599:=by simp at m3;omega
 simp only[j6V,e1,j3,j1R,e2,e3];rw[ah (x:=3600*x) (by omega) (by omega),ah (x:=1767139200+3600*x) (by omega) (by omega),ah (x:=1767139200+3600*x+q) (by omega) (by omega)];cases (y==w64 (3-1)) with
 |true=>exact⟨_,_,rfl,by omega,by omega,d3⟩
 |false=>exact⟨_,_,rfl,by omega,by omega,d2⟩
theorem Uw{w:WL}(h:iJ 0 w)(hl:w.length<=14):∀(n i:Nat),i+n=w.length->Aq w w (w.length:Int) (i:Int)=some (.inr ())
 |0,i,hi=>by
  rw[RN];simp only[j68];rw[ak (by omega),j6,aW]
 |n+1,i,hi=>by
  have ih:=Uw h hl n (i+1) (by omega);have hg:=DZ h i (by omega);rw[RN];simp only[j68];rw[aj (show (i:Int)<(w.length:Int) by omega),aU (by omega) (by omega)];simp only[j5,j7];rw[ak (show¬(w.getD i ((0:Int),(0:Int))).1<0 by omega),ak (show¬(w.getD i ((0:Int),(0:Int))).1>=(w.getD i ((0:Int),(0:Int))).2 by omega),ak (show¬(w.getD i ((0:Int),(0:Int))).2>604800 by omega)];rw[ah (x:=(i:Int)+1) (by omega) (by omega)];simp only[j6];by_cases h0:i=0
  .rw[ak (by omega)];simp only[j6,aF];exact ih
  .obtain⟨j,rfl⟩:∃j,i=j+1:=⟨i-1,by omega⟩;have hgap:=Ut h j (by omega);rw[aj (by omega),ah (x:=((j+1:Nat):Int)-1) (by omega) (by omega),aU (by omega) (by omega),show (((j+1:Nat):Int)-1).toNat=j by omega,ak (by omega)];simp only[j5,j6,aF];exact ih
theorem Ux{w:WL}(h:iJ 0 w)(hl:w.length<=14):j9N w=some 0:=by
 have:=Uw h hl w.length 0 (by omega);rw[show ((0:Nat):Int)=0 from rfl]at this;simp only[j9N,show Int.ofNat (List.length w)=(w.length:Int) from rfl];rw[ak (by omega),j6,this];rfl
abbrev cg:=ByteArray×(Int×List bj)
abbrev dP:=ByteArray×(Int×(WL×(Int×(Int×Bool))))
abbrev bk:=ByteArray×(Int×List Int)
abbrev cb:=ByteArray×(Int×((Int×Int)×(Int×(Int×(List Int×(WL×(Int×Int)))))))
abbrev cM:=ByteArray×(List cb×List (Int×(Int×(Int×(Int×Int)))))
def ni(z:cg):Prop:=MZ z.2.1 z.2.2
theorem AZ{L:List Int}{a n:Int}(h:dm L a)(hn:1<=n)(GM:n<=1000000):∃b a',j1R L a n=some (b,L,a')/\dm L a':=by
 obtain⟨x,a1,e1,x0,x1,d1⟩:=cH (n:=n) h (by omega) (by omega);simp only[j1R,e1,j3];exact⟨_,_,rfl,d1⟩
structure D0(zs:List cg)(ps:List dP)(cs:List bk):Prop where
 z0:1<=zs.length
 z1:zs.length<=2
 ok:∀z∈zs,ni z
 p0:1<=ps.length
 p1:ps.length<=4
 c1:cs.length<=1
structure MQ(l:cb):Prop where
 d0:20452<=l.2.2.1.1
 d1:l.2.2.1.1<=20457
 c0:0<=l.2.2.1.2
 c1:l.2.2.1.2<=79200
 u0:0<=l.2.2.2.1
 u1:l.2.2.2.1<=2
 e0:1<=l.2.2.2.2.1
 e1:l.2.2.2.2.1<=49
 e2:l.2.2.2.1≠0->l.2.2.2.2.1<=2
 m0:1<=l.2.2.2.2.2.1.length
 m1:l.2.2.2.2.2.1.length<=3
end Go.Proofs.Pw
