/- sane of Ik 12. -/
import Derived.Test.YtbpjdcbbmibehaaGreatLJPA
import Derived.KernelRfl
open Go Go.Lft
namespace Go.Proofs.Pw
theorem We:j8M=some true:=jmO 60 true (by kernel_rfl)
abbrev aT:=Int×(Int×(Int×(Int×(Int×(Int×Int)))))
theorem lb{n lo hi:Int}(h1:lo<=n)(h2:n<=hi):j9C n lo hi=some true:=by
 simp only[j9C];rw[ag (show n>=lo from h1),ag h2];rfl
structure lg(r:aT):Prop where
 y0:1970<=r.1
 y1:r.1<=r.2.1
 y2:r.2.1<=2240
 m0:1<=r.2.2.1
 m1:r.2.2.1<=12
 k0:1<=r.2.2.2.1
 k1:r.2.2.2.1<=5
 d0:0<=r.2.2.2.2.1
 d1:r.2.2.2.2.1<=6
 s0:0<=r.2.2.2.2.2.1
 s1:r.2.2.2.2.2.1<=86399
 o0 : -64800<=r.2.2.2.2.2.2
 o1:r.2.2.2.2.2.2<=64800
theorem jxk{r:aT}(h:lg r):je1 r=some 0:=by
 simp only[je1,lb h.y0 (show r.1<=2240 by have:=h.y1;have:=h.y2;omega),lb h.y1 h.y2,lb h.m0 h.m1,lb h.k0 h.k1,lb h.d0 h.d1,lb h.s0 h.s1,lb h.o0 h.o1,j3,jw,j6]
theorem O5{y m k w:Int}(_h1:1970<=y)(_h2:y<=2240)(gp:1<=m)(gI:m<=12)(dT:1<=k)(gn:k<=5):num y m 1<=nth y m k w/\nth y m k w<num y m 1+fD y m\/nth y m k w<num y m 1+35/\num y m 1<=nth y m k w:=by
 right;have hd:=EW y m gp gI;unfold nth;dsimp only;split<;>omega
def cE(r:aT)(y:Int):Int×Int:=(nth y r.2.2.1 r.2.2.2.1 r.2.2.2.2.1*86400+r.2.2.2.2.2.1,r.2.2.2.2.2.2)
def fQ(r:aT):bA:=(List.range (r.2.1-r.1+1).toNat).map λ(i:Nat)=>cE r (r.1+(i:Int))
def occs(l:List aT):bA:=l.flatMap fQ
theorem jtQ{r:aT}(h:lg r){y:Int}(h1:1970<=y)(h2:y<=2240):0<=(cE r y).1/\(cE r y).1<=10000000000:=by
 have hv:=EX (EY y r.2.2.1 h1 h2 h.m0 h.m1);have jG:=h.s0;have na:=h.s1;have:=O5 (w:=r.2.2.2.2.1) h1 h2 h.m0 h.m1 h.k0 h.k1;have hd:=r5 y r.2.2.1;unfold cE;dsimp only;omega
theorem jxl{r:aT}(h:lg r):Sm (fQ r):=by
 intro x hx;obtain⟨i,hi,rfl⟩:=jn.1 hx;have hi:=yl.1 hi;have h0:=h.y0;have h2:=h.y2;have:=jtQ h (y:=r.1+(i:Int)) (by omega) (by omega);omega
theorem jxm{l:List aT}(h:∀r∈l,lg r):Sm (occs l):=by
 intro x hx;obtain⟨r,hr,hx⟩:=vc.1 hx;exact jxl (h r hr) x hx
theorem Wh{r:aT}(h:lg r)(rs:List aT)(a b:Int):∀(n:Nat)(i:Nat)(acc:bA),r.1+(i:Int)+n=r.2.1+1->acc.length+n<=100000->
  Hv (r.1+(i:Int)) rs a b r.1 r.2.1 r.2.2.1 r.2.2.2.1 r.2.2.2.2.1 r.2.2.2.2.2.1 r.2.2.2.2.2.2 acc=some (rs,a,b,acc++(List.range n).map λ(j:Nat)=>cE r (r.1+(i:Int)+(j:Int)))
 |0,i,acc,hi,_=>by
  rw[Ux];simp only[j2a];rw[ao (by omega),j6,aY];simp
 |n+1,i,acc,hi,hl=>by
  have h0:=h.y0;have h2:=h.y2;have jG:=h.s0;have na:=h.s1;have hv:=EX (EY (r.1+(i:Int)) r.2.2.1 (by omega) (by omega) h.m0 h.m1);have hn:=O5 (w:=r.2.2.2.2.1) (y:=r.1+(i:Int)) (by omega) (by omega) h.m0 h.m1 h.k0 h.k1;have hd:=r5 (r.1+(i:Int)) r.2.2.1;rw[Ux];simp only[j2a];rw[ag (show r.1+(i:Int)<=r.2.1 by omega),jyx _ _ _ _ (by omega) (by omega) h.m0 h.m1 h.k0 h.k1 h.d0 h.d1];simp only[j5,j3]
  rw[aj (x:=nth (r.1+(i:Int)) r.2.2.1 r.2.2.2.1 r.2.2.2.2.1*86400) (by omega) (by omega),aj (x:=nth (r.1+(i:Int)) r.2.2.1 r.2.2.2.1 r.2.2.2.2.1*86400+r.2.2.2.2.2.1) (by omega) (by omega),
   aj (x:=r.1+(i:Int)+1) (by omega) (by omega)]
  rw[ag (by simp[aQ];omega)];simp only[j5,aP];have ih:=Wh h rs a b n (i+1) (acc++[cE r (r.1+(i:Int))]) (by omega) (by simp;omega);rw[show r.1+(i:Int)+1=r.1+((i+1:Nat):Int) by omega];refine ih.trans ?_
  have yS:(List.range n).map (λ(j:Nat)=>cE r (r.1+((i+1:Nat):Int)+(j:Int)))=(List.range n).map ((λ(j:Nat)=>cE r (r.1+(i:Int)+(j:Int))) ∘ Nat.succ):=y9 λj _=>by
   simp only[Function.comp];congr 1;omega
  rw[List.range_succ_eq_map,jz,List.map_map,yS];simp
theorem Wi{rs:List aT}(h:∀r∈rs,lg r)(hlen:rs.length<=100):∀(n i:Nat)(acc:bA),i+n=rs.length->acc.length<=300*i->
  DU rs (rs.length:Int) (i:Int) acc=some (acc++occs (rs.drop i))
 |0,i,acc,hi,_=>by
  rw[Uy];simp only[j2b];rw[ao (by omega),j6,aY,jd (by omega)];simp[occs]
 |n+1,i,acc,hi,hl=>by
  have ak:i<rs.length:=by omega
  have hr:=h rs[i] (ji ak);have h0:=hr.y0;have h1:=hr.y1;have h2:=hr.y2;have hg:rs.getD i ((0:Int),((0:Int),((0:Int),((0:Int),((0:Int),((0:Int),(0:Int)))))))=rs[i]:=by simp[ak]
  have Bo:=Wh hr rs (rs.length:Int) (i:Int) (rs[i].2.1-rs[i].1+1).toNat 0 acc (by omega) (by omega);rw[show rs[i].1+((0:Nat):Int)=rs[i].1 by omega]at Bo;have ih:=Wi h hlen n (i+1) (acc++fQ rs[i]) (by omega) (by simp[fQ];omega);rw[Uy];simp only[j2b];rw[ag (show (i:Int)<(rs.length:Int) by omega),ba (by omega) (by omega)];simp only[j5,j7,hg,Bo,j3];rw[aj (by omega) (by omega),aP,jb ak];refine ih.trans ?_;rw[jg];rfl
theorem Wj{rs:List aT}(h:∀r∈rs,lg r)(hlen:rs.length<=100)(nm:ByteArray)(o:Int):∀(n i:Nat)(s:Int),i+n=rs.length->0<=s->s<=300*i->
  DT s rs (rs.length:Int) (i:Int) nm o rs=some (.inr (s+((occs (rs.drop i)).length:Int),nm,o,rs))
 |0,i,s,hi,_,_=>by
  rw[Uw];simp only[j29];rw[ao (by omega),j6,aY,jd (by omega)];simp[occs]
 |n+1,i,s,hi,jG,na=>by
  have ak:i<rs.length:=by omega
  have hr:=h rs[i] (ji ak);have h0:=hr.y0;have h1:=hr.y1;have h2:=hr.y2;have hg:rs.getD i ((0:Int),((0:Int),((0:Int),((0:Int),((0:Int),((0:Int),(0:Int)))))))=rs[i]:=by simp[ak]
  have ih:=Wj h hlen nm o n (i+1) (s+(rs[i].2.1-rs[i].1+1)) (by omega) (by omega) (by omega);have r6:je1 (rs[i].1,(rs[i].2.1,(rs[i].2.2.1,(rs[i].2.2.2.1,(rs[i].2.2.2.2.1,(rs[i].2.2.2.2.2.1,rs[i].2.2.2.2.2.2))))))=some 0:=jxk hr;rw[Uw];simp only[j29];rw[ag (show (i:Int)<(rs.length:Int) by omega),ba (by omega) (by omega)];simp only[j5,j7,hg,r6,j3,ju,j6];rw[aj (x:=rs[i].2.1-rs[i].1) (by omega) (by omega),aj (x:=rs[i].2.1-rs[i].1+1) (by omega) (by omega),aj (x:=s+(rs[i].2.1-rs[i].1+1)) (by omega) (by omega),aj (x:=(i:Int)+1) (by omega) (by omega),aP];refine ih.trans ?_;rw[jb ak]
  have:((occs (rs[i]::rs.drop (i+1))).length:Int)=(rs[i].2.1-rs[i].1+1)+((occs (rs.drop (i+1))).length:Int):=by
   have e1:(fQ rs[i]).length=(rs[i].2.1-rs[i].1+1).toNat:=by simp[fQ]
   show ((fQ rs[i]++occs (rs.drop (i+1))).length:Int)=_;rw[jf,e1];omega
  rw[this];congr 3;omega
theorem jky{nm:ByteArray}{o:Int}{rs:List aT}(h:∀r∈rs,lg r)(mj : -64800<=o)(iW:o<=64800)(hlen:rs.length<=16)(hn:(occs rs).length<20):j7n (nm,(o,rs))=some (eH (occs rs),0):=by
 have e0:=Wj h (by omega) nm o rs.length 0 0 (by omega) (by omega) (by omega);have e2:=Wi h (by omega) rs.length 0 [] (by omega) (by simp);rw[k5]at e0 e2;simp only[j7n,lb mj iW,j3,jw,j6,show Int.ofNat (List.length rs)=(rs.length:Int) from rfl];rw[ao (show¬(rs.length:Int)>16 by omega),j6,show DT 0 rs (rs.length:Int) 0 nm o rs=_ from e0];simp only[j3,rN];rw[ao (by omega),j6,show Int.ofNat (List.length rs)=(rs.length:Int) from rfl,show DU rs (rs.length:Int) 0 []=_ from e2];simp only[j3,js,jmH (jxm h) hn]
def dt(now:Int):bA->bA
 |[]=>[]
 |x::r=>if x.2=now then dt now r else (x.1-now,x.2)::dt x.2 r
def Good(now:Int)(p:Option Int):bA->Prop
 |[]=>True
 |x::r=>if x.2=now then Good now p r else (-86400<x.2-now/\x.2-now<86400/\1000000<x.1-now/\x.1-now<=8589000000/\(∀q,p=some q->q+604800<=x.1-now) /\ -64800<=x.2/\x.2<=64800)/\Good x.2 (some (x.1-now)) r
theorem O6(L:bA)(hL:L.length<=1000):∀(n i:Nat)(now:Int)(acc:bA),i+n=L.length -> -64800<=now->now<=64800->acc.length<=i->(∀x∈acc,0<=x.1/\x.1<=8589934592)->Good now (acc.getLast?.map (·.1)) (L.drop i)->
  DV now (L.length:Int) (i:Int) acc L=some (.inr (acc++dt now (L.drop i)))
 |0,i,now,acc,hi,_,_,_,_,_=>by
  rw[Uz];simp only[j2c];rw[ao (by omega),j6,aY,jd (by omega)];simp[dt]
 |n+1,i,now,acc,hi,oQ,mF,mH,eI,hg=>by
  have ak:i<L.length:=by omega
  rw[jb ak]at hg ⊢;have bk:L.getD i ((0:Int),(0:Int))=L[i]:=by simp[ak]
  rw[Uz];simp only[j2c];rw[ag (show (i:Int)<(L.length:Int) by omega),ba (by omega) (by omega)];simp only[j5,j7,bk];generalize L[i]=x at *;rw[aj (x:=(i:Int)+1) (by omega) (by omega)];simp only[Good]at hg;by_cases hx:x.2=now
  .rw[if_pos hx]at hg;rw[ff hx];simp only[j5,aP,dt];rw[if_pos hx];exact O6 L hL n (i+1) now acc (by omega) oQ mF (by omega) eI hg
  .rw[if_neg hx]at hg;obtain⟨⟨g1,g2,g3,g4,g5,g6,g7⟩,g8⟩:=hg;rw[cP hx,aj (x:=x.1-now) (by omega) (by omega),aj (x:=x.2-now) (by omega) (by omega),ao (show¬x.2-now>=86400 by omega),ao (show¬x.2-now <= -86400 by omega)];simp only[j6,lb (show (0:Int)<=x.1-now by omega) (show x.1-now<=8589934592 by omega),j3,jw,kf,Bool.true_and,show Int.ofNat (List.length acc)=(acc.length:Int) from rfl];rw[aj (x:=(acc.length:Int)-1) (by omega) (by omega)]
   have gD:=O6 L hL n (i+1) x.2 (acc++[(x.1-now,x.2)]) (by omega) g6 g7 (by simp;omega)
    (λy hy=>by
     rcases jm.1 hy with hy|hy
     .exact eI y hy
     .simp at hy;subst hy;exact⟨by show (0:Int)<=x.1-now;omega,by show x.1-now<=8589934592;omega⟩) (by simpa using g8)
   have bY:dt now (x::L.drop (i+1))=(x.1-now,x.2)::dt x.2 (L.drop (i+1)):=by simp[dt,hx]
   rw[bY];rw[jg]at gD;by_cases ha:acc=[]
   .subst ha;simp only[qq];rw[show inR (((0:Nat):Int)-1) 0=false from rfl,show decide (((0:Nat):Int)>0)=false from rfl];simp only[kf,j5,j6,Bool.or_true];rw[ag (by simp[aQ])];simp only[j5,aP];exact gD
   .have bB:0<acc.length:=List.length_pos_iff.2 ha;have dC:acc.getLast? = some (acc.getD (acc.length-1) (0,0)):=by rw[List.getLast?_eq_getElem?,List.getD_eq_getElem?_getD,jk (show acc.length-1<acc.length by omega)];rfl
    rw[dC]at g5;have g5:(acc.getD (acc.length-1) ((0:Int),(0:Int))).1+604800<=x.1-now:=g5 _ rfl;have hb:=eI (acc.getD (acc.length-1) (0,0)) (List.mem_of_getLast? dC);rw[ba (by omega) (by omega),ag (show (acc.length:Int)>0 by omega),show ((acc.length:Int)-1).toNat=acc.length-1 by omega];simp only[Bool.true_or,j5];rw[aj (by omega) (by omega),ao (show¬x.1-now<(acc.getD (acc.length-1) ((0:Int),(0:Int))).1+604800 by omega),ag (by simp[aQ];omega)];simp only[j5,j6,aP];exact gD
def Il(p:Option Int):bA->Prop
 |[]=>True
 |x::r=>(1000000<x.1/\x.1<=8589000000/\(∀q,p=some q->q+604800<=x.1) /\ -64800<=x.2/\x.2<=64800)/\Il (some x.1) r
theorem O7:∀(L:bA)(now:Int)(p:Option Int),Good now p L->Il p (dt now L)
 |[],_,_,_=>trivial
 |x::r,now,p,h=>by
  simp only[Good]at h;by_cases hx:x.2=now
  .rw[if_pos hx]at h;simp only[dt];rw[if_pos hx];exact O7 r now p h
  .rw[if_neg hx]at h;simp only[dt];rw[if_neg hx];obtain⟨⟨g1,g2,g3,g4,g5,g6,g7⟩,g8⟩:=h;exact⟨⟨g3,g4,g5,g6,g7⟩,O7 r x.2 _ g8⟩
theorem Im:∀(L:bA)(now:Int),(dt now L).length<=L.length
 |[],_=>jo _
 |x::r,now=>by
  simp only[dt];split
  .have:=Im r now;simp;omega
  .have:=Im r x.2;simp;omega
theorem Wk:∀(l:bA)(p:Option Int),Il p l->(∀i,i+1<l.length->iK l i+604800<=iK l (i+1))/\(∀i,i<l.length->1000000<iK l i/\iK l i<=8589000000)/\
  (∀o i, -64800<=o->o<=64800->i<=l.length -> -64800<=cu o l i/\cu o l i<=64800)
 |[],_,_=>⟨λi h=>by simp at h,λi h=>by simp at h,λo i h1 h2 h3=>by
  have:i=0:=by simpa using h3
  subst this;exact⟨h1,h2⟩⟩
 |x::r,p,h=>by
  obtain⟨⟨g3,g4,g5,g6,g7⟩,g8⟩:=h;obtain⟨h1,h2,h3⟩:=Wk r _ g8;refine⟨λi hi=>?_,λi hi=>?_,λo i mj iW hi=>?_⟩
  .cases i with
   |zero=>
    cases r with
    |nil=>simp at hi
    |cons y ys=>have:=g8.1.2.2.1 _ rfl;exact this
   |succ i=>exact h1 i (by simp at hi ⊢;omega)
  .cases i with
   |zero=>exact⟨g3,g4⟩
   |succ i=>exact h2 i (by simp at hi ⊢;omega)
  .cases i with
   |zero=>exact⟨mj,iW⟩
   |succ i=>
    cases i with
    |zero=>exact⟨g6,g7⟩
    |succ i=>exact h3 x.2 (i+1) g6 g7 (by simp at hi ⊢;omega)
theorem jxn{o:Int}{l:bA}(h:Il none l)(hl:l.length<=1000)(h0 : -64800<=o)(h1:o<=64800):gU o l:=by
 obtain⟨a,b,c⟩:=Wk l none h;exact⟨hl,a,λi hi=>(b i hi).1,λi hi=>(b i hi).2,λi hi=>(c o i h0 h1 hi).1,λi hi=>(c o i h0 h1 hi).2⟩
def uD(z:ByteArray×(Int×List aT))(l:bA):Prop:=j3o z=some (l,0)/\gU z.2.1 l
theorem jxo{nm:ByteArray}{o:Int}{rs:List aT}(h:∀r∈rs,lg r)(mj : -64800<=o)(iW:o<=64800)(hlen:rs.length<=16)(hn:(occs rs).length<20)(hg:Good o none (eH (occs rs))):uD (nm,(o,rs)) (dt o (eH (occs rs))):=by
 have hl:(eH (occs rs)).length<=1000:=by simp[eH,EV];omega
 refine⟨?_,jxn (O7 _ _ _ hg) (by have:=Im (eH (occs rs)) o;omega) mj iW⟩;have:=O6 (eH (occs rs)) hl (eH (occs rs)).length 0 o [] (by omega) mj iW (by simp) (by simp) hg;simp only[j3o,jky h mj iW hlen hn,j3,ju,j6,show Int.ofNat (List.length (eH (occs rs)))=((eH (occs rs)).length:Int) from rfl];rw[k5]at this;rw[show DV o ((eH (occs rs)).length:Int) 0 [] (eH (occs rs))=_ from this];rfl
theorem Wl{z:ByteArray×(Int×List aT)}{l:bA}(h:uD z l):jfd z=some ((z.2.1,l),0):=by
 simp only[jfd,show j3o (z.1,(z.2.1,z.2.2))=_ from h.1,j3]
theorem Wm{y m k w:Int}(gp:1<=m)(gI:m<=12)(dT:2<=k)(gn:k<=5):num y m 1+7<=nth y m k w/\nth y m k w<=num y m 1+34:=by
 have hd:=EW y m gp gI;unfold nth;dsimp only;split<;>omega
theorem O8{y m k w:Int}(gp:1<=m)(gI:m<=12)(dT:1<=k)(gn:k<=4):num y m 1<=nth y m k w/\nth y m k w<=num y m 1+27:=by
 have hd:=EW y m gp gI;unfold nth;dsimp only;split<;>omega
theorem Wn{a b:Int×Int}(h:a.1<b.1):eH [a,b]=[a,b]:=by
 simp[eH,kF,lC,show¬b.1<a.1 by omega]
theorem Wo{a b c d:Int×Int}(h1:a.1<c.1)(h2:c.1<b.1)(h3:b.1<d.1):eH [a,b,c,d]=[a,c,b,d]:=by
 simp[eH,kF,lC,show¬b.1<a.1 by omega,h2,show¬c.1<a.1 by omega,show¬d.1<b.1 by omega]
theorem Wp(r1 r2:aT)(h1:r1.1=2025)(h2:r1.2.1=2025)(h3:r2.1=2025)(h4:r2.2.1=2025):occs [r1,r2]=[cE r1 2025,cE r2 2025]:=by
 simp[occs,fQ,h1,h2,h3,h4]
theorem Wq(r1 r2:aT)(h1:r1.1=2025)(h2:r1.2.1=2026)(h3:r2.1=2025)(h4:r2.2.1=2026):occs [r1,r2]=[cE r1 2025,cE r1 2026,cE r2 2025,cE r2 2026]:=by
 simp[occs,fQ,h1,h2,h3,h4,List.range_succ]
theorem pq{now:Int}{p:Option Int}{x:Int×Int}{r:bA}(hx:x.2≠now)(h : -86400<x.2-now/\x.2-now<86400/\1000000<x.1-now/\x.1-now<=8589000000 /\ -64800<=x.2/\x.2<=64800)
  (hp:∀q,p=some q->q+604800<=x.1-now)(hr:Good x.2 (some (x.1-now)) r):Good now p (x::r):=by
 simp only[Good];rw[if_neg hx];exact⟨⟨h.1,h.2.1,h.2.2.1,h.2.2.2.1,hp,h.2.2.2.2.1,h.2.2.2.2.2⟩,hr⟩
theorem jtT{now:Int}{p:Option Int}{x:Int×Int}{r:bA}(hx:x.2=now)(hr:Good now p r):Good now p (x::r):=by
 simp only[Good];rw[if_pos hx];exact hr
theorem E0{P:Int->Prop}:∀q,(none:Option Int)=some q->P q:=λ_ h=>by simp at h
theorem wN{P:Int->Prop}{a:Int}(h:P a):∀q,some a=some q->P q:=λq hq=>by simp at hq;subst hq;exact h
theorem n251:num 2025 1 1=20089:=by decide
theorem n261:num 2026 1 1=20454:=by decide
theorem n252:num 2025 2 1=20120:=by decide
theorem n253:num 2025 3 1=20148:=by decide
theorem n262:num 2026 2 1=20485:=by decide
theorem n263:num 2026 3 1=20513:=by decide
structure MZ(o:Int)(rs:List aT):Prop where
 o0 : -43200<=o
 o1:o<=45000
 ok:∀r∈rs,lg r
 len:rs.length<=2
 few:(occs rs).length<=4
 good:Good o none (eH (occs rs))
theorem MZ.tab{o:Int}{rs:List aT}(h:MZ o rs)(nm:ByteArray):uD (nm,(o,rs)) (dt o (eH (occs rs))):=
 jxo h.ok (by have:=h.o0;omega) (by have:=h.o1;omega) (by have:=h.len;omega) (by have:=h.few;omega) h.good
theorem mz0{o:Int}(h0 : -43200<=o)(h1:o<=45000):MZ o []:=⟨h0,h1,by simp,by simp,by decide,trivial⟩
theorem Wr{r1 r2:aT}(h1:lg r1)(h2:lg r2):∀r∈[r1,r2],lg r:=by
 intro r hr;simp at hr;rcases hr with rfl|rfl
 .exact h1
 .exact h2
theorem mz1{o last:Int}(h0 : -43200<=o)(h1:o<=45000)(hl:last=2025\/last=2026):MZ o [(2025,(last,(3,(5,(6,(7200,o+3600)))))),(2025,(last,(10,(5,(6,(10800,o))))))]:=by
 have a1:nth 2025 3 5 6=20177:=by decide
 have a2:nth 2025 10 5 6=20387:=by decide
 have a3:nth 2026 3 5 6=20541:=by decide
 have a4:nth 2026 10 5 6=20751:=by decide
 have bz:=Wr (r1:=(2025,(last,(3,(5,(6,(7200,o+3600))))))) (r2:=(2025,(last,(10,(5,(6,(10800,o))))))) (by constructor<;>(dsimp only;omega)) (by constructor<;>(dsimp only;omega));rcases hl with rfl|rfl
 .have e:=Wp (2025,(2025,(3,(5,(6,(7200,o+3600)))))) (2025,(2025,(10,(5,(6,(10800,o)))))) rfl rfl rfl rfl;refine⟨h0,h1,bz,by simp,by rw[e];simp,?_⟩;rw[e,Wn (by simp only[cE];omega)];refine pq (by simp only[cE];omega) (by simp only[cE];omega) E0 (pq (by simp only[cE];omega) (by simp only[cE];omega) (wN (by simp only[cE];omega)) trivial)
 .have e:=Wq (2025,(2026,(3,(5,(6,(7200,o+3600)))))) (2025,(2026,(10,(5,(6,(10800,o)))))) rfl rfl rfl rfl;refine⟨h0,h1,bz,by simp,by rw[e];simp,?_⟩;rw[e,Wo (by simp only[cE];omega) (by simp only[cE];omega) (by simp only[cE];omega)]
  refine pq (by simp only[cE];omega) (by simp only[cE];omega) E0 (pq (by simp only[cE];omega) (by simp only[cE];omega) (wN (by simp only[cE];omega))
   (pq (by simp only[cE];omega) (by simp only[cE];omega) (wN (by simp only[cE];omega)) (pq (by simp only[cE];omega) (by simp only[cE];omega) (wN (by simp only[cE];omega)) trivial)))
theorem mz2{o last k1 w1 s1 c m2 k2 w2 s2:Int}(h0 : -43200<=o)(h1:o<=45000)(hl:last=2025\/last=2026)(hk:1<=k1)(bc:k1<=4)(hw:0<=w1)(J6:w1<=6)(hs:0<=s1)(dP:s1<=82800)(hc:1800<=c)(cI:c<=14400)
  (hm:m2=2\/m2=3)(hj:2<=k2)(h9:k2<=5)(hx:0<=w2)(mD:w2<=6)(ht:0<=s2)(sv:s2<=82800):MZ o [(2025,(last,(1,(k1,(w1,(s1,o+c)))))),(2025,(last,(m2,(k2,(w2,(s2,o))))))]:=by
 have bz:=Wr (r1:=(2025,(last,(1,(k1,(w1,(s1,o+c))))))) (r2:=(2025,(last,(m2,(k2,(w2,(s2,o))))))) (by constructor<;>(dsimp only;omega)) (by constructor<;>(dsimp only;omega));have b1:=O8 (y:=2025) (m:=1) (k:=k1) (w:=w1) (by omega) (by omega) hk bc;have b2:=O8 (y:=2026) (m:=1) (k:=k1) (w:=w1) (by omega) (by omega) hk bc;have b3:=Wm (y:=2025) (m:=m2) (k:=k2) (w:=w2) (by omega) (by omega) hj h9;have b4:=Wm (y:=2026) (m:=m2) (k:=k2) (w:=w2) (by omega) (by omega) hj h9;have c1:20120<=num 2025 m2 1/\num 2025 m2 1<=20148:=by rcases hm with rfl|rfl<;>simp[n252,n253]
 have c2:20485<=num 2026 m2 1/\num 2026 m2 1<=20513:=by rcases hm with rfl|rfl<;>simp[n262,n263]
 rw[n251]at b1;rw[n261]at b2;rcases hl with rfl|rfl
 .have e:=Wp (2025,(2025,(1,(k1,(w1,(s1,o+c)))))) (2025,(2025,(m2,(k2,(w2,(s2,o)))))) rfl rfl rfl rfl;refine⟨h0,h1,bz,by simp,by rw[e];simp,?_⟩;rw[e,Wn (by simp only[cE];omega)];refine pq (by simp only[cE];omega) (by simp only[cE];omega) E0 (pq (by simp only[cE];omega) (by simp only[cE];omega) (wN (by simp only[cE];omega)) trivial)
 .have e:=Wq (2025,(2026,(1,(k1,(w1,(s1,o+c)))))) (2025,(2026,(m2,(k2,(w2,(s2,o)))))) rfl rfl rfl rfl;refine⟨h0,h1,bz,by simp,by rw[e];simp,?_⟩;rw[e,Wo (by simp only[cE];omega) (by simp only[cE];omega) (by simp only[cE];omega)]
  refine pq (by simp only[cE];omega) (by simp only[cE];omega) E0 (pq (by simp only[cE];omega) (by simp only[cE];omega) (wN (by simp only[cE];omega))
   (pq (by simp only[cE];omega) (by simp only[cE];omega) (wN (by simp only[cE];omega)) (pq (by simp only[cE];omega) (by simp only[cE];omega) (wN (by simp only[cE];omega)) trivial)))
theorem Ws{o w s x:Int}(h0 : -43200<=o)(h1:o<=45000)(hw:0<=w)(J6:w<=6)(hs:0<=s)(dP:s<=84600)(tz : -64800<=x)(nD:x<=64800)(ng : -86400<x-o)(fc:x-o<86400):MZ o [(2026,(2026,(1,(2,(w,(s,x))))))]:=by
 have b:=O8 (y:=2026) (m:=1) (k:=2) (w:=w) (by omega) (by omega) (by omega) (by omega);rw[n261]at b;have e:occs [((2026:Int),((2026:Int),((1:Int),((2:Int),(w,(s,x))))))]=[cE (2026,(2026,(1,(2,(w,(s,x)))))) 2026]:=by simp[occs,fQ]
 refine⟨h0,h1,λr hr=>?_,by simp,by rw[e];simp,?_⟩
 .simp at hr;subst hr;constructor<;>(dsimp only;omega)
 .rw[e];have hi:eH [cE (2026,(2026,(1,(2,(w,(s,x)))))) 2026]=[cE (2026,(2026,(1,(2,(w,(s,x)))))) 2026]:=by simp[eH,kF,lC]
  rw[hi];by_cases Wt:x=o
  .exact jtT Wt trivial
  .exact pq Wt (by simp only[cE];omega) E0 trivial
theorem jxp{L:List Int}{a:Int}(h:dx L a)(nm:ByteArray):∃o rs a',j3O L a nm=some ((nm,(o,rs)),L,a')/\MZ o rs/\dx L a':=by
 obtain⟨p,a1,e1,m1,d1⟩:=nR h (xs:=[(0:Int),(4:Int),(-20:Int),(22:Int),(48:Int),(-47:Int)]) (by simp) (by simp);obtain⟨x2,a2,e2,x20,x21,d2⟩:=dg (n:=2) d1 (by omega) (by omega);obtain⟨x3,a3,e3,x30,x31,d3⟩:=dg (n:=3) d2 (by omega) (by omega);obtain⟨y,a4,e4,y0,y1,d4⟩:=dg (n:=2) d3 (by omega) (by omega);obtain⟨q,a5,e5,q0,q1,d5⟩:=dg (n:=4) d4 (by omega) (by omega);have hp : -47<=p/\p<=48:=by simp at m1;omega
 have hmul:0<=x2*x3/\x2*x3<=2:=by
  obtain rfl|rfl:x2=0\/x2=1:=by omega
  all_goals omega
 have mj : -43200<=900*(p+x2*x3):=by omega
 have iW:900*(p+x2*x3)<=45000:=by omega
 have dC:2025+y=2025\/2025+y=2026:=by omega
 simp only[j3O,e1,e2,e3,e4,e5,j3];rw[aj (x:=x2*x3) (by omega) (by omega),aj (x:=p+x2*x3) (by omega) (by omega),aj (x:=900*(p+x2*x3)) (by omega) (by omega),aj (x:=2025+y) (by omega) (by omega)];generalize 900*(p+x2*x3)=o at *;generalize 2025+y=last at *;by_cases yT:q=1
 .rw[ff yT,j5,aj (x:=o+3600) (by omega) (by omega)];exact⟨_,_,_,rfl,mz1 mj iW dC,d5⟩
 .rw[cP yT,j6];by_cases E3:q=2
  .rw[ff E3,j5];obtain⟨b1,c1,f1,b10,b11,g1⟩:=dg (n:=4) d5 (by omega) (by omega);obtain⟨b2,c2,f2,Bp,O9,g2⟩:=dg (n:=7) g1 (by omega) (by omega);obtain⟨b3,c3,f3,Pa,Pb,g3⟩:=dg (n:=24) g2 (by omega) (by omega);obtain⟨b4,c4,f4,b40,b41,g4⟩:=dg (n:=8) g3 (by omega) (by omega);obtain⟨b5,c5,f5,b50,b51,g5⟩:=dg (n:=2) g4 (by omega) (by omega);obtain⟨b6,c6,f6,m6,g6⟩:=nR g5 (xs:=[(2:Int),(3:Int),(5:Int)]) (by simp) (by simp);obtain⟨b7,c7,f7,Wu,b71,g7⟩:=dg (n:=7) g6 (by omega) (by omega);obtain⟨b8,c8,f8,b80,b81,g8⟩:=dg (n:=24) g7 (by omega) (by omega);have h6:2<=b6/\b6<=5:=by simp at m6;omega
   simp only[f1,f2,f3,f4,f5,f6,f7,f8,j3]
   rw[aj (x:=1+b1) (by omega) (by omega),aj (x:=3600*b3) (by omega) (by omega),aj (x:=1+b4) (by omega) (by omega),aj (x:=1800*(1+b4)) (by omega) (by omega),aj (x:=o+1800*(1+b4)) (by omega) (by omega),
    aj (x:=2+b5) (by omega) (by omega),aj (x:=3600*b8) (by omega) (by omega)]
   exact⟨_,_,_,rfl,mz2 mj iW dC (by omega) (by omega) Bp (by omega) (by omega) (by omega) (by omega) (by omega) (by omega) h6.1 h6.2 Wu (by omega) (by omega) (by omega),g8⟩
  .rw[cP E3,j6];by_cases E4:q=3
   .rw[ff E4,j5];obtain⟨b1,c1,f1,m1,g1⟩:=nR d5 (xs:=[(3600:Int),(-3600:Int),(82800:Int),(-82800:Int),(43200:Int)]) (by simp) (by simp);obtain⟨b2,c2,f2,Bp,O9,g2⟩:=dg (n:=7) g1 (by omega) (by omega);obtain⟨b3,c3,f3,Pa,Pb,g3⟩:=dg (n:=48) g2 (by omega) (by omega);have di : -82800<=b1/\b1<=82800:=by simp at m1;omega
    simp only[f1,f2,f3,j3];rw[aj (x:=o+b1) (by omega) (by omega),aj (x:=1800*b3) (by omega) (by omega)];by_cases ml:o+b1>64800\/o+b1 < -64800
    .have hb:cond (decide (o+b1>64800)) true (decide (o+b1 < -64800))=true:=by
      rcases ml with ml|ml
      .rw[ag ml];rfl
      .rw[ag ml];cases decide (o+b1>64800)<;>rfl
     rw[hb,j5];exact⟨_,_,_,rfl,Ws mj iW Bp (by omega) (by omega) (by omega) (by omega) (by omega) (by omega) (by omega),g3⟩
    .rw[ao (show¬o+b1>64800 by omega),ao (show¬o+b1 < -64800 by omega)];simp only[j6];exact⟨_,_,_,rfl,Ws mj iW Bp (by omega) (by omega) (by omega) (by omega) (by omega) (by omega) (by omega),g3⟩
   .rw[cP E4,j6];exact⟨_,_,_,rfl,mz0 mj iW,d5⟩
section
variable{o:Int}{l:bA}(h:gU o l)
include h
theorem E5{i j:Nat}{t:Int}(hi:i<=l.length)(hj:j<=l.length)(a1:bh l i<=t)(a2:t<bh l (i+1))(b1:bh l j<=t)(b2:t<bh l (j+1)):i=j:=by
 rcases yj i j with dG|dG|dG
 .have:=h.frm_le (i:=i+1) (j:=j) (by omega) (by omega);omega
 .exact dG
 .have:=h.frm_le (i:=j+1) (j:=i) (by omega) (by omega);omega
end
abbrev WL:=List (Int×Int)
def gu(p:Int):WL->Prop
 |[]=>p<=604800
 |x::r=>p<=x.1/\x.1<x.2/\x.2<=604800/\gu x.2 r
def ig:WL->Int
 |[]=>0
 |x::r=>(x.2-x.1)+ig r
def hasB(s:Int):WL->Bool
 |[]=>false
 |x::r=>cond (cond (decide (x.1<=s)) (decide (s<x.2)) false) true (hasB s r)
theorem gu.weak{p q:Int}(hq:q<=p):∀{w:WL},gu p w->gu q w
 |[],h=>by show q<=604800;have:p<=604800:=h;omega
 |_::_,h=>⟨by have:=h.1;omega,h.2⟩
theorem E6:∀{w:WL}{p:Int},gu p w->∀i,i<w.length->p<=(w.getD i (0,0)).1/\(w.getD i (0,0)).1<(w.getD i (0,0)).2/\(w.getD i (0,0)).2<=604800
 |[],_,_,i,hi=>by simp at hi
 |x::r,p,h,i,hi=>by
  obtain⟨h1,h2,h3,h4⟩:=h;cases i with
  |zero=>exact⟨h1,h2,h3⟩
  |succ i=>exact E6 (h4.weak (show p<=x.2 by omega)) i (by simpa using hi)
theorem Ww:∀{w:WL}{p:Int},gu p w->∀i,i+1<w.length->(w.getD i (0,0)).2<=(w.getD (i+1) (0,0)).1
 |[],_,_,i,hi=>by simp at hi
 |x::[],_,_,i,hi=>by simp at hi
 |x::y::r,p,h,i,hi=>by
  cases i with
  |zero=>exact h.2.2.2.1
  |succ i=>exact Ww h.2.2.2 i (by simpa using hi)
theorem Wx{L:List Int}:∀(n:Nat)(p a:Int)(acc:WL),dx L a->0<=p->p<=604800->acc.length+n<=100->
  ∃w a',Hj p (n:Int) L a acc=some (L,a',acc++w)/\gu p w/\w.length<=n/\dx L a'
 |0,p,a,acc,hd,_,hp,_=>by
  rw[Ul];simp only[j1V];rw[ao (by omega),j6,aY];exact⟨[],a,by simp,hp,by simp,hd⟩
 |n+1,p,a,acc,hd,pT,hp,ha=>by
  obtain⟨x,a1,e1,x0,x1,d1⟩:=dg (n:=30) hd (by omega) (by omega);obtain⟨y,a2,e2,y0,y1,d2⟩:=dg (n:=2) d1 (by omega) (by omega);obtain⟨q,a3,e3,m3,d3⟩:=nR d2 (xs:=[(3600:Int),(28800:Int),(43200:Int),(86400:Int),(61:Int),(1:Int)]) (by simp) (by simp);have hq:1<=q/\q<=86400:=by simp at m3;omega
  rw[Ul];simp only[j1V];rw[ag (by omega)];simp only[j5,e1,e2,e3,j3];rw[aj (x:=3600*x) (by omega) (by omega),aj (x:=p+3600*x) (by omega) (by omega),aj (x:=60*y) (by omega) (by omega),aj (x:=p+3600*x+60*y) (by omega) (by omega),aj (x:=p+3600*x+60*y+q) (by omega) (by omega),aj (x:=((n+1:Nat):Int)-1) (by omega) (by omega)];by_cases ml:p+3600*x+60*y+q>604800
  .rw[ag ml,j5,aY];exact⟨[],a3,by simp,hp,by simp,d3⟩
  .rw[ao ml,ag (by simp[aQ];omega)];simp only[j6,j5,aP];obtain⟨w,a4,e4,hw,iX,d4⟩:=Wx n (p+3600*x+60*y+q) a3 (acc++[(p+3600*x+60*y,p+3600*x+60*y+q)]) d3 (by omega) (by omega) (by simp;omega);rw[show ((n+1:Nat):Int)-1=(n:Int) by omega];refine⟨(p+3600*x+60*y,p+3600*x+60*y+q)::w,a4,by rw[e4,jg];rfl,⟨by dsimp only;omega,by dsimp only;omega,by dsimp only;omega,hw⟩,by simp;omega,d4⟩
theorem Io{L:List Int}{a:Int}(h:dx L a):∃w a',j2N L a=some (w,L,a')/\gu 0 w/\w.length<=3/\dx L a':=by
 obtain⟨x,a1,e1,x0,x1,d1⟩:=dg (n:=4) h (by omega) (by omega);obtain⟨w,a',e2,h1,h2,h3⟩:=Wx x.toNat 0 a1 [] d1 (by omega) (by omega) (by simp;omega);rw[show ((x.toNat:Nat):Int)=x by omega,js]at e2;simp only[j2N,e1,j3,e2];exact⟨w,a',rfl,h1,by omega,h3⟩
theorem Wy{L:List Int}{a:Int}(h:dx L a):∃t a',j4Z L a=some (t,L,a')/\1767139199<=t/\t<=1767139200+3600*575+3599/\dx L a':=by
 obtain⟨x,a1,e1,x0,x1,d1⟩:=dg (n:=576) h (by omega) (by omega);obtain⟨y,a2,e2,y0,y1,d2⟩:=dg (n:=3) d1 (by omega) (by omega);obtain⟨q,a3,e3,m3,d3⟩:=nR d2 (xs:=[(-1:Int),(1:Int),(1800:Int),(3599:Int)]) (by simp) (by simp);have hq : -1<=q/\q<=3599:=by simp at m3;omega
 simp only[j4Z,e1,j3,j0N,e2,e3];rw[aj (x:=3600*x) (by omega) (by omega),aj (x:=1767139200+3600*x) (by omega) (by omega),aj (x:=1767139200+3600*x+q) (by omega) (by omega)];cases (y==w64 (3-1)) with
 |true=>exact⟨_,_,rfl,by omega,by omega,d3⟩
 |false=>exact⟨_,_,rfl,by omega,by omega,d2⟩
theorem Wz{w:WL}(h:gu 0 w)(hl:w.length<=14):∀(n i:Nat),i+n=w.length->Hx w w (w.length:Int) (i:Int)=some (.inr ())
 |0,i,hi=>by
  rw[UC];simp only[j4o];rw[ao (by omega),j6,aY]
 |n+1,i,hi=>by
  have ih:=Wz h hl n (i+1) (by omega);have hg:=E6 h i (by omega);rw[UC];simp only[j4o];rw[ag (show (i:Int)<(w.length:Int) by omega),ba (by omega) (by omega)];simp only[j5,j7];rw[ao (show¬(w.getD i ((0:Int),(0:Int))).1<0 by omega),ao (show¬(w.getD i ((0:Int),(0:Int))).1>=(w.getD i ((0:Int),(0:Int))).2 by omega),ao (show¬(w.getD i ((0:Int),(0:Int))).2>604800 by omega)];rw[aj (x:=(i:Int)+1) (by omega) (by omega)];simp only[j6];by_cases h0:i=0
  .rw[ao (by omega)];simp only[j6,aP];exact ih
  .obtain⟨j,rfl⟩:∃j,i=j+1:=⟨i-1,by omega⟩;have hgap:=Ww h j (by omega);rw[ag (by omega),aj (x:=((j+1:Nat):Int)-1) (by omega) (by omega),ba (by omega) (by omega),show (((j+1:Nat):Int)-1).toNat=j by omega,ao (by omega)];simp only[j5,j6,aP];exact ih
theorem Pc{w:WL}(h:gu 0 w)(hl:w.length<=14):jam w=some 0:=by
 have:=Wz h hl w.length 0 (by omega);rw[show ((0:Nat):Int)=0 from rfl]at this;simp only[jam,show Int.ofNat (List.length w)=(w.length:Int) from rfl];rw[ao (by omega),j6,this];rfl
abbrev bP:=ByteArray×(Int×List aT)
abbrev dm:=ByteArray×(Int×(WL×(Int×(Int×Bool))))
abbrev aO:=ByteArray×(Int×List Int)
abbrev cb:=ByteArray×(Int×((Int×Int)×(Int×(Int×(List Int×(WL×(Int×Int)))))))
abbrev dD:=ByteArray×(List cb×List (Int×(Int×(Int×(Int×Int)))))
def pr(z:bP):Prop:=MZ z.2.1 z.2.2
theorem Bq{L:List Int}{a n:Int}(h:dx L a)(hn:1<=n)(tI:n<=1000000):∃b a',j0N L a n=some (b,L,a')/\dx L a':=by
 obtain⟨x,a1,e1,x0,x1,d1⟩:=dg (n:=n) h (by omega) (by omega);simp only[j0N,e1,j3];exact⟨_,_,rfl,d1⟩
structure E7(zs:List bP)(ps:List dm)(cs:List aO):Prop where
 z0:1<=zs.length
 z1:zs.length<=2
 ok:∀z∈zs,pr z
 p0:1<=ps.length
 p1:ps.length<=4
 c1:cs.length<=1
structure E8(l:cb):Prop where
 d0:20452<=l.2.2.1.1
 d1:l.2.2.1.1<=20457
 c0:0<=l.2.2.1.2
 c1:l.2.2.1.2<=79200
 u0:0<=l.2.2.2.1
 u1:l.2.2.2.1<=2
 e0:1<=l.2.2.2.2.1
 e1:l.2.2.2.2.1<=49
 e2:l.2.2.2.1≠0->l.2.2.2.2.1<=2
 m0:1<=l.2.2.2.2.2.1.length
 m1:l.2.2.2.2.2.1.length<=3
end Go.Proofs.Pw
