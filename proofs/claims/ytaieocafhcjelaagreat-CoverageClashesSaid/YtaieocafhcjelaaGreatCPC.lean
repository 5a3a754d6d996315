/- sane of s9 12. -/
import Derived.Test.YtaieocafhcjelaaGreatCPB
import Derived.KernelRfl
import Derived.Test.YtaieocafhcjelaaGreatCPA
open Go Go.Lft
namespace Go.Proofs.Pw
abbrev aO:=Int×(Int×(Int×(Int×(Int×(Int×Int)))))
theorem jL{n lo hi:Int}(h1:lo<=n)(h2:n<=hi):jch n lo hi=some true:=by
 simp only[jch];rw[ag (show n>=lo from h1),ag h2];rfl
structure jM(r:aO):Prop where
 y0:1970<=r.1
 y1:r.1<=r.2.1
 y2:r.2.1<=2240
 m0:1<=r.2.2.1
 m1:r.2.2.1<=12
 k0:1<=r.2.2.2.1
 k1:r.2.2.2.1<=5
 d0:0<=r.2.2.2.2.1
 d1:r.2.2.2.2.1<=6
 s0:0<=r.2.2.2.2.2.1
 s1:r.2.2.2.2.2.1<=86399
 o0 : -64800<=r.2.2.2.2.2.2
 o1:r.2.2.2.2.2.2<=64800
theorem jCe{r:aO}(h:jM r):jhy r=some 0:=by
 simp only[jhy,jL h.y0 (show r.1<=2240 by have:=h.y1;have:=h.y2;omega),jL h.y1 h.y2,jL h.m0 h.m1,jL h.k0 h.k1,jL h.d0 h.d1,jL h.s0 h.s1,jL h.o0 h.o1,j3,ji,j6]
theorem Nv{y m k w:Int}(_h1:1970<=y)(_h2:y<=2240)(eZ:1<=m)(ik:m<=12)(dj:1<=k)(eW:k<=5):num y m 1<=nth y m k w/\nth y m k w<num y m 1+fc y m\/nth y m k w<num y m 1+35/\num y m 1<=nth y m k w:=by
 right;have hd:=DS y m eZ ik;unfold nth;dsimp only;split<;>omega
def cB(r:aO)(y:Int):Int×Int:=(nth y r.2.2.1 r.2.2.2.1 r.2.2.2.2.1*86400+r.2.2.2.2.2.1,r.2.2.2.2.2.2)
def ff(r:aO):bE:=(List.range (r.2.1-r.1+1).toNat).map λ(i:Nat)=>cB r (r.1+(i:Int))
def occs(l:List aO):bE:=l.flatMap ff
theorem jyM{r:aO}(h:jM r){y:Int}(h1:1970<=y)(h2:y<=2240):0<=(cB r y).1/\(cB r y).1<=10000000000:=by
 have hv:=DT (DU y r.2.2.1 h1 h2 h.m0 h.m1);have hG:=h.s0;have kI:=h.s1;have:=Nv (w:=r.2.2.2.2.1) h1 h2 h.m0 h.m1 h.k0 h.k1;have hd:=qH y r.2.2.1;unfold cB;dsimp only;omega
theorem jCf{r:aO}(h:jM r):Sm (ff r):=by
 intro x hx;obtain⟨i,hi,rfl⟩:=ka.1 hx;have hi:=List.mem_range.1 hi;have h0:=h.y0;have h2:=h.y2;have:=jyM h (y:=r.1+(i:Int)) (by omega) (by omega);omega
theorem jCg{l:List aO}(h:∀r∈l,jM r):Sm (occs l):=by
 intro x hx;obtain⟨r,hr,hx⟩:=v6.1 hx;exact jCf (h r hr) x hx
theorem Vb{r:aO}(h:jM r)(rs:List aO)(a b:Int):∀(n:Nat)(i:Nat)(acc:bE),r.1+(i:Int)+n=r.2.1+1->acc.length+n<=100000->
  zL (r.1+(i:Int)) rs a b r.1 r.2.1 r.2.2.1 r.2.2.2.1 r.2.2.2.2.1 r.2.2.2.2.2.1 r.2.2.2.2.2.2 acc=some (rs,a,b,acc++(List.range n).map λ(j:Nat)=>cB r (r.1+(i:Int)+(j:Int)))
 |0,i,acc,hi,_=>by
  rw[Sn];simp only[j1j];rw[ah (by omega),j6,aU];simp
 |n+1,i,acc,hi,hl=>by
  have h0:=h.y0;have h2:=h.y2;have hG:=h.s0;have kI:=h.s1;have hv:=DT (DU (r.1+(i:Int)) r.2.2.1 (by omega) (by omega) h.m0 h.m1);have hn:=Nv (w:=r.2.2.2.2.1) (y:=r.1+(i:Int)) (by omega) (by omega) h.m0 h.m1 h.k0 h.k1;have hd:=qH (r.1+(i:Int)) r.2.2.1;rw[Sn];simp only[j1j];rw[ag (show r.1+(i:Int)<=r.2.1 by omega),jDq _ _ _ _ (by omega) (by omega) h.m0 h.m1 h.k0 h.k1 h.d0 h.d1];simp only[j5,j3]
  rw[aj (x:=nth (r.1+(i:Int)) r.2.2.1 r.2.2.2.1 r.2.2.2.2.1*86400) (by omega) (by omega),aj (x:=nth (r.1+(i:Int)) r.2.2.1 r.2.2.2.1 r.2.2.2.2.1*86400+r.2.2.2.2.2.1) (by omega) (by omega),
   aj (x:=r.1+(i:Int)+1) (by omega) (by omega)]
  rw[ag (by simp[aY];omega)];simp only[j5,aJ];have ih:=Vb h rs a b n (i+1) (acc++[cB r (r.1+(i:Int))]) (by omega) (by simp;omega);rw[show r.1+(i:Int)+1=r.1+((i+1:Nat):Int) by omega];refine ih.trans ?_
  have xS:(List.range n).map (λ(j:Nat)=>cB r (r.1+((i+1:Nat):Int)+(j:Int)))=(List.range n).map ((λ(j:Nat)=>cB r (r.1+(i:Int)+(j:Int))) ∘ Nat.succ):=List.map_congr_left λj _=>by
   simp only[Function.comp];congr 1;omega
  rw[List.range_succ_eq_map,ku,List.map_map,xS];simp
theorem Vc{rs:List aO}(h:∀r∈rs,jM r)(hlen:rs.length<=100):∀(n i:Nat)(acc:bE),i+n=rs.length->acc.length<=300*i->
  xh rs (rs.length:Int) (i:Int) acc=some (acc++occs (rs.drop i))
 |0,i,acc,hi,_=>by
  rw[Sp];simp only[j1k];rw[ah (by omega),j6,aU,jf (by omega)];simp[occs]
 |n+1,i,acc,hi,hl=>by
  have aA:i<rs.length:=by omega
  have hr:=h rs[i] (je aA);have h0:=hr.y0;have h1:=hr.y1;have h2:=hr.y2;have hg:rs.getD i ((0:Int),((0:Int),((0:Int),((0:Int),((0:Int),((0:Int),(0:Int)))))))=rs[i]:=by simp[aA]
  have Aq:=Vb hr rs (rs.length:Int) (i:Int) (rs[i].2.1-rs[i].1+1).toNat 0 acc (by omega) (by omega);rw[show rs[i].1+((0:Nat):Int)=rs[i].1 by omega]at Aq;have ih:=Vc h hlen n (i+1) (acc++ff rs[i]) (by omega) (by simp[ff];omega);rw[Sp];simp only[j1k];rw[ag (show (i:Int)<(rs.length:Int) by omega),aR (by omega) (by omega)];simp only[j5,j7,hg,Aq,j3];rw[aj (by omega) (by omega),aJ,jc aA];refine ih.trans ?_;rw[jd];rfl
theorem Vd{rs:List aO}(h:∀r∈rs,jM r)(hlen:rs.length<=100)(nm:ByteArray)(o:Int):∀(n i:Nat)(s:Int),i+n=rs.length->0<=s->s<=300*i->
  xg s rs (rs.length:Int) (i:Int) nm o rs=some (.inr (s+((occs (rs.drop i)).length:Int),nm,o,rs))
 |0,i,s,hi,_,_=>by
  rw[Sl];simp only[j3n];rw[ah (by omega),j6,aU,jf (by omega)];simp[occs]
 |n+1,i,s,hi,hG,kI=>by
  have aA:i<rs.length:=by omega
  have hr:=h rs[i] (je aA);have h0:=hr.y0;have h1:=hr.y1;have h2:=hr.y2;have hg:rs.getD i ((0:Int),((0:Int),((0:Int),((0:Int),((0:Int),((0:Int),(0:Int)))))))=rs[i]:=by simp[aA]
  have ih:=Vd h hlen nm o n (i+1) (s+(rs[i].2.1-rs[i].1+1)) (by omega) (by omega) (by omega);have qI:jhy (rs[i].1,(rs[i].2.1,(rs[i].2.2.1,(rs[i].2.2.2.1,(rs[i].2.2.2.2.1,(rs[i].2.2.2.2.2.1,rs[i].2.2.2.2.2.2))))))=some 0:=jCe hr;rw[Sl];simp only[j3n];rw[ag (show (i:Int)<(rs.length:Int) by omega),aR (by omega) (by omega)];simp only[j5,j7,hg,qI,j3,jj,j6];rw[aj (x:=rs[i].2.1-rs[i].1) (by omega) (by omega),aj (x:=rs[i].2.1-rs[i].1+1) (by omega) (by omega),aj (x:=s+(rs[i].2.1-rs[i].1+1)) (by omega) (by omega),aj (x:=(i:Int)+1) (by omega) (by omega),aJ];refine ih.trans ?_;rw[jc aA]
  have:((occs (rs[i]::rs.drop (i+1))).length:Int)=(rs[i].2.1-rs[i].1+1)+((occs (rs.drop (i+1))).length:Int):=by
   have e1:(ff rs[i]).length=(rs[i].2.1-rs[i].1+1).toNat:=by simp[ff]
   show ((ff rs[i]++occs (rs.drop (i+1))).length:Int)=_;rw[ja,e1];omega
  rw[this];congr 3;omega
theorem jpq{nm:ByteArray}{o:Int}{rs:List aO}(h:∀r∈rs,jM r)(lb : -64800<=o)(jF:o<=64800)(hlen:rs.length<=16)(hn:(occs rs).length<20):j4Q (nm,(o,rs))=some (dZ (occs rs),0):=by
 have e0:=Vd h (by omega) nm o rs.length 0 0 (by omega) (by omega) (by omega);have e2:=Vc h (by omega) rs.length 0 [] (by omega) (by simp);rw[kc]at e0 e2;simp only[j4Q,jL lb jF,j3,ji,j6,show Int.ofNat (List.length rs)=(rs.length:Int) from rfl];rw[ah (show¬(rs.length:Int)>16 by omega),j6,show xg 0 rs (rs.length:Int) 0 nm o rs=_ from e0];simp only[j3,jK];rw[ah (by omega),j6,show Int.ofNat (List.length rs)=(rs.length:Int) from rfl,show xh rs (rs.length:Int) 0 []=_ from e2];simp only[j3,jo,jri (jCg h) hn]
def bX(now:Int):bE->bE
 |[]=>[]
 |x::r=>if x.2=now then bX now r else (x.1-now,x.2)::bX x.2 r
def Good(now:Int)(p:Option Int):bE->Prop
 |[]=>True
 |x::r=>if x.2=now then Good now p r else (-86400<x.2-now/\x.2-now<86400/\1000000<x.1-now/\x.1-now<=8589000000/\(∀q,p=some q->q+604800<=x.1-now) /\ -64800<=x.2/\x.2<=64800)/\Good x.2 (some (x.1-now)) r
theorem Nw(L:bE)(hL:L.length<=1000):∀(n i:Nat)(now:Int)(acc:bE),i+n=L.length -> -64800<=now->now<=64800->acc.length<=i->(∀x∈acc,0<=x.1/\x.1<=8589934592)->Good now (acc.getLast?.map (·.1)) (L.drop i)->
  xi now (L.length:Int) (i:Int) acc L=some (.inr (acc++bX now (L.drop i)))
 |0,i,now,acc,hi,_,_,_,_,_=>by
  rw[Sq];simp only[j3o];rw[ah (by omega),j6,aU,jf (by omega)];simp[bX]
 |n+1,i,now,acc,hi,ox,xT,ue,ea,hg=>by
  have aA:i<L.length:=by omega
  rw[jc aA]at hg ⊢;have bj:L.getD i ((0:Int),(0:Int))=L[i]:=by simp[aA]
  rw[Sq];simp only[j3o];rw[ag (show (i:Int)<(L.length:Int) by omega),aR (by omega) (by omega)];simp only[j5,j7,bj];generalize L[i]=x at *;rw[aj (x:=(i:Int)+1) (by omega) (by omega)];simp only[Good]at hg;by_cases hx:x.2=now
  .rw[if_pos hx]at hg;rw[cP hx];simp only[j5,aJ,bX];rw[if_pos hx];exact Nw L hL n (i+1) now acc (by omega) ox xT (by omega) ea hg
  .rw[if_neg hx]at hg;obtain⟨⟨g1,g2,g3,g4,g5,g6,g7⟩,g8⟩:=hg;rw[bW hx,aj (x:=x.1-now) (by omega) (by omega),aj (x:=x.2-now) (by omega) (by omega),ah (show¬x.2-now>=86400 by omega),ah (show¬x.2-now <= -86400 by omega)];simp only[j6,jL (show (0:Int)<=x.1-now by omega) (show x.1-now<=8589934592 by omega),j3,ji,jt,Bool.true_and,show Int.ofNat (List.length acc)=(acc.length:Int) from rfl];rw[aj (x:=(acc.length:Int)-1) (by omega) (by omega)]
   have fT:=Nw L hL n (i+1) x.2 (acc++[(x.1-now,x.2)]) (by omega) g6 g7 (by simp;omega)
    (λy hy=>by
     rcases jn.1 hy with hy|hy
     .exact ea y hy
     .simp at hy;subst hy;exact⟨by show (0:Int)<=x.1-now;omega,by show x.1-now<=8589934592;omega⟩) (by simpa using g8)
   have cY:bX now (x::L.drop (i+1))=(x.1-now,x.2)::bX x.2 (L.drop (i+1)):=by simp[bX,hx]
   rw[cY];rw[jd]at fT;by_cases ha:acc=[]
   .subst ha;simp only[qc];rw[show inR (((0:Nat):Int)-1) 0=false from rfl,show decide (((0:Nat):Int)>0)=false from rfl];simp only[jt,j5,j6,Bool.or_true];rw[ag (by simp[aY])];simp only[j5,aJ];exact fT
   .have bV:0<acc.length:=kx.2 ha;have dD:acc.getLast? = some (acc.getD (acc.length-1) (0,0)):=by rw[List.getLast?_eq_getElem?,List.getD_eq_getElem?_getD,jh (show acc.length-1<acc.length by omega)];rfl
    rw[dD]at g5;have g5:(acc.getD (acc.length-1) ((0:Int),(0:Int))).1+604800<=x.1-now:=g5 _ rfl;have hb:=ea (acc.getD (acc.length-1) (0,0)) (List.mem_of_getLast? dD);rw[aR (by omega) (by omega),ag (show (acc.length:Int)>0 by omega),show ((acc.length:Int)-1).toNat=acc.length-1 by omega];simp only[zr,j5];rw[aj (by omega) (by omega),ah (show¬x.1-now<(acc.getD (acc.length-1) ((0:Int),(0:Int))).1+604800 by omega),ag (by simp[aY];omega)];simp only[j5,j6,aJ];exact fT
def GP(p:Option Int):bE->Prop
 |[]=>True
 |x::r=>(1000000<x.1/\x.1<=8589000000/\(∀q,p=some q->q+604800<=x.1) /\ -64800<=x.2/\x.2<=64800)/\GP (some x.1) r
theorem Nx:∀(L:bE)(now:Int)(p:Option Int),Good now p L->GP p (bX now L)
 |[],_,_,_=>trivial
 |x::r,now,p,h=>by
  simp only[Good]at h;by_cases hx:x.2=now
  .rw[if_pos hx]at h;simp only[bX];rw[if_pos hx];exact Nx r now p h
  .rw[if_neg hx]at h;simp only[bX];rw[if_neg hx];obtain⟨⟨g1,g2,g3,g4,g5,g6,g7⟩,g8⟩:=h;exact⟨⟨g3,g4,g5,g6,g7⟩,Nx r x.2 _ g8⟩
theorem GQ:∀(L:bE)(now:Int),(bX now L).length<=L.length
 |[],_=>jl _
 |x::r,now=>by
  simp only[bX];split
  .have:=GQ r now;simp;omega
  .have:=GQ r x.2;simp;omega
theorem Ve:∀(l:bE)(p:Option Int),GP p l->(∀i,i+1<l.length->fU l i+604800<=fU l (i+1))/\(∀i,i<l.length->1000000<fU l i/\fU l i<=8589000000)/\
  (∀o i, -64800<=o->o<=64800->i<=l.length -> -64800<=bB o l i/\bB o l i<=64800)
 |[],_,_=>⟨λi h=>by simp at h,λi h=>by simp at h,λo i h1 h2 h3=>by
  have:i=0:=by simpa using h3
  subst this;exact⟨h1,h2⟩⟩
 |x::r,p,h=>by
  obtain⟨⟨g3,g4,g5,g6,g7⟩,g8⟩:=h;obtain⟨h1,h2,h3⟩:=Ve r _ g8;refine⟨λi hi=>?_,λi hi=>?_,λo i lb jF hi=>?_⟩
  .cases i with
   |zero=>
    cases r with
    |nil=>simp at hi
    |cons y ys=>have:=g8.1.2.2.1 _ rfl;exact this
   |succ i=>exact h1 i (by simp at hi ⊢;omega)
  .cases i with
   |zero=>exact⟨g3,g4⟩
   |succ i=>exact h2 i (by simp at hi ⊢;omega)
  .cases i with
   |zero=>exact⟨lb,jF⟩
   |succ i=>
    cases i with
    |zero=>exact⟨g6,g7⟩
    |succ i=>exact h3 x.2 (i+1) g6 g7 (by simp at hi ⊢;omega)
theorem jCh{o:Int}{l:bE}(h:GP none l)(hl:l.length<=1000)(h0 : -64800<=o)(h1:o<=64800):iq o l:=by
 obtain⟨a,b,c⟩:=Ve l none h;exact⟨hl,a,λi hi=>(b i hi).1,λi hi=>(b i hi).2,λi hi=>(c o i h0 h1 hi).1,λi hi=>(c o i h0 h1 hi).2⟩
def qJ(z:ByteArray×(Int×List aO))(l:bE):Prop:=j2V z=some (l,0)/\iq z.2.1 l
theorem jCi{nm:ByteArray}{o:Int}{rs:List aO}(h:∀r∈rs,jM r)(lb : -64800<=o)(jF:o<=64800)(hlen:rs.length<=16)(hn:(occs rs).length<20)(hg:Good o none (dZ (occs rs))):qJ (nm,(o,rs)) (bX o (dZ (occs rs))):=by
 have hl:(dZ (occs rs)).length<=1000:=by simp[dZ,DR];omega
 refine⟨?_,jCh (Nx _ _ _ hg) (by have:=GQ (dZ (occs rs)) o;omega) lb jF⟩;have:=Nw (dZ (occs rs)) hl (dZ (occs rs)).length 0 o [] (by omega) lb jF (by simp) (by simp) hg;simp only[j2V,jpq h lb jF hlen hn,j3,jj,j6,show Int.ofNat (List.length (dZ (occs rs)))=((dZ (occs rs)).length:Int) from rfl];rw[kc]at this;rw[show xi o ((dZ (occs rs)).length:Int) 0 [] (dZ (occs rs))=_ from this];rfl
theorem jEE{z:ByteArray×(Int×List aO)}{l:bE}(h:qJ z l):jhz z=some ((z.2.1,l),0):=by
 simp only[jhz,show j2V (z.1,(z.2.1,z.2.2))=_ from h.1,j3]
theorem Vf{y m k w:Int}(eZ:1<=m)(ik:m<=12)(dj:2<=k)(eW:k<=5):num y m 1+7<=nth y m k w/\nth y m k w<=num y m 1+34:=by
 have hd:=DS y m eZ ik;unfold nth;dsimp only;split<;>omega
theorem Ny{y m k w:Int}(eZ:1<=m)(ik:m<=12)(dj:1<=k)(eW:k<=4):num y m 1<=nth y m k w/\nth y m k w<=num y m 1+27:=by
 have hd:=DS y m eZ ik;unfold nth;dsimp only;split<;>omega
theorem Vg{a b:Int×Int}(h:a.1<b.1):dZ [a,b]=[a,b]:=by
 simp[dZ,iP,jZ,show¬b.1<a.1 by omega]
theorem Vh{a b c d:Int×Int}(h1:a.1<c.1)(h2:c.1<b.1)(h3:b.1<d.1):dZ [a,b,c,d]=[a,c,b,d]:=by
 simp[dZ,iP,jZ,show¬b.1<a.1 by omega,h2,show¬c.1<a.1 by omega,show¬d.1<b.1 by omega]
theorem Vi(r1 r2:aO)(h1:r1.1=2025)(h2:r1.2.1=2025)(h3:r2.1=2025)(h4:r2.2.1=2025):occs [r1,r2]=[cB r1 2025,cB r2 2025]:=by
 simp[occs,ff,h1,h2,h3,h4]
theorem Vj(r1 r2:aO)(h1:r1.1=2025)(h2:r1.2.1=2026)(h3:r2.1=2025)(h4:r2.2.1=2026):occs [r1,r2]=[cB r1 2025,cB r1 2026,cB r2 2025,cB r2 2026]:=by
 simp[occs,ff,h1,h2,h3,h4,List.range_succ]
theorem nR{now:Int}{p:Option Int}{x:Int×Int}{r:bE}(hx:x.2≠now)(h : -86400<x.2-now/\x.2-now<86400/\1000000<x.1-now/\x.1-now<=8589000000 /\ -64800<=x.2/\x.2<=64800)
  (hp:∀q,p=some q->q+604800<=x.1-now)(hr:Good x.2 (some (x.1-now)) r):Good now p (x::r):=by
 simp only[Good];rw[if_neg hx];exact⟨⟨h.1,h.2.1,h.2.2.1,h.2.2.2.1,hp,h.2.2.2.2.1,h.2.2.2.2.2⟩,hr⟩
theorem jyP{now:Int}{p:Option Int}{x:Int×Int}{r:bE}(hx:x.2=now)(hr:Good now p r):Good now p (x::r):=by
 simp only[Good];rw[if_pos hx];exact hr
theorem DY{P:Int->Prop}:∀q,(none:Option Int)=some q->P q:=λ_ h=>by simp at h
theorem uS{P:Int->Prop}{a:Int}(h:P a):∀q,some a=some q->P q:=λq hq=>by simp at hq;subst hq;exact h
theorem n251:num 2025 1 1=20089:=by decide
theorem n261:num 2026 1 1=20454:=by decide
theorem n252:num 2025 2 1=20120:=by decide
theorem n253:num 2025 3 1=20148:=by decide
theorem n262:num 2026 2 1=20485:=by decide
theorem n263:num 2026 3 1=20513:=by decide
structure MZ(o:Int)(rs:List aO):Prop where
 o0 : -43200<=o
 o1:o<=45000
 ok:∀r∈rs,jM r
 len:rs.length<=2
 few:(occs rs).length<=4
 good:Good o none (dZ (occs rs))
theorem MZ.tab{o:Int}{rs:List aO}(h:MZ o rs)(nm:ByteArray):qJ (nm,(o,rs)) (bX o (dZ (occs rs))):=
 jCi h.ok (by have:=h.o0;omega) (by have:=h.o1;omega) (by have:=h.len;omega) (by have:=h.few;omega) h.good
theorem mz0{o:Int}(h0 : -43200<=o)(h1:o<=45000):MZ o []:=⟨h0,h1,by simp,by simp,by decide,trivial⟩
theorem Vk{r1 r2:aO}(h1:jM r1)(h2:jM r2):∀r∈[r1,r2],jM r:=by
 intro r hr;simp at hr;rcases hr with rfl|rfl
 .exact h1
 .exact h2
theorem mz1{o last:Int}(h0 : -43200<=o)(h1:o<=45000)(hl:last=2025\/last=2026):MZ o [(2025,(last,(3,(5,(6,(7200,o+3600)))))),(2025,(last,(10,(5,(6,(10800,o))))))]:=by
 have a1:nth 2025 3 5 6=20177:=by decide
 have a2:nth 2025 10 5 6=20387:=by decide
 have a3:nth 2026 3 5 6=20541:=by decide
 have a4:nth 2026 10 5 6=20751:=by decide
 have bF:=Vk (r1:=(2025,(last,(3,(5,(6,(7200,o+3600))))))) (r2:=(2025,(last,(10,(5,(6,(10800,o))))))) (by constructor<;>(dsimp only;omega)) (by constructor<;>(dsimp only;omega));rcases hl with rfl|rfl
 .have e:=Vi (2025,(2025,(3,(5,(6,(7200,o+3600)))))) (2025,(2025,(10,(5,(6,(10800,o)))))) rfl rfl rfl rfl;refine⟨h0,h1,bF,by simp,by rw[e];simp,?_⟩;rw[e,Vg (by simp only[cB];omega)];refine nR (by simp only[cB];omega) (by simp only[cB];omega) DY (nR (by simp only[cB];omega) (by simp only[cB];omega) (uS (by simp only[cB];omega)) trivial)
 .have e:=Vj (2025,(2026,(3,(5,(6,(7200,o+3600)))))) (2025,(2026,(10,(5,(6,(10800,o)))))) rfl rfl rfl rfl;refine⟨h0,h1,bF,by simp,by rw[e];simp,?_⟩;rw[e,Vh (by simp only[cB];omega) (by simp only[cB];omega) (by simp only[cB];omega)]
  refine nR (by simp only[cB];omega) (by simp only[cB];omega) DY (nR (by simp only[cB];omega) (by simp only[cB];omega) (uS (by simp only[cB];omega))
   (nR (by simp only[cB];omega) (by simp only[cB];omega) (uS (by simp only[cB];omega)) (nR (by simp only[cB];omega) (by simp only[cB];omega) (uS (by simp only[cB];omega)) trivial)))
theorem mz2{o last k1 w1 s1 c m2 k2 w2 s2:Int}(h0 : -43200<=o)(h1:o<=45000)(hl:last=2025\/last=2026)(hk:1<=k1)(br:k1<=4)(hw:0<=w1)(Iz:w1<=6)(hs:0<=s1)(dx:s1<=82800)(hc:1800<=c)(eG:c<=14400)
  (hm:m2=2\/m2=3)(hj:2<=k2)(fN:k2<=5)(hx:0<=w2)(iZ:w2<=6)(ht:0<=s2)(ri:s2<=82800):MZ o [(2025,(last,(1,(k1,(w1,(s1,o+c)))))),(2025,(last,(m2,(k2,(w2,(s2,o))))))]:=by
 have bF:=Vk (r1:=(2025,(last,(1,(k1,(w1,(s1,o+c))))))) (r2:=(2025,(last,(m2,(k2,(w2,(s2,o))))))) (by constructor<;>(dsimp only;omega)) (by constructor<;>(dsimp only;omega));have b1:=Ny (y:=2025) (m:=1) (k:=k1) (w:=w1) (by omega) (by omega) hk br;have b2:=Ny (y:=2026) (m:=1) (k:=k1) (w:=w1) (by omega) (by omega) hk br;have b3:=Vf (y:=2025) (m:=m2) (k:=k2) (w:=w2) (by omega) (by omega) hj fN;have b4:=Vf (y:=2026) (m:=m2) (k:=k2) (w:=w2) (by omega) (by omega) hj fN;have c1:20120<=num 2025 m2 1/\num 2025 m2 1<=20148:=by rcases hm with rfl|rfl<;>simp[n252,n253]
 have c2:20485<=num 2026 m2 1/\num 2026 m2 1<=20513:=by rcases hm with rfl|rfl<;>simp[n262,n263]
 rw[n251]at b1;rw[n261]at b2;rcases hl with rfl|rfl
 .have e:=Vi (2025,(2025,(1,(k1,(w1,(s1,o+c)))))) (2025,(2025,(m2,(k2,(w2,(s2,o)))))) rfl rfl rfl rfl;refine⟨h0,h1,bF,by simp,by rw[e];simp,?_⟩;rw[e,Vg (by simp only[cB];omega)];refine nR (by simp only[cB];omega) (by simp only[cB];omega) DY (nR (by simp only[cB];omega) (by simp only[cB];omega) (uS (by simp only[cB];omega)) trivial)
 .have e:=Vj (2025,(2026,(1,(k1,(w1,(s1,o+c)))))) (2025,(2026,(m2,(k2,(w2,(s2,o)))))) rfl rfl rfl rfl;refine⟨h0,h1,bF,by simp,by rw[e];simp,?_⟩;rw[e,Vh (by simp only[cB];omega) (by simp only[cB];omega) (by simp only[cB];omega)]
  refine nR (by simp only[cB];omega) (by simp only[cB];omega) DY (nR (by simp only[cB];omega) (by simp only[cB];omega) (uS (by simp only[cB];omega))
   (nR (by simp only[cB];omega) (by simp only[cB];omega) (uS (by simp only[cB];omega)) (nR (by simp only[cB];omega) (by simp only[cB];omega) (uS (by simp only[cB];omega)) trivial)))
theorem Vl{o w s x:Int}(h0 : -43200<=o)(h1:o<=45000)(hw:0<=w)(Iz:w<=6)(hs:0<=s)(dx:s<=84600)(tP : -64800<=x)(nF:x<=64800)(iG : -86400<x-o)(fi:x-o<86400):MZ o [(2026,(2026,(1,(2,(w,(s,x))))))]:=by
 have b:=Ny (y:=2026) (m:=1) (k:=2) (w:=w) (by omega) (by omega) (by omega) (by omega);rw[n261]at b;have e:occs [((2026:Int),((2026:Int),((1:Int),((2:Int),(w,(s,x))))))]=[cB (2026,(2026,(1,(2,(w,(s,x)))))) 2026]:=by simp[occs,ff]
 refine⟨h0,h1,λr hr=>?_,by simp,by rw[e];simp,?_⟩
 .simp at hr;subst hr;constructor<;>(dsimp only;omega)
 .rw[e];have hi:dZ [cB (2026,(2026,(1,(2,(w,(s,x)))))) 2026]=[cB (2026,(2026,(1,(2,(w,(s,x)))))) 2026]:=by simp[dZ,iP,jZ]
  rw[hi];by_cases Vm:x=o
  .exact jyP Vm trivial
  .exact nR Vm (by simp only[cB];omega) DY trivial
theorem jCj{L:List Int}{a:Int}(h:du L a)(nm:ByteArray):∃o rs a',j5i L a nm=some ((nm,(o,rs)),L,a')/\MZ o rs/\du L a':=by
 obtain⟨p,a1,e1,m1,d1⟩:=mr h (xs:=[(0:Int),(4:Int),(-20:Int),(22:Int),(48:Int),(-47:Int)]) (by simp) (by simp);obtain⟨x2,a2,e2,x20,x21,d2⟩:=cO (n:=2) d1 (by omega) (by omega);obtain⟨x3,a3,e3,x30,x31,d3⟩:=cO (n:=3) d2 (by omega) (by omega);obtain⟨y,a4,e4,y0,y1,d4⟩:=cO (n:=2) d3 (by omega) (by omega);obtain⟨q,a5,e5,q0,q1,d5⟩:=cO (n:=4) d4 (by omega) (by omega);have hp : -47<=p/\p<=48:=by simp at m1;omega
 have hmul:0<=x2*x3/\x2*x3<=2:=by
  obtain rfl|rfl:x2=0\/x2=1:=by omega
  all_goals omega
 have lb : -43200<=900*(p+x2*x3):=by omega
 have jF:900*(p+x2*x3)<=45000:=by omega
 have dD:2025+y=2025\/2025+y=2026:=by omega
 simp only[j5i,e1,e2,e3,e4,e5,j3];rw[aj (x:=x2*x3) (by omega) (by omega),aj (x:=p+x2*x3) (by omega) (by omega),aj (x:=900*(p+x2*x3)) (by omega) (by omega),aj (x:=2025+y) (by omega) (by omega)];generalize 900*(p+x2*x3)=o at *;generalize 2025+y=last at *;by_cases xU:q=1
 .rw[cP xU,j5,aj (x:=o+3600) (by omega) (by omega)];exact⟨_,_,_,rfl,mz1 lb jF dD,d5⟩
 .rw[bW xU,j6];by_cases DZ:q=2
  .rw[cP DZ,j5];obtain⟨b1,c1,f1,b10,b11,g1⟩:=cO (n:=4) d5 (by omega) (by omega);obtain⟨b2,c2,f2,Ar,Nz,g2⟩:=cO (n:=7) g1 (by omega) (by omega);obtain⟨b3,c3,f3,NA,NB,g3⟩:=cO (n:=24) g2 (by omega) (by omega);obtain⟨b4,c4,f4,b40,b41,g4⟩:=cO (n:=8) g3 (by omega) (by omega);obtain⟨b5,c5,f5,b50,b51,g5⟩:=cO (n:=2) g4 (by omega) (by omega);obtain⟨b6,c6,f6,m6,g6⟩:=mr g5 (xs:=[(2:Int),(3:Int),(5:Int)]) (by simp) (by simp);obtain⟨b7,c7,f7,Vn,b71,g7⟩:=cO (n:=7) g6 (by omega) (by omega);obtain⟨b8,c8,f8,b80,b81,g8⟩:=cO (n:=24) g7 (by omega) (by omega);have h6:2<=b6/\b6<=5:=by simp at m6;omega
   simp only[f1,f2,f3,f4,f5,f6,f7,f8,j3]
   rw[aj (x:=1+b1) (by omega) (by omega),aj (x:=3600*b3) (by omega) (by omega),aj (x:=1+b4) (by omega) (by omega),aj (x:=1800*(1+b4)) (by omega) (by omega),aj (x:=o+1800*(1+b4)) (by omega) (by omega),
    aj (x:=2+b5) (by omega) (by omega),aj (x:=3600*b8) (by omega) (by omega)]
   exact⟨_,_,_,rfl,mz2 lb jF dD (by omega) (by omega) Ar (by omega) (by omega) (by omega) (by omega) (by omega) (by omega) h6.1 h6.2 Vn (by omega) (by omega) (by omega),g8⟩
  .rw[bW DZ,j6];by_cases D0:q=3
   .rw[cP D0,j5];obtain⟨b1,c1,f1,m1,g1⟩:=mr d5 (xs:=[(3600:Int),(-3600:Int),(82800:Int),(-82800:Int),(43200:Int)]) (by simp) (by simp);obtain⟨b2,c2,f2,Ar,Nz,g2⟩:=cO (n:=7) g1 (by omega) (by omega);obtain⟨b3,c3,f3,NA,NB,g3⟩:=cO (n:=48) g2 (by omega) (by omega);have dJ : -82800<=b1/\b1<=82800:=by simp at m1;omega
    simp only[f1,f2,f3,j3];rw[aj (x:=o+b1) (by omega) (by omega),aj (x:=1800*b3) (by omega) (by omega)];by_cases lg:o+b1>64800\/o+b1 < -64800
    .have hb:cond (decide (o+b1>64800)) true (decide (o+b1 < -64800))=true:=by
      rcases lg with lg|lg
      .rw[ag lg];rfl
      .rw[ag lg];cases decide (o+b1>64800)<;>rfl
     rw[hb,j5];exact⟨_,_,_,rfl,Vl lb jF Ar (by omega) (by omega) (by omega) (by omega) (by omega) (by omega) (by omega),g3⟩
    .rw[ah (show¬o+b1>64800 by omega),ah (show¬o+b1 < -64800 by omega)];simp only[j6];exact⟨_,_,_,rfl,Vl lb jF Ar (by omega) (by omega) (by omega) (by omega) (by omega) (by omega) (by omega),g3⟩
   .rw[bW D0,j6];exact⟨_,_,_,rfl,mz0 lb jF,d5⟩
theorem NC:∀(L:bE)(now:Int)(p:Option Int),Good now p L->∀i,i<(bX now L).length -> -86400<bB now (bX now L) (i+1)-bB now (bX now L) i/\bB now (bX now L) (i+1)-bB now (bX now L) i<86400
 |[],_,_,_,i,hi=>by simp[bX]at hi
 |x::r,now,p,h,i,hi=>by
  simp only[Good]at h;by_cases hx:x.2=now
  .rw[if_pos hx]at h;have e:bX now (x::r)=bX now r:=by simp[bX,hx]
   rw[e]at hi ⊢;exact NC r now p h i hi
  .rw[if_neg hx]at h;have e:bX now (x::r)=(x.1-now,x.2)::bX x.2 r:=by simp[bX,hx]
   rw[e]at hi ⊢;obtain⟨⟨g1,g2,_⟩,g8⟩:=h;cases i with
   |zero=>exact⟨g1,g2⟩
   |succ i=>
    have:=NC r x.2 _ g8 i (by simpa using hi);cases i with
    |zero=>exact this
    |succ i=>exact this
section
variable{o:Int}{l:bE}(h:iq o l)
include h
theorem GR{i j:Nat}{t:Int}(hi:i<=l.length)(hj:j<=l.length)(a1:bc l i<=t)(a2:t<bc l (i+1))(b1:bc l j<=t)(b2:t<bc l (j+1)):i=j:=by
 rcases Nat.lt_trichotomy i j with dP|dP|dP
 .have:=h.frm_le (i:=i+1) (j:=j) (by omega) (by omega);omega
 .exact dP
 .have:=h.frm_le (i:=j+1) (j:=i) (by omega) (by omega);omega
end
abbrev WL:=List (Int×Int)
def gW(p:Int):WL->Prop
 |[]=>p<=604800
 |x::r=>p<=x.1/\x.1<x.2/\x.2<=604800/\gW x.2 r
def hasB(s:Int):WL->Bool
 |[]=>false
 |x::r=>cond (cond (decide (x.1<=s)) (decide (s<x.2)) false) true (hasB s r)
theorem gW.weak{p q:Int}(hq:q<=p):∀{w:WL},gW p w->gW q w
 |[],h=>by show q<=604800;have:p<=604800:=h;omega
 |_::_,h=>⟨by have:=h.1;omega,h.2⟩
theorem As:∀{w:WL}{p:Int},gW p w->∀i,i<w.length->p<=(w.getD i (0,0)).1/\(w.getD i (0,0)).1<(w.getD i (0,0)).2/\(w.getD i (0,0)).2<=604800
 |[],_,_,i,hi=>by simp at hi
 |x::r,p,h,i,hi=>by
  obtain⟨h1,h2,h3,h4⟩:=h;cases i with
  |zero=>exact⟨h1,h2,h3⟩
  |succ i=>exact As (h4.weak (show p<=x.2 by omega)) i (by simpa using hi)
theorem ND:∀{w:WL}{p:Int},gW p w->∀i,i+1<w.length->(w.getD i (0,0)).2<=(w.getD (i+1) (0,0)).1
 |[],_,_,i,hi=>by simp at hi
 |x::[],_,_,i,hi=>by simp at hi
 |x::y::r,p,h,i,hi=>by
  cases i with
  |zero=>exact h.2.2.2.1
  |succ i=>exact ND h.2.2.2 i (by simpa using hi)
theorem Vo{L:List Int}:∀(n:Nat)(p a:Int)(acc:WL),du L a->0<=p->p<=604800->acc.length+n<=100->
  ∃w a',FW p (n:Int) L a acc=some (L,a',acc++w)/\gW p w/\w.length<=n/\du L a'
 |0,p,a,acc,hd,_,hp,_=>by
  rw[Tk];simp only[j37];rw[ah (by omega),j6,aU];exact⟨[],a,by simp,hp,by simp,hd⟩
 |n+1,p,a,acc,hd,pC,hp,ha=>by
  obtain⟨x,a1,e1,x0,x1,d1⟩:=cO (n:=30) hd (by omega) (by omega);obtain⟨y,a2,e2,y0,y1,d2⟩:=cO (n:=2) d1 (by omega) (by omega);obtain⟨q,a3,e3,m3,d3⟩:=mr d2 (xs:=[(3600:Int),(28800:Int),(43200:Int),(86400:Int),(61:Int),(1:Int)]) (by simp) (by simp);have hq:1<=q/\q<=86400:=by simp at m3;omega
  rw[Tk];simp only[j37];rw[ag (by omega)];simp only[j5,e1,e2,e3,j3];rw[aj (x:=3600*x) (by omega) (by omega),aj (x:=p+3600*x) (by omega) (by omega),aj (x:=60*y) (by omega) (by omega),aj (x:=p+3600*x+60*y) (by omega) (by omega),aj (x:=p+3600*x+60*y+q) (by omega) (by omega),aj (x:=((n+1:Nat):Int)-1) (by omega) (by omega)];by_cases lg:p+3600*x+60*y+q>604800
  .rw[ag lg,j5,aU];exact⟨[],a3,by simp,hp,by simp,d3⟩
  .rw[ah lg,ag (by simp[aY];omega)];simp only[j6,j5,aJ];obtain⟨w,a4,e4,hw,jH,d4⟩:=Vo n (p+3600*x+60*y+q) a3 (acc++[(p+3600*x+60*y,p+3600*x+60*y+q)]) d3 (by omega) (by omega) (by simp;omega);rw[show ((n+1:Nat):Int)-1=(n:Int) by omega];refine⟨(p+3600*x+60*y,p+3600*x+60*y+q)::w,a4,by rw[e4,jd];rfl,⟨by dsimp only;omega,by dsimp only;omega,by dsimp only;omega,hw⟩,by simp;omega,d4⟩
theorem NF{L:List Int}{a:Int}(h:du L a):∃w a',j5n L a=some (w,L,a')/\gW 0 w/\w.length<=3/\du L a':=by
 obtain⟨x,a1,e1,x0,x1,d1⟩:=cO (n:=4) h (by omega) (by omega);obtain⟨w,a',e2,h1,h2,h3⟩:=Vo x.toNat 0 a1 [] d1 (by omega) (by omega) (by simp;omega);rw[show ((x.toNat:Nat):Int)=x by omega,jo]at e2;simp only[j5n,e1,j3,e2];exact⟨w,a',rfl,h1,by omega,h3⟩
theorem Vp{L:List Int}{a:Int}(h:du L a):∃t a',j6L L a=some (t,L,a')/\1767139199<=t/\t<=1767139200+3600*575+3599/\du L a':=by
 obtain⟨x,a1,e1,x0,x1,d1⟩:=cO (n:=576) h (by omega) (by omega);obtain⟨y,a2,e2,y0,y1,d2⟩:=cO (n:=3) d1 (by omega) (by omega);obtain⟨q,a3,e3,m3,d3⟩:=mr d2 (xs:=[(-1:Int),(1:Int),(1800:Int),(3599:Int)]) (by simp) (by simp);have hq : -1<=q/\q<=3599:=by simp at m3;omega
 simp only[j6L,e1,j3,j1s,e2,e3];rw[aj (x:=3600*x) (by omega) (by omega),aj (x:=1767139200+3600*x) (by omega) (by omega),aj (x:=1767139200+3600*x+q) (by omega) (by omega)];cases (y==w64 (3-1)) with
 |true=>exact⟨_,_,rfl,by omega,by omega,d3⟩
 |false=>exact⟨_,_,rfl,by omega,by omega,d2⟩
theorem Vq{w:WL}(h:gW 0 w)(hl:w.length<=14):∀(n i:Nat),i+n=w.length->zN w w (w.length:Int) (i:Int)=some (.inr ())
 |0,i,hi=>by
  rw[Sv];simp only[j5P];rw[ah (by omega),j6,aU]
 |n+1,i,hi=>by
  have ih:=Vq h hl n (i+1) (by omega);have hg:=As h i (by omega);rw[Sv];simp only[j5P];rw[ag (show (i:Int)<(w.length:Int) by omega),aR (by omega) (by omega)];simp only[j5,j7];rw[ah (show¬(w.getD i ((0:Int),(0:Int))).1<0 by omega),ah (show¬(w.getD i ((0:Int),(0:Int))).1>=(w.getD i ((0:Int),(0:Int))).2 by omega),ah (show¬(w.getD i ((0:Int),(0:Int))).2>604800 by omega)];rw[aj (x:=(i:Int)+1) (by omega) (by omega)];simp only[j6];by_cases h0:i=0
  .rw[ah (by omega)];simp only[j6,aJ];exact ih
  .obtain⟨j,rfl⟩:∃j,i=j+1:=⟨i-1,by omega⟩;have NG:=ND h j (by omega);rw[ag (by omega),aj (x:=((j+1:Nat):Int)-1) (by omega) (by omega),aR (by omega) (by omega),show (((j+1:Nat):Int)-1).toNat=j by omega,ah (by omega)];simp only[j5,j6,aJ];exact ih
theorem Vr{w:WL}(h:gW 0 w)(hl:w.length<=14):j9V w=some 0:=by
 have:=Vq h hl w.length 0 (by omega);rw[show ((0:Nat):Int)=0 from rfl]at this;simp only[j9V,show Int.ofNat (List.length w)=(w.length:Int) from rfl];rw[ah (by omega),j6,this];rfl
abbrev bU:=ByteArray×(Int×List aO)
abbrev dH:=ByteArray×(Int×(WL×(Int×(Int×Bool))))
abbrev bt:=ByteArray×(Int×List Int)
abbrev bP:=ByteArray×(Int×((Int×Int)×(Int×(Int×(List Int×(WL×(Int×Int)))))))
abbrev cS:=ByteArray×(List bP×List (Int×(Int×(Int×(Int×Int)))))
def iu(z:bU):Prop:=MZ z.2.1 z.2.2
theorem Au{L:List Int}{a n:Int}(h:du L a)(hn:1<=n)(GN:n<=1000000):∃b a',j1s L a n=some (b,L,a')/\du L a':=by
 obtain⟨x,a1,e1,x0,x1,d1⟩:=cO (n:=n) h (by omega) (by omega);simp only[j1s,e1,j3];exact⟨_,_,rfl,d1⟩
structure D1(zs:List bU)(ps:List dH)(cs:List bt):Prop where
 z0:1<=zs.length
 z1:zs.length<=2
 ok:∀z∈zs,iu z
 p0:1<=ps.length
 p1:ps.length<=4
 c1:cs.length<=1
structure NH(l:bP):Prop where
 d0:20452<=l.2.2.1.1
 d1:l.2.2.1.1<=20457
 c0:0<=l.2.2.1.2
 c1:l.2.2.1.2<=79200
 u0:0<=l.2.2.2.1
 u1:l.2.2.2.1<=2
 e0:1<=l.2.2.2.2.1
 e1:l.2.2.2.2.1<=49
 e2:l.2.2.2.1≠0->l.2.2.2.2.1<=2
 m0:1<=l.2.2.2.2.2.1.length
 m1:l.2.2.2.2.2.1.length<=3
end Go.Proofs.Pw
