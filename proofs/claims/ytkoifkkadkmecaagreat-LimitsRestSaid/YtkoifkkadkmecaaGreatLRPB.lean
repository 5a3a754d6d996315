/- iq 4: the transitions of a zone. -/
import Derived.Test.YtkoifkkadkmecaaGreatLRPA
open _root_ renaming Int->u,ByteArray->A,List->D,Nat->E,Option->G
open Option renaming some->B,none->M
open List renaming length->F,range->H
open Go Go.Lft
namespace Go.Proofs.Pw
abbrev aN:=u×(u×(u×(u×(u×(u×u)))))
theorem mO{n lo hi:u}(h1:lo<=n)(h2:n<=hi):jcT n lo hi=B true:=by
 simp only[jcT];rw[ah (show n>=lo from h1),ah h2];rfl
structure mP(r:aN):Prop where
 y0:1970<=r.1
 y1:r.1<=r.2.1
 y2:r.2.1<=2240
 m0:1<=r.2.2.1
 m1:r.2.2.1<=12
 k0:1<=r.2.2.2.1
 k1:r.2.2.2.1<=5
 d0:0<=r.2.2.2.2.1
 d1:r.2.2.2.2.1<=6
 s0:0<=r.2.2.2.2.2.1
 s1:r.2.2.2.2.2.1<=86399
 o0 : -64800<=r.2.2.2.2.2.2
 o1:r.2.2.2.2.2.2<=64800
theorem jEE{r:aN}(h:mP r):ji9 r=B 0:=by
 simp only[ji9,mO h.y0 (show r.1<=2240 by have:=h.y1;have:=h.y2;omega),mO h.y1 h.y2,mO h.m0 h.m1,mO h.k0 h.k1,mO h.d0 h.d1,mO h.s0 h.s1,mO h.o0 h.o1,j4,jl,j7]
theorem RQ{y m k w:u}(_h1:1970<=y)(_h2:y<=2240)(fw:1<=m)(iQ:m<=12)(dE:1<=k)(gy:k<=5):num y m 1<=nth y m k w/\nth y m k w<num y m 1+gh y m\/nth y m k w<num y m 1+35/\num y m 1<=nth y m k w:=by
 right;have hd:=GH y m fw iQ;unfold nth;dsimp only;split<;>omega
def cQ(r:aN)(y:u):u×Int:=(nth y r.2.2.1 r.2.2.2.1 r.2.2.2.2.1*86400+r.2.2.2.2.2.1,r.2.2.2.2.2.2)
def gv(r:aN):bI:=(H (r.2.1-r.1+1).toNat).map λ(i:E)=>cQ r (r.1+(i:u))
def occs(l:D aN):bI:=l.flatMap gv
theorem jA7{r:aN}(h:mP r){y:u}(h1:1970<=y)(h2:y<=2240):0<=(cQ r y).1/\(cQ r y).1<=10000000000:=by
 have hv:=GI (GJ y r.2.2.1 h1 h2 h.m0 h.m1);have kF:=h.s0;have nu:=h.s1;have:=RQ (w:=r.2.2.2.2.1) h1 h2 h.m0 h.m1 h.k0 h.k1;have hd:=tW y r.2.2.1;unfold cQ;dsimp only;omega
theorem jEF{r:aN}(h:mP r):Sm (gv r):=by
 intro x hx;obtain⟨i,hi,rfl⟩:=jz.1 hx;have hi:=List.mem_range.1 hi;have h0:=h.y0;have h2:=h.y2;have:=jA7 h (y:=r.1+(i:u)) omg_ omg_;omega
theorem jEG{l:D aN}(h:∀r∈l,mP r):Sm (occs l):=by
 intro x hx;obtain⟨r,hr,hx⟩:=qg.1 hx;exact jEF (h r hr) x hx
theorem _H{r:aN}(h:mP r)(rs:D aN)(a b:u):∀(n:E)(i:E)(acc:bI),r.1+(i:u)+n=r.2.1+1->acc.length+n<=100000->
  Ja (r.1+(i:u)) rs a b r.1 r.2.1 r.2.2.1 r.2.2.2.1 r.2.2.2.2.1 r.2.2.2.2.2.1 r.2.2.2.2.2.2 acc=B (rs,a,b,acc++(H n).map λ(j:E)=>cQ r (r.1+(i:u)+(j:u)))
 |0,i,acc,hi,_=>by
  rw[XE];simp only[j2P];rw[ai omg_,j7,aP];simp
 |n+1,i,acc,hi,hl=>by
  have h0:=h.y0;have h2:=h.y2;have kF:=h.s0;have nu:=h.s1;have hv:=GI (GJ (r.1+(i:u)) r.2.2.1 omg_ omg_ h.m0 h.m1);have hn:=RQ (w:=r.2.2.2.2.1) (y:=r.1+(i:u)) omg_ omg_ h.m0 h.m1 h.k0 h.k1;have hd:=tW (r.1+(i:u)) r.2.2.1;rw[XE];simp only[j2P];rw[ah (show r.1+(i:u)<=r.2.1 by omega),jFY _ _ _ _ omg_ omg_ h.m0 h.m1 h.k0 h.k1 h.d0 h.d1];simp only[j6,j4]
  rw[aj (x:=nth (r.1+(i:u)) r.2.2.1 r.2.2.2.1 r.2.2.2.2.1*86400),aj (x:=nth (r.1+(i:u)) r.2.2.1 r.2.2.2.1 r.2.2.2.2.1*86400+r.2.2.2.2.2.1),
   aj (x:=r.1+(i:u)+1)]
  rw[ah (by simp[aG];omega)];simp only[j6,aB];have ih:=_H h rs a b n (i+1) (acc++[cQ r (r.1+(i:u))]) omg_ sqo_;rw[show r.1+(i:u)+1=r.1+((i+1:E):u) by omega];refine ih.trans ?_
  have Bm:(H n).map (λ(j:E)=>cQ r (r.1+((i+1:E):u)+(j:u)))=(H n).map ((λ(j:E)=>cQ r (r.1+(i:u)+(j:u))) ∘ Nat.succ):=List.map_congr_left λj _=>by
   simp only[Function.comp];congr 1;omega
  rw[List.range_succ_eq_map,qf,List.map_map,Bm];simp
theorem _I{rs:D aN}(h:∀r∈rs,mP r)(hlen:rs.length<=100):∀(n i:E)(acc:bI),i+n=rs.length->acc.length<=300*i->
  E3 rs (rs.length:u) (i:u) acc=B (acc++occs (rs.drop i))
 |0,i,acc,hi,_=>by
  rw[XF];simp only[j2Q];rw[ai omg_,j7,aP,jd omg_];simp[occs]
 |n+1,i,acc,hi,hl=>by
  have aq:i<rs.length:=omg_;have hr:=h rs[i] (jf aq);have h0:=hr.y0;have h1:=hr.y1;have h2:=hr.y2;have hg:rs.getD i ((0:u),((0:u),((0:u),((0:u),((0:u),((0:u),(0:u)))))))=rs[i]:=by simp[aq]
  have wT:=_H hr rs (rs.length:u) (i:u) (rs[i].2.1-rs[i].1+1).toNat 0 acc omg_ omg_;rw[show rs[i].1+((0:E):u)=rs[i].1 by omega]at wT;have ih:=_I h hlen n (i+1) (acc++gv rs[i]) omg_ (by simp[gv];omega);rw[XF];simp only[j2Q];rw[ah (show (i:u)<(rs.length:u) by omega),bJ];simp only[j6,j8,hg,wT,j4];rw[aj,aB,jb aq];refine ih.trans ?_;rw[jh];rfl
theorem _J{rs:D aN}(h:∀r∈rs,mP r)(hlen:rs.length<=100)(nm:A)(o:u):∀(n i:E)(s:u),i+n=rs.length->0<=s->s<=300*i->
  E0 s rs (rs.length:u) (i:u) nm o rs=B (.inr (s+((occs (rs.drop i)).length:u),nm,o,rs))
 |0,i,s,hi,_,_=>by
  rw[XC];simp only[j2O];rw[ai omg_,j7,aP,jd omg_];simp[occs]
 |n+1,i,s,hi,kF,nu=>by
  have aq:i<rs.length:=omg_;have hr:=h rs[i] (jf aq);have h0:=hr.y0;have h1:=hr.y1;have h2:=hr.y2;have hg:rs.getD i ((0:u),((0:u),((0:u),((0:u),((0:u),((0:u),(0:u)))))))=rs[i]:=by simp[aq]
  have ih:=_J h hlen nm o n (i+1) (s+(rs[i].2.1-rs[i].1+1)) omg_ omg_ omg_;have tX:ji9 (rs[i].1,(rs[i].2.1,(rs[i].2.2.1,(rs[i].2.2.2.1,(rs[i].2.2.2.2.1,(rs[i].2.2.2.2.2.1,rs[i].2.2.2.2.2.2))))))=B 0:=jEE hr;rw[XC];simp only[j2O];rw[ah (show (i:u)<(rs.length:u) by omega),bJ];simp only[j6,j8,hg,tX,j4,jk,j7];rw[aj (x:=rs[i].2.1-rs[i].1),aj (x:=rs[i].2.1-rs[i].1+1),aj (x:=s+(rs[i].2.1-rs[i].1+1)),aj (x:=(i:u)+1),aB];refine ih.trans ?_;rw[jb aq]
  have:((occs (rs[i]::rs.drop (i+1))).length:u)=(rs[i].2.1-rs[i].1+1)+((occs (rs.drop (i+1))).length:u):=by
   have e1:(gv rs[i]).length=(rs[i].2.1-rs[i].1+1).toNat:=by simp[gv]
   show ((gv rs[i]++occs (rs.drop (i+1))).length:u)=_;rw[jc,e1];omega
  rw[this];congr 3;omega
theorem jpM{nm:A}{o:u}{rs:D aN}(h:∀r∈rs,mP r)(nQ : -64800<=o)(mK:o<=64800)(hlen:rs.length<=16)(hn:(occs rs).length<20):j9S (nm,(o,rs))=B (fk (occs rs),0):=by
 have e0:=_J h omg_ nm o rs.length 0 0 omg_ omg_ omg_;have e2:=_I h omg_ rs.length 0 [] omg_ smp_;rw[jr]at e0 e2;simp only[j9S,mO nQ mK,j4,jl,j7,show Int.ofNat (F rs)=(rs.length:u) from rfl];rw[ai (show¬(rs.length:u)>16 by omega),j7,show E0 0 rs (rs.length:u) 0 nm o rs=_ from e0];simp only[j4,kV];rw[ai omg_,j7,oLn_ rs,show E3 rs (rs.length:u) 0 []=_ from e2];simp only[j4,jp,jrT (jEG h) hn]
def cw(now:u):bI->bI
 |[]=>[]
 |x::r=>if x.2=now then cw now r else (x.1-now,x.2)::cw x.2 r
def Good(now:u)(p:G u):bI->Prop
 |[]=>True
 |x::r=>if x.2=now then Good now p r else (-86400<x.2-now/\x.2-now<86400/\1000000<x.1-now/\x.1-now<=8589000000/\(∀q,p=B q->q+604800<=x.1-now) /\ -64800<=x.2/\x.2<=64800)/\Good x.2 (B (x.1-now)) r
theorem RR(L:bI)(hL:L.length<=1000):∀(n i:E)(now:u)(acc:bI),i+n=L.length -> -64800<=now->now<=64800->acc.length<=i->(∀x∈acc,0<=x.1/\x.1<=8589934592)->Good now (acc.getLast?.map (·.1)) (L.drop i)->
  E4 now (L.length:u) (i:u) acc L=B (.inr (acc++cw now (L.drop i)))
 |0,i,now,acc,hi,_,_,_,_,_=>by
  rw[XG];simp only[j2R];rw[ai omg_,j7,aP,jd omg_];simp[cw]
 |n+1,i,now,acc,hi,oh,Bn,uO,dQ,hg=>by
  have aq:i<L.length:=omg_;rw[jb aq]at hg ⊢;have aT:L.getD i ((0:u),(0:u))=L[i]:=by simp[aq]
  rw[XG];simp only[j2R];rw[ah (show (i:u)<(L.length:u) by omega),bJ];simp only[j6,j8,aT];generalize L[i]=x at *;rw[aj (x:=(i:u)+1)];simp only[Good]at hg;by_cases hx:x.2=now
  .rw[if_pos hx]at hg;rw[cR hx];simp only[j6,aB,cw];rw[if_pos hx];exact RR L hL n (i+1) now acc omg_ oh Bn omg_ dQ hg
  .rw[if_neg hx]at hg;obtain⟨⟨g1,g2,g3,g4,g5,g6,g7⟩,g8⟩:=hg;rw[ca hx,aj (x:=x.1-now),aj (x:=x.2-now),ai (show¬x.2-now>=86400 by omega),ai (show¬x.2-now <= -86400 by omega)];simp only[j7,mO (show (0:u)<=x.1-now by omega) (show x.1-now<=8589934592 by omega),j4,jl,jv,ym,show Int.ofNat (F acc)=(acc.length:u) from rfl];rw[aj (x:=(acc.length:u)-1)]
   have il:=RR L hL n (i+1) x.2 (acc++[(x.1-now,x.2)]) omg_ g6 g7 sqo_
    (λy hy=>by
     rcases jj.1 hy with hy|hy
     .exact dQ y hy
     .simp at hy;subst hy;exact⟨by show (0:u)<=x.1-now;omega,by show x.1-now<=8589934592;omega⟩) (by simpa using g8)
   have dD:cw now (x::L.drop (i+1))=(x.1-now,x.2)::cw x.2 (L.drop (i+1)):=by simp[cw,hx]
   rw[dD];rw[jh]at il;by_cases ha:acc=[]
   .subst ha;simp only[jw];rw[show inR (((0:E):u)-1) 0=false from rfl,show decide (((0:E):u)>0)=false from rfl];simp only[jv,j6,j7,Bool.or_true];rw[ah (by simp[aG])];simp only[j6,aB];exact il
   .have cq:0<acc.length:=q9.2 ha;have cG:acc.getLast? = B (acc.getD (acc.length-1) (0,0)):=by rw[List.getLast?_eq_getElem?,List.getD_eq_getElem?_getD,jm (show acc.length-1<acc.length by omega)];rfl
    rw[cG]at g5;have g5:(acc.getD (acc.length-1) ((0:u),(0:u))).1+604800<=x.1-now:=g5 _ rfl;have hb:=dQ (acc.getD (acc.length-1) (0,0)) (List.mem_of_getLast? cG);rw[bJ,ah (show (acc.length:u)>0 by omega),show ((acc.length:u)-1).toNat=acc.length-1 by omega];simp only[qz,j6];rw[aj,ai (show¬x.1-now<(acc.getD (acc.length-1) ((0:u),(0:u))).1+604800 by omega),ah (by simp[aG];omega)];simp only[j6,j7,aB];exact il
def KU(p:G u):bI->Prop
 |[]=>True
 |x::r=>(1000000<x.1/\x.1<=8589000000/\(∀q,p=B q->q+604800<=x.1) /\ -64800<=x.2/\x.2<=64800)/\KU (B x.1) r
theorem RS:∀(L:bI)(now:u)(p:G u),Good now p L->KU p (cw now L)
 |[],_,_,_=>trivial
 |x::r,now,p,h=>by
  simp only[Good]at h;by_cases hx:x.2=now
  .rw[if_pos hx]at h;simp only[cw];rw[if_pos hx];exact RS r now p h
  .rw[if_neg hx]at h;simp only[cw];rw[if_neg hx];obtain⟨⟨g1,g2,g3,g4,g5,g6,g7⟩,g8⟩:=h;exact⟨⟨g3,g4,g5,g6,g7⟩,RS r x.2 _ g8⟩
theorem KV:∀(L:bI)(now:u),(cw now L).length<=L.length
 |[],_=>jn _
 |x::r,now=>by
  simp only[cw];split
  .have:=KV r now;simp;omega
  .have:=KV r x.2;simp;omega
theorem _K:∀(l:bI)(p:G u),KU p l->(∀i,i+1<l.length->gg l i+604800<=gg l (i+1))/\(∀i,i<l.length->1000000<gg l i/\gg l i<=8589000000)/\
  (∀o i, -64800<=o->o<=64800->i<=l.length -> -64800<=bu o l i/\bu o l i<=64800)
 |[],_,_=>⟨λi h=>by simp at h,λi h=>by simp at h,λo i h1 h2 h3=>by
  have:i=0:=by simpa using h3
  subst this;exact⟨h1,h2⟩⟩
 |x::r,p,h=>by
  obtain⟨⟨g3,g4,g5,g6,g7⟩,g8⟩:=h;obtain⟨h1,h2,h3⟩:=_K r _ g8;refine⟨λi hi=>?_,λi hi=>?_,λo i nQ mK hi=>?_⟩
  .cases i with
   |zero=>
    cases r with
    |nil=>simp at hi
    |cons y ys=>have:=g8.1.2.2.1 _ rfl;exact this
   |succ i=>exact h1 i (by simp at hi ⊢;omega)
  .cases i with
   |zero=>exact⟨g3,g4⟩
   |succ i=>exact h2 i (by simp at hi ⊢;omega)
  .cases i with
   |zero=>exact⟨nQ,mK⟩
   |succ i=>
    cases i with
    |zero=>exact⟨g6,g7⟩
    |succ i=>exact h3 x.2 (i+1) g6 g7 (by simp at hi ⊢;omega)
theorem jEH{o:u}{l:bI}(h:KU M l)(hl:l.length<=1000)(h0 : -64800<=o)(h1:o<=64800):iU o l:=by
 obtain⟨a,b,c⟩:=_K l M h;exact⟨hl,a,λi hi=>(b i hi).1,λi hi=>(b i hi).2,λi hi=>(c o i h0 h1 hi).1,λi hi=>(c o i h0 h1 hi).2⟩
def tY(z:A×(u×D aN))(l:bI):Prop:=j4A z=B (l,0)/\iU z.2.1 l
theorem jEI{nm:A}{o:u}{rs:D aN}(h:∀r∈rs,mP r)(nQ : -64800<=o)(mK:o<=64800)(hlen:rs.length<=16)(hn:(occs rs).length<20)(hg:Good o M (fk (occs rs))):tY (nm,(o,rs)) (cw o (fk (occs rs))):=by
 have hl:(fk (occs rs)).length<=1000:=by simp[fk,GG];omega
 refine⟨?_,jEH (RS _ _ _ hg) (by have:=KV (fk (occs rs)) o;omega) nQ mK⟩;have:=RR (fk (occs rs)) hl (fk (occs rs)).length 0 o [] omg_ nQ mK smp_ smp_ hg;simp only[j4A,jpM h nQ mK hlen hn,j4,jk,j7,show Int.ofNat (F (fk (occs rs)))=((fk (occs rs)).length:u) from rfl];rw[jr]at this;rw[show E4 o ((fk (occs rs)).length:u) 0 [] (fk (occs rs))=_ from this];rfl
theorem jHA{z:A×(u×D aN)}{l:bI}(h:tY z l):joi z=B ((z.2.1,l),0):=by
 simp only[joi,show j4A (z.1,(z.2.1,z.2.2))=_ from h.1,j4]
theorem _L{y m k w:u}(fw:1<=m)(iQ:m<=12)(dE:2<=k)(gy:k<=5):num y m 1+7<=nth y m k w/\nth y m k w<=num y m 1+34:=by
 have hd:=GH y m fw iQ;unfold nth;dsimp only;split<;>omega
theorem RT{y m k w:u}(fw:1<=m)(iQ:m<=12)(dE:1<=k)(gy:k<=4):num y m 1<=nth y m k w/\nth y m k w<=num y m 1+27:=by
 have hd:=GH y m fw iQ;unfold nth;dsimp only;split<;>omega
theorem _M{a b:u×u}(h:a.1<b.1):fk [a,b]=[a,b]:=by
 simp[fk,l9,nf,show¬b.1<a.1 by omega]
theorem _N{a b c d:u×u}(h1:a.1<c.1)(h2:c.1<b.1)(h3:b.1<d.1):fk [a,b,c,d]=[a,c,b,d]:=by
 simp[fk,l9,nf,show¬b.1<a.1 by omega,h2,show¬c.1<a.1 by omega,show¬d.1<b.1 by omega]
theorem _O(r1 r2:aN)(h1:r1.1=2025)(h2:r1.2.1=2025)(h3:r2.1=2025)(h4:r2.2.1=2025):occs [r1,r2]=[cQ r1 2025,cQ r2 2025]:=by
 simp[occs,gv,h1,h2,h3,h4]
theorem _P(r1 r2:aN)(h1:r1.1=2025)(h2:r1.2.1=2026)(h3:r2.1=2025)(h4:r2.2.1=2026):occs [r1,r2]=[cQ r1 2025,cQ r1 2026,cQ r2 2025,cQ r2 2026]:=by
 simp[occs,gv,h1,h2,h3,h4,List.range_succ]
theorem rj{now:u}{p:G u}{x:u×u}{r:bI}(hx:x.2≠now)(h : -86400<x.2-now/\x.2-now<86400/\1000000<x.1-now/\x.1-now<=8589000000 /\ -64800<=x.2/\x.2<=64800)
  (hp:∀q,p=B q->q+604800<=x.1-now)(hr:Good x.2 (B (x.1-now)) r):Good now p (x::r):=by
 simp only[Good];rw[if_neg hx];exact⟨⟨h.1,h.2.1,h.2.2.1,h.2.2.2.1,hp,h.2.2.2.2.1,h.2.2.2.2.2⟩,hr⟩
theorem jAa{now:u}{p:G u}{x:u×u}{r:bI}(hx:x.2=now)(hr:Good now p r):Good now p (x::r):=by
 simp only[Good];rw[if_pos hx];exact hr
theorem GK{P:u->Prop}:∀q,(M:G u)=B q->P q:=λ_ h=>by simp at h
theorem yT{P:u->Prop}{a:u}(h:P a):∀q,B a=B q->P q:=λq hq=>by simp at hq;subst hq;exact h
theorem n251:num 2025 1 1=20089:=by decide
theorem n261:num 2026 1 1=20454:=by decide
theorem n252:num 2025 2 1=20120:=by decide
theorem n253:num 2025 3 1=20148:=by decide
theorem n262:num 2026 2 1=20485:=by decide
theorem n263:num 2026 3 1=20513:=by decide
structure MZ(o:u)(rs:D aN):Prop where
 o0 : -64800<=o
 o1:o<=64800
 ok:∀r∈rs,mP r
 len:rs.length<=2
 yr:∀r∈rs,2025<=r.1
 few:(occs rs).length<=4
 good:Good o M (fk (occs rs))
theorem MZ.tab{o:u}{rs:D aN}(h:MZ o rs)(nm:A):tY (nm,(o,rs)) (cw o (fk (occs rs))):=
 jEI h.ok (by have:=h.o0;omega) (by have:=h.o1;omega) (by have:=h.len;omega) (by have:=h.few;omega) h.good
theorem mz0{o:u}(h0 : -43200<=o)(h1:o<=45000):MZ o []:=⟨omg_,omg_,smp_,smp_,smp_,by decide,trivial⟩
theorem _Q{r1 r2:aN}(h1:mP r1)(h2:mP r2):∀r∈[r1,r2],mP r:=by
 intro r hr;simp at hr;rcases hr with rfl|rfl
 .exact h1
 .exact h2
theorem mz1{o last:u}(h0 : -43200<=o)(h1:o<=45000)(hl:last=2025\/last=2026):MZ o [(2025,(last,(3,(5,(6,(7200,o+3600)))))),(2025,(last,(10,(5,(6,(10800,o))))))]:=by
 have a1:nth 2025 3 5 6=20177:=by decide
 have a2:nth 2025 10 5 6=20387:=by decide
 have a3:nth 2026 3 5 6=20541:=by decide
 have a4:nth 2026 10 5 6=20751:=by decide
 have bX:=_Q (r1:=(2025,(last,(3,(5,(6,(7200,o+3600))))))) (r2:=(2025,(last,(10,(5,(6,(10800,o))))))) (by constructor<;>(dsimp only;omega)) (by constructor<;>(dsimp only;omega));rcases hl with rfl|rfl
 .have e:=_O (2025,(2025,(3,(5,(6,(7200,o+3600)))))) (2025,(2025,(10,(5,(6,(10800,o)))))) rfl rfl rfl rfl;refine⟨omg_,omg_,bX,smp_,smp_,by rw[e];simp,?_⟩;rw[e,_M (by simp only[cQ];omega)];refine rj (by simp only[cQ];omega) (by simp only[cQ];omega) GK (rj (by simp only[cQ];omega) (by simp only[cQ];omega) (yT (by simp only[cQ];omega)) trivial)
 .have e:=_P (2025,(2026,(3,(5,(6,(7200,o+3600)))))) (2025,(2026,(10,(5,(6,(10800,o)))))) rfl rfl rfl rfl;refine⟨omg_,omg_,bX,smp_,smp_,by rw[e];simp,?_⟩;rw[e,_N (by simp only[cQ];omega) (by simp only[cQ];omega) (by simp only[cQ];omega)]
  refine rj (by simp only[cQ];omega) (by simp only[cQ];omega) GK (rj (by simp only[cQ];omega) (by simp only[cQ];omega) (yT (by simp only[cQ];omega))
   (rj (by simp only[cQ];omega) (by simp only[cQ];omega) (yT (by simp only[cQ];omega)) (rj (by simp only[cQ];omega) (by simp only[cQ];omega) (yT (by simp only[cQ];omega)) trivial)))
theorem mz2{o last k1 w1 s1 c m2 k2 w2 s2:u}(h0 : -43200<=o)(h1:o<=45000)(hl:last=2025\/last=2026)(hk:1<=k1)(bH:k1<=4)(hw:0<=w1)(MW:w1<=6)(hs:0<=s1)(cW:s1<=82800)(hc:1800<=c)(fP:c<=14400)
  (hm:m2=2\/m2=3)(hj:2<=k2)(fS:k2<=5)(hx:0<=w2)(iD:w2<=6)(ht:0<=s2)(uJ:s2<=82800):MZ o [(2025,(last,(1,(k1,(w1,(s1,o+c)))))),(2025,(last,(m2,(k2,(w2,(s2,o))))))]:=by
 have bX:=_Q (r1:=(2025,(last,(1,(k1,(w1,(s1,o+c))))))) (r2:=(2025,(last,(m2,(k2,(w2,(s2,o))))))) (by constructor<;>(dsimp only;omega)) (by constructor<;>(dsimp only;omega));have b1:=RT (y:=2025) (m:=1) (k:=k1) (w:=w1) omg_ omg_ hk bH;have b2:=RT (y:=2026) (m:=1) (k:=k1) (w:=w1) omg_ omg_ hk bH;have b3:=_L (y:=2025) (m:=m2) (k:=k2) (w:=w2) omg_ omg_ hj fS;have b4:=_L (y:=2026) (m:=m2) (k:=k2) (w:=w2) omg_ omg_ hj fS;have c1:20120<=num 2025 m2 1/\num 2025 m2 1<=20148:=by rcases hm with rfl|rfl<;>simp[n252,n253]
 have c2:20485<=num 2026 m2 1/\num 2026 m2 1<=20513:=by rcases hm with rfl|rfl<;>simp[n262,n263]
 rw[n251]at b1;rw[n261]at b2;rcases hl with rfl|rfl
 .have e:=_O (2025,(2025,(1,(k1,(w1,(s1,o+c)))))) (2025,(2025,(m2,(k2,(w2,(s2,o)))))) rfl rfl rfl rfl;refine⟨omg_,omg_,bX,smp_,smp_,by rw[e];simp,?_⟩;rw[e,_M (by simp only[cQ];omega)];refine rj (by simp only[cQ];omega) (by simp only[cQ];omega) GK (rj (by simp only[cQ];omega) (by simp only[cQ];omega) (yT (by simp only[cQ];omega)) trivial)
 .have e:=_P (2025,(2026,(1,(k1,(w1,(s1,o+c)))))) (2025,(2026,(m2,(k2,(w2,(s2,o)))))) rfl rfl rfl rfl;refine⟨omg_,omg_,bX,smp_,smp_,by rw[e];simp,?_⟩;rw[e,_N (by simp only[cQ];omega) (by simp only[cQ];omega) (by simp only[cQ];omega)]
  refine rj (by simp only[cQ];omega) (by simp only[cQ];omega) GK (rj (by simp only[cQ];omega) (by simp only[cQ];omega) (yT (by simp only[cQ];omega))
   (rj (by simp only[cQ];omega) (by simp only[cQ];omega) (yT (by simp only[cQ];omega)) (rj (by simp only[cQ];omega) (by simp only[cQ];omega) (yT (by simp only[cQ];omega)) trivial)))
theorem _R{o w s x:u}(h0 : -43200<=o)(h1:o<=45000)(hw:0<=w)(MW:w<=6)(hs:0<=s)(cW:s<=84600)(rW : -64800<=x)(qT:x<=64800)(jB : -86400<x-o)(fL:x-o<86400):MZ o [(2026,(2026,(1,(2,(w,(s,x))))))]:=by
 have b:=RT (y:=2026) (m:=1) (k:=2) (w:=w) omg_ omg_ omg_ omg_;rw[n261]at b;have e:occs [((2026:u),((2026:u),((1:u),((2:u),(w,(s,x))))))]=[cQ (2026,(2026,(1,(2,(w,(s,x)))))) 2026]:=by simp[occs,gv]
 refine⟨omg_,omg_,λr hr=>?_,smp_,smp_,by rw[e];simp,?_⟩
 .simp at hr;subst hr;constructor<;>(dsimp only;omega)
 .rw[e];have hi:fk [cQ (2026,(2026,(1,(2,(w,(s,x)))))) 2026]=[cQ (2026,(2026,(1,(2,(w,(s,x)))))) 2026]:=by simp[fk,l9,nf]
  rw[hi];by_cases _S:x=o
  .exact jAa _S trivial
  .exact rj _S (by simp only[cQ];omega) GK trivial
theorem jEJ{L:D u}{a:u}(h:dT L a)(nm:A):∃o rs a',j58 L a nm=B ((nm,(o,rs)),L,a')/\MZ o rs/\dT L a':=by
 obtain⟨p,a1,e1,m1,d1⟩:=po h (xs:=[(0:u),(4:u),(-20:u),(22:u),(48:u),(-47:u)]) smp_ smp_;obtain⟨x2,a2,e2,x20,x21,d2⟩:=dt (n:=2) d1 omg_ omg_;obtain⟨x3,a3,e3,x30,x31,d3⟩:=dt (n:=3) d2 omg_ omg_;obtain⟨y,a4,e4,y0,y1,d4⟩:=dt (n:=2) d3 omg_ omg_;obtain⟨q,a5,e5,q0,q1,d5⟩:=dt (n:=4) d4 omg_ omg_;have hp : -47<=p/\p<=48:=by simp at m1;omega
 have hmul:0<=x2*x3/\x2*x3<=2:=by obtain rfl|rfl:x2=0\/x2=1:=omg_;all_goals omega
 have nQ : -43200<=900*(p+x2*x3):=omg_;have mK:900*(p+x2*x3)<=45000:=omg_;have cG:2025+y=2025\/2025+y=2026:=omg_;simp only[j58,e1,e2,e3,e4,e5,j4];rw[aj (x:=x2*x3),aj (x:=p+x2*x3),aj (x:=900*(p+x2*x3)),aj (x:=2025+y)];generalize 900*(p+x2*x3)=o at *;generalize 2025+y=last at *;by_cases Bo:q=1
 .rw[cR Bo,j6,aj (x:=o+3600)];exact⟨_,_,_,rfl,mz1 nQ mK cG,d5⟩
 .rw[ca Bo,j7];by_cases GL:q=2
  .rw[cR GL,j6];obtain⟨b1,c1,f1,b10,b11,g1⟩:=dt (n:=4) d5 omg_ omg_;obtain⟨b2,c2,f2,CX,RU,g2⟩:=dt (n:=7) g1 omg_ omg_;obtain⟨b3,c3,f3,RW,RX,g3⟩:=dt (n:=24) g2 omg_ omg_;obtain⟨b4,c4,f4,b40,b41,g4⟩:=dt (n:=8) g3 omg_ omg_;obtain⟨b5,c5,f5,b50,b51,g5⟩:=dt (n:=2) g4 omg_ omg_;obtain⟨b6,c6,f6,m6,g6⟩:=po g5 (xs:=[(2:u),(3:u),(5:u)]) smp_ smp_;obtain⟨b7,c7,f7,_T,b71,g7⟩:=dt (n:=7) g6 omg_ omg_;obtain⟨b8,c8,f8,b80,b81,g8⟩:=dt (n:=24) g7 omg_ omg_;have h6:2<=b6/\b6<=5:=by simp at m6;omega
   simp only[f1,f2,f3,f4,f5,f6,f7,f8,j4]
   rw[aj (x:=1+b1),aj (x:=3600*b3),aj (x:=1+b4),aj (x:=1800*(1+b4)),aj (x:=o+1800*(1+b4)),
    aj (x:=2+b5),aj (x:=3600*b8)]
   exact⟨_,_,_,rfl,mz2 nQ mK cG omg_ omg_ CX omg_ omg_ omg_ omg_ omg_ omg_ h6.1 h6.2 _T omg_ omg_ omg_,g8⟩
  .rw[ca GL,j7];by_cases GM:q=3
   .rw[cR GM,j6];obtain⟨b1,c1,f1,m1,g1⟩:=po d5 (xs:=[(3600:u),(-3600:u),(82800:u),(-82800:u),(43200:u)]) smp_ smp_;obtain⟨b2,c2,f2,CX,RU,g2⟩:=dt (n:=7) g1 omg_ omg_;obtain⟨b3,c3,f3,RW,RX,g3⟩:=dt (n:=48) g2 omg_ omg_;have dR : -82800<=b1/\b1<=82800:=by simp at m1;omega
    simp only[f1,f2,f3,j4];rw[aj (x:=o+b1),aj (x:=1800*b3)];by_cases nR:o+b1>64800\/o+b1 < -64800
    .have hb:cond (decide (o+b1>64800)) true (decide (o+b1 < -64800))=true:=by
      rcases nR with nR|nR
      .rw[ah nR];rfl
      .rw[ah nR];cases decide (o+b1>64800)<;>rfl
     rw[hb,j6];exact⟨_,_,_,rfl,_R nQ mK CX omg_ omg_ omg_ omg_ omg_ omg_ omg_,g3⟩
    .rw[ai (show¬o+b1>64800 by omega),ai (show¬o+b1 < -64800 by omega)];simp only[j7];exact⟨_,_,_,rfl,_R nQ mK CX omg_ omg_ omg_ omg_ omg_ omg_ omg_,g3⟩
   .rw[ca GM,j7];exact⟨_,_,_,rfl,mz0 nQ mK,d5⟩
theorem RY:∀(L:bI)(now:u)(p:G u),Good now p L->∀i,i<(cw now L).length -> -86400<bu now (cw now L) (i+1)-bu now (cw now L) i/\bu now (cw now L) (i+1)-bu now (cw now L) i<86400
 |[],_,_,_,i,hi=>by simp[cw]at hi
 |x::r,now,p,h,i,hi=>by
  simp only[Good]at h;by_cases hx:x.2=now
  .rw[if_pos hx]at h;have e:cw now (x::r)=cw now r:=by simp[cw,hx]
   rw[e]at hi ⊢;exact RY r now p h i hi
  .rw[if_neg hx]at h;have e:cw now (x::r)=(x.1-now,x.2)::cw x.2 r:=by simp[cw,hx]
   rw[e]at hi ⊢;obtain⟨⟨g1,g2,_⟩,g8⟩:=h;cases i with
   |zero=>exact⟨g1,g2⟩
   |succ i=>
    have:=RY r x.2 _ g8 i (by simpa using hi);cases i with
    |zero=>exact this
    |succ i=>exact this
section
variable{o:u}{l:bI}(h:iU o l)
include h
theorem KW{i j:E}{t:u}(hi:i<=l.length)(hj:j<=l.length)(a1:aR l i<=t)(a2:t<aR l (i+1))(b1:aR l j<=t)(b2:t<aR l (j+1)):i=j:=by
 rcases zo i j with dP|dP|dP
 .have:=h.frm_le (i:=i+1) (j:=j) omg_ omg_;omega
 .exact dP
 .have:=h.frm_le (i:=j+1) (j:=i) omg_ omg_;omega
end
abbrev WL:=D (u×u)
def gj(p:u):WL->Prop
 |[]=>p<=604800
 |x::r=>p<=x.1/\x.1<x.2/\x.2<=604800/\gj x.2 r
def hasB(s:u):WL->Bool
 |[]=>false
 |x::r=>cond (cond (decide (x.1<=s)) (decide (s<x.2)) false) true (hasB s r)
theorem gj.top{p:u}:∀{w:WL},gj p w->p<=604800
 |[],h=>h
 |_::_,h=>by have:=h.1;have:=h.2.1;have:=h.2.2.1;omega
theorem gj.weak{p q:u}(hq:q<=p):∀{w:WL},gj p w->gj q w
 |[],h=>by show q<=604800;have:p<=604800:=h;omega
 |_::_,h=>⟨by have:=h.1;omega,h.2⟩
theorem yU:∀{w:WL}{p:u},gj p w->∀i,i<w.length->p<=(w.getD i (0,0)).1/\(w.getD i (0,0)).1<(w.getD i (0,0)).2/\(w.getD i (0,0)).2<=604800
 |[],_,_,i,hi=>by simp at hi
 |x::r,p,h,i,hi=>by
  obtain⟨h1,h2,h3,h4⟩:=h;cases i with
  |zero=>exact⟨h1,h2,h3⟩
  |succ i=>exact yU (h4.weak (show p<=x.2 by omega)) i (by simpa using hi)
theorem RZ:∀{w:WL}{p:u},gj p w->∀i,i+1<w.length->(w.getD i (0,0)).2<=(w.getD (i+1) (0,0)).1
 |[],_,_,i,hi=>by simp at hi
 |x::[],_,_,i,hi=>by simp at hi
 |x::y::r,p,h,i,hi=>by
  cases i with
  |zero=>exact h.2.2.2.1
  |succ i=>exact RZ h.2.2.2 i (by simpa using hi)
theorem _U{L:D u}:∀(n:E)(p a:u)(acc:WL),dT L a->0<=p->p<=604800->acc.length+n<=100->
  ∃w a',JD p (n:u) L a acc=B (L,a',acc++w)/\gj p w/\w.length<=n/\dT L a'
 |0,p,a,acc,hd,_,hp,_=>by
  rw[YI];simp only[j2I];rw[ai omg_,j7,aP];exact⟨[],a,smp_,hp,smp_,hd⟩
 |n+1,p,a,acc,hd,r5,hp,ha=>by
  obtain⟨x,a1,e1,x0,x1,d1⟩:=dt (n:=30) hd omg_ omg_;obtain⟨y,a2,e2,y0,y1,d2⟩:=dt (n:=2) d1 omg_ omg_;obtain⟨q,a3,e3,m3,d3⟩:=po d2 (xs:=[(3600:u),(28800:u),(43200:u),(86400:u),(61:u),(1:u)]) smp_ smp_;have hq:1<=q/\q<=86400:=by simp at m3;omega
  rw[YI];simp only[j2I];rw[ah omg_];simp only[j6,e1,e2,e3,j4];rw[aj (x:=3600*x),aj (x:=p+3600*x),aj (x:=60*y),aj (x:=p+3600*x+60*y),aj (x:=p+3600*x+60*y+q),aj (x:=((n+1:E):u)-1)];by_cases nR:p+3600*x+60*y+q>604800
  .rw[ah nR,j6,aP];exact⟨[],a3,smp_,hp,smp_,d3⟩
  .rw[ai nR,ah (by simp[aG];omega)];simp only[j7,j6,aB];obtain⟨w,a4,e4,hw,kT,d4⟩:=_U n (p+3600*x+60*y+q) a3 (acc++[(p+3600*x+60*y,p+3600*x+60*y+q)]) d3 omg_ omg_ sqo_;rw[show ((n+1:E):u)-1=(n:u) by omega];refine⟨(p+3600*x+60*y,p+3600*x+60*y+q)::w,a4,by rw[e4,jh];rfl,⟨by dsimp only;omega,by dsimp only;omega,by dsimp only;omega,hw⟩,sqo_,d4⟩
theorem R0{L:D u}{a:u}(h:dT L a):∃w a',j5d L a=B (w,L,a')/\gj 0 w/\w.length<=3/\dT L a':=by
 obtain⟨x,a1,e1,x0,x1,d1⟩:=dt (n:=4) h omg_ omg_;obtain⟨w,a',e2,h1,h2,h3⟩:=_U x.toNat 0 a1 [] d1 omg_ omg_ sqo_;rw[show ((x.toNat:E):u)=x by omega,jp]at e2;simp only[j5d,e1,j4,e2];exact⟨w,a',rfl,h1,omg_,h3⟩
theorem _V{L:D u}{a:u}(h:dT L a):∃t a',j6R L a=B (t,L,a')/\1767139199<=t/\t<=1767139200+3600*575+3599/\dT L a':=by
 obtain⟨x,a1,e1,x0,x1,d1⟩:=dt (n:=576) h omg_ omg_;obtain⟨y,a2,e2,y0,y1,d2⟩:=dt (n:=3) d1 omg_ omg_;obtain⟨q,a3,e3,m3,d3⟩:=po d2 (xs:=[(-1:u),(1:u),(1800:u),(3599:u)]) smp_ smp_;have hq : -1<=q/\q<=3599:=by simp at m3;omega
 simp only[j6R,e1,j4,j1f,e2,e3];rw[aj (x:=3600*x),aj (x:=1767139200+3600*x),aj (x:=1767139200+3600*x+q)];cases (y==w64 (3-1)) with
 |true=>exact⟨_,_,rfl,omg_,omg_,d3⟩
 |false=>exact⟨_,_,rfl,omg_,omg_,d2⟩
theorem _W{w:WL}(h:gj 0 w)(hl:w.length<=14):∀(n i:E),i+n=w.length->Jc w w (w.length:u) (i:u)=B (.inr ())
 |0,i,hi=>by
  rw[XJ];simp only[j5U];rw[ai omg_,j7,aP]
 |n+1,i,hi=>by
  have ih:=_W h hl n (i+1) omg_;have hg:=yU h i omg_;rw[XJ];simp only[j5U];rw[ah (show (i:u)<(w.length:u) by omega),bJ];simp only[j6,j8];rw[ai (show¬(w.getD i ((0:u),(0:u))).1<0 by omega),ai (show¬(w.getD i ((0:u),(0:u))).1>=(w.getD i ((0:u),(0:u))).2 by omega),ai (show¬(w.getD i ((0:u),(0:u))).2>604800 by omega)];rw[aj (x:=(i:u)+1)];simp only[j7];by_cases h0:i=0
  .rw[ai omg_];simp only[j7,aB];exact ih
  .obtain⟨j,rfl⟩:∃j,i=j+1:=⟨i-1,omg_⟩;have GN:=RZ h j omg_;rw[ah omg_,aj (x:=((j+1:E):u)-1),bJ,show (((j+1:E):u)-1).toNat=j by omega,ai omg_];simp only[j6,j7,aB];exact ih
theorem _X{w:WL}(h:gj 0 w)(hl:w.length<=14):jga w=B 0:=by
 have:=_W h hl w.length 0 omg_;rw[show ((0:E):u)=0 from rfl]at this;simp only[jga,show Int.ofNat (F w)=(w.length:u) from rfl];rw[ai omg_,j7,this];rfl
abbrev bF:=A×(u×D aN)
abbrev cI:=A×(u×(WL×(u×(u×Bool))))
abbrev aU:=A×(u×D u)
abbrev bP:=A×(u×((u×u)×(u×(u×(D u×(WL×(u×u)))))))
abbrev cu:=A×(D bP×D (u×(u×(u×(u×u)))))
def fY(z:bF):Prop:=MZ z.2.1 z.2.2
theorem CY{L:D u}{a n:u}(h:dT L a)(hn:1<=n)(KT:n<=1000000):∃b a',j1f L a n=B (b,L,a')/\dT L a':=by
 obtain⟨x,a1,e1,x0,x1,d1⟩:=dt (n:=n) h omg_ omg_;simp only[j1f,e1,j4];exact⟨_,_,rfl,d1⟩
structure GO(zs:D bF)(ps:D cI)(cs:D aU):Prop where
 z0:1<=zs.length
 z1:zs.length<=2
 ok:∀z∈zs,fY z
 p0:1<=ps.length
 p1:ps.length<=4
 c1:cs.length<=1
structure GP(l:bP):Prop where
 d0:20452<=l.2.2.1.1
 d1:l.2.2.1.1<=20457
 c0:0<=l.2.2.1.2
 c1:l.2.2.1.2<=79200
 u0:0<=l.2.2.2.1
 u1:l.2.2.2.1<=2
 e0:1<=l.2.2.2.2.1
 e1:l.2.2.2.2.1<=49
 e2:l.2.2.2.1≠0->l.2.2.2.2.1<=2
 m0:1<=l.2.2.2.2.2.1.length
 m1:l.2.2.2.2.2.1.length<=3
end Go.Proofs.Pw
