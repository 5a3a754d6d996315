/- gH 4: the transitions of a zone. -/
import Derived.Test.YtllkgjaoejhneaaGreatCEPA
open _root_ renaming Int->u,ByteArray->B,List->D,Nat->E,Option->G
open Option renaming some->A,none->M
open List renaming length->F,range->I
open Decidable renaming decide->H
open Go Go.Lft
namespace Go.Proofs.Pw
abbrev aP:=u×(u×(u×(u×(u×(u×u)))))
theorem gw{n lo hi:u}(h1:lo<=n)(h2:n<=hi):j69 n lo hi=A true:=by
 simp only[j69];rw[ai (show n>=lo from h1),ai h2];rfl
theorem wX{n lo hi:u}(h:¬(lo<=n/\n<=hi)):j69 n lo hi=A false:=by
 simp only[j69];by_cases h1:n>=lo
 .rw[ai h1,al (λh2=>h ⟨h1,h2⟩)];rfl
 .rw[al h1];rfl
structure gx(r:aP):Prop where
 y0:1970<=r.1
 y1:r.1<=r.2.1
 y2:r.2.1<=2240
 m0:1<=r.2.2.1
 m1:r.2.2.1<=12
 k0:1<=r.2.2.2.1
 k1:r.2.2.2.1<=5
 d0:0<=r.2.2.2.2.1
 d1:r.2.2.2.2.1<=6
 s0:0<=r.2.2.2.2.2.1
 s1:r.2.2.2.2.2.1<=86399
 o0 : -64800<=r.2.2.2.2.2.2
 o1:r.2.2.2.2.2.2<=64800
theorem jwI{r:aP}(h:gx r):j8L r=A 0:=by
 simp only[j8L,gw h.y0 (show r.1<=2240 by have:=h.y1;have:=h.y2;omega),gw h.y1 h.y2,gw h.m0 h.m1,gw h.k0 h.k1,gw h.d0 h.d1,gw h.s0 h.s1,gw h.o0 h.o1,ja,jl,jd]
theorem Gz{y m k w:u}(_h1:1970<=y)(_h2:y<=2240)(gq:1<=m)(gO:m<=12)(df:1<=k)(eb:k<=5):num y m 1<=nth y m k w/\nth y m k w<num y m 1+dT y m\/nth y m k w<num y m 1+35/\num y m 1<=nth y m k w:=by
 right;have hd:=C9 y m gq gO;unfold nth;dsimp only;split<;>omega
def cd(r:aP)(y:u):u×Int:=(nth y r.2.2.1 r.2.2.2.1 r.2.2.2.2.1*86400+r.2.2.2.2.2.1,r.2.2.2.2.2.2)
def fo(r:aP):aW:=(I (r.2.1-r.1+1).toNat).map λ(i:E)=>cd r (r.1+(i:u))
def occs(l:D aP):aW:=l.flatMap fo
theorem jtr{r:aP}(h:gx r){y:u}(h1:1970<=y)(h2:y<=2240):0<=(cd r y).1/\(cd r y).1<=10000000000:=by
 have hv:=wW (yS y r.2.2.1 h1 h2 h.m0 h.m1);have gE:=h.s0;have iN:=h.s1;have:=Gz (w:=r.2.2.2.2.1) h1 h2 h.m0 h.m1 h.k0 h.k1;have hd:=lF y r.2.2.1;unfold cd;dsimp only;omega
theorem jwJ{r:aP}(h:gx r):Sm (fo r):=by
 intro x hx;obtain⟨i,hi,rfl⟩:=qg.1 hx;have hi:=List.mem_range.1 hi;have h0:=h.y0;have h2:=h.y2;have:=jtr h (y:=r.1+(i:u)) aa aa;omega
theorem MT{l:D aP}(h:∀r∈l,gx r):Sm (occs l):=by
 intro x hx;obtain⟨r,hr,hx⟩:=List.mem_flatMap.1 hx;exact jwJ (h r hr) x hx
theorem TO{r:aP}(h:gx r)(rs:D aP)(a b:u):∀(n:E)(i:E)(acc:aW),r.1+(i:u)+n=r.2.1+1->acc.length+n<=100000->
  E7 (r.1+(i:u)) rs a b r.1 r.2.1 r.2.2.1 r.2.2.2.1 r.2.2.2.2.1 r.2.2.2.2.2.1 r.2.2.2.2.2.2 acc=A (rs,a,b,acc++(I n).map λ(j:E)=>cd r (r.1+(i:u)+(j:u)))
 |0,i,acc,hi,_=>by
  rw[RG];simp only[j21];rw[al aa,jd,bd];simp
 |n+1,i,acc,hi,hl=>by
  have h0:=h.y0;have h2:=h.y2;have gE:=h.s0;have iN:=h.s1;have hv:=wW (yS (r.1+(i:u)) r.2.2.1 aa aa h.m0 h.m1);have hn:=Gz (w:=r.2.2.2.2.1) (y:=r.1+(i:u)) aa aa h.m0 h.m1 h.k0 h.k1;have hd:=lF (r.1+(i:u)) r.2.2.1;rw[RG];simp only[j21];rw[ai (show r.1+(i:u)<=r.2.1 by omega),jxL _ _ _ _ aa aa h.m0 h.m1 h.k0 h.k1 h.d0 h.d1];simp only[jc,ja]
  rw[au (x:=nth (r.1+(i:u)) r.2.2.1 r.2.2.2.1 r.2.2.2.2.1*86400),au (x:=nth (r.1+(i:u)) r.2.2.1 r.2.2.2.1 r.2.2.2.2.1*86400+r.2.2.2.2.2.1),
   au (x:=r.1+(i:u)+1)]
  rw[ai (by simp[aR];omega)];simp only[jc,aZ];have ih:=TO h rs a b n (i+1) (acc++[cd r (r.1+(i:u))]) aa aN;rw[show r.1+(i:u)+1=r.1+((i+1:E):u) by omega];refine ih.trans ?_
  have wY:(I n).map (λ(j:E)=>cd r (r.1+((i+1:E):u)+(j:u)))=(I n).map ((λ(j:E)=>cd r (r.1+(i:u)+(j:u))) ∘ Nat.succ):=List.map_congr_left λj _=>by
   simp only[Function.comp];congr 1;omega
  rw[List.range_succ_eq_map,qq,List.map_map,wY];simp
theorem MU{rs:D aP}(h:∀r∈rs,gx r)(hlen:rs.length<=100):∀(n i:E)(acc:aW),i+n=rs.length->acc.length<=300*i->
  Cc rs (rs.length:u) (i:u) acc=A (acc++occs (rs.drop i))
 |0,i,acc,hi,_=>by
  rw[RH];simp only[j22];rw[al aa,jd,bd,jk aa];simp[occs]
 |n+1,i,acc,hi,hl=>by
  have ay:i<rs.length:=aa;have hr:=h rs[i] (jq ay);have h0:=hr.y0;have h1:=hr.y1;have h2:=hr.y2;have hg:rs.getD i ((0:u),((0:u),((0:u),((0:u),((0:u),((0:u),(0:u)))))))=rs[i]:=by simp[ay]
  have Dd:=TO hr rs (rs.length:u) (i:u) (rs[i].2.1-rs[i].1+1).toNat 0 acc aa aa;rw[show rs[i].1+((0:E):u)=rs[i].1 by omega]at Dd;have ih:=MU h hlen n (i+1) (acc++fo rs[i]) aa (by simp[fo];omega);rw[RH];simp only[j22];rw[ai (show (i:u)<(rs.length:u) by omega),bR];simp only[jc,je,hg,Dd,ja];rw[au,aZ,jj ay];refine ih.trans ?_;rw[kc];rfl
theorem MV{rs:D aP}(h:∀r∈rs,gx r)(hlen:rs.length<=100)(nm:B)(o:u):∀(n i:E)(s:u),i+n=rs.length->0<=s->s<=300*i->
  yD s rs (rs.length:u) (i:u) nm o rs=A (.inr (s+((occs (rs.drop i)).length:u),nm,o,rs))
 |0,i,s,hi,_,_=>by
  rw[Kc];simp only[j1u];rw[al aa,jd,bd,jk aa];simp[occs]
 |n+1,i,s,hi,gE,iN=>by
  have ay:i<rs.length:=aa;have hr:=h rs[i] (jq ay);have h0:=hr.y0;have h1:=hr.y1;have h2:=hr.y2;have hg:rs.getD i ((0:u),((0:u),((0:u),((0:u),((0:u),((0:u),(0:u)))))))=rs[i]:=by simp[ay]
  have ih:=MV h hlen nm o n (i+1) (s+(rs[i].2.1-rs[i].1+1)) aa aa aa;have pO:j8L (rs[i].1,(rs[i].2.1,(rs[i].2.2.1,(rs[i].2.2.2.1,(rs[i].2.2.2.2.1,(rs[i].2.2.2.2.2.1,rs[i].2.2.2.2.2.2))))))=A 0:=jwI hr;rw[Kc];simp only[j1u];rw[ai (show (i:u)<(rs.length:u) by omega),bR];simp only[jc,je,hg,pO,ja,ji,jd];rw[au (x:=rs[i].2.1-rs[i].1),au (x:=rs[i].2.1-rs[i].1+1),au (x:=s+(rs[i].2.1-rs[i].1+1)),au (x:=(i:u)+1),aZ];refine ih.trans ?_;rw[jj ay]
  have:((occs (rs[i]::rs.drop (i+1))).length:u)=(rs[i].2.1-rs[i].1+1)+((occs (rs.drop (i+1))).length:u):=by
   have e1:(fo rs[i]).length=(rs[i].2.1-rs[i].1+1).toNat:=by simp[fo]
   show ((fo rs[i]++occs (rs.drop (i+1))).length:u)=_;rw[jv,e1];omega
  rw[this];congr 3;omega
theorem jk2{nm:B}{o:u}{rs:D aP}(h:∀r∈rs,gx r)(jU : -64800<=o)(iV:o<=64800)(hlen:rs.length<=16)(hn:(occs rs).length<20):j1W (nm,(o,rs))=A (dD (occs rs),0):=by
 have e0:=MV h aa nm o rs.length 0 0 aa aa aa;have e2:=MU h aa rs.length 0 [] aa af;rw[jw]at e0 e2;simp only[j1W,gw jU iV,ja,jl,jd,show Int.ofNat (F rs)=(rs.length:u) from rfl];rw[al (show¬(rs.length:u)>16 by omega),jd,show yD 0 rs (rs.length:u) 0 nm o rs=_ from e0];simp only[ja,kW];rw[al aa,jd,zD rs,show Cc rs (rs.length:u) 0 []=_ from e2];simp only[ja,qj,TI (MT h) hn]
def bV(now:u):aW->aW
 |[]=>[]
 |x::r=>if x.2=now then bV now r else (x.1-now,x.2)::bV x.2 r
def Good(now:u)(p:G u):aW->Prop
 |[]=>True
 |x::r=>if x.2=now then Good now p r else (-86400<x.2-now/\x.2-now<86400/\1000000<x.1-now/\x.1-now<=8589000000/\(∀q,p=A q->q+604800<=x.1-now) /\ -64800<=x.2/\x.2<=64800)/\Good x.2 (A (x.1-now)) r
theorem MW(L:aW)(hL:L.length<=1000):∀(n i:E)(now:u)(acc:aW),i+n=L.length -> -64800<=now->now<=64800->acc.length<=i->(∀x∈acc,0<=x.1/\x.1<=8589934592)->Good now (acc.getLast?.map (·.1)) (L.drop i)->
  yE now (L.length:u) (i:u) acc L=A (.inr (acc++bV now (L.drop i)))
 |0,i,now,acc,hi,_,_,_,_,_=>by
  rw[E8];simp only[j18];rw[al aa,jd,bd,jk aa];simp[bV]
 |n+1,i,now,acc,hi,h9,lD,yc,gY,hg=>by
  have ay:i<L.length:=aa;rw[jj ay]at hg ⊢;have bG:L.getD i ((0:u),(0:u))=L[i]:=by simp[ay]
  rw[E8];simp only[j18];rw[ai (show (i:u)<(L.length:u) by omega),bR];simp only[jc,je,bG];generalize L[i]=x at *;rw[au (x:=(i:u)+1)];simp only[Good]at hg;by_cases hx:x.2=now
  .rw[if_pos hx]at hg;rw[fi hx];simp only[jc,aZ,bV];rw[if_pos hx];exact MW L hL n (i+1) now acc aa h9 lD aa gY hg
  .rw[if_neg hx]at hg;obtain⟨⟨g1,g2,g3,g4,g5,g6,g7⟩,g8⟩:=hg;rw[cN hx,au (x:=x.1-now),au (x:=x.2-now),al (show¬x.2-now>=86400 by omega),al (show¬x.2-now <= -86400 by omega)];simp only[jd,gw (show (0:u)<=x.1-now by omega) (show x.1-now<=8589934592 by omega),ja,jl,jo,zk,show Int.ofNat (F acc)=(acc.length:u) from rfl];rw[au (x:=(acc.length:u)-1)]
   have dZ:=MW L hL n (i+1) x.2 (acc++[(x.1-now,x.2)]) aa g6 g7 aN
    (λy hy=>by
     rcases jx.1 hy with hy|hy
     .exact gY y hy
     .simp at hy;subst hy;exact⟨by show (0:u)<=x.1-now;omega,by show x.1-now<=8589934592;omega⟩) (by simpa using g8)
   have dX:bV now (x::L.drop (i+1))=(x.1-now,x.2)::bV x.2 (L.drop (i+1)):=by simp[bV,hx]
   rw[dX];rw[kc]at dZ;by_cases ha:acc=[]
   .subst ha;simp only[ku];rw[show inR (((0:E):u)-1) 0=false from rfl,show H (((0:E):u)>0)=false from rfl];simp only[jo,jc,jd,vw];rw[ai (by simp[aR])];simp only[jc,aZ];exact dZ
   .have cI:0<acc.length:=List.length_pos_iff.2 ha;have cW:acc.getLast? = A (acc.getD (acc.length-1) (0,0)):=by rw[List.getLast?_eq_getElem?,List.getD_eq_getElem?_getD,ka (show acc.length-1<acc.length by omega)];rfl
    rw[cW]at g5;have g5:(acc.getD (acc.length-1) ((0:u),(0:u))).1+604800<=x.1-now:=g5 _ rfl;have hb:=gY (acc.getD (acc.length-1) (0,0)) (List.mem_of_getLast? cW);rw[bR,ai (show (acc.length:u)>0 by omega),show ((acc.length:u)-1).toNat=acc.length-1 by omega];simp only[zj,jc];rw[au,al (show¬x.1-now<(acc.getD (acc.length-1) ((0:u),(0:u))).1+604800 by omega),ai (by simp[aR];omega)];simp only[jc,jd,aZ];exact dZ
def GA(p:G u):aW->Prop
 |[]=>True
 |x::r=>(1000000<x.1/\x.1<=8589000000/\(∀q,p=A q->q+604800<=x.1) /\ -64800<=x.2/\x.2<=64800)/\GA (A x.1) r
theorem MX:∀(L:aW)(now:u)(p:G u),Good now p L->GA p (bV now L)
 |[],_,_,_=>trivial
 |x::r,now,p,h=>by
  simp only[Good]at h;by_cases hx:x.2=now
  .rw[if_pos hx]at h;simp only[bV];rw[if_pos hx];exact MX r now p h
  .rw[if_neg hx]at h;simp only[bV];rw[if_neg hx];obtain⟨⟨g1,g2,g3,g4,g5,g6,g7⟩,g8⟩:=h;exact⟨⟨g3,g4,g5,g6,g7⟩,MX r x.2 _ g8⟩
theorem MY:∀(L:aW)(now:u),(bV now L).length<=L.length
 |[],_=>jz _
 |x::r,now=>by
  simp only[bV];split
  .have:=MY r now;simp;omega
  .have:=MY r x.2;simp;omega
theorem TP:∀(l:aW)(p:G u),GA p l->(∀i,i+1<l.length->dS l i+604800<=dS l (i+1))/\(∀i,i<l.length->1000000<dS l i/\dS l i<=8589000000)/\
  (∀o i, -64800<=o->o<=64800->i<=l.length -> -64800<=bL o l i/\bL o l i<=64800)
 |[],_,_=>⟨λi h=>by simp at h,λi h=>by simp at h,λo i h1 h2 h3=>by
  have:i=0:=by simpa using h3
  subst this;exact⟨h1,h2⟩⟩
 |x::r,p,h=>by
  obtain⟨⟨g3,g4,g5,g6,g7⟩,g8⟩:=h;obtain⟨h1,h2,h3⟩:=TP r _ g8;refine⟨λi hi=>?_,λi hi=>?_,λo i jU iV hi=>?_⟩
  .cases i with
   |zero=>
    cases r with
    |nil=>simp at hi
    |cons y ys=>have:=g8.1.2.2.1 _ rfl;exact this
   |succ i=>exact h1 i (by simp at hi ⊢;omega)
  .cases i with
   |zero=>exact⟨g3,g4⟩
   |succ i=>exact h2 i (by simp at hi ⊢;omega)
  .cases i with
   |zero=>exact⟨jU,iV⟩
   |succ i=>
    cases i with
    |zero=>exact⟨g6,g7⟩
    |succ i=>exact h3 x.2 (i+1) g6 g7 (by simp at hi ⊢;omega)
theorem jwK{o:u}{l:aW}(h:GA M l)(hl:l.length<=1000)(h0 : -64800<=o)(h1:o<=64800):gv o l:=by
 obtain⟨a,b,c⟩:=TP l M h;exact⟨hl,a,λi hi=>(b i hi).1,λi hi=>(b i hi).2,λi hi=>(c o i h0 h1 hi).1,λi hi=>(c o i h0 h1 hi).2⟩
def pP(z:B×(u×D aP))(l:aW):Prop:=j0M z=A (l,0)/\gv z.2.1 l
theorem jwL{nm:B}{o:u}{rs:D aP}(h:∀r∈rs,gx r)(jU : -64800<=o)(iV:o<=64800)(hlen:rs.length<=16)(hn:(occs rs).length<20)(hg:Good o M (dD (occs rs))):pP (nm,(o,rs)) (bV o (dD (occs rs))):=by
 have hl:(dD (occs rs)).length<=1000:=by simp[dD,C7];omega
 refine⟨?_,jwK (MX _ _ _ hg) (by have:=MY (dD (occs rs)) o;omega) jU iV⟩;have:=MW (dD (occs rs)) hl (dD (occs rs)).length 0 o [] aa jU iV af af hg;simp only[j0M,jk2 h jU iV hlen hn,ja,ji,jd,show Int.ofNat (F (dD (occs rs)))=((dD (occs rs)).length:u) from rfl];rw[jw]at this;rw[show yE o ((dD (occs rs)).length:u) 0 [] (dD (occs rs))=_ from this];rfl
theorem jyu{z:B×(u×D aP)}{l:aW}(h:pP z l):jiV z=A ((z.2.1,l),0):=by
 simp only[jiV,show j0M (z.1,(z.2.1,z.2.2))=_ from h.1,ja]
theorem TQ{y m k w:u}(gq:1<=m)(gO:m<=12)(df:2<=k)(eb:k<=5):num y m 1+7<=nth y m k w/\nth y m k w<=num y m 1+34:=by
 have hd:=C9 y m gq gO;unfold nth;dsimp only;split<;>omega
theorem M0{y m k w:u}(gq:1<=m)(gO:m<=12)(df:1<=k)(eb:k<=4):num y m 1<=nth y m k w/\nth y m k w<=num y m 1+27:=by
 have hd:=C9 y m gq gO;unfold nth;dsimp only;split<;>omega
theorem TR{a b:u×u}(h:a.1<b.1):dD [a,b]=[a,b]:=by
 simp[dD,iC,iB,show¬b.1<a.1 by omega]
theorem TS{a b c d:u×u}(h1:a.1<c.1)(h2:c.1<b.1)(h3:b.1<d.1):dD [a,b,c,d]=[a,c,b,d]:=by
 simp[dD,iC,iB,show¬b.1<a.1 by omega,h2,show¬c.1<a.1 by omega,show¬d.1<b.1 by omega]
theorem TT(r1 r2:aP)(h1:r1.1=2025)(h2:r1.2.1=2025)(h3:r2.1=2025)(h4:r2.2.1=2025):occs [r1,r2]=[cd r1 2025,cd r2 2025]:=by
 simp[occs,fo,h1,h2,h3,h4]
theorem TU(r1 r2:aP)(h1:r1.1=2025)(h2:r1.2.1=2026)(h3:r2.1=2025)(h4:r2.2.1=2026):occs [r1,r2]=[cd r1 2025,cd r1 2026,cd r2 2025,cd r2 2026]:=by
 simp[occs,fo,h1,h2,h3,h4,List.range_succ]
theorem nH{now:u}{p:G u}{x:u×u}{r:aW}(hx:x.2≠now)(h : -86400<x.2-now/\x.2-now<86400/\1000000<x.1-now/\x.1-now<=8589000000 /\ -64800<=x.2/\x.2<=64800)
  (hp:∀q,p=A q->q+604800<=x.1-now)(hr:Good x.2 (A (x.1-now)) r):Good now p (x::r):=by
 simp only[Good];rw[if_neg hx];exact⟨⟨h.1,h.2.1,h.2.2.1,h.2.2.2.1,hp,h.2.2.2.2.1,h.2.2.2.2.2⟩,hr⟩
theorem jtw{now:u}{p:G u}{x:u×u}{r:aW}(hx:x.2=now)(hr:Good now p r):Good now p (x::r):=by
 simp only[Good];rw[if_pos hx];exact hr
theorem De{P:u->Prop}:∀q,(M:G u)=A q->P q:=λ_ h=>by simp at h
theorem uj{P:u->Prop}{a:u}(h:P a):∀q,A a=A q->P q:=λq hq=>by simp at hq;subst hq;exact h
theorem n251:num 2025 1 1=20089:=by decide
theorem n261:num 2026 1 1=20454:=by decide
theorem n252:num 2025 2 1=20120:=by decide
theorem n253:num 2025 3 1=20148:=by decide
theorem n262:num 2026 2 1=20485:=by decide
theorem n263:num 2026 3 1=20513:=by decide
structure MZ(o:u)(rs:D aP):Prop where
 o0 : -64800<=o
 o1:o<=64800
 ok:∀r∈rs,gx r
 len:rs.length<=2
 yr:∀r∈rs,2025<=r.1
 few:(occs rs).length<=4
 good:Good o M (dD (occs rs))
theorem MZ.tab{o:u}{rs:D aP}(h:MZ o rs)(nm:B):pP (nm,(o,rs)) (bV o (dD (occs rs))):=
 jwL h.ok (by have:=h.o0;omega) (by have:=h.o1;omega) (by have:=h.len;omega) (by have:=h.few;omega) h.good
theorem mz0{o:u}(h0 : -43200<=o)(h1:o<=45000):MZ o []:=⟨aa,aa,af,af,af,by decide,trivial⟩
theorem TW{r1 r2:aP}(h1:gx r1)(h2:gx r2):∀r∈[r1,r2],gx r:=by
 intro r hr;simp at hr;rcases hr with rfl|rfl
 .exact h1
 .exact h2
theorem mz1{o last:u}(h0 : -43200<=o)(h1:o<=45000)(hl:last=2025\/last=2026):MZ o [(2025,(last,(3,(5,(6,(7200,o+3600)))))),(2025,(last,(10,(5,(6,(10800,o))))))]:=by
 have a1:nth 2025 3 5 6=20177:=by decide
 have a2:nth 2025 10 5 6=20387:=by decide
 have a3:nth 2026 3 5 6=20541:=by decide
 have a4:nth 2026 10 5 6=20751:=by decide
 have bA:=TW (r1:=(2025,(last,(3,(5,(6,(7200,o+3600))))))) (r2:=(2025,(last,(10,(5,(6,(10800,o))))))) (by constructor<;>(dsimp only;omega)) (by constructor<;>(dsimp only;omega));rcases hl with rfl|rfl
 .have e:=TT (2025,(2025,(3,(5,(6,(7200,o+3600)))))) (2025,(2025,(10,(5,(6,(10800,o)))))) rfl rfl rfl rfl;refine⟨aa,aa,bA,af,af,by rw[e];simp,?_⟩;rw[e,TR (by simp only[cd];omega)];refine nH (by simp only[cd];omega) (by simp only[cd];omega) De (nH (by simp only[cd];omega) (by simp only[cd];omega) (uj (by simp only[cd];omega)) trivial)
 .have e:=TU (2025,(2026,(3,(5,(6,(7200,o+3600)))))) (2025,(2026,(10,(5,(6,(10800,o)))))) rfl rfl rfl rfl;refine⟨aa,aa,bA,af,af,by rw[e];simp,?_⟩;rw[e,TS (by simp only[cd];omega) (by simp only[cd];omega) (by simp only[cd];omega)]
  refine nH (by simp only[cd];omega) (by simp only[cd];omega) De (nH (by simp only[cd];omega) (by simp only[cd];omega) (uj (by simp only[cd];omega))
   (nH (by simp only[cd];omega) (by simp only[cd];omega) (uj (by simp only[cd];omega)) (nH (by simp only[cd];omega) (by simp only[cd];omega) (uj (by simp only[cd];omega)) trivial)))
theorem mz2{o last k1 w1 s1 c m2 k2 w2 s2:u}(h0 : -43200<=o)(h1:o<=45000)(hl:last=2025\/last=2026)(hk:1<=k1)(bg:k1<=4)(hw:0<=w1)(Ir:w1<=6)(hs:0<=s1)(eU:s1<=82800)(hc:1800<=c)(dh:c<=14400)
  (hm:m2=2\/m2=3)(hj:2<=k2)(mG:k2<=5)(hx:0<=w2)(nT:w2<=6)(ht:0<=s2)(xO:s2<=82800):MZ o [(2025,(last,(1,(k1,(w1,(s1,o+c)))))),(2025,(last,(m2,(k2,(w2,(s2,o))))))]:=by
 have bA:=TW (r1:=(2025,(last,(1,(k1,(w1,(s1,o+c))))))) (r2:=(2025,(last,(m2,(k2,(w2,(s2,o))))))) (by constructor<;>(dsimp only;omega)) (by constructor<;>(dsimp only;omega));have b1:=M0 (y:=2025) (m:=1) (k:=k1) (w:=w1) aa aa hk bg;have b2:=M0 (y:=2026) (m:=1) (k:=k1) (w:=w1) aa aa hk bg;have b3:=TQ (y:=2025) (m:=m2) (k:=k2) (w:=w2) aa aa hj mG;have b4:=TQ (y:=2026) (m:=m2) (k:=k2) (w:=w2) aa aa hj mG;have c1:20120<=num 2025 m2 1/\num 2025 m2 1<=20148:=by rcases hm with rfl|rfl<;>simp[n252,n253]
 have c2:20485<=num 2026 m2 1/\num 2026 m2 1<=20513:=by rcases hm with rfl|rfl<;>simp[n262,n263]
 rw[n251]at b1;rw[n261]at b2;rcases hl with rfl|rfl
 .have e:=TT (2025,(2025,(1,(k1,(w1,(s1,o+c)))))) (2025,(2025,(m2,(k2,(w2,(s2,o)))))) rfl rfl rfl rfl;refine⟨aa,aa,bA,af,af,by rw[e];simp,?_⟩;rw[e,TR (by simp only[cd];omega)];refine nH (by simp only[cd];omega) (by simp only[cd];omega) De (nH (by simp only[cd];omega) (by simp only[cd];omega) (uj (by simp only[cd];omega)) trivial)
 .have e:=TU (2025,(2026,(1,(k1,(w1,(s1,o+c)))))) (2025,(2026,(m2,(k2,(w2,(s2,o)))))) rfl rfl rfl rfl;refine⟨aa,aa,bA,af,af,by rw[e];simp,?_⟩;rw[e,TS (by simp only[cd];omega) (by simp only[cd];omega) (by simp only[cd];omega)]
  refine nH (by simp only[cd];omega) (by simp only[cd];omega) De (nH (by simp only[cd];omega) (by simp only[cd];omega) (uj (by simp only[cd];omega))
   (nH (by simp only[cd];omega) (by simp only[cd];omega) (uj (by simp only[cd];omega)) (nH (by simp only[cd];omega) (by simp only[cd];omega) (uj (by simp only[cd];omega)) trivial)))
theorem TX{o w s x:u}(h0 : -43200<=o)(h1:o<=45000)(hw:0<=w)(Ir:w<=6)(hs:0<=s)(eU:s<=84600)(uX : -64800<=x)(tO:x<=64800)(gn : -86400<x-o)(eg:x-o<86400):MZ o [(2026,(2026,(1,(2,(w,(s,x))))))]:=by
 have b:=M0 (y:=2026) (m:=1) (k:=2) (w:=w) aa aa aa aa;rw[n261]at b;have e:occs [((2026:u),((2026:u),((1:u),((2:u),(w,(s,x))))))]=[cd (2026,(2026,(1,(2,(w,(s,x)))))) 2026]:=by simp[occs,fo]
 refine⟨aa,aa,λr hr=>?_,af,af,by rw[e];simp,?_⟩
 .simp at hr;subst hr;constructor<;>(dsimp only;omega)
 .rw[e];have hi:dD [cd (2026,(2026,(1,(2,(w,(s,x)))))) 2026]=[cd (2026,(2026,(1,(2,(w,(s,x)))))) 2026]:=by simp[dD,iC,iB]
  rw[hi];by_cases TY:x=o
  .exact jtw TY trivial
  .exact nH TY (by simp only[cd];omega) De trivial
theorem jwM{L:D u}{a:u}(h:cD L a)(nm:B):∃o rs a',j8t L a nm=A ((nm,(o,rs)),L,a')/\MZ o rs/\cD L a':=by
 obtain⟨p,a1,e1,m1,d1⟩:=mq h (xs:=[(0:u),(4:u),(-20:u),(22:u),(48:u),(-47:u)]) af af;obtain⟨x2,a2,e2,x20,x21,d2⟩:=di (n:=2) d1 aa aa;obtain⟨x3,a3,e3,x30,x31,d3⟩:=di (n:=3) d2 aa aa;obtain⟨y,a4,e4,y0,y1,d4⟩:=di (n:=2) d3 aa aa;obtain⟨q,a5,e5,q0,q1,d5⟩:=di (n:=4) d4 aa aa;have hp : -47<=p/\p<=48:=by simp at m1;omega
 have hmul:0<=x2*x3/\x2*x3<=2:=by obtain rfl|rfl:x2=0\/x2=1:=aa;all_goals omega
 have jU : -43200<=900*(p+x2*x3):=aa;have iV:900*(p+x2*x3)<=45000:=aa;have cW:2025+y=2025\/2025+y=2026:=aa;simp only[j8t,e1,e2,e3,e4,e5,ja];rw[au (x:=x2*x3),au (x:=p+x2*x3),au (x:=900*(p+x2*x3)),au (x:=2025+y)];generalize 900*(p+x2*x3)=o at *;generalize 2025+y=last at *;by_cases TZ:q=1
 .rw[fi TZ,jc,au (x:=o+3600)];exact⟨_,_,_,rfl,mz1 jU iV cW,d5⟩
 .rw[cN TZ,jd];by_cases Df:q=2
  .rw[fi Df,jc];obtain⟨b1,c1,f1,b10,b11,g1⟩:=di (n:=4) d5 aa aa;obtain⟨b2,c2,f2,GB,b21,g2⟩:=di (n:=7) g1 aa aa;obtain⟨b3,c3,f3,b30,b31,g3⟩:=di (n:=24) g2 aa aa;obtain⟨b4,c4,f4,b40,b41,g4⟩:=di (n:=8) g3 aa aa;obtain⟨b5,c5,f5,b50,b51,g5⟩:=di (n:=2) g4 aa aa;obtain⟨b6,c6,f6,m6,g6⟩:=mq g5 (xs:=[(2:u),(3:u),(5:u)]) af af;obtain⟨b7,c7,f7,b70,b71,g7⟩:=di (n:=7) g6 aa aa;obtain⟨b8,c8,f8,b80,b81,g8⟩:=di (n:=24) g7 aa aa;have h6:2<=b6/\b6<=5:=by simp at m6;omega
   simp only[f1,f2,f3,f4,f5,f6,f7,f8,ja]
   rw[au (x:=1+b1),au (x:=3600*b3),au (x:=1+b4),au (x:=1800*(1+b4)),au (x:=o+1800*(1+b4)),
    au (x:=2+b5),au (x:=3600*b8)]
   exact⟨_,_,_,rfl,mz2 jU iV cW aa aa GB aa aa aa aa aa aa h6.1 h6.2 b70 aa aa aa,g8⟩
  .rw[cN Df,jd];by_cases T0:q=3
   .rw[fi T0,jc];obtain⟨b1,c1,f1,m1,g1⟩:=mq d5 (xs:=[(3600:u),(-3600:u),(82800:u),(-82800:u),(43200:u)]) af af;obtain⟨b2,c2,f2,GB,b21,g2⟩:=di (n:=7) g1 aa aa;obtain⟨b3,c3,f3,b30,b31,g3⟩:=di (n:=48) g2 aa aa;have dg : -82800<=b1/\b1<=82800:=by simp at m1;omega
    simp only[f1,f2,f3,ja];rw[au (x:=o+b1),au (x:=1800*b3)];by_cases kZ:o+b1>64800\/o+b1 < -64800
    .have hb:cond (H (o+b1>64800)) true (H (o+b1 < -64800))=true:=by
      rcases kZ with kZ|kZ
      .rw[ai kZ];rfl
      .rw[ai kZ];cases H (o+b1>64800)<;>rfl
     rw[hb,jc];exact⟨_,_,_,rfl,TX jU iV GB aa aa aa aa aa aa aa,g3⟩
    .rw[al (show¬o+b1>64800 by omega),al (show¬o+b1 < -64800 by omega)];simp only[jd];exact⟨_,_,_,rfl,TX jU iV GB aa aa aa aa aa aa aa,g3⟩
   .rw[cN T0,jd];exact⟨_,_,_,rfl,mz0 jU iV,d5⟩
theorem M1:∀(L:aW)(now:u)(p:G u),Good now p L->∀i,i<(bV now L).length -> -86400<bL now (bV now L) (i+1)-bL now (bV now L) i/\bL now (bV now L) (i+1)-bL now (bV now L) i<86400
 |[],_,_,_,i,hi=>by simp[bV]at hi
 |x::r,now,p,h,i,hi=>by
  simp only[Good]at h;by_cases hx:x.2=now
  .rw[if_pos hx]at h;have e:bV now (x::r)=bV now r:=by simp[bV,hx]
   rw[e]at hi ⊢;exact M1 r now p h i hi
  .rw[if_neg hx]at h;have e:bV now (x::r)=(x.1-now,x.2)::bV x.2 r:=by simp[bV,hx]
   rw[e]at hi ⊢;obtain⟨⟨g1,g2,_⟩,g8⟩:=h;cases i with
   |zero=>exact⟨g1,g2⟩
   |succ i=>
    have:=M1 r x.2 _ g8 i (by simpa using hi);cases i with
    |zero=>exact this
    |succ i=>exact this
section
variable{o:u}{l:aW}(h:gv o l)
include h
end
abbrev WL:=D (u×u)
def jV(p:u):WL->Prop
 |[]=>p<=604800
 |x::r=>p<=x.1/\x.1<x.2/\x.2<=604800/\jV x.2 r
def hasB(s:u):WL->Bool
 |[]=>false
 |x::r=>cond (cond (H (x.1<=s)) (H (s<x.2)) false) true (hasB s r)
theorem jV.top{p:u}:∀{w:WL},jV p w->p<=604800
 |[],h=>h
 |_::_,h=>by have:=h.1;have:=h.2.1;have:=h.2.2.1;omega
theorem jV.weak{p q:u}(hq:q<=p):∀{w:WL},jV p w->jV q w
 |[],h=>by show q<=604800;have:p<=604800:=h;omega
 |_::_,h=>⟨by have:=h.1;omega,h.2⟩
theorem T1:∀{w:WL}{p:u},jV p w->∀i,i<w.length->p<=(w.getD i (0,0)).1/\(w.getD i (0,0)).1<(w.getD i (0,0)).2/\(w.getD i (0,0)).2<=604800
 |[],_,_,i,hi=>by simp at hi
 |x::r,p,h,i,hi=>by
  obtain⟨h1,h2,h3,h4⟩:=h;cases i with
  |zero=>exact⟨h1,h2,h3⟩
  |succ i=>exact T1 (h4.weak (show p<=x.2 by omega)) i (by simpa using hi)
theorem T2:∀{w:WL}{p:u},jV p w->∀i,i+1<w.length->(w.getD i (0,0)).2<=(w.getD (i+1) (0,0)).1
 |[],_,_,i,hi=>by simp at hi
 |x::[],_,_,i,hi=>by simp at hi
 |x::y::r,p,h,i,hi=>by
  cases i with
  |zero=>exact h.2.2.2.1
  |succ i=>exact T2 h.2.2.2 i (by simpa using hi)
theorem T3{L:D u}:∀(n:E)(p a:u)(acc:WL),cD L a->0<=p->p<=604800->acc.length+n<=100->
  ∃w a',Fo p (n:u) L a acc=A (L,a',acc++w)/\jV p w/\w.length<=n/\cD L a'
 |0,p,a,acc,hd,_,hp,_=>by
  rw[R0];simp only[j1P];rw[al aa,jd,bd];exact⟨[],a,af,hp,af,hd⟩
 |n+1,p,a,acc,hd,mK,hp,ha=>by
  obtain⟨x,a1,e1,x0,x1,d1⟩:=di (n:=30) hd aa aa;obtain⟨y,a2,e2,y0,y1,d2⟩:=di (n:=2) d1 aa aa;obtain⟨q,a3,e3,m3,d3⟩:=mq d2 (xs:=[(3600:u),(28800:u),(43200:u),(86400:u),(61:u),(1:u)]) af af;have hq:1<=q/\q<=86400:=by simp at m3;omega
  rw[R0];simp only[j1P];rw[ai aa];simp only[jc,e1,e2,e3,ja];rw[au (x:=3600*x),au (x:=p+3600*x),au (x:=60*y),au (x:=p+3600*x+60*y),au (x:=p+3600*x+60*y+q),au (x:=((n+1:E):u)-1)];by_cases kZ:p+3600*x+60*y+q>604800
  .rw[ai kZ,jc,bd];exact⟨[],a3,af,hp,af,d3⟩
  .rw[al kZ,ai (by simp[aR];omega)];simp only[jd,jc,aZ];obtain⟨w,a4,e4,hw,Ev,d4⟩:=T3 n (p+3600*x+60*y+q) a3 (acc++[(p+3600*x+60*y,p+3600*x+60*y+q)]) d3 aa aa aN;rw[show ((n+1:E):u)-1=(n:u) by omega];refine⟨(p+3600*x+60*y,p+3600*x+60*y+q)::w,a4,by rw[e4,kc];rfl,⟨by dsimp only;omega,by dsimp only;omega,by dsimp only;omega,hw⟩,aN,d4⟩
theorem M3{L:D u}{a:u}(h:cD L a):∃w a',j3A L a=A (w,L,a')/\jV 0 w/\w.length<=3/\cD L a':=by
 obtain⟨x,a1,e1,x0,x1,d1⟩:=di (n:=4) h aa aa;obtain⟨w,a',e2,h1,h2,h3⟩:=T3 x.toNat 0 a1 [] d1 aa aa aN;rw[show ((x.toNat:E):u)=x by omega,qj]at e2;simp only[j3A,e1,ja,e2];exact⟨w,a',rfl,h1,aa,h3⟩
theorem M4{L:D u}{a:u}(h:cD L a):∃t a',j3B L a=A (t,L,a')/\1767139199<=t/\t<=1767139200+3600*575+3599/\cD L a':=by
 obtain⟨x,a1,e1,x0,x1,d1⟩:=di (n:=576) h aa aa;obtain⟨y,a2,e2,y0,y1,d2⟩:=di (n:=3) d1 aa aa;obtain⟨q,a3,e3,m3,d3⟩:=mq d2 (xs:=[(-1:u),(1:u),(1800:u),(3599:u)]) af af;have hq : -1<=q/\q<=3599:=by simp at m3;omega
 simp only[j3B,e1,ja,j11,e2,e3];rw[au (x:=3600*x),au (x:=1767139200+3600*x),au (x:=1767139200+3600*x+q)];cases (y==w64 (3-1)) with
 |true=>exact⟨_,_,rfl,aa,aa,d3⟩
 |false=>exact⟨_,_,rfl,aa,aa,d2⟩
theorem T4{w:WL}(hl:w.length<=14)(s:u):∀(n i:E),i+n=w.length->Fl s w (w.length:u) (i:u)=A (cond (hasB s (w.drop i)) (.inl true) (.inr ()))
 |0,i,hi=>by
  rw[RW];simp only[j55];rw[al aa,jd,bd,jk aa];rfl
 |n+1,i,hi=>by
  have ay:i<w.length:=aa;have bG:w.getD i ((0:u),(0:u))=w[i]:=by simp[ay]
  have ih:=T4 hl s n (i+1) aa;rw[RW,jj ay];simp only[j55];rw[ai (show (i:u)<(w.length:u) by omega),bR];simp only[jc,je,bG,hasB];rw[au (x:=(i:u)+1)];cases hb:cond (H (w[i].1<=s)) (H (s<w[i].2)) false with
  |true=>simp only[jc,bd]
  |false=>simp only[jd,aZ];exact ih
theorem jxM{w:WL}(hl:w.length<=14)(s:u):ji9 w s=A (hasB s w):=by
 have:=T4 hl s w.length 0 aa;rw[show ((0:E):u)=0 from rfl,jw]at this;simp only[ji9,show Int.ofNat (F w)=(w.length:u) from rfl,this,ja];cases hasB s w<;>rfl
end Go.Proofs.Pw
