/- eP 4: the transitions of a zone. -/
import Derived.Test.YtmccfdihkphfaaaGreatREPA
open _root_ renaming Int->u,ByteArray->D,List->E,Nat->F,Option->H
open List renaming drop_of_length_le->A,length->G,range->J
open Option renaming some->B,none->N
open Decidable renaming decide->I
open Go Go.Lft
namespace Go.Proofs.Pw
abbrev aL:=u×(u×(u×(u×(u×(u×u)))))
theorem iS{n lo hi:u}(h1:lo<=n)(h2:n<=hi):j87 n lo hi=B true:=by
 simp only[j87];rw[ag (show n>=lo from h1),ag h2];rfl
theorem Ax{n lo hi:u}(h:¬(lo<=n/\n<=hi)):j87 n lo hi=B false:=by
 simp only[j87];by_cases h1:n>=lo
 .rw[ag h1,an (λh2=>h ⟨h1,h2⟩)];rfl
 .rw[an h1];rfl
structure iU(r:aL):Prop where
 y0:1970<=r.1
 y1:r.1<=r.2.1
 y2:r.2.1<=2240
 m0:1<=r.2.2.1
 m1:r.2.2.1<=12
 k0:1<=r.2.2.2.1
 k1:r.2.2.2.1<=5
 d0:0<=r.2.2.2.2.1
 d1:r.2.2.2.2.1<=6
 s0:0<=r.2.2.2.2.2.1
 s1:r.2.2.2.2.2.1<=86399
 o0 : -64800<=r.2.2.2.2.2.2
 o1:r.2.2.2.2.2.2<=64800
theorem jE0{r:aL}(h:iU r):jbj r=B 0:=by
 simp only[jbj,iS h.y0 (show r.1<=2240 by have:=h.y1;have:=h.y2;omega),iS h.y1 h.y2,iS h.m0 h.m1,iS h.k0 h.k1,iS h.d0 h.d1,iS h.s0 h.s1,iS h.o0 h.o1,j4,jc,j7]
theorem KA{y m k w:u}(_h1:1970<=y)(_h2:y<=2240)(ic:1<=m)(ie:m<=12)(dj:1<=k)(fp:k<=5):num y m 1<=nth y m k w/\nth y m k w<num y m 1+fa y m\/nth y m k w<num y m 1+35/\num y m 1<=nth y m k w:=by
 right;have hd:=Gc y m ic ie;unfold nth;dsimp only;split<;>omega
def cQ(r:aL)(y:u):u×Int:=(nth y r.2.2.1 r.2.2.2.1 r.2.2.2.2.1*86400+r.2.2.2.2.2.1,r.2.2.2.2.2.2)
def gr(r:aL):bh:=(J (r.2.1-r.1+1).toNat).map λ(i:F)=>cQ r (r.1+(i:u))
def occs(l:E aL):bh:=l.flatMap gr
theorem jzQ{r:aL}(h:iU r){y:u}(h1:1970<=y)(h2:y<=2240):0<=(cQ r y).1/\(cQ r y).1<=10000000000:=by
 have hv:=Aw (CH y r.2.2.1 h1 h2 h.m0 h.m1);have jD:=h.s0;have lb:=h.s1;have:=KA (w:=r.2.2.2.2.1) h1 h2 h.m0 h.m1 h.k0 h.k1;have hd:=nF y r.2.2.1;unfold cQ;dsimp only;omega
theorem jE1{r:aL}(h:iU r):Sm (gr r):=by
 intro x hx;obtain⟨i,hi,rfl⟩:=jx.1 hx;have hi:=List.mem_range.1 hi;have h0:=h.y0;have h2:=h.y2;have:=jzQ h (y:=r.1+(i:u)) aa aa;omega
theorem RE{l:E aL}(h:∀r∈l,iU r):Sm (occs l):=by
 intro x hx;obtain⟨r,hr,hx⟩:=q8.1 hx;exact jE1 (h r hr) x hx
theorem _n{r:aL}(h:iU r)(rs:E aL)(a b:u):∀(n:F)(i:F)(acc:bh),r.1+(i:u)+n=r.2.1+1->acc.length+n<=100000->
  Iy (r.1+(i:u)) rs a b r.1 r.2.1 r.2.2.1 r.2.2.2.1 r.2.2.2.2.1 r.2.2.2.2.2.1 r.2.2.2.2.2.2 acc=B (rs,a,b,acc++(J n).map λ(j:F)=>cQ r (r.1+(i:u)+(j:u)))
 |0,i,acc,hi,_=>by
  rw[Xw];simp only[j2r];rw[an aa,j7,aW];simp
 |n+1,i,acc,hi,hl=>by
  have h0:=h.y0;have h2:=h.y2;have jD:=h.s0;have lb:=h.s1;have hv:=Aw (CH (r.1+(i:u)) r.2.2.1 aa aa h.m0 h.m1);have hn:=KA (w:=r.2.2.2.2.1) (y:=r.1+(i:u)) aa aa h.m0 h.m1 h.k0 h.k1;have hd:=nF (r.1+(i:u)) r.2.2.1;rw[Xw];simp only[j2r];rw[ag (show r.1+(i:u)<=r.2.1 by omega),jFr _ _ _ _ aa aa h.m0 h.m1 h.k0 h.k1 h.d0 h.d1];simp only[j6,j4]
  rw[ar (x:=nth (r.1+(i:u)) r.2.2.1 r.2.2.2.1 r.2.2.2.2.1*86400),ar (x:=nth (r.1+(i:u)) r.2.2.1 r.2.2.2.1 r.2.2.2.2.1*86400+r.2.2.2.2.2.1),
   ar (x:=r.1+(i:u)+1)]
  rw[ag (by simp[aG];omega)];simp only[j6,aS];have ih:=_n h rs a b n (i+1) (acc++[cQ r (r.1+(i:u))]) aa az;rw[show r.1+(i:u)+1=r.1+((i+1:F):u) by omega];refine ih.trans ?_
  have Ay:(J n).map (λ(j:F)=>cQ r (r.1+((i+1:F):u)+(j:u)))=(J n).map ((λ(j:F)=>cQ r (r.1+(i:u)+(j:u))) ∘ Nat.succ):=List.map_congr_left λj _=>by
   simp only[Function.comp];congr 1;omega
  rw[List.range_succ_eq_map,kj,List.map_map,Ay];simp
theorem RF{rs:E aL}(h:∀r∈rs,iU r)(hlen:rs.length<=100):∀(n i:F)(acc:bh),i+n=rs.length->acc.length<=300*i->
  E3 rs (rs.length:u) (i:u) acc=B (acc++occs (rs.drop i))
 |0,i,acc,hi,_=>by
  rw[Xx];simp only[j2s];rw[an aa,j7,aW,A aa];simp[occs]
 |n+1,i,acc,hi,hl=>by
  have aq:i<rs.length:=aa;have hr:=h rs[i] (jl aq);have h0:=hr.y0;have h1:=hr.y1;have h2:=hr.y2;have hg:rs.getD i ((0:u),((0:u),((0:u),((0:u),((0:u),((0:u),(0:u)))))))=rs[i]:=by simp[aq]
  have vG:=_n hr rs (rs.length:u) (i:u) (rs[i].2.1-rs[i].1+1).toNat 0 acc aa aa;rw[show rs[i].1+((0:F):u)=rs[i].1 by omega]at vG;have ih:=RF h hlen n (i+1) (acc++gr rs[i]) aa (by simp[gr];omega);rw[Xx];simp only[j2s];rw[ag (show (i:u)<(rs.length:u) by omega),bE];simp only[j6,j8,hg,vG,j4];rw[ar,aS,jb aq];refine ih.trans ?_;rw[jg];rfl
theorem RG{rs:E aL}(h:∀r∈rs,iU r)(hlen:rs.length<=100)(nm:D)(o:u):∀(n i:F)(s:u),i+n=rs.length->0<=s->s<=300*i->
  Ce s rs (rs.length:u) (i:u) nm o rs=B (.inr (s+((occs (rs.drop i)).length:u),nm,o,rs))
 |0,i,s,hi,_,_=>by
  rw[Ow];simp only[j1M];rw[an aa,j7,aW,A aa];simp[occs]
 |n+1,i,s,hi,jD,lb=>by
  have aq:i<rs.length:=aa;have hr:=h rs[i] (jl aq);have h0:=hr.y0;have h1:=hr.y1;have h2:=hr.y2;have hg:rs.getD i ((0:u),((0:u),((0:u),((0:u),((0:u),((0:u),(0:u)))))))=rs[i]:=by simp[aq]
  have ih:=RG h hlen nm o n (i+1) (s+(rs[i].2.1-rs[i].1+1)) aa aa aa;have sA:jbj (rs[i].1,(rs[i].2.1,(rs[i].2.2.1,(rs[i].2.2.2.1,(rs[i].2.2.2.2.1,(rs[i].2.2.2.2.2.1,rs[i].2.2.2.2.2.2))))))=B 0:=jE0 hr;rw[Ow];simp only[j1M];rw[ag (show (i:u)<(rs.length:u) by omega),bE];simp only[j6,j8,hg,sA,j4,jf,j7];rw[ar (x:=rs[i].2.1-rs[i].1),ar (x:=rs[i].2.1-rs[i].1+1),ar (x:=s+(rs[i].2.1-rs[i].1+1)),ar (x:=(i:u)+1),aS];refine ih.trans ?_;rw[jb aq]
  have:((occs (rs[i]::rs.drop (i+1))).length:u)=(rs[i].2.1-rs[i].1+1)+((occs (rs.drop (i+1))).length:u):=by
   have e1:(gr rs[i]).length=(rs[i].2.1-rs[i].1+1).toNat:=by simp[gr]
   show ((gr rs[i]++occs (rs.drop (i+1))).length:u)=_;rw[List.length_append,e1];omega
  rw[this];congr 3;omega
theorem jpc{nm:D}{o:u}{rs:E aL}(h:∀r∈rs,iU r)(jF : -64800<=o)(lu:o<=64800)(hlen:rs.length<=16)(hn:(occs rs).length<20):j2n (nm,(o,rs))=B (dM (occs rs),0):=by
 have e0:=RG h aa nm o rs.length 0 0 aa aa aa;have e2:=RF h aa rs.length 0 [] aa ae;rw[jk]at e0 e2;simp only[j2n,iS jF lu,j4,jc,j7,show Int.ofNat (G rs)=(rs.length:u) from rfl];rw[an (show¬(rs.length:u)>16 by omega),j7,show Ce 0 rs (rs.length:u) 0 nm o rs=_ from e0];simp only[j4,me];rw[an aa,j7,lG rs,show E3 rs (rs.length:u) 0 []=_ from e2];simp only[j4,jw,_e (RE h) hn]
def cC(now:u):bh->bh
 |[]=>[]
 |x::r=>if x.2=now then cC now r else (x.1-now,x.2)::cC x.2 r
def Good(now:u)(p:H u):bh->Prop
 |[]=>True
 |x::r=>if x.2=now then Good now p r else (-86400<x.2-now/\x.2-now<86400/\1000000<x.1-now/\x.1-now<=8589000000/\(∀q,p=B q->q+604800<=x.1-now) /\ -64800<=x.2/\x.2<=64800)/\Good x.2 (B (x.1-now)) r
theorem RH(L:bh)(hL:L.length<=1000):∀(n i:F)(now:u)(acc:bh),i+n=L.length -> -64800<=now->now<=64800->acc.length<=i->(∀x∈acc,0<=x.1/\x.1<=8589934592)->Good now (acc.getLast?.map (·.1)) (L.drop i)->
  Cf now (L.length:u) (i:u) acc L=B (.inr (acc++cC now (L.drop i)))
 |0,i,now,acc,hi,_,_,_,_,_=>by
  rw[Iz];simp only[j1o];rw[an aa,j7,aW,A aa];simp[cC]
 |n+1,i,now,acc,hi,iE,om,uK,dJ,hg=>by
  have aq:i<L.length:=aa;rw[jb aq]at hg ⊢;have bc:L.getD i ((0:u),(0:u))=L[i]:=by simp[aq]
  rw[Iz];simp only[j1o];rw[ag (show (i:u)<(L.length:u) by omega),bE];simp only[j6,j8,bc];generalize L[i]=x at *;rw[ar (x:=(i:u)+1)];simp only[Good]at hg;by_cases hx:x.2=now
  .rw[if_pos hx]at hg;rw[dI hx];simp only[j6,aS,cC];rw[if_pos hx];exact RH L hL n (i+1) now acc aa iE om aa dJ hg
  .rw[if_neg hx]at hg;obtain⟨⟨g1,g2,g3,g4,g5,g6,g7⟩,g8⟩:=hg;rw[cG hx,ar (x:=x.1-now),ar (x:=x.2-now),an (show¬x.2-now>=86400 by omega),an (show¬x.2-now <= -86400 by omega)];simp only[j7,iS (show (0:u)<=x.1-now by omega) (show x.1-now<=8589934592 by omega),j4,jc,jp,qr,show Int.ofNat (G acc)=(acc.length:u) from rfl];rw[ar (x:=(acc.length:u)-1)]
   have eA:=RH L hL n (i+1) x.2 (acc++[(x.1-now,x.2)]) aa g6 g7 az
    (λy hy=>by
     rcases jm.1 hy with hy|hy
     .exact dJ y hy
     .simp at hy;subst hy;exact⟨by show (0:u)<=x.1-now;omega,by show x.1-now<=8589934592;omega⟩) (by simpa using g8)
   have cL:cC now (x::L.drop (i+1))=(x.1-now,x.2)::cC x.2 (L.drop (i+1)):=by simp[cC,hx]
   rw[cL];rw[jg]at eA;by_cases ha:acc=[]
   .subst ha;simp only[jz];rw[show inR (((0:F):u)-1) 0=false from rfl,show I (((0:F):u)>0)=false from rfl];simp only[jp,j6,j7,yb];rw[ag (by simp[aG])];simp only[j6,aS];exact eA
   .have bK:0<acc.length:=List.length_pos_iff.2 ha;have cX:acc.getLast? = B (acc.getD (acc.length-1) (0,0)):=by rw[List.getLast?_eq_getElem?,List.getD_eq_getElem?_getD,jo (show acc.length-1<acc.length by omega)];rfl
    rw[cX]at g5;have g5:(acc.getD (acc.length-1) ((0:u),(0:u))).1+604800<=x.1-now:=g5 _ rfl;have hb:=dJ (acc.getD (acc.length-1) (0,0)) (List.mem_of_getLast? cX);rw[bE,ag (show (acc.length:u)>0 by omega),show ((acc.length:u)-1).toNat=acc.length-1 by omega];simp only[z8,j6];rw[ar,an (show¬x.1-now<(acc.getD (acc.length-1) ((0:u),(0:u))).1+604800 by omega),ag (by simp[aG];omega)];simp only[j6,j7,aS];exact eA
def KB(p:H u):bh->Prop
 |[]=>True
 |x::r=>(1000000<x.1/\x.1<=8589000000/\(∀q,p=B q->q+604800<=x.1) /\ -64800<=x.2/\x.2<=64800)/\KB (B x.1) r
theorem RI:∀(L:bh)(now:u)(p:H u),Good now p L->KB p (cC now L)
 |[],_,_,_=>trivial
 |x::r,now,p,h=>by
  simp only[Good]at h;by_cases hx:x.2=now
  .rw[if_pos hx]at h;simp only[cC];rw[if_pos hx];exact RI r now p h
  .rw[if_neg hx]at h;simp only[cC];rw[if_neg hx];obtain⟨⟨g1,g2,g3,g4,g5,g6,g7⟩,g8⟩:=h;exact⟨⟨g3,g4,g5,g6,g7⟩,RI r x.2 _ g8⟩
theorem KC:∀(L:bh)(now:u),(cC now L).length<=L.length
 |[],_=>jq _
 |x::r,now=>by
  simp only[cC];split
  .have:=KC r now;simp;omega
  .have:=KC r x.2;simp;omega
theorem _o:∀(l:bh)(p:H u),KB p l->(∀i,i+1<l.length->eD l i+604800<=eD l (i+1))/\(∀i,i<l.length->1000000<eD l i/\eD l i<=8589000000)/\
  (∀o i, -64800<=o->o<=64800->i<=l.length -> -64800<=bm o l i/\bm o l i<=64800)
 |[],_,_=>⟨λi h=>by simp at h,λi h=>by simp at h,λo i h1 h2 h3=>by
  have:i=0:=by simpa using h3
  subst this;exact⟨h1,h2⟩⟩
 |x::r,p,h=>by
  obtain⟨⟨g3,g4,g5,g6,g7⟩,g8⟩:=h;obtain⟨h1,h2,h3⟩:=_o r _ g8;refine⟨λi hi=>?_,λi hi=>?_,λo i jF lu hi=>?_⟩
  .cases i with
   |zero=>
    cases r with
    |nil=>simp at hi
    |cons y ys=>have:=g8.1.2.2.1 _ rfl;exact this
   |succ i=>exact h1 i (by simp at hi ⊢;omega)
  .cases i with
   |zero=>exact⟨g3,g4⟩
   |succ i=>exact h2 i (by simp at hi ⊢;omega)
  .cases i with
   |zero=>exact⟨jF,lu⟩
   |succ i=>
    cases i with
    |zero=>exact⟨g6,g7⟩
    |succ i=>exact h3 x.2 (i+1) g6 g7 (by simp at hi ⊢;omega)
theorem jE2{o:u}{l:bh}(h:KB N l)(hl:l.length<=1000)(h0 : -64800<=o)(h1:o<=64800):iF o l:=by
 obtain⟨a,b,c⟩:=_o l N h;exact⟨hl,a,λi hi=>(b i hi).1,λi hi=>(b i hi).2,λi hi=>(c o i h0 h1 hi).1,λi hi=>(c o i h0 h1 hi).2⟩
def sE(z:D×(u×E aL))(l:bh):Prop:=j0U z=B (l,0)/\iF z.2.1 l
theorem jE3{nm:D}{o:u}{rs:E aL}(h:∀r∈rs,iU r)(jF : -64800<=o)(lu:o<=64800)(hlen:rs.length<=16)(hn:(occs rs).length<20)(hg:Good o N (dM (occs rs))):sE (nm,(o,rs)) (cC o (dM (occs rs))):=by
 have hl:(dM (occs rs)).length<=1000:=by simp[dM,CF];omega
 refine⟨?_,jE2 (RI _ _ _ hg) (by have:=KC (dM (occs rs)) o;omega) jF lu⟩;have:=RH (dM (occs rs)) hl (dM (occs rs)).length 0 o [] aa jF lu ae ae hg;simp only[j0U,jpc h jF lu hlen hn,j4,jf,j7,show Int.ofNat (G (dM (occs rs)))=((dM (occs rs)).length:u) from rfl];rw[jk]at this;rw[show Cf o ((dM (occs rs)).length:u) 0 [] (dM (occs rs))=_ from this];rfl
theorem jGE{z:D×(u×E aL)}{l:bh}(h:sE z l):jnQ z=B ((z.2.1,l),0):=by
 simp only[jnQ,show j0U (z.1,(z.2.1,z.2.2))=_ from h.1,j4]
theorem _p{y m k w:u}(ic:1<=m)(ie:m<=12)(dj:2<=k)(fp:k<=5):num y m 1+7<=nth y m k w/\nth y m k w<=num y m 1+34:=by
 have hd:=Gc y m ic ie;unfold nth;dsimp only;split<;>omega
theorem RJ{y m k w:u}(ic:1<=m)(ie:m<=12)(dj:1<=k)(fp:k<=4):num y m 1<=nth y m k w/\nth y m k w<=num y m 1+27:=by
 have hd:=Gc y m ic ie;unfold nth;dsimp only;split<;>omega
theorem _q{a b:u×u}(h:a.1<b.1):dM [a,b]=[a,b]:=by
 simp[dM,kT,kS,show¬b.1<a.1 by omega]
theorem _r{a b c d:u×u}(h1:a.1<c.1)(h2:c.1<b.1)(h3:b.1<d.1):dM [a,b,c,d]=[a,c,b,d]:=by
 simp[dM,kT,kS,show¬b.1<a.1 by omega,h2,show¬c.1<a.1 by omega,show¬d.1<b.1 by omega]
theorem _s(r1 r2:aL)(h1:r1.1=2025)(h2:r1.2.1=2025)(h3:r2.1=2025)(h4:r2.2.1=2025):occs [r1,r2]=[cQ r1 2025,cQ r2 2025]:=by
 simp[occs,gr,h1,h2,h3,h4]
theorem _t(r1 r2:aL)(h1:r1.1=2025)(h2:r1.2.1=2026)(h3:r2.1=2025)(h4:r2.2.1=2026):occs [r1,r2]=[cQ r1 2025,cQ r1 2026,cQ r2 2025,cQ r2 2026]:=by
 simp[occs,gr,h1,h2,h3,h4,List.range_succ]
theorem pR{now:u}{p:H u}{x:u×u}{r:bh}(hx:x.2≠now)(h : -86400<x.2-now/\x.2-now<86400/\1000000<x.1-now/\x.1-now<=8589000000 /\ -64800<=x.2/\x.2<=64800)
  (hp:∀q,p=B q->q+604800<=x.1-now)(hr:Good x.2 (B (x.1-now)) r):Good now p (x::r):=by
 simp only[Good];rw[if_neg hx];exact⟨⟨h.1,h.2.1,h.2.2.1,h.2.2.2.1,hp,h.2.2.2.2.1,h.2.2.2.2.2⟩,hr⟩
theorem jzV{now:u}{p:H u}{x:u×u}{r:bh}(hx:x.2=now)(hr:Good now p r):Good now p (x::r):=by
 simp only[Good];rw[if_pos hx];exact hr
theorem Gf{P:u->Prop}:∀q,(N:H u)=B q->P q:=λ_ h=>by simp at h
theorem xq{P:u->Prop}{a:u}(h:P a):∀q,B a=B q->P q:=λq hq=>by simp at hq;subst hq;exact h
theorem n251:num 2025 1 1=20089:=by decide
theorem n261:num 2026 1 1=20454:=by decide
theorem n252:num 2025 2 1=20120:=by decide
theorem n253:num 2025 3 1=20148:=by decide
theorem n262:num 2026 2 1=20485:=by decide
theorem n263:num 2026 3 1=20513:=by decide
structure MZ(o:u)(rs:E aL):Prop where
 o0 : -64800<=o
 o1:o<=64800
 ok:∀r∈rs,iU r
 len:rs.length<=2
 yr:∀r∈rs,2025<=r.1
 few:(occs rs).length<=4
 good:Good o N (dM (occs rs))
theorem MZ.tab{o:u}{rs:E aL}(h:MZ o rs)(nm:D):sE (nm,(o,rs)) (cC o (dM (occs rs))):=
 jE3 h.ok (by have:=h.o0;omega) (by have:=h.o1;omega) (by have:=h.len;omega) (by have:=h.few;omega) h.good
theorem mz0{o:u}(h0 : -43200<=o)(h1:o<=45000):MZ o []:=⟨aa,aa,ae,ae,ae,by decide,trivial⟩
theorem _u{r1 r2:aL}(h1:iU r1)(h2:iU r2):∀r∈[r1,r2],iU r:=by
 intro r hr;simp at hr;rcases hr with rfl|rfl
 .exact h1
 .exact h2
theorem mz1{o last:u}(h0 : -43200<=o)(h1:o<=45000)(hl:last=2025\/last=2026):MZ o [(2025,(last,(3,(5,(6,(7200,o+3600)))))),(2025,(last,(10,(5,(6,(10800,o))))))]:=by
 have a1:nth 2025 3 5 6=20177:=by decide
 have a2:nth 2025 10 5 6=20387:=by decide
 have a3:nth 2026 3 5 6=20541:=by decide
 have a4:nth 2026 10 5 6=20751:=by decide
 have bT:=_u (r1:=(2025,(last,(3,(5,(6,(7200,o+3600))))))) (r2:=(2025,(last,(10,(5,(6,(10800,o))))))) (by constructor<;>(dsimp only;omega)) (by constructor<;>(dsimp only;omega));rcases hl with rfl|rfl
 .have e:=_s (2025,(2025,(3,(5,(6,(7200,o+3600)))))) (2025,(2025,(10,(5,(6,(10800,o)))))) rfl rfl rfl rfl;refine⟨aa,aa,bT,ae,ae,by rw[e];simp,?_⟩;rw[e,_q (by simp only[cQ];omega)];refine pR (by simp only[cQ];omega) (by simp only[cQ];omega) Gf (pR (by simp only[cQ];omega) (by simp only[cQ];omega) (xq (by simp only[cQ];omega)) trivial)
 .have e:=_t (2025,(2026,(3,(5,(6,(7200,o+3600)))))) (2025,(2026,(10,(5,(6,(10800,o)))))) rfl rfl rfl rfl;refine⟨aa,aa,bT,ae,ae,by rw[e];simp,?_⟩;rw[e,_r (by simp only[cQ];omega) (by simp only[cQ];omega) (by simp only[cQ];omega)]
  refine pR (by simp only[cQ];omega) (by simp only[cQ];omega) Gf (pR (by simp only[cQ];omega) (by simp only[cQ];omega) (xq (by simp only[cQ];omega))
   (pR (by simp only[cQ];omega) (by simp only[cQ];omega) (xq (by simp only[cQ];omega)) (pR (by simp only[cQ];omega) (by simp only[cQ];omega) (xq (by simp only[cQ];omega)) trivial)))
theorem mz2{o last k1 w1 s1 c m2 k2 w2 s2:u}(h0 : -43200<=o)(h1:o<=45000)(hl:last=2025\/last=2026)(hk:1<=k1)(bn:k1<=4)(hw:0<=w1)(D8:w1<=6)(hs:0<=s1)(eE:s1<=82800)(hc:1800<=c)(dz:c<=14400)
  (hm:m2=2\/m2=3)(hj:2<=k2)(im:k2<=5)(hx:0<=w2)(ny:w2<=6)(ht:0<=s2)(tg:s2<=82800):MZ o [(2025,(last,(1,(k1,(w1,(s1,o+c)))))),(2025,(last,(m2,(k2,(w2,(s2,o))))))]:=by
 have bT:=_u (r1:=(2025,(last,(1,(k1,(w1,(s1,o+c))))))) (r2:=(2025,(last,(m2,(k2,(w2,(s2,o))))))) (by constructor<;>(dsimp only;omega)) (by constructor<;>(dsimp only;omega));have b1:=RJ (y:=2025) (m:=1) (k:=k1) (w:=w1) aa aa hk bn;have b2:=RJ (y:=2026) (m:=1) (k:=k1) (w:=w1) aa aa hk bn;have b3:=_p (y:=2025) (m:=m2) (k:=k2) (w:=w2) aa aa hj im;have b4:=_p (y:=2026) (m:=m2) (k:=k2) (w:=w2) aa aa hj im;have c1:20120<=num 2025 m2 1/\num 2025 m2 1<=20148:=by rcases hm with rfl|rfl<;>simp[n252,n253]
 have c2:20485<=num 2026 m2 1/\num 2026 m2 1<=20513:=by rcases hm with rfl|rfl<;>simp[n262,n263]
 rw[n251]at b1;rw[n261]at b2;rcases hl with rfl|rfl
 .have e:=_s (2025,(2025,(1,(k1,(w1,(s1,o+c)))))) (2025,(2025,(m2,(k2,(w2,(s2,o)))))) rfl rfl rfl rfl;refine⟨aa,aa,bT,ae,ae,by rw[e];simp,?_⟩;rw[e,_q (by simp only[cQ];omega)];refine pR (by simp only[cQ];omega) (by simp only[cQ];omega) Gf (pR (by simp only[cQ];omega) (by simp only[cQ];omega) (xq (by simp only[cQ];omega)) trivial)
 .have e:=_t (2025,(2026,(1,(k1,(w1,(s1,o+c)))))) (2025,(2026,(m2,(k2,(w2,(s2,o)))))) rfl rfl rfl rfl;refine⟨aa,aa,bT,ae,ae,by rw[e];simp,?_⟩;rw[e,_r (by simp only[cQ];omega) (by simp only[cQ];omega) (by simp only[cQ];omega)]
  refine pR (by simp only[cQ];omega) (by simp only[cQ];omega) Gf (pR (by simp only[cQ];omega) (by simp only[cQ];omega) (xq (by simp only[cQ];omega))
   (pR (by simp only[cQ];omega) (by simp only[cQ];omega) (xq (by simp only[cQ];omega)) (pR (by simp only[cQ];omega) (by simp only[cQ];omega) (xq (by simp only[cQ];omega)) trivial)))
theorem _v{o w s x:u}(h0 : -43200<=o)(h1:o<=45000)(hw:0<=w)(D8:w<=6)(hs:0<=s)(eE:s<=84600)(um : -64800<=x)(pD:x<=64800)(gT : -86400<x-o)(eU:x-o<86400):MZ o [(2026,(2026,(1,(2,(w,(s,x))))))]:=by
 have b:=RJ (y:=2026) (m:=1) (k:=2) (w:=w) aa aa aa aa;rw[n261]at b;have e:occs [((2026:u),((2026:u),((1:u),((2:u),(w,(s,x))))))]=[cQ (2026,(2026,(1,(2,(w,(s,x)))))) 2026]:=by simp[occs,gr]
 refine⟨aa,aa,λr hr=>?_,ae,ae,by rw[e];simp,?_⟩
 .simp at hr;subst hr;constructor<;>(dsimp only;omega)
 .rw[e];have hi:dM [cQ (2026,(2026,(1,(2,(w,(s,x)))))) 2026]=[cQ (2026,(2026,(1,(2,(w,(s,x)))))) 2026]:=by simp[dM,kT,kS]
  rw[hi];by_cases _w:x=o
  .exact jzV _w trivial
  .exact pR _w (by simp only[cQ];omega) Gf trivial
theorem jE4{L:E u}{a:u}(h:dg L a)(nm:D):∃o rs a',jaX L a nm=B ((nm,(o,rs)),L,a')/\MZ o rs/\dg L a':=by
 obtain⟨p,a1,e1,m1,d1⟩:=pQ h (xs:=[(0:u),(4:u),(-20:u),(22:u),(48:u),(-47:u)]) ae ae;obtain⟨x2,a2,e2,x20,x21,d2⟩:=dT (n:=2) d1 aa aa;obtain⟨x3,a3,e3,x30,x31,d3⟩:=dT (n:=3) d2 aa aa;obtain⟨y,a4,e4,y0,y1,d4⟩:=dT (n:=2) d3 aa aa;obtain⟨q,a5,e5,q0,q1,d5⟩:=dT (n:=4) d4 aa aa;have hp : -47<=p/\p<=48:=by simp at m1;omega
 have hmul:0<=x2*x3/\x2*x3<=2:=by obtain rfl|rfl:x2=0\/x2=1:=aa;all_goals omega
 have jF : -43200<=900*(p+x2*x3):=aa;have lu:900*(p+x2*x3)<=45000:=aa;have cX:2025+y=2025\/2025+y=2026:=aa;simp only[jaX,e1,e2,e3,e4,e5,j4];rw[ar (x:=x2*x3),ar (x:=p+x2*x3),ar (x:=900*(p+x2*x3)),ar (x:=2025+y)];generalize 900*(p+x2*x3)=o at *;generalize 2025+y=last at *;by_cases _x:q=1
 .rw[dI _x,j6,ar (x:=o+3600)];exact⟨_,_,_,rfl,mz1 jF lu cX,d5⟩
 .rw[cG _x,j7];by_cases _y:q=2
  .rw[dI _y,j6];obtain⟨b1,c1,f1,b10,b11,g1⟩:=dT (n:=4) d5 aa aa;obtain⟨b2,c2,f2,KD,b21,g2⟩:=dT (n:=7) g1 aa aa;obtain⟨b3,c3,f3,b30,b31,g3⟩:=dT (n:=24) g2 aa aa;obtain⟨b4,c4,f4,b40,b41,g4⟩:=dT (n:=8) g3 aa aa;obtain⟨b5,c5,f5,b50,b51,g5⟩:=dT (n:=2) g4 aa aa;obtain⟨b6,c6,f6,m6,g6⟩:=pQ g5 (xs:=[(2:u),(3:u),(5:u)]) ae ae;obtain⟨b7,c7,f7,b70,b71,g7⟩:=dT (n:=7) g6 aa aa;obtain⟨b8,c8,f8,b80,b81,g8⟩:=dT (n:=24) g7 aa aa;have h6:2<=b6/\b6<=5:=by simp at m6;omega
   simp only[f1,f2,f3,f4,f5,f6,f7,f8,j4]
   rw[ar (x:=1+b1),ar (x:=3600*b3),ar (x:=1+b4),ar (x:=1800*(1+b4)),ar (x:=o+1800*(1+b4)),
    ar (x:=2+b5),ar (x:=3600*b8)]
   exact⟨_,_,_,rfl,mz2 jF lu cX aa aa KD aa aa aa aa aa aa h6.1 h6.2 b70 aa aa aa,g8⟩
  .rw[cG _y,j7];by_cases _z:q=3
   .rw[dI _z,j6];obtain⟨b1,c1,f1,m1,g1⟩:=pQ d5 (xs:=[(3600:u),(-3600:u),(82800:u),(-82800:u),(43200:u)]) ae ae;obtain⟨b2,c2,f2,KD,b21,g2⟩:=dT (n:=7) g1 aa aa;obtain⟨b3,c3,f3,b30,b31,g3⟩:=dT (n:=48) g2 aa aa;have dF : -82800<=b1/\b1<=82800:=by simp at m1;omega
    simp only[f1,f2,f3,j4];rw[ar (x:=o+b1),ar (x:=1800*b3)];by_cases ng:o+b1>64800\/o+b1 < -64800
    .have hb:cond (I (o+b1>64800)) true (I (o+b1 < -64800))=true:=by
      rcases ng with ng|ng
      .rw[ag ng];rfl
      .rw[ag ng];cases I (o+b1>64800)<;>rfl
     rw[hb,j6];exact⟨_,_,_,rfl,_v jF lu KD aa aa aa aa aa aa aa,g3⟩
    .rw[an (show¬o+b1>64800 by omega),an (show¬o+b1 < -64800 by omega)];simp only[j7];exact⟨_,_,_,rfl,_v jF lu KD aa aa aa aa aa aa aa,g3⟩
   .rw[cG _z,j7];exact⟨_,_,_,rfl,mz0 jF lu,d5⟩
theorem RK:∀(L:bh)(now:u)(p:H u),Good now p L->∀i,i<(cC now L).length -> -86400<bm now (cC now L) (i+1)-bm now (cC now L) i/\bm now (cC now L) (i+1)-bm now (cC now L) i<86400
 |[],_,_,_,i,hi=>by simp[cC]at hi
 |x::r,now,p,h,i,hi=>by
  simp only[Good]at h;by_cases hx:x.2=now
  .rw[if_pos hx]at h;have e:cC now (x::r)=cC now r:=by simp[cC,hx]
   rw[e]at hi ⊢;exact RK r now p h i hi
  .rw[if_neg hx]at h;have e:cC now (x::r)=(x.1-now,x.2)::cC x.2 r:=by simp[cC,hx]
   rw[e]at hi ⊢;obtain⟨⟨g1,g2,_⟩,g8⟩:=h;cases i with
   |zero=>exact⟨g1,g2⟩
   |succ i=>
    have:=RK r x.2 _ g8 i (by simpa using hi);cases i with
    |zero=>exact this
    |succ i=>exact this
section
variable{o:u}{l:bh}(h:iF o l)
include h
theorem KE{i j:F}{t:u}(hi:i<=l.length)(hj:j<=l.length)(a1:aX l i<=t)(a2:t<aX l (i+1))(b1:aX l j<=t)(b2:t<aX l (j+1)):i=j:=by
 rcases v8 i j with eh|eh|eh
 .have:=h.frm_le (i:=i+1) (j:=j) aa aa;omega
 .exact eh
 .have:=h.frm_le (i:=j+1) (j:=i) aa aa;omega
end
abbrev WL:=E (u×u)
def gO(p:u):WL->Prop
 |[]=>p<=604800
 |x::r=>p<=x.1/\x.1<x.2/\x.2<=604800/\gO x.2 r
def hasB(s:u):WL->Bool
 |[]=>false
 |x::r=>cond (cond (I (x.1<=s)) (I (s<x.2)) false) true (hasB s r)
theorem gO.top{p:u}:∀{w:WL},gO p w->p<=604800
 |[],h=>h
 |_::_,h=>by have:=h.1;have:=h.2.1;have:=h.2.2.1;omega
theorem gO.weak{p q:u}(hq:q<=p):∀{w:WL},gO p w->gO q w
 |[],h=>by show q<=604800;have:p<=604800:=h;omega
 |_::_,h=>⟨by have:=h.1;omega,h.2⟩
theorem Az:∀{w:WL}{p:u},gO p w->∀i,i<w.length->p<=(w.getD i (0,0)).1/\(w.getD i (0,0)).1<(w.getD i (0,0)).2/\(w.getD i (0,0)).2<=604800
 |[],_,_,i,hi=>by simp at hi
 |x::r,p,h,i,hi=>by
  obtain⟨h1,h2,h3,h4⟩:=h;cases i with
  |zero=>exact⟨h1,h2,h3⟩
  |succ i=>exact Az (h4.weak (show p<=x.2 by omega)) i (by simpa using hi)
theorem _A:∀{w:WL}{p:u},gO p w->∀i,i+1<w.length->(w.getD i (0,0)).2<=(w.getD (i+1) (0,0)).1
 |[],_,_,i,hi=>by simp at hi
 |x::[],_,_,i,hi=>by simp at hi
 |x::y::r,p,h,i,hi=>by
  cases i with
  |zero=>exact h.2.2.2.1
  |succ i=>exact _A h.2.2.2 i (by simpa using hi)
theorem _B{L:E u}:∀(n:F)(p a:u)(acc:WL),dg L a->0<=p->p<=604800->acc.length+n<=100->
  ∃w a',I1 p (n:u) L a acc=B (L,a',acc++w)/\gO p w/\w.length<=n/\dg L a'
 |0,p,a,acc,hd,_,hp,_=>by
  rw[Ye];simp only[j2h];rw[an aa,j7,aW];exact⟨[],a,ae,hp,ae,hd⟩
 |n+1,p,a,acc,hd,kN,hp,ha=>by
  obtain⟨x,a1,e1,x0,x1,d1⟩:=dT (n:=30) hd aa aa;obtain⟨y,a2,e2,y0,y1,d2⟩:=dT (n:=2) d1 aa aa;obtain⟨q,a3,e3,m3,d3⟩:=pQ d2 (xs:=[(3600:u),(28800:u),(43200:u),(86400:u),(61:u),(1:u)]) ae ae;have hq:1<=q/\q<=86400:=by simp at m3;omega
  rw[Ye];simp only[j2h];rw[ag aa];simp only[j6,e1,e2,e3,j4];rw[ar (x:=3600*x),ar (x:=p+3600*x),ar (x:=60*y),ar (x:=p+3600*x+60*y),ar (x:=p+3600*x+60*y+q),ar (x:=((n+1:F):u)-1)];by_cases ng:p+3600*x+60*y+q>604800
  .rw[ag ng,j6,aW];exact⟨[],a3,ae,hp,ae,d3⟩
  .rw[an ng,ag (by simp[aG];omega)];simp only[j7,j6,aS];obtain⟨w,a4,e4,hw,uQ,d4⟩:=_B n (p+3600*x+60*y+q) a3 (acc++[(p+3600*x+60*y,p+3600*x+60*y+q)]) d3 aa aa az;rw[show ((n+1:F):u)-1=(n:u) by omega];refine⟨(p+3600*x+60*y,p+3600*x+60*y+q)::w,a4,by rw[e4,jg];rfl,⟨by dsimp only;omega,by dsimp only;omega,by dsimp only;omega,hw⟩,az,d4⟩
theorem RM{L:E u}{a:u}(h:dg L a):∃w a',j4v L a=B (w,L,a')/\gO 0 w/\w.length<=3/\dg L a':=by
 obtain⟨x,a1,e1,x0,x1,d1⟩:=dT (n:=4) h aa aa;obtain⟨w,a',e2,h1,h2,h3⟩:=_B x.toNat 0 a1 [] d1 aa aa az;rw[show ((x.toNat:F):u)=x by omega,jw]at e2;simp only[j4v,e1,j4,e2];exact⟨w,a',rfl,h1,aa,h3⟩
theorem _C{L:E u}{a:u}(h:dg L a):∃t a',j5W L a=B (t,L,a')/\1767139199<=t/\t<=1767139200+3600*575+3599/\dg L a':=by
 obtain⟨x,a1,e1,x0,x1,d1⟩:=dT (n:=576) h aa aa;obtain⟨y,a2,e2,y0,y1,d2⟩:=dT (n:=3) d1 aa aa;obtain⟨q,a3,e3,m3,d3⟩:=pQ d2 (xs:=[(-1:u),(1:u),(1800:u),(3599:u)]) ae ae;have hq : -1<=q/\q<=3599:=by simp at m3;omega
 simp only[j5W,e1,j4,j1i,e2,e3];rw[ar (x:=3600*x),ar (x:=1767139200+3600*x),ar (x:=1767139200+3600*x+q)];cases (y==w64 (3-1)) with
 |true=>exact⟨_,_,rfl,aa,aa,d3⟩
 |false=>exact⟨_,_,rfl,aa,aa,d2⟩
theorem _D{w:WL}(hl:w.length<=14)(s:u):∀(n i:F),i+n=w.length->IY s w (w.length:u) (i:u)=B (cond (hasB s (w.drop i)) (.inl true) (.inr ()))
 |0,i,hi=>by
  rw[X9];simp only[j6C];rw[an aa,j7,aW,A aa];rfl
 |n+1,i,hi=>by
  have aq:i<w.length:=aa;have bc:w.getD i ((0:u),(0:u))=w[i]:=by simp[aq]
  have ih:=_D hl s n (i+1) aa;rw[X9,jb aq];simp only[j6C];rw[ag (show (i:u)<(w.length:u) by omega),bE];simp only[j6,j8,bc,hasB];rw[ar (x:=(i:u)+1)];cases hb:cond (I (w[i].1<=s)) (I (s<w[i].2)) false with
  |true=>simp only[j6,aW]
  |false=>simp only[j7,aS];exact ih
theorem jFs{w:WL}(hl:w.length<=14)(s:u):jmX w s=B (hasB s w):=by
 have:=_D hl s w.length 0 aa;rw[show ((0:F):u)=0 from rfl,jk]at this;simp only[jmX,show Int.ofNat (G w)=(w.length:u) from rfl,this,j4];cases hasB s w<;>rfl
end Go.Proofs.Pw
