/- eB 4: the transitions of a zone. -/
import Derived.Test.YtllkgjaoejhneaaGreatSEPA
open _root_ renaming Int->u,ByteArray->B,List->D,Nat->E,Option->G
open Option renaming some->A,none->M
open List renaming length->F,range->I
open Decidable renaming decide->H
open Go Go.Lft
namespace Go.Proofs.Pw
abbrev aH:=u×(u×(u×(u×(u×(u×u)))))
theorem iE{n lo hi:u}(h1:lo<=n)(h2:n<=hi):j7b n lo hi=A true:=by
 simp only[j7b];rw[ah (show n>=lo from h1),ah h2];rfl
theorem zR{n lo hi:u}(h:¬(lo<=n/\n<=hi)):j7b n lo hi=A false:=by
 simp only[j7b];by_cases h1:n>=lo
 .rw[ah h1,ak (λh2=>h ⟨h1,h2⟩)];rfl
 .rw[ak h1];rfl
structure iF(r:aH):Prop where
 y0:1970<=r.1
 y1:r.1<=r.2.1
 y2:r.2.1<=2240
 m0:1<=r.2.2.1
 m1:r.2.2.1<=12
 k0:1<=r.2.2.2.1
 k1:r.2.2.2.1<=5
 d0:0<=r.2.2.2.2.1
 d1:r.2.2.2.2.1<=6
 s0:0<=r.2.2.2.2.2.1
 s1:r.2.2.2.2.2.1<=86399
 o0 : -64800<=r.2.2.2.2.2.2
 o1:r.2.2.2.2.2.2<=64800
theorem jAu{r:aH}(h:iF r):ja4 r=A 0:=by
 simp only[ja4,iE h.y0 (show r.1<=2240 by have:=h.y1;have:=h.y2;omega),iE h.y1 h.y2,iE h.m0 h.m1,iE h.k0 h.k1,iE h.d0 h.d1,iE h.s0 h.s1,iE h.o0 h.o1,ja,jk,jd]
theorem Jg{y m k w:u}(_h1:1970<=y)(_h2:y<=2240)(gZ:1<=m)(gV:m<=12)(dm:1<=k)(eR:k<=5):num y m 1<=nth y m k w/\nth y m k w<num y m 1+eQ y m\/nth y m k w<num y m 1+35/\num y m 1<=nth y m k w:=by
 right;have hd:=Fk y m gZ gV;unfold nth;dsimp only;split<;>omega
def cM(r:aH)(y:u):u×Int:=(nth y r.2.2.1 r.2.2.2.1 r.2.2.2.2.1*86400+r.2.2.2.2.2.1,r.2.2.2.2.2.2)
def fY(r:aH):bg:=(I (r.2.1-r.1+1).toNat).map λ(i:E)=>cM r (r.1+(i:u))
def occs(l:D aH):bg:=l.flatMap fY
theorem jwx{r:aH}(h:iF r){y:u}(h1:1970<=y)(h2:y<=2240):0<=(cM r y).1/\(cM r y).1<=10000000000:=by
 have hv:=zQ (B8 y r.2.2.1 h1 h2 h.m0 h.m1);have iN:=h.s0;have kJ:=h.s1;have:=Jg (w:=r.2.2.2.2.1) h1 h2 h.m0 h.m1 h.k0 h.k1;have hd:=mP y r.2.2.1;unfold cM;dsimp only;omega
theorem jAv{r:aH}(h:iF r):Sm (fY r):=by
 intro x hx;obtain⟨i,hi,rfl⟩:=ki.1 hx;have hi:=List.mem_range.1 hi;have h0:=h.y0;have h2:=h.y2;have:=jwx h (y:=r.1+(i:u)) aa aa;omega
theorem P6{l:D aH}(h:∀r∈l,iF r):Sm (occs l):=by
 intro x hx;obtain⟨r,hr,hx⟩:=qy.1 hx;exact jAv (h r hr) x hx
theorem XQ{r:aH}(h:iF r)(rs:D aH)(a b:u):∀(n:E)(i:E)(acc:bg),r.1+(i:u)+n=r.2.1+1->acc.length+n<=100000->
  Ho (r.1+(i:u)) rs a b r.1 r.2.1 r.2.2.1 r.2.2.2.1 r.2.2.2.2.1 r.2.2.2.2.2.1 r.2.2.2.2.2.2 acc=A (rs,a,b,acc++(I n).map λ(j:E)=>cM r (r.1+(i:u)+(j:u)))
 |0,i,acc,hi,_=>by
  rw[Vj];simp only[j2b];rw[ak aa,jd,ba];simp
 |n+1,i,acc,hi,hl=>by
  have h0:=h.y0;have h2:=h.y2;have iN:=h.s0;have kJ:=h.s1;have hv:=zQ (B8 (r.1+(i:u)) r.2.2.1 aa aa h.m0 h.m1);have hn:=Jg (w:=r.2.2.2.2.1) (y:=r.1+(i:u)) aa aa h.m0 h.m1 h.k0 h.k1;have hd:=mP (r.1+(i:u)) r.2.2.1;rw[Vj];simp only[j2b];rw[ah (show r.1+(i:u)<=r.2.1 by omega),jBK _ _ _ _ aa aa h.m0 h.m1 h.k0 h.k1 h.d0 h.d1];simp only[jc,ja]
  rw[ar (x:=nth (r.1+(i:u)) r.2.2.1 r.2.2.2.1 r.2.2.2.2.1*86400),ar (x:=nth (r.1+(i:u)) r.2.2.1 r.2.2.2.1 r.2.2.2.2.1*86400+r.2.2.2.2.2.1),
   ar (x:=r.1+(i:u)+1)]
  rw[ah (by simp[aF];omega)];simp only[jc,aV];have ih:=XQ h rs a b n (i+1) (acc++[cM r (r.1+(i:u))]) aa ay;rw[show r.1+(i:u)+1=r.1+((i+1:E):u) by omega];refine ih.trans ?_
  have zS:(I n).map (λ(j:E)=>cM r (r.1+((i+1:E):u)+(j:u)))=(I n).map ((λ(j:E)=>cM r (r.1+(i:u)+(j:u))) ∘ Nat.succ):=List.map_congr_left λj _=>by
   simp only[Function.comp];congr 1;omega
  rw[List.range_succ_eq_map,qe,List.map_map,zS];simp
theorem P7{rs:D aH}(h:∀r∈rs,iF r)(hlen:rs.length<=100):∀(n i:E)(acc:bg),i+n=rs.length->acc.length<=300*i->
  Er rs (rs.length:u) (i:u) acc=A (acc++occs (rs.drop i))
 |0,i,acc,hi,_=>by
  rw[Vk];simp only[j2c];rw[ak aa,jd,ba,jj aa];simp[occs]
 |n+1,i,acc,hi,hl=>by
  have au:i<rs.length:=aa;have hr:=h rs[i] (ju au);have h0:=hr.y0;have h1:=hr.y1;have h2:=hr.y2;have hg:rs.getD i ((0:u),((0:u),((0:u),((0:u),((0:u),((0:u),(0:u)))))))=rs[i]:=by simp[au]
  have wM:=XQ hr rs (rs.length:u) (i:u) (rs[i].2.1-rs[i].1+1).toNat 0 acc aa aa;rw[show rs[i].1+((0:E):u)=rs[i].1 by omega]at wM;have ih:=P7 h hlen n (i+1) (acc++fY rs[i]) aa (by simp[fY];omega);rw[Vk];simp only[j2c];rw[ah (show (i:u)<(rs.length:u) by omega),bP];simp only[jc,je,hg,wM,ja];rw[ar,aV,jh au];refine ih.trans ?_;rw[jo];rfl
theorem P8{rs:D aH}(h:∀r∈rs,iF r)(hlen:rs.length<=100)(nm:B)(o:u):∀(n i:E)(s:u),i+n=rs.length->0<=s->s<=300*i->
  BI s rs (rs.length:u) (i:u) nm o rs=A (.inr (s+((occs (rs.drop i)).length:u),nm,o,rs))
 |0,i,s,hi,_,_=>by
  rw[Nb];simp only[j1F];rw[ak aa,jd,ba,jj aa];simp[occs]
 |n+1,i,s,hi,iN,kJ=>by
  have au:i<rs.length:=aa;have hr:=h rs[i] (ju au);have h0:=hr.y0;have h1:=hr.y1;have h2:=hr.y2;have hg:rs.getD i ((0:u),((0:u),((0:u),((0:u),((0:u),((0:u),(0:u)))))))=rs[i]:=by simp[au]
  have ih:=P8 h hlen nm o n (i+1) (s+(rs[i].2.1-rs[i].1+1)) aa aa aa;have rU:ja4 (rs[i].1,(rs[i].2.1,(rs[i].2.2.1,(rs[i].2.2.2.1,(rs[i].2.2.2.2.1,(rs[i].2.2.2.2.2.1,rs[i].2.2.2.2.2.2))))))=A 0:=jAu hr;rw[Nb];simp only[j1F];rw[ah (show (i:u)<(rs.length:u) by omega),bP];simp only[jc,je,hg,rU,ja,jm,jd];rw[ar (x:=rs[i].2.1-rs[i].1),ar (x:=rs[i].2.1-rs[i].1+1),ar (x:=s+(rs[i].2.1-rs[i].1+1)),ar (x:=(i:u)+1),aV];refine ih.trans ?_;rw[jh au]
  have:((occs (rs[i]::rs.drop (i+1))).length:u)=(rs[i].2.1-rs[i].1+1)+((occs (rs.drop (i+1))).length:u):=by
   have e1:(fY rs[i]).length=(rs[i].2.1-rs[i].1+1).toNat:=by simp[fY]
   show ((fY rs[i]++occs (rs.drop (i+1))).length:u)=_;rw[jn,e1];omega
  rw[this];congr 3;omega
theorem jmx{nm:B}{o:u}{rs:D aH}(h:∀r∈rs,iF r)(lO : -64800<=o)(kP:o<=64800)(hlen:rs.length<=16)(hn:(occs rs).length<20):j25 (nm,(o,rs))=A (dE (occs rs),0):=by
 have e0:=P8 h aa nm o rs.length 0 0 aa aa aa;have e2:=P7 h aa rs.length 0 [] aa af;rw[jt]at e0 e2;simp only[j25,iE lO kP,ja,jk,jd,show Int.ofNat (F rs)=(rs.length:u) from rfl];rw[ak (show¬(rs.length:u)>16 by omega),jd,show BI 0 rs (rs.length:u) 0 nm o rs=_ from e0];simp only[ja,lN];rw[ak aa,jd,kT rs,show Er rs (rs.length:u) 0 []=_ from e2];simp only[ja,kc,XJ (P6 h) hn]
def cj(now:u):bg->bg
 |[]=>[]
 |x::r=>if x.2=now then cj now r else (x.1-now,x.2)::cj x.2 r
def Good(now:u)(p:G u):bg->Prop
 |[]=>True
 |x::r=>if x.2=now then Good now p r else (-86400<x.2-now/\x.2-now<86400/\1000000<x.1-now/\x.1-now<=8589000000/\(∀q,p=A q->q+604800<=x.1-now) /\ -64800<=x.2/\x.2<=64800)/\Good x.2 (A (x.1-now)) r
theorem P9(L:bg)(hL:L.length<=1000):∀(n i:E)(now:u)(acc:bg),i+n=L.length -> -64800<=now->now<=64800->acc.length<=i->(∀x∈acc,0<=x.1/\x.1<=8589934592)->Good now (acc.getLast?.map (·.1)) (L.drop i)->
  BJ now (L.length:u) (i:u) acc L=A (.inr (acc++cj now (L.drop i)))
 |0,i,now,acc,hi,_,_,_,_,_=>by
  rw[Hp];simp only[j1j];rw[ak aa,jd,ba,jj aa];simp[cj]
 |n+1,i,now,acc,hi,kK,nA,Be,dI,hg=>by
  have au:i<L.length:=aa;rw[jh au]at hg ⊢;have bm:L.getD i ((0:u),(0:u))=L[i]:=by simp[au]
  rw[Hp];simp only[j1j];rw[ah (show (i:u)<(L.length:u) by omega),bP];simp only[jc,je,bm];generalize L[i]=x at *;rw[ar (x:=(i:u)+1)];simp only[Good]at hg;by_cases hx:x.2=now
  .rw[if_pos hx]at hg;rw[fh hx];simp only[jc,aV,cj];rw[if_pos hx];exact P9 L hL n (i+1) now acc aa kK nA aa dI hg
  .rw[if_neg hx]at hg;obtain⟨⟨g1,g2,g3,g4,g5,g6,g7⟩,g8⟩:=hg;rw[cU hx,ar (x:=x.1-now),ar (x:=x.2-now),ak (show¬x.2-now>=86400 by omega),ak (show¬x.2-now <= -86400 by omega)];simp only[jd,iE (show (0:u)<=x.1-now by omega) (show x.1-now<=8589934592 by omega),ja,jk,jv,zw,show Int.ofNat (F acc)=(acc.length:u) from rfl];rw[ar (x:=(acc.length:u)-1)]
   have ff:=P9 L hL n (i+1) x.2 (acc++[(x.1-now,x.2)]) aa g6 g7 ay
    (λy hy=>by
     rcases js.1 hy with hy|hy
     .exact dI y hy
     .simp at hy;subst hy;exact⟨by show (0:u)<=x.1-now;omega,by show x.1-now<=8589934592;omega⟩) (by simpa using g8)
   have cF:cj now (x::L.drop (i+1))=(x.1-now,x.2)::cj x.2 (L.drop (i+1)):=by simp[cj,hx]
   rw[cF];rw[jo]at ff;by_cases ha:acc=[]
   .subst ha;simp only[kr];rw[show inR (((0:E):u)-1) 0=false from rfl,show H (((0:E):u)>0)=false from rfl];simp only[jv,jc,jd,Bool.or_true];rw[ah (by simp[aF])];simp only[jc,aV];exact ff
   .have bU:0<acc.length:=List.length_pos_iff.2 ha;have cG:acc.getLast? = A (acc.getD (acc.length-1) (0,0)):=by rw[List.getLast?_eq_getElem?,List.getD_eq_getElem?_getD,kb (show acc.length-1<acc.length by omega)];rfl
    rw[cG]at g5;have g5:(acc.getD (acc.length-1) ((0:u),(0:u))).1+604800<=x.1-now:=g5 _ rfl;have hb:=dI (acc.getD (acc.length-1) (0,0)) (List.mem_of_getLast? cG);rw[bP,ah (show (acc.length:u)>0 by omega),show ((acc.length:u)-1).toNat=acc.length-1 by omega];simp only[zv,jc];rw[ar,ak (show¬x.1-now<(acc.getD (acc.length-1) ((0:u),(0:u))).1+604800 by omega),ah (by simp[aF];omega)];simp only[jc,jd,aV];exact ff
def Jh(p:G u):bg->Prop
 |[]=>True
 |x::r=>(1000000<x.1/\x.1<=8589000000/\(∀q,p=A q->q+604800<=x.1) /\ -64800<=x.2/\x.2<=64800)/\Jh (A x.1) r
theorem Qa:∀(L:bg)(now:u)(p:G u),Good now p L->Jh p (cj now L)
 |[],_,_,_=>trivial
 |x::r,now,p,h=>by
  simp only[Good]at h;by_cases hx:x.2=now
  .rw[if_pos hx]at h;simp only[cj];rw[if_pos hx];exact Qa r now p h
  .rw[if_neg hx]at h;simp only[cj];rw[if_neg hx];obtain⟨⟨g1,g2,g3,g4,g5,g6,g7⟩,g8⟩:=h;exact⟨⟨g3,g4,g5,g6,g7⟩,Qa r x.2 _ g8⟩
theorem Ji:∀(L:bg)(now:u),(cj now L).length<=L.length
 |[],_=>jy _
 |x::r,now=>by
  simp only[cj];split
  .have:=Ji r now;simp;omega
  .have:=Ji r x.2;simp;omega
theorem XR:∀(l:bg)(p:G u),Jh p l->(∀i,i+1<l.length->dW l i+604800<=dW l (i+1))/\(∀i,i<l.length->1000000<dW l i/\dW l i<=8589000000)/\
  (∀o i, -64800<=o->o<=64800->i<=l.length -> -64800<=bj o l i/\bj o l i<=64800)
 |[],_,_=>⟨λi h=>by simp at h,λi h=>by simp at h,λo i h1 h2 h3=>by
  have:i=0:=by simpa using h3
  subst this;exact⟨h1,h2⟩⟩
 |x::r,p,h=>by
  obtain⟨⟨g3,g4,g5,g6,g7⟩,g8⟩:=h;obtain⟨h1,h2,h3⟩:=XR r _ g8;refine⟨λi hi=>?_,λi hi=>?_,λo i lO kP hi=>?_⟩
  .cases i with
   |zero=>
    cases r with
    |nil=>simp at hi
    |cons y ys=>have:=g8.1.2.2.1 _ rfl;exact this
   |succ i=>exact h1 i (by simp at hi ⊢;omega)
  .cases i with
   |zero=>exact⟨g3,g4⟩
   |succ i=>exact h2 i (by simp at hi ⊢;omega)
  .cases i with
   |zero=>exact⟨lO,kP⟩
   |succ i=>
    cases i with
    |zero=>exact⟨g6,g7⟩
    |succ i=>exact h3 x.2 (i+1) g6 g7 (by simp at hi ⊢;omega)
theorem jAw{o:u}{l:bg}(h:Jh M l)(hl:l.length<=1000)(h0 : -64800<=o)(h1:o<=64800):iD o l:=by
 obtain⟨a,b,c⟩:=XR l M h;exact⟨hl,a,λi hi=>(b i hi).1,λi hi=>(b i hi).2,λi hi=>(c o i h0 h1 hi).1,λi hi=>(c o i h0 h1 hi).2⟩
def rV(z:B×(u×D aH))(l:bg):Prop:=j0P z=A (l,0)/\iD z.2.1 l
theorem jAx{nm:B}{o:u}{rs:D aH}(h:∀r∈rs,iF r)(lO : -64800<=o)(kP:o<=64800)(hlen:rs.length<=16)(hn:(occs rs).length<20)(hg:Good o M (dE (occs rs))):rV (nm,(o,rs)) (cj o (dE (occs rs))):=by
 have hl:(dE (occs rs)).length<=1000:=by simp[dE,B7];omega
 refine⟨?_,jAw (Qa _ _ _ hg) (by have:=Ji (dE (occs rs)) o;omega) lO kP⟩;have:=P9 (dE (occs rs)) hl (dE (occs rs)).length 0 o [] aa lO kP af af hg;simp only[j0P,jmx h lO kP hlen hn,ja,jm,jd,show Int.ofNat (F (dE (occs rs)))=((dE (occs rs)).length:u) from rfl];rw[jt]at this;rw[show BJ o ((dE (occs rs)).length:u) 0 [] (dE (occs rs))=_ from this];rfl
theorem jCJ{z:B×(u×D aH)}{l:bg}(h:rV z l):jle z=A ((z.2.1,l),0):=by
 simp only[jle,show j0P (z.1,(z.2.1,z.2.2))=_ from h.1,ja]
theorem XS{y m k w:u}(gZ:1<=m)(gV:m<=12)(dm:2<=k)(eR:k<=5):num y m 1+7<=nth y m k w/\nth y m k w<=num y m 1+34:=by
 have hd:=Fk y m gZ gV;unfold nth;dsimp only;split<;>omega
theorem Qb{y m k w:u}(gZ:1<=m)(gV:m<=12)(dm:1<=k)(eR:k<=4):num y m 1<=nth y m k w/\nth y m k w<=num y m 1+27:=by
 have hd:=Fk y m gZ gV;unfold nth;dsimp only;split<;>omega
theorem XU{a b:u×u}(h:a.1<b.1):dE [a,b]=[a,b]:=by
 simp[dE,jZ,jY,show¬b.1<a.1 by omega]
theorem XV{a b c d:u×u}(h1:a.1<c.1)(h2:c.1<b.1)(h3:b.1<d.1):dE [a,b,c,d]=[a,c,b,d]:=by
 simp[dE,jZ,jY,show¬b.1<a.1 by omega,h2,show¬c.1<a.1 by omega,show¬d.1<b.1 by omega]
theorem XW(r1 r2:aH)(h1:r1.1=2025)(h2:r1.2.1=2025)(h3:r2.1=2025)(h4:r2.2.1=2025):occs [r1,r2]=[cM r1 2025,cM r2 2025]:=by
 simp[occs,fY,h1,h2,h3,h4]
theorem XX(r1 r2:aH)(h1:r1.1=2025)(h2:r1.2.1=2026)(h3:r2.1=2025)(h4:r2.2.1=2026):occs [r1,r2]=[cM r1 2025,cM r1 2026,cM r2 2025,cM r2 2026]:=by
 simp[occs,fY,h1,h2,h3,h4,List.range_succ]
theorem oZ{now:u}{p:G u}{x:u×u}{r:bg}(hx:x.2≠now)(h : -86400<x.2-now/\x.2-now<86400/\1000000<x.1-now/\x.1-now<=8589000000 /\ -64800<=x.2/\x.2<=64800)
  (hp:∀q,p=A q->q+604800<=x.1-now)(hr:Good x.2 (A (x.1-now)) r):Good now p (x::r):=by
 simp only[Good];rw[if_neg hx];exact⟨⟨h.1,h.2.1,h.2.2.1,h.2.2.2.1,hp,h.2.2.2.2.1,h.2.2.2.2.2⟩,hr⟩
theorem jwC{now:u}{p:G u}{x:u×u}{r:bg}(hx:x.2=now)(hr:Good now p r):Good now p (x::r):=by
 simp only[Good];rw[if_pos hx];exact hr
theorem Fo{P:u->Prop}:∀q,(M:G u)=A q->P q:=λ_ h=>by simp at h
theorem wN{P:u->Prop}{a:u}(h:P a):∀q,A a=A q->P q:=λq hq=>by simp at hq;subst hq;exact h
theorem n251:num 2025 1 1=20089:=by decide
theorem n261:num 2026 1 1=20454:=by decide
theorem n252:num 2025 2 1=20120:=by decide
theorem n253:num 2025 3 1=20148:=by decide
theorem n262:num 2026 2 1=20485:=by decide
theorem n263:num 2026 3 1=20513:=by decide
structure MZ(o:u)(rs:D aH):Prop where
 o0 : -64800<=o
 o1:o<=64800
 ok:∀r∈rs,iF r
 len:rs.length<=2
 yr:∀r∈rs,2025<=r.1
 few:(occs rs).length<=4
 good:Good o M (dE (occs rs))
theorem MZ.tab{o:u}{rs:D aH}(h:MZ o rs)(nm:B):rV (nm,(o,rs)) (cj o (dE (occs rs))):=
 jAx h.ok (by have:=h.o0;omega) (by have:=h.o1;omega) (by have:=h.len;omega) (by have:=h.few;omega) h.good
theorem mz0{o:u}(h0 : -43200<=o)(h1:o<=45000):MZ o []:=⟨aa,aa,af,af,af,by decide,trivial⟩
theorem XY{r1 r2:aH}(h1:iF r1)(h2:iF r2):∀r∈[r1,r2],iF r:=by
 intro r hr;simp at hr;rcases hr with rfl|rfl
 .exact h1
 .exact h2
theorem mz1{o last:u}(h0 : -43200<=o)(h1:o<=45000)(hl:last=2025\/last=2026):MZ o [(2025,(last,(3,(5,(6,(7200,o+3600)))))),(2025,(last,(10,(5,(6,(10800,o))))))]:=by
 have a1:nth 2025 3 5 6=20177:=by decide
 have a2:nth 2025 10 5 6=20387:=by decide
 have a3:nth 2026 3 5 6=20541:=by decide
 have a4:nth 2026 10 5 6=20751:=by decide
 have bJ:=XY (r1:=(2025,(last,(3,(5,(6,(7200,o+3600))))))) (r2:=(2025,(last,(10,(5,(6,(10800,o))))))) (by constructor<;>(dsimp only;omega)) (by constructor<;>(dsimp only;omega));rcases hl with rfl|rfl
 .have e:=XW (2025,(2025,(3,(5,(6,(7200,o+3600)))))) (2025,(2025,(10,(5,(6,(10800,o)))))) rfl rfl rfl rfl;refine⟨aa,aa,bJ,af,af,by rw[e];simp,?_⟩;rw[e,XU (by simp only[cM];omega)];refine oZ (by simp only[cM];omega) (by simp only[cM];omega) Fo (oZ (by simp only[cM];omega) (by simp only[cM];omega) (wN (by simp only[cM];omega)) trivial)
 .have e:=XX (2025,(2026,(3,(5,(6,(7200,o+3600)))))) (2025,(2026,(10,(5,(6,(10800,o)))))) rfl rfl rfl rfl;refine⟨aa,aa,bJ,af,af,by rw[e];simp,?_⟩;rw[e,XV (by simp only[cM];omega) (by simp only[cM];omega) (by simp only[cM];omega)]
  refine oZ (by simp only[cM];omega) (by simp only[cM];omega) Fo (oZ (by simp only[cM];omega) (by simp only[cM];omega) (wN (by simp only[cM];omega))
   (oZ (by simp only[cM];omega) (by simp only[cM];omega) (wN (by simp only[cM];omega)) (oZ (by simp only[cM];omega) (by simp only[cM];omega) (wN (by simp only[cM];omega)) trivial)))
theorem mz2{o last k1 w1 s1 c m2 k2 w2 s2:u}(h0 : -43200<=o)(h1:o<=45000)(hl:last=2025\/last=2026)(hk:1<=k1)(bk:k1<=4)(hw:0<=w1)(Ll:w1<=6)(hs:0<=s1)(dy:s1<=82800)(hc:1800<=c)(dr:c<=14400)
  (hm:m2=2\/m2=3)(hj:2<=k2)(jI:k2<=5)(hx:0<=w2)(mL:w2<=6)(ht:0<=s2)(sA:s2<=82800):MZ o [(2025,(last,(1,(k1,(w1,(s1,o+c)))))),(2025,(last,(m2,(k2,(w2,(s2,o))))))]:=by
 have bJ:=XY (r1:=(2025,(last,(1,(k1,(w1,(s1,o+c))))))) (r2:=(2025,(last,(m2,(k2,(w2,(s2,o))))))) (by constructor<;>(dsimp only;omega)) (by constructor<;>(dsimp only;omega));have b1:=Qb (y:=2025) (m:=1) (k:=k1) (w:=w1) aa aa hk bk;have b2:=Qb (y:=2026) (m:=1) (k:=k1) (w:=w1) aa aa hk bk;have b3:=XS (y:=2025) (m:=m2) (k:=k2) (w:=w2) aa aa hj jI;have b4:=XS (y:=2026) (m:=m2) (k:=k2) (w:=w2) aa aa hj jI;have c1:20120<=num 2025 m2 1/\num 2025 m2 1<=20148:=by rcases hm with rfl|rfl<;>simp[n252,n253]
 have c2:20485<=num 2026 m2 1/\num 2026 m2 1<=20513:=by rcases hm with rfl|rfl<;>simp[n262,n263]
 rw[n251]at b1;rw[n261]at b2;rcases hl with rfl|rfl
 .have e:=XW (2025,(2025,(1,(k1,(w1,(s1,o+c)))))) (2025,(2025,(m2,(k2,(w2,(s2,o)))))) rfl rfl rfl rfl;refine⟨aa,aa,bJ,af,af,by rw[e];simp,?_⟩;rw[e,XU (by simp only[cM];omega)];refine oZ (by simp only[cM];omega) (by simp only[cM];omega) Fo (oZ (by simp only[cM];omega) (by simp only[cM];omega) (wN (by simp only[cM];omega)) trivial)
 .have e:=XX (2025,(2026,(1,(k1,(w1,(s1,o+c)))))) (2025,(2026,(m2,(k2,(w2,(s2,o)))))) rfl rfl rfl rfl;refine⟨aa,aa,bJ,af,af,by rw[e];simp,?_⟩;rw[e,XV (by simp only[cM];omega) (by simp only[cM];omega) (by simp only[cM];omega)]
  refine oZ (by simp only[cM];omega) (by simp only[cM];omega) Fo (oZ (by simp only[cM];omega) (by simp only[cM];omega) (wN (by simp only[cM];omega))
   (oZ (by simp only[cM];omega) (by simp only[cM];omega) (wN (by simp only[cM];omega)) (oZ (by simp only[cM];omega) (by simp only[cM];omega) (wN (by simp only[cM];omega)) trivial)))
theorem XZ{o w s x:u}(h0 : -43200<=o)(h1:o<=45000)(hw:0<=w)(Ll:w<=6)(hs:0<=s)(dy:s<=84600)(xw : -64800<=x)(oM:x<=64800)(gI : -86400<x-o)(eS:x-o<86400):MZ o [(2026,(2026,(1,(2,(w,(s,x))))))]:=by
 have b:=Qb (y:=2026) (m:=1) (k:=2) (w:=w) aa aa aa aa;rw[n261]at b;have e:occs [((2026:u),((2026:u),((1:u),((2:u),(w,(s,x))))))]=[cM (2026,(2026,(1,(2,(w,(s,x)))))) 2026]:=by simp[occs,fY]
 refine⟨aa,aa,λr hr=>?_,af,af,by rw[e];simp,?_⟩
 .simp at hr;subst hr;constructor<;>(dsimp only;omega)
 .rw[e];have hi:dE [cM (2026,(2026,(1,(2,(w,(s,x)))))) 2026]=[cM (2026,(2026,(1,(2,(w,(s,x)))))) 2026]:=by simp[dE,jZ,jY]
  rw[hi];by_cases X0:x=o
  .exact jwC X0 trivial
  .exact oZ X0 (by simp only[cM];omega) Fo trivial
theorem jAy{L:D u}{a:u}(h:di L a)(nm:B):∃o rs a',j9L L a nm=A ((nm,(o,rs)),L,a')/\MZ o rs/\di L a':=by
 obtain⟨p,a1,e1,m1,d1⟩:=oY h (xs:=[(0:u),(4:u),(-20:u),(22:u),(48:u),(-47:u)]) af af;obtain⟨x2,a2,e2,x20,x21,d2⟩:=dH (n:=2) d1 aa aa;obtain⟨x3,a3,e3,x30,x31,d3⟩:=dH (n:=3) d2 aa aa;obtain⟨y,a4,e4,y0,y1,d4⟩:=dH (n:=2) d3 aa aa;obtain⟨q,a5,e5,q0,q1,d5⟩:=dH (n:=4) d4 aa aa;have hp : -47<=p/\p<=48:=by simp at m1;omega
 have hmul:0<=x2*x3/\x2*x3<=2:=by obtain rfl|rfl:x2=0\/x2=1:=aa;all_goals omega
 have lO : -43200<=900*(p+x2*x3):=aa;have kP:900*(p+x2*x3)<=45000:=aa;have cG:2025+y=2025\/2025+y=2026:=aa;simp only[j9L,e1,e2,e3,e4,e5,ja];rw[ar (x:=x2*x3),ar (x:=p+x2*x3),ar (x:=900*(p+x2*x3)),ar (x:=2025+y)];generalize 900*(p+x2*x3)=o at *;generalize 2025+y=last at *;by_cases X1:q=1
 .rw[fh X1,jc,ar (x:=o+3600)];exact⟨_,_,_,rfl,mz1 lO kP cG,d5⟩
 .rw[cU X1,jd];by_cases X2:q=2
  .rw[fh X2,jc];obtain⟨b1,c1,f1,b10,b11,g1⟩:=dH (n:=4) d5 aa aa;obtain⟨b2,c2,f2,Jj,b21,g2⟩:=dH (n:=7) g1 aa aa;obtain⟨b3,c3,f3,b30,b31,g3⟩:=dH (n:=24) g2 aa aa;obtain⟨b4,c4,f4,b40,b41,g4⟩:=dH (n:=8) g3 aa aa;obtain⟨b5,c5,f5,b50,b51,g5⟩:=dH (n:=2) g4 aa aa;obtain⟨b6,c6,f6,m6,g6⟩:=oY g5 (xs:=[(2:u),(3:u),(5:u)]) af af;obtain⟨b7,c7,f7,b70,b71,g7⟩:=dH (n:=7) g6 aa aa;obtain⟨b8,c8,f8,b80,b81,g8⟩:=dH (n:=24) g7 aa aa;have h6:2<=b6/\b6<=5:=by simp at m6;omega
   simp only[f1,f2,f3,f4,f5,f6,f7,f8,ja]
   rw[ar (x:=1+b1),ar (x:=3600*b3),ar (x:=1+b4),ar (x:=1800*(1+b4)),ar (x:=o+1800*(1+b4)),
    ar (x:=2+b5),ar (x:=3600*b8)]
   exact⟨_,_,_,rfl,mz2 lO kP cG aa aa Jj aa aa aa aa aa aa h6.1 h6.2 b70 aa aa aa,g8⟩
  .rw[cU X2,jd];by_cases X3:q=3
   .rw[fh X3,jc];obtain⟨b1,c1,f1,m1,g1⟩:=oY d5 (xs:=[(3600:u),(-3600:u),(82800:u),(-82800:u),(43200:u)]) af af;obtain⟨b2,c2,f2,Jj,b21,g2⟩:=dH (n:=7) g1 aa aa;obtain⟨b3,c3,f3,b30,b31,g3⟩:=dH (n:=48) g2 aa aa;have dG : -82800<=b1/\b1<=82800:=by simp at m1;omega
    simp only[f1,f2,f3,ja];rw[ar (x:=o+b1),ar (x:=1800*b3)];by_cases mB:o+b1>64800\/o+b1 < -64800
    .have hb:cond (H (o+b1>64800)) true (H (o+b1 < -64800))=true:=by
      rcases mB with mB|mB
      .rw[ah mB];rfl
      .rw[ah mB];cases H (o+b1>64800)<;>rfl
     rw[hb,jc];exact⟨_,_,_,rfl,XZ lO kP Jj aa aa aa aa aa aa aa,g3⟩
    .rw[ak (show¬o+b1>64800 by omega),ak (show¬o+b1 < -64800 by omega)];simp only[jd];exact⟨_,_,_,rfl,XZ lO kP Jj aa aa aa aa aa aa aa,g3⟩
   .rw[cU X3,jd];exact⟨_,_,_,rfl,mz0 lO kP,d5⟩
theorem Qc:∀(L:bg)(now:u)(p:G u),Good now p L->∀i,i<(cj now L).length -> -86400<bj now (cj now L) (i+1)-bj now (cj now L) i/\bj now (cj now L) (i+1)-bj now (cj now L) i<86400
 |[],_,_,_,i,hi=>by simp[cj]at hi
 |x::r,now,p,h,i,hi=>by
  simp only[Good]at h;by_cases hx:x.2=now
  .rw[if_pos hx]at h;have e:cj now (x::r)=cj now r:=by simp[cj,hx]
   rw[e]at hi ⊢;exact Qc r now p h i hi
  .rw[if_neg hx]at h;have e:cj now (x::r)=(x.1-now,x.2)::cj x.2 r:=by simp[cj,hx]
   rw[e]at hi ⊢;obtain⟨⟨g1,g2,_⟩,g8⟩:=h;cases i with
   |zero=>exact⟨g1,g2⟩
   |succ i=>
    have:=Qc r x.2 _ g8 i (by simpa using hi);cases i with
    |zero=>exact this
    |succ i=>exact this
section
variable{o:u}{l:bg}(h:iD o l)
include h
theorem Jk{i j:E}{t:u}(hi:i<=l.length)(hj:j<=l.length)(a1:aS l i<=t)(a2:t<aS l (i+1))(b1:aS l j<=t)(b2:t<aS l (j+1)):i=j:=by
 rcases vp i j with ee|ee|ee
 .have:=h.frm_le (i:=i+1) (j:=j) aa aa;omega
 .exact ee
 .have:=h.frm_le (i:=j+1) (j:=i) aa aa;omega
end
abbrev WL:=D (u×u)
def gF(p:u):WL->Prop
 |[]=>p<=604800
 |x::r=>p<=x.1/\x.1<x.2/\x.2<=604800/\gF x.2 r
def hasB(s:u):WL->Bool
 |[]=>false
 |x::r=>cond (cond (H (x.1<=s)) (H (s<x.2)) false) true (hasB s r)
theorem gF.top{p:u}:∀{w:WL},gF p w->p<=604800
 |[],h=>h
 |_::_,h=>by have:=h.1;have:=h.2.1;have:=h.2.2.1;omega
theorem gF.weak{p q:u}(hq:q<=p):∀{w:WL},gF p w->gF q w
 |[],h=>by show q<=604800;have:p<=604800:=h;omega
 |_::_,h=>⟨by have:=h.1;omega,h.2⟩
theorem zT:∀{w:WL}{p:u},gF p w->∀i,i<w.length->p<=(w.getD i (0,0)).1/\(w.getD i (0,0)).1<(w.getD i (0,0)).2/\(w.getD i (0,0)).2<=604800
 |[],_,_,i,hi=>by simp at hi
 |x::r,p,h,i,hi=>by
  obtain⟨h1,h2,h3,h4⟩:=h;cases i with
  |zero=>exact⟨h1,h2,h3⟩
  |succ i=>exact zT (h4.weak (show p<=x.2 by omega)) i (by simpa using hi)
theorem X4:∀{w:WL}{p:u},gF p w->∀i,i+1<w.length->(w.getD i (0,0)).2<=(w.getD (i+1) (0,0)).1
 |[],_,_,i,hi=>by simp at hi
 |x::[],_,_,i,hi=>by simp at hi
 |x::y::r,p,h,i,hi=>by
  cases i with
  |zero=>exact h.2.2.2.1
  |succ i=>exact X4 h.2.2.2 i (by simpa using hi)
theorem X5{L:D u}:∀(n:E)(p a:u)(acc:WL),di L a->0<=p->p<=604800->acc.length+n<=100->
  ∃w a',HH p (n:u) L a acc=A (L,a',acc++w)/\gF p w/\w.length<=n/\di L a'
 |0,p,a,acc,hd,_,hp,_=>by
  rw[VP];simp only[j24];rw[ak aa,jd,ba];exact⟨[],a,af,hp,af,hd⟩
 |n+1,p,a,acc,hd,nW,hp,ha=>by
  obtain⟨x,a1,e1,x0,x1,d1⟩:=dH (n:=30) hd aa aa;obtain⟨y,a2,e2,y0,y1,d2⟩:=dH (n:=2) d1 aa aa;obtain⟨q,a3,e3,m3,d3⟩:=oY d2 (xs:=[(3600:u),(28800:u),(43200:u),(86400:u),(61:u),(1:u)]) af af;have hq:1<=q/\q<=86400:=by simp at m3;omega
  rw[VP];simp only[j24];rw[ah aa];simp only[jc,e1,e2,e3,ja];rw[ar (x:=3600*x),ar (x:=p+3600*x),ar (x:=60*y),ar (x:=p+3600*x+60*y),ar (x:=p+3600*x+60*y+q),ar (x:=((n+1:E):u)-1)];by_cases mB:p+3600*x+60*y+q>604800
  .rw[ah mB,jc,ba];exact⟨[],a3,af,hp,af,d3⟩
  .rw[ak mB,ah (by simp[aF];omega)];simp only[jd,jc,aV];obtain⟨w,a4,e4,hw,ub,d4⟩:=X5 n (p+3600*x+60*y+q) a3 (acc++[(p+3600*x+60*y,p+3600*x+60*y+q)]) d3 aa aa ay;rw[show ((n+1:E):u)-1=(n:u) by omega];refine⟨(p+3600*x+60*y,p+3600*x+60*y+q)::w,a4,by rw[e4,jo];rfl,⟨by dsimp only;omega,by dsimp only;omega,by dsimp only;omega,hw⟩,ay,d4⟩
theorem Qd{L:D u}{a:u}(h:di L a):∃w a',j4c L a=A (w,L,a')/\gF 0 w/\w.length<=3/\di L a':=by
 obtain⟨x,a1,e1,x0,x1,d1⟩:=dH (n:=4) h aa aa;obtain⟨w,a',e2,h1,h2,h3⟩:=X5 x.toNat 0 a1 [] d1 aa aa ay;rw[show ((x.toNat:E):u)=x by omega,kc]at e2;simp only[j4c,e1,ja,e2];exact⟨w,a',rfl,h1,aa,h3⟩
theorem Jl{L:D u}{a:u}(h:di L a):∃t a',j2Y L a=A (t,L,a')/\1767139199<=t/\t<=1767139200+3600*575+3599/\di L a':=by
 obtain⟨x,a1,e1,x0,x1,d1⟩:=dH (n:=576) h aa aa;obtain⟨y,a2,e2,y0,y1,d2⟩:=dH (n:=3) d1 aa aa;obtain⟨q,a3,e3,m3,d3⟩:=oY d2 (xs:=[(-1:u),(1:u),(1800:u),(3599:u)]) af af;have hq : -1<=q/\q<=3599:=by simp at m3;omega
 simp only[j2Y,e1,ja,j1d,e2,e3];rw[ar (x:=3600*x),ar (x:=1767139200+3600*x),ar (x:=1767139200+3600*x+q)];cases (y==w64 (3-1)) with
 |true=>exact⟨_,_,rfl,aa,aa,d3⟩
 |false=>exact⟨_,_,rfl,aa,aa,d2⟩
theorem X6{w:WL}(hl:w.length<=14)(s:u):∀(n i:E),i+n=w.length->HF s w (w.length:u) (i:u)=A (cond (hasB s (w.drop i)) (.inl true) (.inr ()))
 |0,i,hi=>by
  rw[VM];simp only[j5X];rw[ak aa,jd,ba,jj aa];rfl
 |n+1,i,hi=>by
  have au:i<w.length:=aa;have bm:w.getD i ((0:u),(0:u))=w[i]:=by simp[au]
  have ih:=X6 hl s n (i+1) aa;rw[VM,jh au];simp only[j5X];rw[ah (show (i:u)<(w.length:u) by omega),bP];simp only[jc,je,bm,hasB];rw[ar (x:=(i:u)+1)];cases hb:cond (H (w[i].1<=s)) (H (s<w[i].2)) false with
  |true=>simp only[jc,ba]
  |false=>simp only[jd,aV];exact ih
theorem jBL{w:WL}(hl:w.length<=14)(s:u):jkq w s=A (hasB s w):=by
 have:=X6 hl s w.length 0 aa;rw[show ((0:E):u)=0 from rfl,jt]at this;simp only[jkq,show Int.ofNat (F w)=(w.length:u) from rfl,this,ja];cases hasB s w<;>rfl
end Go.Proofs.Pw
