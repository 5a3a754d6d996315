/- mB 4: the transitions of a Bl. -/
import Derived.Test.YtgfoijaggkhgnaaGreatLXPA
open _root_ renaming Int->u,ByteArray->A,List->D,Nat->E,Option->G
open Option renaming some->B,none->N
open List renaming length->F,range->H
open Go Go.Lft
namespace Go.Proofs.Pw
abbrev aL:=u×(u×(u×(u×(u×(u×u)))))
theorem mC{n lo hi:u}(h1:lo<=n)(h2:n<=hi):jbZ n lo hi=B true:=by
 simp only[jbZ];rw[ah (show n>=lo from h1),ah h2];rfl
structure mD(r:aL):Prop where
 y0:1970<=r.1
 y1:r.1<=r.2.1
 y2:r.2.1<=2240
 m0:1<=r.2.2.1
 m1:r.2.2.1<=12
 k0:1<=r.2.2.2.1
 k1:r.2.2.2.1<=5
 d0:0<=r.2.2.2.2.1
 d1:r.2.2.2.2.1<=6
 s0:0<=r.2.2.2.2.2.1
 s1:r.2.2.2.2.2.1<=86399
 o0 : -64800<=r.2.2.2.2.2.2
 o1:r.2.2.2.2.2.2<=64800
theorem jFn{r:aL}(h:mD r):jhI r=B 0:=by
 simp only[jhI,mC h.y0 (show r.1<=2240 by have:=h.y1;have:=h.y2;omega),mC h.y1 h.y2,mC h.m0 h.m1,mC h.k0 h.k1,mC h.d0 h.d1,mC h.s0 h.s1,mC h.o0 h.o1,j4,jl,j7]
theorem SU{y m k w:u}(_h1:1970<=y)(_h2:y<=2240)(fH:1<=m)(ik:m<=12)(dW:1<=k)(gi:k<=5):num y m 1<=nth y m k w/\nth y m k w<num y m 1+gn y m\/nth y m k w<num y m 1+35/\num y m 1<=nth y m k w:=by
 right;have hd:=Hp y m fH ik;unfold nth;dsimp only;split<;>omega
def df(r:aL)(y:u):u×Int:=(nth y r.2.2.1 r.2.2.2.1 r.2.2.2.2.1*86400+r.2.2.2.2.2.1,r.2.2.2.2.2.2)
def gw(r:aL):bC:=(H (r.2.1-r.1+1).toNat).map λ(i:E)=>df r (r.1+(i:u))
def occs(l:D aL):bC:=l.flatMap gw
theorem jAG{r:aL}(h:mD r){y:u}(h1:1970<=y)(h2:y<=2240):0<=(df r y).1/\(df r y).1<=10000000000:=by
 have hv:=Hq (Hr y r.2.2.1 h1 h2 h.m0 h.m1);have kH:=h.s0;have oA:=h.s1;have:=SU (w:=r.2.2.2.2.1) h1 h2 h.m0 h.m1 h.k0 h.k1;have hd:=tJ y r.2.2.1;unfold df;dsimp only;omega
theorem jFo{r:aL}(h:mD r):Sm (gw r):=by
 intro x hx;obtain⟨i,hi,rfl⟩:=jr.1 hx;have hi:=List.mem_range.1 hi;have h0:=h.y0;have h2:=h.y2;have:=jAG h (y:=r.1+(i:u)) aa aa;omega
theorem jFp{l:D aL}(h:∀r∈l,mD r):Sm (occs l):=by
 intro x hx;obtain⟨r,hr,hx⟩:=qv.1 hx;exact jFo (h r hr) x hx
theorem j_{r:aL}(h:mD r)(rs:D aL)(a b:u):∀(n:E)(i:E)(acc:bC),r.1+(i:u)+n=r.2.1+1->acc.length+n<=100000->
  JY (r.1+(i:u)) rs a b r.1 r.2.1 r.2.2.1 r.2.2.2.1 r.2.2.2.2.1 r.2.2.2.2.2.1 r.2.2.2.2.2.2 acc=B (rs,a,b,acc++(H n).map λ(j:E)=>df r (r.1+(i:u)+(j:u)))
 |0,i,acc,hi,_=>by
  rw[YM];simp only[j2g];rw[aj aa,j7,aS];simp
 |n+1,i,acc,hi,hl=>by
  have h0:=h.y0;have h2:=h.y2;have kH:=h.s0;have oA:=h.s1;have hv:=Hq (Hr (r.1+(i:u)) r.2.2.1 aa aa h.m0 h.m1);have hn:=SU (w:=r.2.2.2.2.1) (y:=r.1+(i:u)) aa aa h.m0 h.m1 h.k0 h.k1;have hd:=tJ (r.1+(i:u)) r.2.2.1;rw[YM];simp only[j2g];rw[ah (show r.1+(i:u)<=r.2.1 by omega),jGB _ _ _ _ aa aa h.m0 h.m1 h.k0 h.k1 h.d0 h.d1];simp only[j6,j4]
  rw[al (x:=nth (r.1+(i:u)) r.2.2.1 r.2.2.2.1 r.2.2.2.2.1*86400),al (x:=nth (r.1+(i:u)) r.2.2.1 r.2.2.2.1 r.2.2.2.2.1*86400+r.2.2.2.2.2.1),
   al (x:=r.1+(i:u)+1)]
  rw[ah (by simp[aM];omega)];simp only[j6,aH];have ih:=j_ h rs a b n (i+1) (acc++[df r (r.1+(i:u))]) aa ax;rw[show r.1+(i:u)+1=r.1+((i+1:E):u) by omega];refine ih.trans ?_
  have Bm:(H n).map (λ(j:E)=>df r (r.1+((i+1:E):u)+(j:u)))=(H n).map ((λ(j:E)=>df r (r.1+(i:u)+(j:u))) ∘ Nat.succ):=zu λj _=>by
   simp only[Function.comp];congr 1;omega
  rw[List.range_succ_eq_map,ke,List.map_map,Bm];simp
theorem k_{rs:D aL}(h:∀r∈rs,mD r)(hlen:rs.length<=100):∀(n i:E)(acc:bC),i+n=rs.length->acc.length<=300*i->
  FN rs (rs.length:u) (i:u) acc=B (acc++occs (rs.drop i))
 |0,i,acc,hi,_=>by
  rw[YN];simp only[j2h];rw[aj aa,j7,aS,jc aa];simp[occs]
 |n+1,i,acc,hi,hl=>by
  have an:i<rs.length:=aa;have hr:=h rs[i] (jg an);have h0:=hr.y0;have h1:=hr.y1;have h2:=hr.y2;have hg:rs.getD i ((0:u),((0:u),((0:u),((0:u),((0:u),((0:u),(0:u)))))))=rs[i]:=by simp[an]
  have wF:=j_ hr rs (rs.length:u) (i:u) (rs[i].2.1-rs[i].1+1).toNat 0 acc aa aa;rw[show rs[i].1+((0:E):u)=rs[i].1 by omega]at wF;have ih:=k_ h hlen n (i+1) (acc++gw rs[i]) aa (by simp[gw];omega);rw[YN];simp only[j2h];rw[ah (show (i:u)<(rs.length:u) by omega),bD];simp only[j6,j8,hg,wF,j4];rw[al,aH,jb an];refine ih.trans ?_;rw[jj];rfl
theorem l_{rs:D aL}(h:∀r∈rs,mD r)(hlen:rs.length<=100)(nm:A)(o:u):∀(n i:E)(s:u),i+n=rs.length->0<=s->s<=300*i->
  FM s rs (rs.length:u) (i:u) nm o rs=B (.inr (s+((occs (rs.drop i)).length:u),nm,o,rs))
 |0,i,s,hi,_,_=>by
  rw[YL];simp only[j2f];rw[aj aa,j7,aS,jc aa];simp[occs]
 |n+1,i,s,hi,kH,oA=>by
  have an:i<rs.length:=aa;have hr:=h rs[i] (jg an);have h0:=hr.y0;have h1:=hr.y1;have h2:=hr.y2;have hg:rs.getD i ((0:u),((0:u),((0:u),((0:u),((0:u),((0:u),(0:u)))))))=rs[i]:=by simp[an]
  have ih:=l_ h hlen nm o n (i+1) (s+(rs[i].2.1-rs[i].1+1)) aa aa aa;have tK:jhI (rs[i].1,(rs[i].2.1,(rs[i].2.2.1,(rs[i].2.2.2.1,(rs[i].2.2.2.2.1,(rs[i].2.2.2.2.2.1,rs[i].2.2.2.2.2.2))))))=B 0:=jFn hr;rw[YL];simp only[j2f];rw[ah (show (i:u)<(rs.length:u) by omega),bD];simp only[j6,j8,hg,tK,j4,jh,j7];rw[al (x:=rs[i].2.1-rs[i].1),al (x:=rs[i].2.1-rs[i].1+1),al (x:=s+(rs[i].2.1-rs[i].1+1)),al (x:=(i:u)+1),aH];refine ih.trans ?_;rw[jb an]
  have:((occs (rs[i]::rs.drop (i+1))).length:u)=(rs[i].2.1-rs[i].1+1)+((occs (rs.drop (i+1))).length:u):=by
   have e1:(gw rs[i]).length=(rs[i].2.1-rs[i].1+1).toNat:=by simp[gw]
   show ((gw rs[i]++occs (rs.drop (i+1))).length:u)=_;rw[jf,e1];omega
  rw[this];congr 3;omega
theorem jpx{nm:A}{o:u}{rs:D aL}(h:∀r∈rs,mD r)(nH : -64800<=o)(kG:o<=64800)(hlen:rs.length<=16)(hn:(occs rs).length<20):j94 (nm,(o,rs))=B (fv (occs rs),0):=by
 have e0:=l_ h aa nm o rs.length 0 0 aa aa aa;have e2:=k_ h aa rs.length 0 [] aa ae;rw[jm]at e0 e2;simp only[j94,mC nH kG,j4,jl,j7,show Int.ofNat (F rs)=(rs.length:u) from rfl];rw[aj (show¬(rs.length:u)>16 by omega),j7,show FM 0 rs (rs.length:u) 0 nm o rs=_ from e0];simp only[j4,oc];rw[aj aa,j7,mV rs,show FN rs (rs.length:u) 0 []=_ from e2];simp only[j4,jw,jrV (jFp h) hn]
def cJ(now:u):bC->bC
 |[]=>[]
 |x::r=>if x.2=now then cJ now r else (x.1-now,x.2)::cJ x.2 r
def Good(now:u)(p:G u):bC->Prop
 |[]=>True
 |x::r=>if x.2=now then Good now p r else (-86400<x.2-now/\x.2-now<86400/\1000000<x.1-now/\x.1-now<=8589000000/\(∀q,p=B q->q+604800<=x.1-now) /\ -64800<=x.2/\x.2<=64800)/\Good x.2 (B (x.1-now)) r
theorem SV(L:bC)(hL:L.length<=1000):∀(n i:E)(now:u)(acc:bC),i+n=L.length -> -64800<=now->now<=64800->acc.length<=i->(∀x∈acc,0<=x.1/\x.1<=8589934592)->Good now (acc.getLast?.map (·.1)) (L.drop i)->
  FO now (L.length:u) (i:u) acc L=B (.inr (acc++cJ now (L.drop i)))
 |0,i,now,acc,hi,_,_,_,_,_=>by
  rw[YO];simp only[j2i];rw[aj aa,j7,aS,jc aa];simp[cJ]
 |n+1,i,now,acc,hi,pJ,rW,nt,eM,hg=>by
  have an:i<L.length:=aa;rw[jb an]at hg ⊢;have aR:L.getD i ((0:u),(0:u))=L[i]:=by simp[an]
  rw[YO];simp only[j2i];rw[ah (show (i:u)<(L.length:u) by omega),bD];simp only[j6,j8,aR];generalize L[i]=x at *;rw[al (x:=(i:u)+1)];simp only[Good]at hg;by_cases hx:x.2=now
  .rw[if_pos hx]at hg;rw[dC hx];simp only[j6,aH,cJ];rw[if_pos hx];exact SV L hL n (i+1) now acc aa pJ rW aa eM hg
  .rw[if_neg hx]at hg;obtain⟨⟨g1,g2,g3,g4,g5,g6,g7⟩,g8⟩:=hg;rw[cj hx,al (x:=x.1-now),al (x:=x.2-now),aj (show¬x.2-now>=86400 by omega),aj (show¬x.2-now <= -86400 by omega)];simp only[j7,mC (show (0:u)<=x.1-now by omega) (show x.1-now<=8589934592 by omega),j4,jl,ka,Bool.true_and,show Int.ofNat (F acc)=(acc.length:u) from rfl];rw[al (x:=(acc.length:u)-1)]
   have iu:=SV L hL n (i+1) x.2 (acc++[(x.1-now,x.2)]) aa g6 g7 ax
    (λy hy=>by
     rcases jn.1 hy with hy|hy
     .exact eM y hy
     .simp at hy;subst hy;exact⟨by show (0:u)<=x.1-now;omega,by show x.1-now<=8589934592;omega⟩) (by simpa using g8)
   have cd:cJ now (x::L.drop (i+1))=(x.1-now,x.2)::cJ x.2 (L.drop (i+1)):=by simp[cJ,hx]
   rw[cd];rw[jj]at iu;by_cases ha:acc=[]
   .subst ha;simp only[kx];rw[show inR (((0:E):u)-1) 0=false from rfl,show decide (((0:E):u)>0)=false from rfl];simp only[ka,j6,j7,Bool.or_true];rw[ah (by simp[aM])];simp only[j6,aH];exact iu
   .have bK:0<acc.length:=List.length_pos_iff.2 ha;have dm:acc.getLast? = B (acc.getD (acc.length-1) (0,0)):=by rw[List.getLast?_eq_getElem?,List.getD_eq_getElem?_getD,jp (show acc.length-1<acc.length by omega)];rfl
    rw[dm]at g5;have g5:(acc.getD (acc.length-1) ((0:u),(0:u))).1+604800<=x.1-now:=g5 _ rfl;have hb:=eM (acc.getD (acc.length-1) (0,0)) (List.mem_of_getLast? dm);rw[bD,ah (show (acc.length:u)>0 by omega),show ((acc.length:u)-1).toNat=acc.length-1 by omega];simp only[zd,j6];rw[al,aj (show¬x.1-now<(acc.getD (acc.length-1) ((0:u),(0:u))).1+604800 by omega),ah (by simp[aM];omega)];simp only[j6,j7,aH];exact iu
def Lj(p:G u):bC->Prop
 |[]=>True
 |x::r=>(1000000<x.1/\x.1<=8589000000/\(∀q,p=B q->q+604800<=x.1) /\ -64800<=x.2/\x.2<=64800)/\Lj (B x.1) r
theorem SX:∀(L:bC)(now:u)(p:G u),Good now p L->Lj p (cJ now L)
 |[],_,_,_=>trivial
 |x::r,now,p,h=>by
  simp only[Good]at h;by_cases hx:x.2=now
  .rw[if_pos hx]at h;simp only[cJ];rw[if_pos hx];exact SX r now p h
  .rw[if_neg hx]at h;simp only[cJ];rw[if_neg hx];obtain⟨⟨g1,g2,g3,g4,g5,g6,g7⟩,g8⟩:=h;exact⟨⟨g3,g4,g5,g6,g7⟩,SX r x.2 _ g8⟩
theorem Lk:∀(L:bC)(now:u),(cJ now L).length<=L.length
 |[],_=>jv _
 |x::r,now=>by
  simp only[cJ];split
  .have:=Lk r now;simp;omega
  .have:=Lk r x.2;simp;omega
theorem m_:∀(l:bC)(p:G u),Lj p l->(∀i,i+1<l.length->gm l i+604800<=gm l (i+1))/\(∀i,i<l.length->1000000<gm l i/\gm l i<=8589000000)/\
  (∀o i, -64800<=o->o<=64800->i<=l.length -> -64800<=bk o l i/\bk o l i<=64800)
 |[],_,_=>⟨λi h=>by simp at h,λi h=>by simp at h,λo i h1 h2 h3=>by
  have:i=0:=by simpa using h3
  subst this;exact⟨h1,h2⟩⟩
 |x::r,p,h=>by
  obtain⟨⟨g3,g4,g5,g6,g7⟩,g8⟩:=h;obtain⟨h1,h2,h3⟩:=m_ r _ g8;refine⟨λi hi=>?_,λi hi=>?_,λo i nH kG hi=>?_⟩
  .cases i with
   |zero=>
    cases r with
    |nil=>simp at hi
    |cons y ys=>have:=g8.1.2.2.1 _ rfl;exact this
   |succ i=>exact h1 i (by simp at hi ⊢;omega)
  .cases i with
   |zero=>exact⟨g3,g4⟩
   |succ i=>exact h2 i (by simp at hi ⊢;omega)
  .cases i with
   |zero=>exact⟨nH,kG⟩
   |succ i=>
    cases i with
    |zero=>exact⟨g6,g7⟩
    |succ i=>exact h3 x.2 (i+1) g6 g7 (by simp at hi ⊢;omega)
theorem jFq{o:u}{l:bC}(h:Lj N l)(hl:l.length<=1000)(h0 : -64800<=o)(h1:o<=64800):iz o l:=by
 obtain⟨a,b,c⟩:=m_ l N h;exact⟨hl,a,λi hi=>(b i hi).1,λi hi=>(b i hi).2,λi hi=>(c o i h0 h1 hi).1,λi hi=>(c o i h0 h1 hi).2⟩
def tL(z:A×(u×D aL))(l:bC):Prop:=j3O z=B (l,0)/\iz z.2.1 l
theorem jFr{nm:A}{o:u}{rs:D aL}(h:∀r∈rs,mD r)(nH : -64800<=o)(kG:o<=64800)(hlen:rs.length<=16)(hn:(occs rs).length<20)(hg:Good o N (fv (occs rs))):tL (nm,(o,rs)) (cJ o (fv (occs rs))):=by
 have hl:(fv (occs rs)).length<=1000:=by simp[fv,Ho];omega
 refine⟨?_,jFq (SX _ _ _ hg) (by have:=Lk (fv (occs rs)) o;omega) nH kG⟩;have:=SV (fv (occs rs)) hl (fv (occs rs)).length 0 o [] aa nH kG ae ae hg;simp only[j3O,jpx h nH kG hlen hn,j4,jh,j7,show Int.ofNat (F (fv (occs rs)))=((fv (occs rs)).length:u) from rfl];rw[jm]at this;rw[show FO o ((fv (occs rs)).length:u) 0 [] (fv (occs rs))=_ from this];rfl
theorem n_{z:A×(u×D aL)}{l:bC}(h:tL z l):jjH z=B ((z.2.1,l),0):=by
 simp only[jjH,show j3O (z.1,(z.2.1,z.2.2))=_ from h.1,j4]
theorem o_{y m k w:u}(fH:1<=m)(ik:m<=12)(dW:2<=k)(gi:k<=5):num y m 1+7<=nth y m k w/\nth y m k w<=num y m 1+34:=by
 have hd:=Hp y m fH ik;unfold nth;dsimp only;split<;>omega
theorem SY{y m k w:u}(fH:1<=m)(ik:m<=12)(dW:1<=k)(gi:k<=4):num y m 1<=nth y m k w/\nth y m k w<=num y m 1+27:=by
 have hd:=Hp y m fH ik;unfold nth;dsimp only;split<;>omega
theorem p_{a b:u×u}(h:a.1<b.1):fv [a,b]=[a,b]:=by
 simp[fv,lV,mP,show¬b.1<a.1 by omega]
theorem q_{a b c d:u×u}(h1:a.1<c.1)(h2:c.1<b.1)(h3:b.1<d.1):fv [a,b,c,d]=[a,c,b,d]:=by
 simp[fv,lV,mP,show¬b.1<a.1 by omega,h2,show¬c.1<a.1 by omega,show¬d.1<b.1 by omega]
theorem r_(r1 r2:aL)(h1:r1.1=2025)(h2:r1.2.1=2025)(h3:r2.1=2025)(h4:r2.2.1=2025):occs [r1,r2]=[df r1 2025,df r2 2025]:=by
 simp[occs,gw,h1,h2,h3,h4]
theorem s_(r1 r2:aL)(h1:r1.1=2025)(h2:r1.2.1=2026)(h3:r2.1=2025)(h4:r2.2.1=2026):occs [r1,r2]=[df r1 2025,df r1 2026,df r2 2025,df r2 2026]:=by
 simp[occs,gw,h1,h2,h3,h4,List.range_succ]
theorem qZ{now:u}{p:G u}{x:u×u}{r:bC}(hx:x.2≠now)(h : -86400<x.2-now/\x.2-now<86400/\1000000<x.1-now/\x.1-now<=8589000000 /\ -64800<=x.2/\x.2<=64800)
  (hp:∀q,p=B q->q+604800<=x.1-now)(hr:Good x.2 (B (x.1-now)) r):Good now p (x::r):=by
 simp only[Good];rw[if_neg hx];exact⟨⟨h.1,h.2.1,h.2.2.1,h.2.2.2.1,hp,h.2.2.2.2.1,h.2.2.2.2.2⟩,hr⟩
theorem jAJ{now:u}{p:G u}{x:u×u}{r:bC}(hx:x.2=now)(hr:Good now p r):Good now p (x::r):=by
 simp only[Good];rw[if_pos hx];exact hr
theorem Ht{P:u->Prop}:∀q,(N:G u)=B q->P q:=λ_ h=>by simp at h
theorem xY{P:u->Prop}{a:u}(h:P a):∀q,B a=B q->P q:=λq hq=>by simp at hq;subst hq;exact h
theorem n251:num 2025 1 1=20089:=by decide
theorem n261:num 2026 1 1=20454:=by decide
theorem n252:num 2025 2 1=20120:=by decide
theorem n253:num 2025 3 1=20148:=by decide
theorem n262:num 2026 2 1=20485:=by decide
theorem n263:num 2026 3 1=20513:=by decide
structure MZ(o:u)(rs:D aL):Prop where
 o0 : -64800<=o
 o1:o<=64800
 ok:∀r∈rs,mD r
 len:rs.length<=2
 yr:∀r∈rs,2025<=r.1
 few:(occs rs).length<=4
 good:Good o N (fv (occs rs))
theorem MZ.tab{o:u}{rs:D aL}(h:MZ o rs)(nm:A):tL (nm,(o,rs)) (cJ o (fv (occs rs))):=
 jFr h.ok (by have:=h.o0;omega) (by have:=h.o1;omega) (by have:=h.len;omega) (by have:=h.few;omega) h.good
theorem mz0{o:u}(h0 : -43200<=o)(h1:o<=45000):MZ o []:=⟨aa,aa,ae,ae,ae,by decide,trivial⟩
theorem t_{r1 r2:aL}(h1:mD r1)(h2:mD r2):∀r∈[r1,r2],mD r:=by
 intro r hr;simp at hr;rcases hr with rfl|rfl
 .exact h1
 .exact h2
theorem mz1{o last:u}(h0 : -43200<=o)(h1:o<=45000)(hl:last=2025\/last=2026):MZ o [(2025,(last,(3,(5,(6,(7200,o+3600)))))),(2025,(last,(10,(5,(6,(10800,o))))))]:=by
 have a1:nth 2025 3 5 6=20177:=by decide
 have a2:nth 2025 10 5 6=20387:=by decide
 have a3:nth 2026 3 5 6=20541:=by decide
 have a4:nth 2026 10 5 6=20751:=by decide
 have bP:=t_ (r1:=(2025,(last,(3,(5,(6,(7200,o+3600))))))) (r2:=(2025,(last,(10,(5,(6,(10800,o))))))) (by constructor<;>(dsimp only;omega)) (by constructor<;>(dsimp only;omega));rcases hl with rfl|rfl
 .have e:=r_ (2025,(2025,(3,(5,(6,(7200,o+3600)))))) (2025,(2025,(10,(5,(6,(10800,o)))))) rfl rfl rfl rfl;refine⟨aa,aa,bP,ae,ae,by rw[e];simp,?_⟩;rw[e,p_ (by simp only[df];omega)];refine qZ (by simp only[df];omega) (by simp only[df];omega) Ht (qZ (by simp only[df];omega) (by simp only[df];omega) (xY (by simp only[df];omega)) trivial)
 .have e:=s_ (2025,(2026,(3,(5,(6,(7200,o+3600)))))) (2025,(2026,(10,(5,(6,(10800,o)))))) rfl rfl rfl rfl;refine⟨aa,aa,bP,ae,ae,by rw[e];simp,?_⟩;rw[e,q_ (by simp only[df];omega) (by simp only[df];omega) (by simp only[df];omega)]
  refine qZ (by simp only[df];omega) (by simp only[df];omega) Ht (qZ (by simp only[df];omega) (by simp only[df];omega) (xY (by simp only[df];omega))
   (qZ (by simp only[df];omega) (by simp only[df];omega) (xY (by simp only[df];omega)) (qZ (by simp only[df];omega) (by simp only[df];omega) (xY (by simp only[df];omega)) trivial)))
theorem mz2{o last k1 w1 s1 c m2 k2 w2 s2:u}(h0 : -43200<=o)(h1:o<=45000)(hl:last=2025\/last=2026)(hk:1<=k1)(bQ:k1<=4)(hw:0<=w1)(Ng:w1<=6)(hs:0<=s1)(dt:s1<=82800)(hc:1800<=c)(dK:c<=14400)
  (hm:m2=2\/m2=3)(hj:2<=k2)(iX:k2<=5)(hx:0<=w2)(nT:w2<=6)(ht:0<=s2)(ui:s2<=82800):MZ o [(2025,(last,(1,(k1,(w1,(s1,o+c)))))),(2025,(last,(m2,(k2,(w2,(s2,o))))))]:=by
 have bP:=t_ (r1:=(2025,(last,(1,(k1,(w1,(s1,o+c))))))) (r2:=(2025,(last,(m2,(k2,(w2,(s2,o))))))) (by constructor<;>(dsimp only;omega)) (by constructor<;>(dsimp only;omega));have b1:=SY (y:=2025) (m:=1) (k:=k1) (w:=w1) aa aa hk bQ;have b2:=SY (y:=2026) (m:=1) (k:=k1) (w:=w1) aa aa hk bQ;have b3:=o_ (y:=2025) (m:=m2) (k:=k2) (w:=w2) aa aa hj iX;have b4:=o_ (y:=2026) (m:=m2) (k:=k2) (w:=w2) aa aa hj iX;have c1:20120<=num 2025 m2 1/\num 2025 m2 1<=20148:=by rcases hm with rfl|rfl<;>simp[n252,n253]
 have c2:20485<=num 2026 m2 1/\num 2026 m2 1<=20513:=by rcases hm with rfl|rfl<;>simp[n262,n263]
 rw[n251]at b1;rw[n261]at b2;rcases hl with rfl|rfl
 .have e:=r_ (2025,(2025,(1,(k1,(w1,(s1,o+c)))))) (2025,(2025,(m2,(k2,(w2,(s2,o)))))) rfl rfl rfl rfl;refine⟨aa,aa,bP,ae,ae,by rw[e];simp,?_⟩;rw[e,p_ (by simp only[df];omega)];refine qZ (by simp only[df];omega) (by simp only[df];omega) Ht (qZ (by simp only[df];omega) (by simp only[df];omega) (xY (by simp only[df];omega)) trivial)
 .have e:=s_ (2025,(2026,(1,(k1,(w1,(s1,o+c)))))) (2025,(2026,(m2,(k2,(w2,(s2,o)))))) rfl rfl rfl rfl;refine⟨aa,aa,bP,ae,ae,by rw[e];simp,?_⟩;rw[e,q_ (by simp only[df];omega) (by simp only[df];omega) (by simp only[df];omega)]
  refine qZ (by simp only[df];omega) (by simp only[df];omega) Ht (qZ (by simp only[df];omega) (by simp only[df];omega) (xY (by simp only[df];omega))
   (qZ (by simp only[df];omega) (by simp only[df];omega) (xY (by simp only[df];omega)) (qZ (by simp only[df];omega) (by simp only[df];omega) (xY (by simp only[df];omega)) trivial)))
theorem u_{o w s x:u}(h0 : -43200<=o)(h1:o<=45000)(hw:0<=w)(Ng:w<=6)(hs:0<=s)(dt:s<=84600)(vF : -64800<=x)(qO:x<=64800)(jO : -86400<x-o)(eX:x-o<86400):MZ o [(2026,(2026,(1,(2,(w,(s,x))))))]:=by
 have b:=SY (y:=2026) (m:=1) (k:=2) (w:=w) aa aa aa aa;rw[n261]at b;have e:occs [((2026:u),((2026:u),((1:u),((2:u),(w,(s,x))))))]=[df (2026,(2026,(1,(2,(w,(s,x)))))) 2026]:=by simp[occs,gw]
 refine⟨aa,aa,λr hr=>?_,ae,ae,by rw[e];simp,?_⟩
 .simp at hr;subst hr;constructor<;>(dsimp only;omega)
 .rw[e];have hi:fv [df (2026,(2026,(1,(2,(w,(s,x)))))) 2026]=[df (2026,(2026,(1,(2,(w,(s,x)))))) 2026]:=by simp[fv,lV,mP]
  rw[hi];by_cases v_:x=o
  .exact jAJ v_ trivial
  .exact qZ v_ (by simp only[df];omega) Ht trivial
theorem jFs{L:D u}{a:u}(h:c9 L a)(nm:A):∃o rs a',j4h L a nm=B ((nm,(o,rs)),L,a')/\MZ o rs/\c9 L a':=by
 obtain⟨p,a1,e1,m1,d1⟩:=mR h (xs:=[(0:u),(4:u),(-20:u),(22:u),(48:u),(-47:u)]) ae ae;obtain⟨x2,a2,e2,x20,x21,d2⟩:=dh (n:=2) d1 aa aa;obtain⟨x3,a3,e3,x30,x31,d3⟩:=dh (n:=3) d2 aa aa;obtain⟨y,a4,e4,y0,y1,d4⟩:=dh (n:=2) d3 aa aa;obtain⟨q,a5,e5,q0,q1,d5⟩:=dh (n:=4) d4 aa aa;have hp : -47<=p/\p<=48:=by simp at m1;omega
 have hmul:0<=x2*x3/\x2*x3<=2:=by obtain rfl|rfl:x2=0\/x2=1:=aa;all_goals omega
 have nH : -43200<=900*(p+x2*x3):=aa;have kG:900*(p+x2*x3)<=45000:=aa;have dm:2025+y=2025\/2025+y=2026:=aa;simp only[j4h,e1,e2,e3,e4,e5,j4];rw[al (x:=x2*x3),al (x:=p+x2*x3),al (x:=900*(p+x2*x3)),al (x:=2025+y)];generalize 900*(p+x2*x3)=o at *;generalize 2025+y=last at *;by_cases Bn:q=1
 .rw[dC Bn,j6,al (x:=o+3600)];exact⟨_,_,_,rfl,mz1 nH kG dm,d5⟩
 .rw[cj Bn,j7];by_cases Hu:q=2
  .rw[dC Hu,j6];obtain⟨b1,c1,f1,b10,b11,g1⟩:=dh (n:=4) d5 aa aa;obtain⟨b2,c2,f2,Db,SZ,g2⟩:=dh (n:=7) g1 aa aa;obtain⟨b3,c3,f3,S7,S8,g3⟩:=dh (n:=24) g2 aa aa;obtain⟨b4,c4,f4,b40,b41,g4⟩:=dh (n:=8) g3 aa aa;obtain⟨b5,c5,f5,b50,b51,g5⟩:=dh (n:=2) g4 aa aa;obtain⟨b6,c6,f6,m6,g6⟩:=mR g5 (xs:=[(2:u),(3:u),(5:u)]) ae ae;obtain⟨b7,c7,f7,w_,b71,g7⟩:=dh (n:=7) g6 aa aa;obtain⟨b8,c8,f8,b80,b81,g8⟩:=dh (n:=24) g7 aa aa;have h6:2<=b6/\b6<=5:=by simp at m6;omega
   simp only[f1,f2,f3,f4,f5,f6,f7,f8,j4]
   rw[al (x:=1+b1),al (x:=3600*b3),al (x:=1+b4),al (x:=1800*(1+b4)),al (x:=o+1800*(1+b4)),
    al (x:=2+b5),al (x:=3600*b8)]
   exact⟨_,_,_,rfl,mz2 nH kG dm aa aa Db aa aa aa aa aa aa h6.1 h6.2 w_ aa aa aa,g8⟩
  .rw[cj Hu,j7];by_cases Hv:q=3
   .rw[dC Hv,j6];obtain⟨b1,c1,f1,m1,g1⟩:=mR d5 (xs:=[(3600:u),(-3600:u),(82800:u),(-82800:u),(43200:u)]) ae ae;obtain⟨b2,c2,f2,Db,SZ,g2⟩:=dh (n:=7) g1 aa aa;obtain⟨b3,c3,f3,S7,S8,g3⟩:=dh (n:=48) g2 aa aa;have fc : -82800<=b1/\b1<=82800:=by simp at m1;omega
    simp only[f1,f2,f3,j4];rw[al (x:=o+b1),al (x:=1800*b3)];by_cases nI:o+b1>64800\/o+b1 < -64800
    .have hb:cond (decide (o+b1>64800)) true (decide (o+b1 < -64800))=true:=by
      rcases nI with nI|nI
      .rw[ah nI];rfl
      .rw[ah nI];cases decide (o+b1>64800)<;>rfl
     rw[hb,j6];exact⟨_,_,_,rfl,u_ nH kG Db aa aa aa aa aa aa aa,g3⟩
    .rw[aj (show¬o+b1>64800 by omega),aj (show¬o+b1 < -64800 by omega)];simp only[j7];exact⟨_,_,_,rfl,u_ nH kG Db aa aa aa aa aa aa aa,g3⟩
   .rw[cj Hv,j7];exact⟨_,_,_,rfl,mz0 nH kG,d5⟩
theorem S9:∀(L:bC)(now:u)(p:G u),Good now p L->∀i,i<(cJ now L).length -> -86400<bk now (cJ now L) (i+1)-bk now (cJ now L) i/\bk now (cJ now L) (i+1)-bk now (cJ now L) i<86400
 |[],_,_,_,i,hi=>by simp[cJ]at hi
 |x::r,now,p,h,i,hi=>by
  simp only[Good]at h;by_cases hx:x.2=now
  .rw[if_pos hx]at h;have e:cJ now (x::r)=cJ now r:=by simp[cJ,hx]
   rw[e]at hi ⊢;exact S9 r now p h i hi
  .rw[if_neg hx]at h;have e:cJ now (x::r)=(x.1-now,x.2)::cJ x.2 r:=by simp[cJ,hx]
   rw[e]at hi ⊢;obtain⟨⟨g1,g2,_⟩,g8⟩:=h;cases i with
   |zero=>exact⟨g1,g2⟩
   |succ i=>
    have:=S9 r x.2 _ g8 i (by simpa using hi);cases i with
    |zero=>exact this
    |succ i=>exact this
section
variable{o:u}{l:bC}(h:iz o l)
include h
theorem Hw{i j:E}{t:u}(hi:i<=l.length)(hj:j<=l.length)(a1:aT l i<=t)(a2:t<aT l (i+1))(b1:aT l j<=t)(b2:t<aT l (j+1)):i=j:=by
 rcases yg i j with dS|dS|dS
 .have:=h.frm_le (i:=i+1) (j:=j) aa aa;omega
 .exact dS
 .have:=h.frm_le (i:=j+1) (j:=i) aa aa;omega
end
abbrev WL:=D (u×u)
def eN(p:u):WL->Prop
 |[]=>p<=604800
 |x::r=>p<=x.1/\x.1<x.2/\x.2<=604800/\eN x.2 r
def jC:WL->u
 |[]=>0
 |x::r=>(x.2-x.1)+jC r
def hasB(s:u):WL->Bool
 |[]=>false
 |x::r=>cond (cond (decide (x.1<=s)) (decide (s<x.2)) false) true (hasB s r)
theorem eN.top{p:u}:∀{w:WL},eN p w->p<=604800
 |[],h=>h
 |_::_,h=>by have:=h.1;have:=h.2.1;have:=h.2.2.1;omega
theorem eN.weak{p q:u}(hq:q<=p):∀{w:WL},eN p w->eN q w
 |[],h=>by show q<=604800;have:p<=604800:=h;omega
 |_::_,h=>⟨by have:=h.1;omega,h.2⟩
theorem xZ:∀{w:WL}{p:u},eN p w->∀i,i<w.length->p<=(w.getD i (0,0)).1/\(w.getD i (0,0)).1<(w.getD i (0,0)).2/\(w.getD i (0,0)).2<=604800
 |[],_,_,i,hi=>by simp at hi
 |x::r,p,h,i,hi=>by
  obtain⟨h1,h2,h3,h4⟩:=h;cases i with
  |zero=>exact⟨h1,h2,h3⟩
  |succ i=>exact xZ (h4.weak (show p<=x.2 by omega)) i (by simpa using hi)
theorem Ta:∀{w:WL}{p:u},eN p w->∀i,i+1<w.length->(w.getD i (0,0)).2<=(w.getD (i+1) (0,0)).1
 |[],_,_,i,hi=>by simp at hi
 |x::[],_,_,i,hi=>by simp at hi
 |x::y::r,p,h,i,hi=>by
  cases i with
  |zero=>exact h.2.2.2.1
  |succ i=>exact Ta h.2.2.2 i (by simpa using hi)
theorem x_{L:D u}:∀(n:E)(p a:u)(acc:WL),c9 L a->0<=p->p<=604800->acc.length+n<=100->
  ∃w a',JK p (n:u) L a acc=B (L,a',acc++w)/\eN p w/\w.length<=n/\c9 L a'
 |0,p,a,acc,hd,_,hp,_=>by
  rw[Yw];simp only[j22];rw[aj aa,j7,aS];exact⟨[],a,ae,hp,ae,hd⟩
 |n+1,p,a,acc,hd,nk,hp,ha=>by
  obtain⟨x,a1,e1,x0,x1,d1⟩:=dh (n:=30) hd aa aa;obtain⟨y,a2,e2,y0,y1,d2⟩:=dh (n:=2) d1 aa aa;obtain⟨q,a3,e3,m3,d3⟩:=mR d2 (xs:=[(3600:u),(28800:u),(43200:u),(86400:u),(61:u),(1:u)]) ae ae;have hq:1<=q/\q<=86400:=by simp at m3;omega
  rw[Yw];simp only[j22];rw[ah aa];simp only[j6,e1,e2,e3,j4];rw[al (x:=3600*x),al (x:=p+3600*x),al (x:=60*y),al (x:=p+3600*x+60*y),al (x:=p+3600*x+60*y+q),al (x:=((n+1:E):u)-1)];by_cases nI:p+3600*x+60*y+q>604800
  .rw[ah nI,j6,aS];exact⟨[],a3,ae,hp,ae,d3⟩
  .rw[aj nI,ah (by simp[aM];omega)];simp only[j7,j6,aH];obtain⟨w,a4,e4,hw,iG,d4⟩:=x_ n (p+3600*x+60*y+q) a3 (acc++[(p+3600*x+60*y,p+3600*x+60*y+q)]) d3 aa aa ax;rw[show ((n+1:E):u)-1=(n:u) by omega];refine⟨(p+3600*x+60*y,p+3600*x+60*y+q)::w,a4,by rw[e4,jj];rfl,⟨by dsimp only;omega,by dsimp only;omega,by dsimp only;omega,hw⟩,ax,d4⟩
theorem Ll{L:D u}{a:u}(h:c9 L a):∃w a',j31 L a=B (w,L,a')/\eN 0 w/\w.length<=3/\c9 L a':=by
 obtain⟨x,a1,e1,x0,x1,d1⟩:=dh (n:=4) h aa aa;obtain⟨w,a',e2,h1,h2,h3⟩:=x_ x.toNat 0 a1 [] d1 aa aa ax;rw[show ((x.toNat:E):u)=x by omega,jw]at e2;simp only[j31,e1,j4,e2];exact⟨w,a',rfl,h1,aa,h3⟩
theorem y_{L:D u}{a:u}(h:c9 L a):∃t a',j5K L a=B (t,L,a')/\1767139199<=t/\t<=1767139200+3600*575+3599/\c9 L a':=by
 obtain⟨x,a1,e1,x0,x1,d1⟩:=dh (n:=576) h aa aa;obtain⟨y,a2,e2,y0,y1,d2⟩:=dh (n:=3) d1 aa aa;obtain⟨q,a3,e3,m3,d3⟩:=mR d2 (xs:=[(-1:u),(1:u),(1800:u),(3599:u)]) ae ae;have hq : -1<=q/\q<=3599:=by simp at m3;omega
 simp only[j5K,e1,j4,j0Q,e2,e3];rw[al (x:=3600*x),al (x:=1767139200+3600*x),al (x:=1767139200+3600*x+q)];cases (y==w64 (3-1)) with
 |true=>exact⟨_,_,rfl,aa,aa,d3⟩
 |false=>exact⟨_,_,rfl,aa,aa,d2⟩
theorem z_{w:WL}(h:eN 0 w)(hl:w.length<=14):∀(n i:E),i+n=w.length->FI w w (w.length:u) (i:u)=B (.inr ())
 |0,i,hi=>by
  rw[JR];simp only[j2z];rw[aj aa,j7,aS]
 |n+1,i,hi=>by
  have ih:=z_ h hl n (i+1) aa;have hg:=xZ h i aa;rw[JR];simp only[j2z];rw[ah (show (i:u)<(w.length:u) by omega),bD];simp only[j6,j8];rw[aj (show¬(w.getD i ((0:u),(0:u))).1<0 by omega),aj (show¬(w.getD i ((0:u),(0:u))).1>=(w.getD i ((0:u),(0:u))).2 by omega),aj (show¬(w.getD i ((0:u),(0:u))).2>604800 by omega)];rw[al (x:=(i:u)+1)];simp only[j7];by_cases h0:i=0
  .rw[aj aa];simp only[j7,aH];exact ih
  .obtain⟨j,rfl⟩:∃j,i=j+1:=⟨i-1,aa⟩;have Tb:=Ta h j aa;rw[ah aa,al (x:=((j+1:E):u)-1),bD,show (((j+1:E):u)-1).toNat=j by omega,aj aa];simp only[j6,j7,aH];exact ih
theorem A_{w:WL}(h:eN 0 w)(hl:w.length<=14):j86 w=B 0:=by
 have:=z_ h hl w.length 0 aa;rw[show ((0:E):u)=0 from rfl]at this;simp only[j86,show Int.ofNat (F w)=(w.length:u) from rfl];rw[aj aa,j7,this];rfl
abbrev bF:=A×(u×D aL)
abbrev cR:=A×(u×(WL×(u×(u×Bool))))
abbrev aV:=A×(u×D u)
abbrev bZ:=A×(u×((u×u)×(u×(u×(D u×(WL×(u×u)))))))
abbrev cW:=A×(D bZ×D (u×(u×(u×(u×u)))))
def gx(z:bF):Prop:=MZ z.2.1 z.2.2
theorem Dc{L:D u}{a n:u}(h:c9 L a)(hn:1<=n)(CC:n<=1000000):∃b a',j0Q L a n=B (b,L,a')/\c9 L a':=by
 obtain⟨x,a1,e1,x0,x1,d1⟩:=dh (n:=n) h aa aa;simp only[j0Q,e1,j4];exact⟨_,_,rfl,d1⟩
structure Hx(zs:D bF)(ps:D cR)(cs:D aV):Prop where
 z0:1<=zs.length
 z1:zs.length<=2
 ok:∀z∈zs,gx z
 p0:1<=ps.length
 p1:ps.length<=4
 c1:cs.length<=1
structure Hy(l:bZ):Prop where
 d0:20452<=l.2.2.1.1
 d1:l.2.2.1.1<=20457
 c0:0<=l.2.2.1.2
 c1:l.2.2.1.2<=79200
 u0:0<=l.2.2.2.1
 u1:l.2.2.2.1<=2
 e0:1<=l.2.2.2.2.1
 e1:l.2.2.2.2.1<=49
 e2:l.2.2.2.1≠0->l.2.2.2.2.1<=2
 m0:1<=l.2.2.2.2.2.1.length
 m1:l.2.2.2.2.2.1.length<=3
end Go.Proofs.Pw
