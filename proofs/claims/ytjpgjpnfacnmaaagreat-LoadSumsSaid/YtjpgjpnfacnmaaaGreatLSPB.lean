/- gX 4: the transitions of a zone. -/
import Derived.Test.YtjpgjpnfacnmaaaGreatLSPA
open Go Go.Lft
namespace Go.Proofs.Pw
abbrev aD:=Int×(Int×(Int×(Int×(Int×(Int×Int)))))
theorem lX{n lo hi:Int}(h1:lo<=n)(h2:n<=hi):jaS n lo hi=some true:=by
 simp only[jaS];rw[ag (show n>=lo from h1),ag h2];rfl
structure lY(r:aD):Prop where
 y0:1970<=r.1
 y1:r.1<=r.2.1
 y2:r.2.1<=2240
 m0:1<=r.2.2.1
 m1:r.2.2.1<=12
 k0:1<=r.2.2.2.1
 k1:r.2.2.2.1<=5
 d0:0<=r.2.2.2.2.1
 d1:r.2.2.2.2.1<=6
 s0:0<=r.2.2.2.2.2.1
 s1:r.2.2.2.2.2.1<=86399
 o0 : -64800<=r.2.2.2.2.2.2
 o1:r.2.2.2.2.2.2<=64800
theorem jD6{r:aD}(h:lY r):jgA r=some 0:=by
 simp only[jgA,lX h.y0 (show r.1<=2240 by have:=h.y1;have:=h.y2;omega),lX h.y1 h.y2,lX h.m0 h.m1,lX h.k0 h.k1,lX h.d0 h.d1,lX h.s0 h.s1,lX h.o0 h.o1,j4,jl,j7]
theorem QM{y m k w:Int}(_h1:1970<=y)(_h2:y<=2240)(fD:1<=m)(gL:m<=12)(dJ:1<=k)(ga:k<=5):num y m 1<=nth y m k w/\nth y m k w<num y m 1+fT y m\/nth y m k w<num y m 1+35/\num y m 1<=nth y m k w:=by
 right;have hd:=FX y m fD gL;unfold nth;dsimp only;split<;>omega
def cP(r:aD)(y:Int):Int×Int:=(nth y r.2.2.1 r.2.2.2.1 r.2.2.2.2.1*86400+r.2.2.2.2.2.1,r.2.2.2.2.2.2)
def fY(r:aD):bn:=(List.range (r.2.1-r.1+1).toNat).map λ(i:Nat)=>cP r (r.1+(i:Int))
def occs(l:List aD):bn:=l.flatMap fY
theorem jyI{r:aD}(h:lY r){y:Int}(h1:1970<=y)(h2:y<=2240):0<=(cP r y).1/\(cP r y).1<=10000000000:=by
 have hv:=FY (FZ y r.2.2.1 h1 h2 h.m0 h.m1);have jL:=h.s0;have nN:=h.s1;have:=QM (w:=r.2.2.2.2.1) h1 h2 h.m0 h.m1 h.k0 h.k1;have hd:=sK y r.2.2.1;unfold cP;dsimp only;omega
theorem jD7{r:aD}(h:lY r):Sm (fY r):=by
 intro x hx;obtain⟨i,hi,rfl⟩:=jt.1 hx;have hi:=yt.1 hi;have h0:=h.y0;have h2:=h.y2;have:=jyI h (y:=r.1+(i:Int)) (by omega) (by omega);omega
theorem jD8{l:List aD}(h:∀r∈l,lY r):Sm (occs l):=by
 intro x hx;obtain⟨r,hr,hx⟩:=qo.1 hx;exact jD7 (h r hr) x hx
theorem YZ{r:aD}(h:lY r)(rs:List aD)(a b:Int):∀(n:Nat)(i:Nat)(acc:bn),r.1+(i:Int)+n=r.2.1+1->acc.length+n<=100000->
  Ip (r.1+(i:Int)) rs a b r.1 r.2.1 r.2.2.1 r.2.2.2.1 r.2.2.2.2.1 r.2.2.2.2.2.1 r.2.2.2.2.2.2 acc=some (rs,a,b,acc++(List.range n).map λ(j:Nat)=>cP r (r.1+(i:Int)+(j:Int)))
 |0,i,acc,hi,_=>by
  rw[Wt];simp only[j26];rw[ah (by omega),j7,aW];simp
 |n+1,i,acc,hi,hl=>by
  have h0:=h.y0;have h2:=h.y2;have jL:=h.s0;have nN:=h.s1;have hv:=FY (FZ (r.1+(i:Int)) r.2.2.1 (by omega) (by omega) h.m0 h.m1);have hn:=QM (w:=r.2.2.2.2.1) (y:=r.1+(i:Int)) (by omega) (by omega) h.m0 h.m1 h.k0 h.k1;have hd:=sK (r.1+(i:Int)) r.2.2.1;rw[Wt];simp only[j26];rw[ag (show r.1+(i:Int)<=r.2.1 by omega),jEn _ _ _ _ (by omega) (by omega) h.m0 h.m1 h.k0 h.k1 h.d0 h.d1];simp only[j6,j4]
  rw[ai (x:=nth (r.1+(i:Int)) r.2.2.1 r.2.2.2.1 r.2.2.2.2.1*86400),ai (x:=nth (r.1+(i:Int)) r.2.2.1 r.2.2.2.1 r.2.2.2.2.1*86400+r.2.2.2.2.2.1),
   ai (x:=r.1+(i:Int)+1)]
  rw[ag (by simp[aN];omega)];simp only[j6,aK];have ih:=YZ h rs a b n (i+1) (acc++[cP r (r.1+(i:Int))]) (by omega) (by simp;omega);rw[show r.1+(i:Int)+1=r.1+((i+1:Nat):Int) by omega];refine ih.trans ?_
  have Ac:(List.range n).map (λ(j:Nat)=>cP r (r.1+((i+1:Nat):Int)+(j:Int)))=(List.range n).map ((λ(j:Nat)=>cP r (r.1+(i:Int)+(j:Int))) ∘ Nat.succ):=yi λj _=>by
   simp only[Function.comp];congr 1;omega
  rw[List.range_succ_eq_map,ke,List.map_map,Ac];simp
theorem Y0{rs:List aD}(h:∀r∈rs,lY r)(hlen:rs.length<=100):∀(n i:Nat)(acc:bn),i+n=rs.length->acc.length<=300*i->
  Eu rs (rs.length:Int) (i:Int) acc=some (acc++occs (rs.drop i))
 |0,i,acc,hi,_=>by
  rw[Wu];simp only[j27];rw[ah (by omega),j7,aW,jd (by omega)];simp[occs]
 |n+1,i,acc,hi,hl=>by
  have ak:i<rs.length:=by omega
  have hr:=h rs[i] (jf ak);have h0:=hr.y0;have h1:=hr.y1;have h2:=hr.y2;have hg:rs.getD i ((0:Int),((0:Int),((0:Int),((0:Int),((0:Int),((0:Int),(0:Int)))))))=rs[i]:=by simp[ak]
  have vE:=YZ hr rs (rs.length:Int) (i:Int) (rs[i].2.1-rs[i].1+1).toNat 0 acc (by omega) (by omega);rw[show rs[i].1+((0:Nat):Int)=rs[i].1 by omega]at vE;have ih:=Y0 h hlen n (i+1) (acc++fY rs[i]) (by omega) (by simp[fY];omega);rw[Wu];simp only[j27];rw[ag (show (i:Int)<(rs.length:Int) by omega),bz];simp only[j6,j8,hg,vE,j4];rw[ai,aK,jb ak];refine ih.trans ?_;rw[jj];rfl
theorem Y1{rs:List aD}(h:∀r∈rs,lY r)(hlen:rs.length<=100)(nm:ByteArray)(o:Int):∀(n i:Nat)(s:Int),i+n=rs.length->0<=s->s<=300*i->
  Et s rs (rs.length:Int) (i:Int) nm o rs=some (.inr (s+((occs (rs.drop i)).length:Int),nm,o,rs))
 |0,i,s,hi,_,_=>by
  rw[Ws];simp only[j25];rw[ah (by omega),j7,aW,jd (by omega)];simp[occs]
 |n+1,i,s,hi,jL,nN=>by
  have ak:i<rs.length:=by omega
  have hr:=h rs[i] (jf ak);have h0:=hr.y0;have h1:=hr.y1;have h2:=hr.y2;have hg:rs.getD i ((0:Int),((0:Int),((0:Int),((0:Int),((0:Int),((0:Int),(0:Int)))))))=rs[i]:=by simp[ak]
  have ih:=Y1 h hlen nm o n (i+1) (s+(rs[i].2.1-rs[i].1+1)) (by omega) (by omega) (by omega);have sL:jgA (rs[i].1,(rs[i].2.1,(rs[i].2.2.1,(rs[i].2.2.2.1,(rs[i].2.2.2.2.1,(rs[i].2.2.2.2.2.1,rs[i].2.2.2.2.2.2))))))=some 0:=jD6 hr;rw[Ws];simp only[j25];rw[ag (show (i:Int)<(rs.length:Int) by omega),bz];simp only[j6,j8,hg,sL,j4,jh,j7];rw[ai (x:=rs[i].2.1-rs[i].1),ai (x:=rs[i].2.1-rs[i].1+1),ai (x:=s+(rs[i].2.1-rs[i].1+1)),ai (x:=(i:Int)+1),aK];refine ih.trans ?_;rw[jb ak]
  have:((occs (rs[i]::rs.drop (i+1))).length:Int)=(rs[i].2.1-rs[i].1+1)+((occs (rs.drop (i+1))).length:Int):=by
   have e1:(fY rs[i]).length=(rs[i].2.1-rs[i].1+1).toNat:=by simp[fY]
   show ((fY rs[i]++occs (rs.drop (i+1))).length:Int)=_;rw[jg,e1];omega
  rw[this];congr 3;omega
theorem jo0{nm:ByteArray}{o:Int}{rs:List aD}(h:∀r∈rs,lY r)(mR : -64800<=o)(jK:o<=64800)(hlen:rs.length<=16)(hn:(occs rs).length<20):j8n (nm,(o,rs))=some (ff (occs rs),0):=by
 have e0:=Y1 h (by omega) nm o rs.length 0 0 (by omega) (by omega) (by omega);have e2:=Y0 h (by omega) rs.length 0 [] (by omega) (by simp);rw[jr]at e0 e2;simp only[j8n,lX mR jK,j4,jl,j7,show Int.ofNat (List.length rs)=(rs.length:Int) from rfl];rw[ah (show¬(rs.length:Int)>16 by omega),j7,show Et 0 rs (rs.length:Int) 0 nm o rs=_ from e0];simp only[j4,nw];rw[ah (by omega),j7,show Int.ofNat (List.length rs)=(rs.length:Int) from rfl,show Eu rs (rs.length:Int) 0 []=_ from e2];simp only[j4,jv,jqi (jD8 h) hn]
def cj(now:Int):bn->bn
 |[]=>[]
 |x::r=>if x.2=now then cj now r else (x.1-now,x.2)::cj x.2 r
def Good(now:Int)(p:Option Int):bn->Prop
 |[]=>True
 |x::r=>if x.2=now then Good now p r else (-86400<x.2-now/\x.2-now<86400/\1000000<x.1-now/\x.1-now<=8589000000/\(∀q,p=some q->q+604800<=x.1-now) /\ -64800<=x.2/\x.2<=64800)/\Good x.2 (some (x.1-now)) r
theorem QN(L:bn)(hL:L.length<=1000):∀(n i:Nat)(now:Int)(acc:bn),i+n=L.length -> -64800<=now->now<=64800->acc.length<=i->(∀x∈acc,0<=x.1/\x.1<=8589934592)->Good now (acc.getLast?.map (·.1)) (L.drop i)->
  Ev now (L.length:Int) (i:Int) acc L=some (.inr (acc++cj now (L.drop i)))
 |0,i,now,acc,hi,_,_,_,_,_=>by
  rw[Ww];simp only[j28];rw[ah (by omega),j7,aW,jd (by omega)];simp[cj]
 |n+1,i,now,acc,hi,oO,qX,nk,dZ,hg=>by
  have ak:i<L.length:=by omega
  rw[jb ak]at hg ⊢;have aR:L.getD i ((0:Int),(0:Int))=L[i]:=by simp[ak]
  rw[Ww];simp only[j28];rw[ag (show (i:Int)<(L.length:Int) by omega),bz];simp only[j6,j8,aR];generalize L[i]=x at *;rw[ai (x:=(i:Int)+1)];simp only[Good]at hg;by_cases hx:x.2=now
  .rw[if_pos hx]at hg;rw[di hx];simp only[j6,aK,cj];rw[if_pos hx];exact QN L hL n (i+1) now acc (by omega) oO qX (by omega) dZ hg
  .rw[if_neg hx]at hg;obtain⟨⟨g1,g2,g3,g4,g5,g6,g7⟩,g8⟩:=hg;rw[bW hx,ai (x:=x.1-now),ai (x:=x.2-now),ah (show¬x.2-now>=86400 by omega),ah (show¬x.2-now <= -86400 by omega)];simp only[j7,lX (show (0:Int)<=x.1-now by omega) (show x.1-now<=8589934592 by omega),j4,jl,ka,yl,show Int.ofNat (List.length acc)=(acc.length:Int) from rfl];rw[ai (x:=(acc.length:Int)-1)]
   have gR:=QN L hL n (i+1) x.2 (acc++[(x.1-now,x.2)]) (by omega) g6 g7 (by simp;omega)
    (λy hy=>by
     rcases jn.1 hy with hy|hy
     .exact dZ y hy
     .simp at hy;subst hy;exact⟨by show (0:Int)<=x.1-now;omega,by show x.1-now<=8589934592;omega⟩) (by simpa using g8)
   have dG:cj now (x::L.drop (i+1))=(x.1-now,x.2)::cj x.2 (L.drop (i+1)):=by simp[cj,hx]
   rw[dG];rw[jj]at gR;by_cases ha:acc=[]
   .subst ha;simp only[qc];rw[show inR (((0:Nat):Int)-1) 0=false from rfl,show decide (((0:Nat):Int)>0)=false from rfl];simp only[ka,j6,j7,Bool.or_true];rw[ag (by simp[aN])];simp only[j6,aK];exact gR
   .have bJ:0<acc.length:=List.length_pos_iff.2 ha;have cU:acc.getLast? = some (acc.getD (acc.length-1) (0,0)):=by rw[List.getLast?_eq_getElem?,List.getD_eq_getElem?_getD,jk (show acc.length-1<acc.length by omega)];rfl
    rw[cU]at g5;have g5:(acc.getD (acc.length-1) ((0:Int),(0:Int))).1+604800<=x.1-now:=g5 _ rfl;have hb:=dZ (acc.getD (acc.length-1) (0,0)) (List.mem_of_getLast? cU);rw[bz,ag (show (acc.length:Int)>0 by omega),show ((acc.length:Int)-1).toNat=acc.length-1 by omega];simp only[zj,j6];rw[ai,ah (show¬x.1-now<(acc.getD (acc.length-1) ((0:Int),(0:Int))).1+604800 by omega),ag (by simp[aN];omega)];simp only[j6,j7,aK];exact gR
def JG(p:Option Int):bn->Prop
 |[]=>True
 |x::r=>(1000000<x.1/\x.1<=8589000000/\(∀q,p=some q->q+604800<=x.1) /\ -64800<=x.2/\x.2<=64800)/\JG (some x.1) r
theorem QP:∀(L:bn)(now:Int)(p:Option Int),Good now p L->JG p (cj now L)
 |[],_,_,_=>trivial
 |x::r,now,p,h=>by
  simp only[Good]at h;by_cases hx:x.2=now
  .rw[if_pos hx]at h;simp only[cj];rw[if_pos hx];exact QP r now p h
  .rw[if_neg hx]at h;simp only[cj];rw[if_neg hx];obtain⟨⟨g1,g2,g3,g4,g5,g6,g7⟩,g8⟩:=h;exact⟨⟨g3,g4,g5,g6,g7⟩,QP r x.2 _ g8⟩
theorem JH:∀(L:bn)(now:Int),(cj now L).length<=L.length
 |[],_=>js _
 |x::r,now=>by
  simp only[cj];split
  .have:=JH r now;simp;omega
  .have:=JH r x.2;simp;omega
theorem Y2:∀(l:bn)(p:Option Int),JG p l->(∀i,i+1<l.length->fR l i+604800<=fR l (i+1))/\(∀i,i<l.length->1000000<fR l i/\fR l i<=8589000000)/\
  (∀o i, -64800<=o->o<=64800->i<=l.length -> -64800<=ba o l i/\ba o l i<=64800)
 |[],_,_=>⟨λi h=>by simp at h,λi h=>by simp at h,λo i h1 h2 h3=>by
  have:i=0:=by simpa using h3
  subst this;exact⟨h1,h2⟩⟩
 |x::r,p,h=>by
  obtain⟨⟨g3,g4,g5,g6,g7⟩,g8⟩:=h;obtain⟨h1,h2,h3⟩:=Y2 r _ g8;refine⟨λi hi=>?_,λi hi=>?_,λo i mR jK hi=>?_⟩
  .cases i with
   |zero=>
    cases r with
    |nil=>simp at hi
    |cons y ys=>have:=g8.1.2.2.1 _ rfl;exact this
   |succ i=>exact h1 i (by simp at hi ⊢;omega)
  .cases i with
   |zero=>exact⟨g3,g4⟩
   |succ i=>exact h2 i (by simp at hi ⊢;omega)
  .cases i with
   |zero=>exact⟨mR,jK⟩
   |succ i=>
    cases i with
    |zero=>exact⟨g6,g7⟩
    |succ i=>exact h3 x.2 (i+1) g6 g7 (by simp at hi ⊢;omega)
theorem jD9{o:Int}{l:bn}(h:JG none l)(hl:l.length<=1000)(h0 : -64800<=o)(h1:o<=64800):gW o l:=by
 obtain⟨a,b,c⟩:=Y2 l none h;exact⟨hl,a,λi hi=>(b i hi).1,λi hi=>(b i hi).2,λi hi=>(c o i h0 h1 hi).1,λi hi=>(c o i h0 h1 hi).2⟩
def sM(z:ByteArray×(Int×List aD))(l:bn):Prop:=j3t z=some (l,0)/\gW z.2.1 l
theorem jDa{nm:ByteArray}{o:Int}{rs:List aD}(h:∀r∈rs,lY r)(mR : -64800<=o)(jK:o<=64800)(hlen:rs.length<=16)(hn:(occs rs).length<20)(hg:Good o none (ff (occs rs))):sM (nm,(o,rs)) (cj o (ff (occs rs))):=by
 have hl:(ff (occs rs)).length<=1000:=by simp[ff,FW];omega
 refine⟨?_,jD9 (QP _ _ _ hg) (by have:=JH (ff (occs rs)) o;omega) mR jK⟩;have:=QN (ff (occs rs)) hl (ff (occs rs)).length 0 o [] (by omega) mR jK (by simp) (by simp) hg;simp only[j3t,jo0 h mR jK hlen hn,j4,jh,j7,show Int.ofNat (List.length (ff (occs rs)))=((ff (occs rs)).length:Int) from rfl];rw[jr]at this;rw[show Ev o ((ff (occs rs)).length:Int) 0 [] (ff (occs rs))=_ from this];rfl
theorem Y3{z:ByteArray×(Int×List aD)}{l:bn}(h:sM z l):jim z=some ((z.2.1,l),0):=by
 simp only[jim,show j3t (z.1,(z.2.1,z.2.2))=_ from h.1,j4]
theorem Y4{y m k w:Int}(fD:1<=m)(gL:m<=12)(dJ:2<=k)(ga:k<=5):num y m 1+7<=nth y m k w/\nth y m k w<=num y m 1+34:=by
 have hd:=FX y m fD gL;unfold nth;dsimp only;split<;>omega
theorem QQ{y m k w:Int}(fD:1<=m)(gL:m<=12)(dJ:1<=k)(ga:k<=4):num y m 1<=nth y m k w/\nth y m k w<=num y m 1+27:=by
 have hd:=FX y m fD gL;unfold nth;dsimp only;split<;>omega
theorem Y5{a b:Int×Int}(h:a.1<b.1):ff [a,b]=[a,b]:=by
 simp[ff,lb,ml,show¬b.1<a.1 by omega]
theorem Y6{a b c d:Int×Int}(h1:a.1<c.1)(h2:c.1<b.1)(h3:b.1<d.1):ff [a,b,c,d]=[a,c,b,d]:=by
 simp[ff,lb,ml,show¬b.1<a.1 by omega,h2,show¬c.1<a.1 by omega,show¬d.1<b.1 by omega]
theorem Y7(r1 r2:aD)(h1:r1.1=2025)(h2:r1.2.1=2025)(h3:r2.1=2025)(h4:r2.2.1=2025):occs [r1,r2]=[cP r1 2025,cP r2 2025]:=by
 simp[occs,fY,h1,h2,h3,h4]
theorem Y8(r1 r2:aD)(h1:r1.1=2025)(h2:r1.2.1=2026)(h3:r2.1=2025)(h4:r2.2.1=2026):occs [r1,r2]=[cP r1 2025,cP r1 2026,cP r2 2025,cP r2 2026]:=by
 simp[occs,fY,h1,h2,h3,h4,List.range_succ]
theorem pR{now:Int}{p:Option Int}{x:Int×Int}{r:bn}(hx:x.2≠now)(h : -86400<x.2-now/\x.2-now<86400/\1000000<x.1-now/\x.1-now<=8589000000 /\ -64800<=x.2/\x.2<=64800)
  (hp:∀q,p=some q->q+604800<=x.1-now)(hr:Good x.2 (some (x.1-now)) r):Good now p (x::r):=by
 simp only[Good];rw[if_neg hx];exact⟨⟨h.1,h.2.1,h.2.2.1,h.2.2.2.1,hp,h.2.2.2.2.1,h.2.2.2.2.2⟩,hr⟩
theorem jyL{now:Int}{p:Option Int}{x:Int×Int}{r:bn}(hx:x.2=now)(hr:Good now p r):Good now p (x::r):=by
 simp only[Good];rw[if_pos hx];exact hr
theorem F1{P:Int->Prop}:∀q,(none:Option Int)=some q->P q:=λ_ h=>by simp at h
theorem xh{P:Int->Prop}{a:Int}(h:P a):∀q,some a=some q->P q:=λq hq=>by simp at hq;subst hq;exact h
theorem n251:num 2025 1 1=20089:=by decide
theorem n261:num 2026 1 1=20454:=by decide
theorem n252:num 2025 2 1=20120:=by decide
theorem n253:num 2025 3 1=20148:=by decide
theorem n262:num 2026 2 1=20485:=by decide
theorem n263:num 2026 3 1=20513:=by decide
structure MZ(o:Int)(rs:List aD):Prop where
 o0 : -64800<=o
 o1:o<=64800
 ok:∀r∈rs,lY r
 len:rs.length<=2
 yr:∀r∈rs,2025<=r.1
 few:(occs rs).length<=4
 good:Good o none (ff (occs rs))
theorem MZ.tab{o:Int}{rs:List aD}(h:MZ o rs)(nm:ByteArray):sM (nm,(o,rs)) (cj o (ff (occs rs))):=
 jDa h.ok (by have:=h.o0;omega) (by have:=h.o1;omega) (by have:=h.len;omega) (by have:=h.few;omega) h.good
theorem mz0{o:Int}(h0 : -43200<=o)(h1:o<=45000):MZ o []:=⟨by omega,by omega,by simp,by simp,by simp,by decide,trivial⟩
theorem Y9{r1 r2:aD}(h1:lY r1)(h2:lY r2):∀r∈[r1,r2],lY r:=by
 intro r hr;simp at hr;rcases hr with rfl|rfl
 .exact h1
 .exact h2
theorem mz1{o last:Int}(h0 : -43200<=o)(h1:o<=45000)(hl:last=2025\/last=2026):MZ o [(2025,(last,(3,(5,(6,(7200,o+3600)))))),(2025,(last,(10,(5,(6,(10800,o))))))]:=by
 have a1:nth 2025 3 5 6=20177:=by decide
 have a2:nth 2025 10 5 6=20387:=by decide
 have a3:nth 2026 3 5 6=20541:=by decide
 have a4:nth 2026 10 5 6=20751:=by decide
 have bH:=Y9 (r1:=(2025,(last,(3,(5,(6,(7200,o+3600))))))) (r2:=(2025,(last,(10,(5,(6,(10800,o))))))) (by constructor<;>(dsimp only;omega)) (by constructor<;>(dsimp only;omega));rcases hl with rfl|rfl
 .have e:=Y7 (2025,(2025,(3,(5,(6,(7200,o+3600)))))) (2025,(2025,(10,(5,(6,(10800,o)))))) rfl rfl rfl rfl;refine⟨by omega,by omega,bH,by simp,by simp,by rw[e];simp,?_⟩;rw[e,Y5 (by simp only[cP];omega)];refine pR (by simp only[cP];omega) (by simp only[cP];omega) F1 (pR (by simp only[cP];omega) (by simp only[cP];omega) (xh (by simp only[cP];omega)) trivial)
 .have e:=Y8 (2025,(2026,(3,(5,(6,(7200,o+3600)))))) (2025,(2026,(10,(5,(6,(10800,o)))))) rfl rfl rfl rfl;refine⟨by omega,by omega,bH,by simp,by simp,by rw[e];simp,?_⟩;rw[e,Y6 (by simp only[cP];omega) (by simp only[cP];omega) (by simp only[cP];omega)]
  refine pR (by simp only[cP];omega) (by simp only[cP];omega) F1 (pR (by simp only[cP];omega) (by simp only[cP];omega) (xh (by simp only[cP];omega))
   (pR (by simp only[cP];omega) (by simp only[cP];omega) (xh (by simp only[cP];omega)) (pR (by simp only[cP];omega) (by simp only[cP];omega) (xh (by simp only[cP];omega)) trivial)))
theorem mz2{o last k1 w1 s1 c m2 k2 w2 s2:Int}(h0 : -43200<=o)(h1:o<=45000)(hl:last=2025\/last=2026)(hk:1<=k1)(bK:k1<=4)(hw:0<=w1)(Lm:w1<=6)(hs:0<=s1)(dC:s1<=82800)(hc:1800<=c)(dq:c<=14400)
  (hm:m2=2\/m2=3)(hj:2<=k2)(iB:k2<=5)(hx:0<=w2)(nh:w2<=6)(ht:0<=s2)(tq:s2<=82800):MZ o [(2025,(last,(1,(k1,(w1,(s1,o+c)))))),(2025,(last,(m2,(k2,(w2,(s2,o))))))]:=by
 have bH:=Y9 (r1:=(2025,(last,(1,(k1,(w1,(s1,o+c))))))) (r2:=(2025,(last,(m2,(k2,(w2,(s2,o))))))) (by constructor<;>(dsimp only;omega)) (by constructor<;>(dsimp only;omega));have b1:=QQ (y:=2025) (m:=1) (k:=k1) (w:=w1) (by omega) (by omega) hk bK;have b2:=QQ (y:=2026) (m:=1) (k:=k1) (w:=w1) (by omega) (by omega) hk bK;have b3:=Y4 (y:=2025) (m:=m2) (k:=k2) (w:=w2) (by omega) (by omega) hj iB;have b4:=Y4 (y:=2026) (m:=m2) (k:=k2) (w:=w2) (by omega) (by omega) hj iB;have c1:20120<=num 2025 m2 1/\num 2025 m2 1<=20148:=by rcases hm with rfl|rfl<;>simp[n252,n253]
 have c2:20485<=num 2026 m2 1/\num 2026 m2 1<=20513:=by rcases hm with rfl|rfl<;>simp[n262,n263]
 rw[n251]at b1;rw[n261]at b2;rcases hl with rfl|rfl
 .have e:=Y7 (2025,(2025,(1,(k1,(w1,(s1,o+c)))))) (2025,(2025,(m2,(k2,(w2,(s2,o)))))) rfl rfl rfl rfl;refine⟨by omega,by omega,bH,by simp,by simp,by rw[e];simp,?_⟩;rw[e,Y5 (by simp only[cP];omega)];refine pR (by simp only[cP];omega) (by simp only[cP];omega) F1 (pR (by simp only[cP];omega) (by simp only[cP];omega) (xh (by simp only[cP];omega)) trivial)
 .have e:=Y8 (2025,(2026,(1,(k1,(w1,(s1,o+c)))))) (2025,(2026,(m2,(k2,(w2,(s2,o)))))) rfl rfl rfl rfl;refine⟨by omega,by omega,bH,by simp,by simp,by rw[e];simp,?_⟩;rw[e,Y6 (by simp only[cP];omega) (by simp only[cP];omega) (by simp only[cP];omega)]
  refine pR (by simp only[cP];omega) (by simp only[cP];omega) F1 (pR (by simp only[cP];omega) (by simp only[cP];omega) (xh (by simp only[cP];omega))
   (pR (by simp only[cP];omega) (by simp only[cP];omega) (xh (by simp only[cP];omega)) (pR (by simp only[cP];omega) (by simp only[cP];omega) (xh (by simp only[cP];omega)) trivial)))
theorem Za{o w s x:Int}(h0 : -43200<=o)(h1:o<=45000)(hw:0<=w)(Lm:w<=6)(hs:0<=s)(dC:s<=84600)(uj : -64800<=x)(pF:x<=64800)(iS : -86400<x-o)(eG:x-o<86400):MZ o [(2026,(2026,(1,(2,(w,(s,x))))))]:=by
 have b:=QQ (y:=2026) (m:=1) (k:=2) (w:=w) (by omega) (by omega) (by omega) (by omega);rw[n261]at b;have e:occs [((2026:Int),((2026:Int),((1:Int),((2:Int),(w,(s,x))))))]=[cP (2026,(2026,(1,(2,(w,(s,x)))))) 2026]:=by simp[occs,fY]
 refine⟨by omega,by omega,λr hr=>?_,by simp,by simp,by rw[e];simp,?_⟩
 .simp at hr;subst hr;constructor<;>(dsimp only;omega)
 .rw[e];have hi:ff [cP (2026,(2026,(1,(2,(w,(s,x)))))) 2026]=[cP (2026,(2026,(1,(2,(w,(s,x)))))) 2026]:=by simp[ff,lb,ml]
  rw[hi];by_cases Zb:x=o
  .exact jyL Zb trivial
  .exact pR Zb (by simp only[cP];omega) F1 trivial
theorem jDb{L:List Int}{a:Int}(h:dD L a)(nm:ByteArray):∃o rs a',j3U L a nm=some ((nm,(o,rs)),L,a')/\MZ o rs/\dD L a':=by
 obtain⟨p,a1,e1,m1,d1⟩:=ow h (xs:=[(0:Int),(4:Int),(-20:Int),(22:Int),(48:Int),(-47:Int)]) (by simp) (by simp);obtain⟨x2,a2,e2,x20,x21,d2⟩:=dj (n:=2) d1 (by omega) (by omega);obtain⟨x3,a3,e3,x30,x31,d3⟩:=dj (n:=3) d2 (by omega) (by omega);obtain⟨y,a4,e4,y0,y1,d4⟩:=dj (n:=2) d3 (by omega) (by omega);obtain⟨q,a5,e5,q0,q1,d5⟩:=dj (n:=4) d4 (by omega) (by omega);have hp : -47<=p/\p<=48:=by simp at m1;omega
 have hmul:0<=x2*x3/\x2*x3<=2:=by
  obtain rfl|rfl:x2=0\/x2=1:=by omega
  all_goals omega
 have mR : -43200<=900*(p+x2*x3):=by omega
 have jK:900*(p+x2*x3)<=45000:=by omega
 have cU:2025+y=2025\/2025+y=2026:=by omega
 simp only[j3U,e1,e2,e3,e4,e5,j4];rw[ai (x:=x2*x3),ai (x:=p+x2*x3),ai (x:=900*(p+x2*x3)),ai (x:=2025+y)];generalize 900*(p+x2*x3)=o at *;generalize 2025+y=last at *;by_cases Ad:q=1
 .rw[di Ad,j6,ai (x:=o+3600)];exact⟨_,_,_,rfl,mz1 mR jK cU,d5⟩
 .rw[bW Ad,j7];by_cases F2:q=2
  .rw[di F2,j6];obtain⟨b1,c1,f1,b10,b11,g1⟩:=dj (n:=4) d5 (by omega) (by omega);obtain⟨b2,c2,f2,Cc,QR,g2⟩:=dj (n:=7) g1 (by omega) (by omega);obtain⟨b3,c3,f3,QS,QT,g3⟩:=dj (n:=24) g2 (by omega) (by omega);obtain⟨b4,c4,f4,b40,b41,g4⟩:=dj (n:=8) g3 (by omega) (by omega);obtain⟨b5,c5,f5,b50,b51,g5⟩:=dj (n:=2) g4 (by omega) (by omega);obtain⟨b6,c6,f6,m6,g6⟩:=ow g5 (xs:=[(2:Int),(3:Int),(5:Int)]) (by simp) (by simp);obtain⟨b7,c7,f7,Zc,b71,g7⟩:=dj (n:=7) g6 (by omega) (by omega);obtain⟨b8,c8,f8,b80,b81,g8⟩:=dj (n:=24) g7 (by omega) (by omega);have h6:2<=b6/\b6<=5:=by simp at m6;omega
   simp only[f1,f2,f3,f4,f5,f6,f7,f8,j4]
   rw[ai (x:=1+b1),ai (x:=3600*b3),ai (x:=1+b4),ai (x:=1800*(1+b4)),ai (x:=o+1800*(1+b4)),
    ai (x:=2+b5),ai (x:=3600*b8)]
   exact⟨_,_,_,rfl,mz2 mR jK cU (by omega) (by omega) Cc (by omega) (by omega) (by omega) (by omega) (by omega) (by omega) h6.1 h6.2 Zc (by omega) (by omega) (by omega),g8⟩
  .rw[bW F2,j7];by_cases F3:q=3
   .rw[di F3,j6];obtain⟨b1,c1,f1,m1,g1⟩:=ow d5 (xs:=[(3600:Int),(-3600:Int),(82800:Int),(-82800:Int),(43200:Int)]) (by simp) (by simp);obtain⟨b2,c2,f2,Cc,QR,g2⟩:=dj (n:=7) g1 (by omega) (by omega);obtain⟨b3,c3,f3,QS,QT,g3⟩:=dj (n:=48) g2 (by omega) (by omega);have eZ : -82800<=b1/\b1<=82800:=by simp at m1;omega
    simp only[f1,f2,f3,j4];rw[ai (x:=o+b1),ai (x:=1800*b3)];by_cases mS:o+b1>64800\/o+b1 < -64800
    .have hb:cond (decide (o+b1>64800)) true (decide (o+b1 < -64800))=true:=by
      rcases mS with mS|mS
      .rw[ag mS];rfl
      .rw[ag mS];cases decide (o+b1>64800)<;>rfl
     rw[hb,j6];exact⟨_,_,_,rfl,Za mR jK Cc (by omega) (by omega) (by omega) (by omega) (by omega) (by omega) (by omega),g3⟩
    .rw[ah (show¬o+b1>64800 by omega),ah (show¬o+b1 < -64800 by omega)];simp only[j7];exact⟨_,_,_,rfl,Za mR jK Cc (by omega) (by omega) (by omega) (by omega) (by omega) (by omega) (by omega),g3⟩
   .rw[bW F3,j7];exact⟨_,_,_,rfl,mz0 mR jK,d5⟩
theorem QU:∀(L:bn)(now:Int)(p:Option Int),Good now p L->∀i,i<(cj now L).length -> -86400<ba now (cj now L) (i+1)-ba now (cj now L) i/\ba now (cj now L) (i+1)-ba now (cj now L) i<86400
 |[],_,_,_,i,hi=>by simp[cj]at hi
 |x::r,now,p,h,i,hi=>by
  simp only[Good]at h;by_cases hx:x.2=now
  .rw[if_pos hx]at h;have e:cj now (x::r)=cj now r:=by simp[cj,hx]
   rw[e]at hi ⊢;exact QU r now p h i hi
  .rw[if_neg hx]at h;have e:cj now (x::r)=(x.1-now,x.2)::cj x.2 r:=by simp[cj,hx]
   rw[e]at hi ⊢;obtain⟨⟨g1,g2,_⟩,g8⟩:=h;cases i with
   |zero=>exact⟨g1,g2⟩
   |succ i=>
    have:=QU r x.2 _ g8 i (by simpa using hi);cases i with
    |zero=>exact this
    |succ i=>exact this
section
variable{o:Int}{l:bn}(h:gW o l)
include h
theorem F4{i j:Nat}{t:Int}(hi:i<=l.length)(hj:j<=l.length)(a1:aO l i<=t)(a2:t<aO l (i+1))(b1:aO l j<=t)(b2:t<aO l (j+1)):i=j:=by
 rcases vw i j with dF|dF|dF
 .have:=h.frm_le (i:=i+1) (j:=j) (by omega) (by omega);omega
 .exact dF
 .have:=h.frm_le (i:=j+1) (j:=i) (by omega) (by omega);omega
end
abbrev WL:=List (Int×Int)
def ei(p:Int):WL->Prop
 |[]=>p<=604800
 |x::r=>p<=x.1/\x.1<x.2/\x.2<=604800/\ei x.2 r
def eB:WL->Int
 |[]=>0
 |x::r=>(x.2-x.1)+eB r
def hasB(s:Int):WL->Bool
 |[]=>false
 |x::r=>cond (cond (decide (x.1<=s)) (decide (s<x.2)) false) true (hasB s r)
theorem ei.top{p:Int}:∀{w:WL},ei p w->p<=604800
 |[],h=>h
 |_::_,h=>by have:=h.1;have:=h.2.1;have:=h.2.2.1;omega
theorem ei.weak{p q:Int}(hq:q<=p):∀{w:WL},ei p w->ei q w
 |[],h=>by show q<=604800;have:p<=604800:=h;omega
 |_::_,h=>⟨by have:=h.1;omega,h.2⟩
theorem xi:∀{w:WL}{p:Int},ei p w->∀i,i<w.length->p<=(w.getD i (0,0)).1/\(w.getD i (0,0)).1<(w.getD i (0,0)).2/\(w.getD i (0,0)).2<=604800
 |[],_,_,i,hi=>by simp at hi
 |x::r,p,h,i,hi=>by
  obtain⟨h1,h2,h3,h4⟩:=h;cases i with
  |zero=>exact⟨h1,h2,h3⟩
  |succ i=>exact xi (h4.weak (show p<=x.2 by omega)) i (by simpa using hi)
theorem QV:∀{w:WL}{p:Int},ei p w->∀i,i+1<w.length->(w.getD i (0,0)).2<=(w.getD (i+1) (0,0)).1
 |[],_,_,i,hi=>by simp at hi
 |x::[],_,_,i,hi=>by simp at hi
 |x::y::r,p,h,i,hi=>by
  cases i with
  |zero=>exact h.2.2.2.1
  |succ i=>exact QV h.2.2.2 i (by simpa using hi)
theorem Zd{L:List Int}:∀(n:Nat)(p a:Int)(acc:WL),dD L a->0<=p->p<=604800->acc.length+n<=100->
  ∃w a',Ia p (n:Int) L a acc=some (L,a',acc++w)/\ei p w/\w.length<=n/\dD L a'
 |0,p,a,acc,hd,_,hp,_=>by
  rw[Wi];simp only[j1R];rw[ah (by omega),j7,aW];exact⟨[],a,by simp,hp,by simp,hd⟩
 |n+1,p,a,acc,hd,pS,hp,ha=>by
  obtain⟨x,a1,e1,x0,x1,d1⟩:=dj (n:=30) hd (by omega) (by omega);obtain⟨y,a2,e2,y0,y1,d2⟩:=dj (n:=2) d1 (by omega) (by omega);obtain⟨q,a3,e3,m3,d3⟩:=ow d2 (xs:=[(3600:Int),(28800:Int),(43200:Int),(86400:Int),(61:Int),(1:Int)]) (by simp) (by simp);have hq:1<=q/\q<=86400:=by simp at m3;omega
  rw[Wi];simp only[j1R];rw[ag (by omega)];simp only[j6,e1,e2,e3,j4];rw[ai (x:=3600*x),ai (x:=p+3600*x),ai (x:=60*y),ai (x:=p+3600*x+60*y),ai (x:=p+3600*x+60*y+q),ai (x:=((n+1:Nat):Int)-1)];by_cases mS:p+3600*x+60*y+q>604800
  .rw[ag mS,j6,aW];exact⟨[],a3,by simp,hp,by simp,d3⟩
  .rw[ah mS,ag (by simp[aN];omega)];simp only[j7,j6,aK];obtain⟨w,a4,e4,hw,iD,d4⟩:=Zd n (p+3600*x+60*y+q) a3 (acc++[(p+3600*x+60*y,p+3600*x+60*y+q)]) d3 (by omega) (by omega) (by simp;omega);rw[show ((n+1:Nat):Int)-1=(n:Int) by omega];refine⟨(p+3600*x+60*y,p+3600*x+60*y+q)::w,a4,by rw[e4,jj];rfl,⟨by dsimp only;omega,by dsimp only;omega,by dsimp only;omega,hw⟩,by simp;omega,d4⟩
theorem JI{L:List Int}{a:Int}(h:dD L a):∃w a',j2J L a=some (w,L,a')/\ei 0 w/\w.length<=3/\dD L a':=by
 obtain⟨x,a1,e1,x0,x1,d1⟩:=dj (n:=4) h (by omega) (by omega);obtain⟨w,a',e2,h1,h2,h3⟩:=Zd x.toNat 0 a1 [] d1 (by omega) (by omega) (by simp;omega);rw[show ((x.toNat:Nat):Int)=x by omega,jv]at e2;simp only[j2J,e1,j4,e2];exact⟨w,a',rfl,h1,by omega,h3⟩
theorem Ze{L:List Int}{a:Int}(h:dD L a):∃t a',j5k L a=some (t,L,a')/\1767139199<=t/\t<=1767139200+3600*575+3599/\dD L a':=by
 obtain⟨x,a1,e1,x0,x1,d1⟩:=dj (n:=576) h (by omega) (by omega);obtain⟨y,a2,e2,y0,y1,d2⟩:=dj (n:=3) d1 (by omega) (by omega);obtain⟨q,a3,e3,m3,d3⟩:=ow d2 (xs:=[(-1:Int),(1:Int),(1800:Int),(3599:Int)]) (by simp) (by simp);have hq : -1<=q/\q<=3599:=by simp at m3;omega
 simp only[j5k,e1,j4,j0N,e2,e3];rw[ai (x:=3600*x),ai (x:=1767139200+3600*x),ai (x:=1767139200+3600*x+q)];cases (y==w64 (3-1)) with
 |true=>exact⟨_,_,rfl,by omega,by omega,d3⟩
 |false=>exact⟨_,_,rfl,by omega,by omega,d2⟩
theorem Zf{w:WL}(h:ei 0 w)(hl:w.length<=14):∀(n i:Nat),i+n=w.length->Ir w w (w.length:Int) (i:Int)=some (.inr ())
 |0,i,hi=>by
  rw[Wz];simp only[j4z];rw[ah (by omega),j7,aW]
 |n+1,i,hi=>by
  have ih:=Zf h hl n (i+1) (by omega);have hg:=xi h i (by omega);rw[Wz];simp only[j4z];rw[ag (show (i:Int)<(w.length:Int) by omega),bz];simp only[j6,j8];rw[ah (show¬(w.getD i ((0:Int),(0:Int))).1<0 by omega),ah (show¬(w.getD i ((0:Int),(0:Int))).1>=(w.getD i ((0:Int),(0:Int))).2 by omega),ah (show¬(w.getD i ((0:Int),(0:Int))).2>604800 by omega)];rw[ai (x:=(i:Int)+1)];simp only[j7];by_cases h0:i=0
  .rw[ah (by omega)];simp only[j7,aK];exact ih
  .obtain⟨j,rfl⟩:∃j,i=j+1:=⟨i-1,by omega⟩;have F5:=QV h j (by omega);rw[ag (by omega),ai (x:=((j+1:Nat):Int)-1),bz,show (((j+1:Nat):Int)-1).toNat=j by omega,ah (by omega)];simp only[j6,j7,aK];exact ih
theorem QW{w:WL}(h:ei 0 w)(hl:w.length<=14):jbT w=some 0:=by
 have:=Zf h hl w.length 0 (by omega);rw[show ((0:Nat):Int)=0 from rfl]at this;simp only[jbT,show Int.ofNat (List.length w)=(w.length:Int) from rfl];rw[ah (by omega),j7,this];rfl
abbrev br:=ByteArray×(Int×List aD)
abbrev cZ:=ByteArray×(Int×(WL×(Int×(Int×Bool))))
abbrev aX:=ByteArray×(Int×List Int)
abbrev bI:=ByteArray×(Int×((Int×Int)×(Int×(Int×(List Int×(WL×(Int×Int)))))))
abbrev cF:=ByteArray×(List bI×List (Int×(Int×(Int×(Int×Int)))))
def gg(z:br):Prop:=MZ z.2.1 z.2.2
theorem Cd{L:List Int}{a n:Int}(h:dD L a)(hn:1<=n)(DS:n<=1000000):∃b a',j0N L a n=some (b,L,a')/\dD L a':=by
 obtain⟨x,a1,e1,x0,x1,d1⟩:=dj (n:=n) h (by omega) (by omega);simp only[j0N,e1,j4];exact⟨_,_,rfl,d1⟩
structure F6(zs:List br)(ps:List cZ)(cs:List aX):Prop where
 z0:1<=zs.length
 z1:zs.length<=2
 ok:∀z∈zs,gg z
 p0:1<=ps.length
 p1:ps.length<=4
 c1:cs.length<=1
structure F7(l:bI):Prop where
 d0:20452<=l.2.2.1.1
 d1:l.2.2.1.1<=20457
 c0:0<=l.2.2.1.2
 c1:l.2.2.1.2<=79200
 u0:0<=l.2.2.2.1
 u1:l.2.2.2.1<=2
 e0:1<=l.2.2.2.2.1
 e1:l.2.2.2.2.1<=49
 e2:l.2.2.2.1≠0->l.2.2.2.2.1<=2
 m0:1<=l.2.2.2.2.2.1.length
 m1:l.2.2.2.2.2.1.length<=3
end Go.Proofs.Pw
