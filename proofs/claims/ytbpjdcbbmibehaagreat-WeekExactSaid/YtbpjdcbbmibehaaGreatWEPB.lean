/- eU 4: the transitions of a Ud. -/
import Derived.Test.YtbpjdcbbmibehaaGreatWEPA
open Go Go.Lft
namespace Go.Proofs.Pw
abbrev aP:=Int×(Int×(Int×(Int×(Int×(Int×Int)))))
theorem fI{n lo hi:Int}(h1:lo<=n)(h2:n<=hi):j3v n lo hi=some true:=by
 simp only[j3v];rw[ao (show n>=lo from h1),ao h2];rfl
theorem xF{n lo hi:Int}(h:¬(lo<=n/\n<=hi)):j3v n lo hi=some false:=by
 simp only[j3v];by_cases h1:n>=lo
 .rw[ao h1,aw (λh2=>h ⟨h1,h2⟩)];rfl
 .rw[aw h1];rfl
structure gF(r:aP):Prop where
 y0:1970<=r.1
 y1:r.1<=r.2.1
 y2:r.2.1<=2240
 m0:1<=r.2.2.1
 m1:r.2.2.1<=12
 k0:1<=r.2.2.2.1
 k1:r.2.2.2.1<=5
 d0:0<=r.2.2.2.2.1
 d1:r.2.2.2.2.1<=6
 s0:0<=r.2.2.2.2.2.1
 s1:r.2.2.2.2.2.1<=86399
 o0 : -64800<=r.2.2.2.2.2.2
 o1:r.2.2.2.2.2.2<=64800
theorem Ue{r:aP}(h:gF r):j7O r=some 0:=by
 simp only[j7O,fI h.y0 (show r.1<=2240 by have:=h.y1;have:=h.y2;omega),fI h.y1 h.y2,fI h.m0 h.m1,fI h.k0 h.k1,fI h.d0 h.d1,fI h.s0 h.s1,fI h.o0 h.o1,j4,ju,j7]
theorem Fl{y m k w:Int}(_h1:1970<=y)(_h2:y<=2240)(fU:1<=m)(iv:m<=12)(b9:1<=k)(dj:k<=5):num y m 1<=nth y m k w/\nth y m k w<num y m 1+dx y m\/nth y m k w<num y m 1+35/\num y m 1<=nth y m k w:=by
 right;have hd:=xC y m fU iv;unfold nth;dsimp only;split<;>omega
def bA(r:aP)(y:Int):Int×Int:=(nth y r.2.2.1 r.2.2.2.1 r.2.2.2.2.1*86400+r.2.2.2.2.2.1,r.2.2.2.2.2.2)
def dH(r:aP):bd:=(List.range (r.2.1-r.1+1).toNat).map λ(i:Nat)=>bA r (r.1+(i:Int))
def occs(l:List aP):bd:=l.flatMap dH
theorem Uf{r:aP}(h:gF r){y:Int}(h1:1970<=y)(h2:y<=2240):0<=(bA r y).1/\(bA r y).1<=10000000000:=by
 have hv:=xD (xE y r.2.2.1 h1 h2 h.m0 h.m1);have iV:=h.s0;have lN:=h.s1;have:=Fl (w:=r.2.2.2.2.1) h1 h2 h.m0 h.m1 h.k0 h.k1;have hd:=mP y r.2.2.1;unfold bA;dsimp only;omega
theorem Ug{r:aP}(h:gF r):Sm (dH r):=by
 intro x hx;obtain⟨i,hi,rfl⟩:=jy.1 hx;have hi:=List.mem_range.1 hi;have h0:=h.y0;have h2:=h.y2;have:=Uf h (y:=r.1+(i:Int)) (by omega) (by omega);omega
theorem Uh{l:List aP}(h:∀r∈l,gF r):Sm (occs l):=by
 intro x hx;obtain⟨r,hr,hx⟩:=List.mem_flatMap.1 hx;exact Ug (h r hr) x hx
theorem Km{r:aP}(h:gF r)(rs:List aP)(a b:Int):∀(n:Nat)(i:Nat)(acc:bd),r.1+(i:Int)+n=r.2.1+1->acc.length+n<=100000->
  um (r.1+(i:Int)) rs a b r.1 r.2.1 r.2.2.1 r.2.2.2.1 r.2.2.2.2.1 r.2.2.2.2.2.1 r.2.2.2.2.2.2 acc=some (rs,a,b,acc++(List.range n).map λ(j:Nat)=>bA r (r.1+(i:Int)+(j:Int)))
 |0,i,acc,hi,_=>by
  rw[Jn];simp only[j0w];rw[aw (by omega),j7,bC];simp
 |n+1,i,acc,hi,hl=>by
  have h0:=h.y0;have h2:=h.y2;have iV:=h.s0;have lN:=h.s1;have hv:=xD (xE (r.1+(i:Int)) r.2.2.1 (by omega) (by omega) h.m0 h.m1);have hn:=Fl (w:=r.2.2.2.2.1) (y:=r.1+(i:Int)) (by omega) (by omega) h.m0 h.m1 h.k0 h.k1;have hd:=mP (r.1+(i:Int)) r.2.2.1;rw[Jn];simp only[j0w];rw[ao (show r.1+(i:Int)<=r.2.1 by omega),TA _ _ _ _ (by omega) (by omega) h.m0 h.m1 h.k0 h.k1 h.d0 h.d1];simp only[j6,j4]
  rw[an (x:=nth (r.1+(i:Int)) r.2.2.1 r.2.2.2.1 r.2.2.2.2.1*86400) (by omega) (by omega),an (x:=nth (r.1+(i:Int)) r.2.2.1 r.2.2.2.1 r.2.2.2.2.1*86400+r.2.2.2.2.2.1) (by omega) (by omega),
   an (x:=r.1+(i:Int)+1) (by omega) (by omega)]
  rw[ao (by simp[bI];omega)];simp only[j6,bF];have ih:=Km h rs a b n (i+1) (acc++[bA r (r.1+(i:Int))]) (by omega) (by simp;omega);rw[show r.1+(i:Int)+1=r.1+((i+1:Nat):Int) by omega];refine ih.trans ?_
  have sN:(List.range n).map (λ(j:Nat)=>bA r (r.1+((i+1:Nat):Int)+(j:Int)))=(List.range n).map ((λ(j:Nat)=>bA r (r.1+(i:Int)+(j:Int))) ∘ Nat.succ):=List.map_congr_left λj _=>by
   simp only[Function.comp];congr 1;omega
  rw[List.range_succ_eq_map,qb,zl,sN];simp
theorem Kn{rs:List aP}(h:∀r∈rs,gF r)(hlen:rs.length<=100):∀(n i:Nat)(acc:bd),i+n=rs.length->acc.length<=300*i->
  sE rs (rs.length:Int) (i:Int) acc=some (acc++occs (rs.drop i))
 |0,i,acc,hi,_=>by
  rw[Jo];simp only[j0x];rw[aw (by omega),j7,bC,jd (by omega)];simp[occs]
 |n+1,i,acc,hi,hl=>by
  have ak:i<rs.length:=by omega
  have hr:=h rs[i] (qr ak);have h0:=hr.y0;have h1:=hr.y1;have h2:=hr.y2;have hg:rs.getD i ((0:Int),((0:Int),((0:Int),((0:Int),((0:Int),((0:Int),(0:Int)))))))=rs[i]:=by simp[ak]
  have xG:=Km hr rs (rs.length:Int) (i:Int) (rs[i].2.1-rs[i].1+1).toNat 0 acc (by omega) (by omega);rw[show rs[i].1+((0:Nat):Int)=rs[i].1 by omega]at xG;have ih:=Kn h hlen n (i+1) (acc++dH rs[i]) (by omega) (by simp[dH];omega);rw[Jo];simp only[j0x];rw[ao (show (i:Int)<(rs.length:Int) by omega),bT (by omega) (by omega)];simp only[j6,j8,hg,xG,j4];rw[an (by omega) (by omega),bF,je ak];refine ih.trans ?_;rw[jj];rfl
theorem Ko{rs:List aP}(h:∀r∈rs,gF r)(hlen:rs.length<=100)(nm:ByteArray)(o:Int):∀(n i:Nat)(s:Int),i+n=rs.length->0<=s->s<=300*i->
  sD s rs (rs.length:Int) (i:Int) nm o rs=some (.inr (s+((occs (rs.drop i)).length:Int),nm,o,rs))
 |0,i,s,hi,_,_=>by
  rw[Jm];simp only[j11];rw[aw (by omega),j7,bC,jd (by omega)];simp[occs]
 |n+1,i,s,hi,iV,lN=>by
  have ak:i<rs.length:=by omega
  have hr:=h rs[i] (qr ak);have h0:=hr.y0;have h1:=hr.y1;have h2:=hr.y2;have hg:rs.getD i ((0:Int),((0:Int),((0:Int),((0:Int),((0:Int),((0:Int),(0:Int)))))))=rs[i]:=by simp[ak]
  have ih:=Ko h hlen nm o n (i+1) (s+(rs[i].2.1-rs[i].1+1)) (by omega) (by omega) (by omega);have mQ:j7O (rs[i].1,(rs[i].2.1,(rs[i].2.2.1,(rs[i].2.2.2.1,(rs[i].2.2.2.2.1,(rs[i].2.2.2.2.2.1,rs[i].2.2.2.2.2.2))))))=some 0:=Ue hr;rw[Jm];simp only[j11];rw[ao (show (i:Int)<(rs.length:Int) by omega),bT (by omega) (by omega)];simp only[j6,j8,hg,mQ,j4,jl,j7];rw[an (x:=rs[i].2.1-rs[i].1) (by omega) (by omega),an (x:=rs[i].2.1-rs[i].1+1) (by omega) (by omega),an (x:=s+(rs[i].2.1-rs[i].1+1)) (by omega) (by omega),an (x:=(i:Int)+1) (by omega) (by omega),bF];refine ih.trans ?_;rw[je ak]
  have:((occs (rs[i]::rs.drop (i+1))).length:Int)=(rs[i].2.1-rs[i].1+1)+((occs (rs.drop (i+1))).length:Int):=by
   have e1:(dH rs[i]).length=(rs[i].2.1-rs[i].1+1).toNat:=by simp[dH]
   show ((dH rs[i]++occs (rs.drop (i+1))).length:Int)=_;rw[jn,e1];omega
  rw[this];congr 3;omega
theorem Ui{nm:ByteArray}{o:Int}{rs:List aP}(h:∀r∈rs,gF r)(iA : -64800<=o)(fC:o<=64800)(hlen:rs.length<=16)(hn:(occs rs).length<20):j1D (nm,(o,rs))=some (c9 (occs rs),0):=by
 have e0:=Ko h (by omega) nm o rs.length 0 0 (by omega) (by omega) (by omega);have e2:=Kn h (by omega) rs.length 0 [] (by omega) (by simp);rw[ka]at e0 e2;simp only[j1D,fI iA fC,j4,ju,j7,show Int.ofNat (List.length rs)=(rs.length:Int) from rfl];rw[aw (show¬(rs.length:Int)>16 by omega),j7,show sD 0 rs (rs.length:Int) 0 nm o rs=_ from e0];simp only[j4,ub];rw[aw (by omega),j7,show Int.ofNat (List.length rs)=(rs.length:Int) from rfl,show sE rs (rs.length:Int) 0 []=_ from e2];simp only[j4,kj,Ts (Uh h) hn]
def bX(now:Int):bd->bd
 |[]=>[]
 |x::r=>if x.2=now then bX now r else (x.1-now,x.2)::bX x.2 r
def Good(now:Int)(p:Option Int):bd->Prop
 |[]=>True
 |x::r=>if x.2=now then Good now p r else (-86400<x.2-now/\x.2-now<86400/\1000000<x.1-now/\x.1-now<=8589000000/\(∀q,p=some q->q+604800<=x.1-now) /\ -64800<=x.2/\x.2<=64800)/\Good x.2 (some (x.1-now)) r
theorem Fm(L:bd)(hL:L.length<=1000):∀(n i:Nat)(now:Int)(acc:bd),i+n=L.length -> -64800<=now->now<=64800->acc.length<=i->(∀x∈acc,0<=x.1/\x.1<=8589934592)->Good now (acc.getLast?.map (·.1)) (L.drop i)->
  sF now (L.length:Int) (i:Int) acc L=some (.inr (acc++bX now (L.drop i)))
 |0,i,now,acc,hi,_,_,_,_,_=>by
  rw[Jp];simp only[j12];rw[aw (by omega),j7,bC,jd (by omega)];simp[bX]
 |n+1,i,now,acc,hi,kF,iw,lh,fJ,hg=>by
  have ak:i<L.length:=by omega
  rw[je ak]at hg ⊢;have cU:L.getD i ((0:Int),(0:Int))=L[i]:=by simp[ak]
  rw[Jp];simp only[j12];rw[ao (show (i:Int)<(L.length:Int) by omega),bT (by omega) (by omega)];simp only[j6,j8,cU];generalize L[i]=x at *;rw[an (x:=(i:Int)+1) (by omega) (by omega)];simp only[Good]at hg;by_cases hx:x.2=now
  .rw[if_pos hx]at hg;rw[uz hx];simp only[j6,bF,bX];rw[if_pos hx];exact Fm L hL n (i+1) now acc (by omega) kF iw (by omega) fJ hg
  .rw[if_neg hx]at hg;obtain⟨⟨g1,g2,g3,g4,g5,g6,g7⟩,g8⟩:=hg;rw[nC hx,an (x:=x.1-now) (by omega) (by omega),an (x:=x.2-now) (by omega) (by omega),aw (show¬x.2-now>=86400 by omega),aw (show¬x.2-now <= -86400 by omega)];simp only[j7,fI (show (0:Int)<=x.1-now by omega) (show x.1-now<=8589934592 by omega),j4,ju,qc,Bool.true_and,show Int.ofNat (List.length acc)=(acc.length:Int) from rfl];rw[an (x:=(acc.length:Int)-1) (by omega) (by omega)]
   have fe:=Fm L hL n (i+1) x.2 (acc++[(x.1-now,x.2)]) (by omega) g6 g7 (by simp;omega)
    (λy hy=>by
     rcases jp.1 hy with hy|hy
     .exact fJ y hy
     .simp at hy;subst hy;exact⟨by show (0:Int)<=x.1-now;omega,by show x.1-now<=8589934592;omega⟩) (by simpa using g8)
   have cN:bX now (x::L.drop (i+1))=(x.1-now,x.2)::bX x.2 (L.drop (i+1)):=by simp[bX,hx]
   rw[cN];rw[jj]at fe;by_cases ha:acc=[]
   .subst ha;simp only[List.length_nil];rw[show inR (((0:Nat):Int)-1) 0=false from rfl,show decide (((0:Nat):Int)>0)=false from rfl];simp only[qc,j6,j7,Bool.or_true];rw[ao (by simp[bI])];simp only[j6,bF];exact fe
   .have cc:0<acc.length:=List.length_pos_iff.2 ha;have cZ:acc.getLast? = some (acc.getD (acc.length-1) (0,0)):=by rw[List.getLast?_eq_getElem?,jz,jq (show acc.length-1<acc.length by omega)];rfl
    rw[cZ]at g5;have g5:(acc.getD (acc.length-1) ((0:Int),(0:Int))).1+604800<=x.1-now:=g5 _ rfl;have hb:=fJ (acc.getD (acc.length-1) (0,0)) (List.mem_of_getLast? cZ);rw[bT (by omega) (by omega),ao (show (acc.length:Int)>0 by omega),show ((acc.length:Int)-1).toNat=acc.length-1 by omega];simp only[Bool.true_or,j6];rw[an (by omega) (by omega),aw (show¬x.1-now<(acc.getD (acc.length-1) ((0:Int),(0:Int))).1+604800 by omega),ao (by simp[bI];omega)];simp only[j6,j7,bF];exact fe
def Au(p:Option Int):bd->Prop
 |[]=>True
 |x::r=>(1000000<x.1/\x.1<=8589000000/\(∀q,p=some q->q+604800<=x.1) /\ -64800<=x.2/\x.2<=64800)/\Au (some x.1) r
theorem Fo:∀(L:bd)(now:Int)(p:Option Int),Good now p L->Au p (bX now L)
 |[],_,_,_=>trivial
 |x::r,now,p,h=>by
  simp only[Good]at h;by_cases hx:x.2=now
  .rw[if_pos hx]at h;simp only[bX];rw[if_pos hx];exact Fo r now p h
  .rw[if_neg hx]at h;simp only[bX];rw[if_neg hx];obtain⟨⟨g1,g2,g3,g4,g5,g6,g7⟩,g8⟩:=h;exact⟨⟨g3,g4,g5,g6,g7⟩,Fo r x.2 _ g8⟩
theorem Av:∀(L:bd)(now:Int),(bX now L).length<=L.length
 |[],_=>jr _
 |x::r,now=>by
  simp only[bX];split
  .have:=Av r now;simp;omega
  .have:=Av r x.2;simp;omega
theorem Kp:∀(l:bd)(p:Option Int),Au p l->(∀i,i+1<l.length->eN l i+604800<=eN l (i+1))/\(∀i,i<l.length->1000000<eN l i/\eN l i<=8589000000)/\
  (∀o i, -64800<=o->o<=64800->i<=l.length -> -64800<=du o l i/\du o l i<=64800)
 |[],_,_=>⟨λi h=>by simp at h,λi h=>by simp at h,λo i h1 h2 h3=>by
  have:i=0:=by simpa using h3
  subst this;exact⟨h1,h2⟩⟩
 |x::r,p,h=>by
  obtain⟨⟨g3,g4,g5,g6,g7⟩,g8⟩:=h;obtain⟨h1,h2,h3⟩:=Kp r _ g8;refine⟨λi hi=>?_,λi hi=>?_,λo i iA fC hi=>?_⟩
  .cases i with
   |zero=>
    cases r with
    |nil=>simp at hi
    |cons y ys=>have:=g8.1.2.2.1 _ rfl;exact this
   |succ i=>exact h1 i (by simp at hi ⊢;omega)
  .cases i with
   |zero=>exact⟨g3,g4⟩
   |succ i=>exact h2 i (by simp at hi ⊢;omega)
  .cases i with
   |zero=>exact⟨iA,fC⟩
   |succ i=>
    cases i with
    |zero=>exact⟨g6,g7⟩
    |succ i=>exact h3 x.2 (i+1) g6 g7 (by simp at hi ⊢;omega)
theorem Uj{o:Int}{l:bd}(h:Au none l)(hl:l.length<=1000)(h0 : -64800<=o)(h1:o<=64800):jB o l:=by
 obtain⟨a,b,c⟩:=Kp l none h;exact⟨hl,a,λi hi=>(b i hi).1,λi hi=>(b i hi).2,λi hi=>(c o i h0 h1 hi).1,λi hi=>(c o i h0 h1 hi).2⟩
def eO(z:ByteArray×(Int×List aP))(l:bd):Prop:=j1j z=some (l,0)/\jB z.2.1 l
theorem Uk{nm:ByteArray}{o:Int}{rs:List aP}(h:∀r∈rs,gF r)(iA : -64800<=o)(fC:o<=64800)(hlen:rs.length<=16)(hn:(occs rs).length<20)(hg:Good o none (c9 (occs rs))):eO (nm,(o,rs)) (bX o (c9 (occs rs))):=by
 have hl:(c9 (occs rs)).length<=1000:=by simp[c9,xB];omega
 refine⟨?_,Uj (Fo _ _ _ hg) (by have:=Av (c9 (occs rs)) o;omega) iA fC⟩;have:=Fm (c9 (occs rs)) hl (c9 (occs rs)).length 0 o [] (by omega) iA fC (by simp) (by simp) hg;simp only[j1j,Ui h iA fC hlen hn,j4,jl,j7,show Int.ofNat (List.length (c9 (occs rs)))=((c9 (occs rs)).length:Int) from rfl];rw[ka]at this;rw[show sF o ((c9 (occs rs)).length:Int) 0 [] (c9 (occs rs))=_ from this];rfl
theorem Fp{z:ByteArray×(Int×List aP)}{l:bd}(h:eO z l):j5k z=some ((z.2.1,l),0):=by
 simp only[j5k,show j1j (z.1,(z.2.1,z.2.2))=_ from h.1,j4]
theorem Ul{z:ByteArray×(Int×List aP)}{l:bd}(h:eO z l){t:Int}(h0:0<=t)(h1:t<=8589934592):j3O z t=some ((z.2.1,l),0):=by
 simp only[j3O,show j5k (z.1,(z.2.1,z.2.2))=_ from Fp h,j4,jl,j7,fI h0 h1,ju]
theorem Um{z:ByteArray×(Int×List aP)}{l:bd}(h:eO z l){t:Int}{k:Nat}(h0:0<=t)(h1:t<=8589934592)(hk:k<=l.length)(b9:aH l k<=t)(dj:t<aH l (k+1)) :
  j1Z z t=some (((t+du z.2.1 l k)/86400,(t+du z.2.1 l k)%86400),0):=by
 simp only[j1Z,show j3O (z.1,(z.2.1,z.2.2)) t=_ from Ul h h0 h1,j4,jl,j7,Tq h.2 hk b9 dj]
theorem Kq{y m k w:Int}(fU:1<=m)(iv:m<=12)(b9:2<=k)(dj:k<=5):num y m 1+7<=nth y m k w/\nth y m k w<=num y m 1+34:=by
 have hd:=xC y m fU iv;unfold nth;dsimp only;split<;>omega
theorem Fq{y m k w:Int}(fU:1<=m)(iv:m<=12)(b9:1<=k)(dj:k<=4):num y m 1<=nth y m k w/\nth y m k w<=num y m 1+27:=by
 have hd:=xC y m fU iv;unfold nth;dsimp only;split<;>omega
theorem Kr{a b:Int×Int}(h:a.1<b.1):c9 [a,b]=[a,b]:=by
 simp[c9,gg,gN,show¬b.1<a.1 by omega]
theorem Ks{a b c d:Int×Int}(h1:a.1<c.1)(h2:c.1<b.1)(h3:b.1<d.1):c9 [a,b,c,d]=[a,c,b,d]:=by
 simp[c9,gg,gN,show¬b.1<a.1 by omega,h2,show¬c.1<a.1 by omega,show¬d.1<b.1 by omega]
theorem Kt(r1 r2:aP)(h1:r1.1=2025)(h2:r1.2.1=2025)(h3:r2.1=2025)(h4:r2.2.1=2025):occs [r1,r2]=[bA r1 2025,bA r2 2025]:=by
 simp[occs,dH,h1,h2,h3,h4]
theorem Ku(r1 r2:aP)(h1:r1.1=2025)(h2:r1.2.1=2026)(h3:r2.1=2025)(h4:r2.2.1=2026):occs [r1,r2]=[bA r1 2025,bA r1 2026,bA r2 2025,bA r2 2026]:=by
 simp[occs,dH,h1,h2,h3,h4,List.range_succ]
theorem kS{now:Int}{p:Option Int}{x:Int×Int}{r:bd}(hx:x.2≠now)(h : -86400<x.2-now/\x.2-now<86400/\1000000<x.1-now/\x.1-now<=8589000000 /\ -64800<=x.2/\x.2<=64800)
  (hp:∀q,p=some q->q+604800<=x.1-now)(hr:Good x.2 (some (x.1-now)) r):Good now p (x::r):=by
 simp only[Good];rw[if_neg hx];exact⟨⟨h.1,h.2.1,h.2.2.1,h.2.2.2.1,hp,h.2.2.2.2.1,h.2.2.2.2.2⟩,hr⟩
theorem Un{now:Int}{p:Option Int}{x:Int×Int}{r:bd}(hx:x.2=now)(hr:Good now p r):Good now p (x::r):=by
 simp only[Good];rw[if_pos hx];exact hr
theorem xH{P:Int->Prop}:∀q,(none:Option Int)=some q->P q:=λ_ h=>by simp at h
theorem qR{P:Int->Prop}{a:Int}(h:P a):∀q,some a=some q->P q:=λq hq=>by simp at hq;subst hq;exact h
theorem n251:num 2025 1 1=20089:=by decide
theorem n261:num 2026 1 1=20454:=by decide
theorem n252:num 2025 2 1=20120:=by decide
theorem n253:num 2025 3 1=20148:=by decide
theorem n262:num 2026 2 1=20485:=by decide
theorem n263:num 2026 3 1=20513:=by decide
structure MZ(o:Int)(rs:List aP):Prop where
 o0 : -43200<=o
 o1:o<=45000
 ok:∀r∈rs,gF r
 len:rs.length<=2
 few:(occs rs).length<=4
 good:Good o none (c9 (occs rs))
theorem MZ.tab{o:Int}{rs:List aP}(h:MZ o rs)(nm:ByteArray):eO (nm,(o,rs)) (bX o (c9 (occs rs))):=
 Uk h.ok (by have:=h.o0;omega) (by have:=h.o1;omega) (by have:=h.len;omega) (by have:=h.few;omega) h.good
theorem Uo{o:Int}(h0 : -43200<=o)(h1:o<=45000):MZ o []:=⟨h0,h1,by simp,by simp,by decide,trivial⟩
theorem Kv{r1 r2:aP}(h1:gF r1)(h2:gF r2):∀r∈[r1,r2],gF r:=by
 intro r hr;simp at hr;rcases hr with rfl|rfl
 .exact h1
 .exact h2
theorem Up{o last:Int}(h0 : -43200<=o)(h1:o<=45000)(hl:last=2025\/last=2026):MZ o [(2025,(last,(3,(5,(6,(7200,o+3600)))))),(2025,(last,(10,(5,(6,(10800,o))))))]:=by
 have a1:nth 2025 3 5 6=20177:=by decide
 have a2:nth 2025 10 5 6=20387:=by decide
 have a3:nth 2026 3 5 6=20541:=by decide
 have a4:nth 2026 10 5 6=20751:=by decide
 have aM:=Kv (r1:=(2025,(last,(3,(5,(6,(7200,o+3600))))))) (r2:=(2025,(last,(10,(5,(6,(10800,o))))))) (by constructor<;>(dsimp only;omega)) (by constructor<;>(dsimp only;omega));rcases hl with rfl|rfl
 .have e:=Kt (2025,(2025,(3,(5,(6,(7200,o+3600)))))) (2025,(2025,(10,(5,(6,(10800,o)))))) rfl rfl rfl rfl;refine⟨h0,h1,aM,by simp,by rw[e];simp,?_⟩;rw[e,Kr (by simp only[bA];omega)];refine kS (by simp only[bA];omega) (by simp only[bA];omega) xH (kS (by simp only[bA];omega) (by simp only[bA];omega) (qR (by simp only[bA];omega)) trivial)
 .have e:=Ku (2025,(2026,(3,(5,(6,(7200,o+3600)))))) (2025,(2026,(10,(5,(6,(10800,o)))))) rfl rfl rfl rfl;refine⟨h0,h1,aM,by simp,by rw[e];simp,?_⟩;rw[e,Ks (by simp only[bA];omega) (by simp only[bA];omega) (by simp only[bA];omega)]
  refine kS (by simp only[bA];omega) (by simp only[bA];omega) xH (kS (by simp only[bA];omega) (by simp only[bA];omega) (qR (by simp only[bA];omega))
   (kS (by simp only[bA];omega) (by simp only[bA];omega) (qR (by simp only[bA];omega)) (kS (by simp only[bA];omega) (by simp only[bA];omega) (qR (by simp only[bA];omega)) trivial)))
theorem Uq{o last k1 w1 s1 c m2 k2 w2 s2:Int}(h0 : -43200<=o)(h1:o<=45000)(hl:last=2025\/last=2026)(hk:1<=k1)(aR:k1<=4)(hw:0<=w1)(Cc:w1<=6)(hs:0<=s1)(cW:s1<=82800)(hc:1800<=c)(bP:c<=14400)
  (hm:m2=2\/m2=3)(hj:2<=k2)(iu:k2<=5)(hx:0<=w2)(kY:w2<=6)(ht:0<=s2)(pE:s2<=82800):MZ o [(2025,(last,(1,(k1,(w1,(s1,o+c)))))),(2025,(last,(m2,(k2,(w2,(s2,o))))))]:=by
 have aM:=Kv (r1:=(2025,(last,(1,(k1,(w1,(s1,o+c))))))) (r2:=(2025,(last,(m2,(k2,(w2,(s2,o))))))) (by constructor<;>(dsimp only;omega)) (by constructor<;>(dsimp only;omega));have b1:=Fq (y:=2025) (m:=1) (k:=k1) (w:=w1) (by omega) (by omega) hk aR;have b2:=Fq (y:=2026) (m:=1) (k:=k1) (w:=w1) (by omega) (by omega) hk aR;have b3:=Kq (y:=2025) (m:=m2) (k:=k2) (w:=w2) (by omega) (by omega) hj iu;have b4:=Kq (y:=2026) (m:=m2) (k:=k2) (w:=w2) (by omega) (by omega) hj iu;have c1:20120<=num 2025 m2 1/\num 2025 m2 1<=20148:=by rcases hm with rfl|rfl<;>simp[n252,n253]
 have c2:20485<=num 2026 m2 1/\num 2026 m2 1<=20513:=by rcases hm with rfl|rfl<;>simp[n262,n263]
 rw[n251]at b1;rw[n261]at b2;rcases hl with rfl|rfl
 .have e:=Kt (2025,(2025,(1,(k1,(w1,(s1,o+c)))))) (2025,(2025,(m2,(k2,(w2,(s2,o)))))) rfl rfl rfl rfl;refine⟨h0,h1,aM,by simp,by rw[e];simp,?_⟩;rw[e,Kr (by simp only[bA];omega)];refine kS (by simp only[bA];omega) (by simp only[bA];omega) xH (kS (by simp only[bA];omega) (by simp only[bA];omega) (qR (by simp only[bA];omega)) trivial)
 .have e:=Ku (2025,(2026,(1,(k1,(w1,(s1,o+c)))))) (2025,(2026,(m2,(k2,(w2,(s2,o)))))) rfl rfl rfl rfl;refine⟨h0,h1,aM,by simp,by rw[e];simp,?_⟩;rw[e,Ks (by simp only[bA];omega) (by simp only[bA];omega) (by simp only[bA];omega)]
  refine kS (by simp only[bA];omega) (by simp only[bA];omega) xH (kS (by simp only[bA];omega) (by simp only[bA];omega) (qR (by simp only[bA];omega))
   (kS (by simp only[bA];omega) (by simp only[bA];omega) (qR (by simp only[bA];omega)) (kS (by simp only[bA];omega) (by simp only[bA];omega) (qR (by simp only[bA];omega)) trivial)))
theorem Kw{o w s x:Int}(h0 : -43200<=o)(h1:o<=45000)(hw:0<=w)(Cc:w<=6)(hs:0<=s)(cW:s<=84600)(ry : -64800<=x)(iW:x<=64800)(rv : -86400<x-o)(dK:x-o<86400):MZ o [(2026,(2026,(1,(2,(w,(s,x))))))]:=by
 have b:=Fq (y:=2026) (m:=1) (k:=2) (w:=w) (by omega) (by omega) (by omega) (by omega);rw[n261]at b;have e:occs [((2026:Int),((2026:Int),((1:Int),((2:Int),(w,(s,x))))))]=[bA (2026,(2026,(1,(2,(w,(s,x)))))) 2026]:=by simp[occs,dH]
 refine⟨h0,h1,λr hr=>?_,by simp,by rw[e];simp,?_⟩
 .simp at hr;subst hr;constructor<;>(dsimp only;omega)
 .rw[e];have hi:c9 [bA (2026,(2026,(1,(2,(w,(s,x)))))) 2026]=[bA (2026,(2026,(1,(2,(w,(s,x)))))) 2026]:=by simp[c9,gg,gN]
  rw[hi];by_cases Kx:x=o
  .exact Un Kx trivial
  .exact kS Kx (by simp only[bA];omega) xH trivial
theorem Ur{L:List Int}{a:Int}(h:lu L a)(nm:ByteArray):∃o rs a',j4u L a nm=some ((nm,(o,rs)),L,a')/\MZ o rs/\lu L a':=by
 obtain⟨p,a1,e1,m1,d1⟩:=sL h (xs:=[(0:Int),(4:Int),(-20:Int),(22:Int),(48:Int),(-47:Int)]) (by simp) (by simp);obtain⟨x2,a2,e2,x20,x21,d2⟩:=gE (n:=2) d1 (by omega) (by omega);obtain⟨x3,a3,e3,x30,x31,d3⟩:=gE (n:=3) d2 (by omega) (by omega);obtain⟨y,a4,e4,y0,y1,d4⟩:=gE (n:=2) d3 (by omega) (by omega);obtain⟨q,a5,e5,q0,q1,d5⟩:=gE (n:=4) d4 (by omega) (by omega);have hp : -47<=p/\p<=48:=by simp at m1;omega
 have hmul:0<=x2*x3/\x2*x3<=2:=by
  obtain rfl|rfl:x2=0\/x2=1:=by omega
  all_goals omega
 have iA : -43200<=900*(p+x2*x3):=by omega
 have fC:900*(p+x2*x3)<=45000:=by omega
 have cZ:2025+y=2025\/2025+y=2026:=by omega
 simp only[j4u,e1,e2,e3,e4,e5,j4];rw[an (x:=x2*x3) (by omega) (by omega),an (x:=p+x2*x3) (by omega) (by omega),an (x:=900*(p+x2*x3)) (by omega) (by omega),an (x:=2025+y) (by omega) (by omega)];generalize 900*(p+x2*x3)=o at *;generalize 2025+y=last at *;by_cases Ky:q=1
 .rw[uz Ky,j6,an (x:=o+3600) (by omega) (by omega)];exact⟨_,_,_,rfl,Up iA fC cZ,d5⟩
 .rw[nC Ky,j7];by_cases Kz:q=2
  .rw[uz Kz,j6];obtain⟨b1,c1,f1,b10,b11,g1⟩:=gE (n:=4) d5 (by omega) (by omega);obtain⟨b2,c2,f2,Aw,Us,g2⟩:=gE (n:=7) g1 (by omega) (by omega);obtain⟨b3,c3,f3,Ut,Uu,g3⟩:=gE (n:=24) g2 (by omega) (by omega);obtain⟨b4,c4,f4,b40,b41,g4⟩:=gE (n:=8) g3 (by omega) (by omega);obtain⟨b5,c5,f5,b50,b51,g5⟩:=gE (n:=2) g4 (by omega) (by omega);obtain⟨b6,c6,f6,m6,g6⟩:=sL g5 (xs:=[(2:Int),(3:Int),(5:Int)]) (by simp) (by simp);obtain⟨b7,c7,f7,Uv,b71,g7⟩:=gE (n:=7) g6 (by omega) (by omega);obtain⟨b8,c8,f8,b80,b81,g8⟩:=gE (n:=24) g7 (by omega) (by omega);have h6:2<=b6/\b6<=5:=by simp at m6;omega
   simp only[f1,f2,f3,f4,f5,f6,f7,f8,j4]
   rw[an (x:=1+b1) (by omega) (by omega),an (x:=3600*b3) (by omega) (by omega),an (x:=1+b4) (by omega) (by omega),an (x:=1800*(1+b4)) (by omega) (by omega),an (x:=o+1800*(1+b4)) (by omega) (by omega),
    an (x:=2+b5) (by omega) (by omega),an (x:=3600*b8) (by omega) (by omega)]
   exact⟨_,_,_,rfl,Uq iA fC cZ (by omega) (by omega) Aw (by omega) (by omega) (by omega) (by omega) (by omega) (by omega) h6.1 h6.2 Uv (by omega) (by omega) (by omega),g8⟩
  .rw[nC Kz,j7];by_cases KA:q=3
   .rw[uz KA,j6];obtain⟨b1,c1,f1,m1,g1⟩:=sL d5 (xs:=[(3600:Int),(-3600:Int),(82800:Int),(-82800:Int),(43200:Int)]) (by simp) (by simp);obtain⟨b2,c2,f2,Aw,Us,g2⟩:=gE (n:=7) g1 (by omega) (by omega);obtain⟨b3,c3,f3,Ut,Uu,g3⟩:=gE (n:=48) g2 (by omega) (by omega);have bR : -82800<=b1/\b1<=82800:=by simp at m1;omega
    simp only[f1,f2,f3,j4];rw[an (x:=o+b1) (by omega) (by omega),an (x:=1800*b3) (by omega) (by omega)];by_cases im:o+b1>64800\/o+b1 < -64800
    .have hb:cond (decide (o+b1>64800)) true (decide (o+b1 < -64800))=true:=by
      rcases im with im|im
      .rw[ao im];rfl
      .rw[ao im];cases decide (o+b1>64800)<;>rfl
     rw[hb,j6];exact⟨_,_,_,rfl,Kw iA fC Aw (by omega) (by omega) (by omega) (by omega) (by omega) (by omega) (by omega),g3⟩
    .rw[aw (show¬o+b1>64800 by omega),aw (show¬o+b1 < -64800 by omega)];simp only[j7];exact⟨_,_,_,rfl,Kw iA fC Aw (by omega) (by omega) (by omega) (by omega) (by omega) (by omega) (by omega),g3⟩
   .rw[nC KA,j7];exact⟨_,_,_,rfl,Uo iA fC,d5⟩
section
variable{o:Int}{l:bd}(h:jB o l)
include h
theorem KB{i j:Nat}{t:Int}(hi:i<=l.length)(hj:j<=l.length)(a1:aH l i<=t)(a2:t<aH l (i+1))(b1:aH l j<=t)(b2:t<aH l (j+1)):i=j:=by
 rcases Nat.lt_trichotomy i j with cg|cg|cg
 .have:=h.frm_le (i:=i+1) (j:=j) (by omega) (by omega);omega
 .exact cg
 .have:=h.frm_le (i:=j+1) (j:=i) (by omega) (by omega);omega
end
section
variable{o:Int}{l:bd}(h:jB o l)
include h
end
theorem Uw(y:Int):j0G y=some (oW y):=Kh y
theorem Ax(y m:Int):j6W y m=some (dx y m):=by
 by_cases h:m<1\/12<m
 .have hk:∀k:Int,1<=k->k<=12->(m==k)=false:=λk h1 h2=>nC (by omega);have:dx y m=0:=if_pos h;rw[this]
  simp only[j6W,hk 1 (by omega) (by omega),hk 2 (by omega) (by omega),hk 3 (by omega) (by omega),hk 4 (by omega) (by omega),hk 5 (by omega) (by omega),hk 6 (by omega) (by omega),hk 7 (by omega) (by omega),
   hk 8 (by omega) (by omega),hk 9 (by omega) (by omega),hk 10 (by omega) (by omega),hk 11 (by omega) (by omega),hk 12 (by omega) (by omega),j7]
 .obtain rfl|rfl|rfl|rfl|rfl|rfl|rfl|rfl|rfl|rfl|rfl|rfl:m=1\/m=2\/m=3\/m=4\/m=5\/m=6\/m=7\/m=8\/m=9\/m=10\/m=11\/m=12:=by omega
  case inr.inl=>have e:j6W y 2=(j0G y).bind λr=>cond r (some (29:Int)) (some (28:Int)):=rfl;rw[e,Uw,dx,Kf];simp only[j4];cases oW y<;>rfl
  all_goals rfl
theorem Ux(y m d:Int):j9B (y,m,d)=some (decide (oX y m d)):=by
 simp only[j9B,Ax,j4];by_cases hv:oX y m d
 .have hm:=Fi hv;have eI:=hv;obtain⟨a1,a2,a3,a4⟩:=hv;rw[ao (show y>=1970 from a1),ao a2,ao (show m>=1 from hm.1),ao hm.2,ao (show d>=1 from a3),ao a4,ao eI];rfl
 .rw[aw hv];by_cases a1:y>=1970
  .by_cases a2:y<=2240
   .by_cases a3:m>=1
    .by_cases a4:m<=12
     .by_cases a5:d>=1
      .rw[ao a1,ao a2,ao a3,ao a4,ao a5,aw (show¬d<=dx y m fromλh=>hv ⟨a1,a2,a5,h⟩)];rfl
      .rw[ao a1,ao a2,ao a3,ao a4,aw a5];rfl
     .rw[ao a1,ao a2,ao a3,aw a4];rfl
    .rw[ao a1,ao a2,aw a3];rfl
   .rw[ao a1,aw a2];rfl
  .rw[aw a1];rfl
theorem Uy(y:Int)(h1:1969<=y)(h2:y<=1000000000):jaZ y=some (fp y):=by
 simp only[jaZ];rw[an (x:=y-1970) (by omega) (by omega),an (x:=y-1969) (by omega) (by omega),an (x:=y-1901) (by omega) (by omega),an (x:=y-1601) (by omega) (by omega)];rw[sK (show 0<=y-1969 by omega),sK (show 0<=y-1901 by omega),sK (show 0<=y-1601 by omega)];simp (disch:=omega) only[an];congr 1;unfold fp;omega
theorem KC(y m d:Int)(hm:m<=13):∀(n:Nat)(s k:Int),1<=k->k+n=m -> -1000000000000<=s->s+31*n<=1000000000000->zM s k y m d=some (s+gO y m-gO y k,y,m,d)
 |0,s,k,hk,hn,_,_=>by
  rw[Jw];have:k=m:=by omega
  subst this;simp only[j2Y,aw (show¬k<k by omega),j7,bC];congr 2;omega
 |n+1,s,k,hk,hn,h1,h2=>by
  rw[Jw];have hd:=mP y k;have hc:=Ff y k hk (by omega);simp only[j2Y,Ax,j4,ao (show k<m by omega),j6,bF];rw[an (x:=s+dx y k) (by omega) (by omega),an (x:=k+1) (by omega) (by omega)];rw[KC y m d hm n (s+dx y k) (k+1) (by omega) (by omega) (by omega) (by omega)];congr 2;omega
theorem dQ{y m d:Int}(hv:oX y m d):jdZ (y,m,d)=some (num y m d,0):=by
 have hm:=Fi hv;have hd:=mP y m;have hb : -1000000000<=fp y/\fp y<=1000000000:=by have:=hv.1;have:=hv.2.1;unfold fp;omega
 have hc:=Kg y m;obtain⟨h1,h2,h3,h4⟩:=id hv;simp only[jdZ,Ux,ao hv,j4,ju,j7,Uy y (by omega) (by omega),KC y m d (by omega) (m-1).toNat (fp y) 1 (by omega) (by omega) (by omega) (by omega)];have:gO y 1=0:=rfl;rw[an (x:=fp y+gO y m-gO y 1+d) (by omega) (by omega),an (by omega) (by omega)];unfold num;congr 2;omega
theorem KD(d:Int):j5m d=j2y d:=rfl
theorem KE(y m k w n e:Int)(kF:0<=n)(iw:n<=1000000)(Fs:e<=6)(Ay:(n+e+3)%7=w) :
  ∀(j:Nat)(s:Int),0<=s->s+j=e->zN y m k w n (n+s)=some (y,m,k,n,n+e)
 |0,s,hs,hj=>by
  rw[Jy];have:s=e:=by omega
  subst this;have hb:((n+s+3)%7 != w)=false:=by simp[Ay]
  simp only[j2Z,KD,As (n+s) (by omega),j4,hb,j7,bC]
 |j+1,s,hs,hj=>by
  rw[Jy];have hb:((n+s+3)%7 != w)=true:=by simp only[bne_iff_ne,ne_eq];omega
  simp only[j2Z,KD,As (n+s) (by omega),j4,hb,j6,bF];rw[an (x:=n+s+1) (by omega) (by omega),show n+s+1=n+(s+1) by omega];exact KE y m k w n e kF iw Fs Ay j (s+1) (by omega) (by omega)
theorem Ft(y m n t:Int)(kF:0<=n)(iw:n<=1000000)(Uz:t<n+dx y m)(tV:n+dx y m<=t+7)(UA : -1000<=t) :
  ∀(j:Nat)(s:Int),s+7*j=t -> -1000<=s->zO y m n s=some t
 |0,s,hs,_=>by
  have hd:=mP y m;rw[Jz];have:s=t:=by omega
  subst this;simp only[j30,Ax,j4];rw[an (x:=s+7) (by omega) (by omega),an (x:=n+dx y m) (by omega) (by omega),aw (show¬s+7<n+dx y m by omega),j7,bC]
 |j+1,s,hs,h1=>by
  have hd:=mP y m;rw[Jz];simp only[j30,Ax,j4];rw[an (x:=s+7) (by omega) (by omega),an (x:=n+dx y m) (by omega) (by omega),ao (show s+7<n+dx y m by omega),j6,bF];exact Ft y m n t kF iw Uz tV UA j (s+7) (by omega) (by omega)
theorem dR(y m k w:Int)(h1:1970<=y)(h2:y<=2240)(fU:1<=m)(iv:m<=12)(b9:1<=k)(dj:k<=5)(BP:0<=w)(qI:w<=6):je0 y m k w=some (nth y m k w,0):=by
 have hv:=xE y m h1 h2 fU iv;have hr:=xD hv;have hd:=xC y m fU iv;have na:=mP y m;simp only[je0,dQ hv,j4,jl];rw[aw (show¬k<1 by omega),aw (show¬k>5 by omega),aw (show¬w<0 by omega),aw (show¬w>6 by omega)];simp only[j7];unfold nth;generalize num y m 1=n at *;obtain⟨e,he0,Fs,Ay,wu⟩:∃e,0<=e/\e<=6/\(n+e+3)%7=w/\n+(w-(n+3)%7+7)%7=n+e:=⟨(w-(n+3)%7+7)%7,by omega,by omega,by omega,rfl⟩;rw[wu];have hl:=KE y m k w n e hr.1 (by omega) Fs Ay e.toNat 0 (by omega) (by omega);rw[Int.add_zero]at hl;simp only[hl,j4];by_cases hk:k<5
 .rw[ao hk,j6,an (x:=k-1) (by omega) (by omega),an (x:=7*(k-1)) (by omega) (by omega),an (by omega) (by omega),if_neg (by omega)]
 .have gM:k=5:=by omega
  subst gM;rw[aw hk,j7];by_cases hc:n+e+7*(5-1)>=n+dx y m
  .rw[Ft y m n (n+e+21) hr.1 (by omega) (by omega) (by omega) (by omega) 3 (n+e) (by omega) (by omega),if_pos hc];simp only[j4];congr 2;omega
  .rw[Ft y m n (n+e+28) hr.1 (by omega) (by omega) (by omega) (by omega) 4 (n+e) (by omega) (by omega),if_neg hc];simp only[j4];congr 2
end Go.Proofs.Pw
