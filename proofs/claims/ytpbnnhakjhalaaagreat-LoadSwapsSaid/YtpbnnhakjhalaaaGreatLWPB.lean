/- jR 4: the transitions of a zone. -/
import Derived.Test.YtpbnnhakjhalaaaGreatLWPA
open Go Go.Lft
namespace Go.Proofs.Pw
abbrev aU:=Int×(Int×(Int×(Int×(Int×(Int×Int)))))
theorem jS{n lo hi:Int}(h1:lo<=n)(h2:n<=hi):j9w n lo hi=some true:=by
 simp only[j9w];rw[ag (show n>=lo from h1),ag h2];rfl
structure jT(r:aU):Prop where
 y0:1970<=r.1
 y1:r.1<=r.2.1
 y2:r.2.1<=2240
 m0:1<=r.2.2.1
 m1:r.2.2.1<=12
 k0:1<=r.2.2.2.1
 k1:r.2.2.2.1<=5
 d0:0<=r.2.2.2.2.1
 d1:r.2.2.2.2.1<=6
 s0:0<=r.2.2.2.2.2.1
 s1:r.2.2.2.2.2.1<=86399
 o0 : -64800<=r.2.2.2.2.2.2
 o1:r.2.2.2.2.2.2<=64800
theorem jxi{r:aU}(h:jT r):jei r=some 0:=by
 simp only[jei,jS h.y0 (show r.1<=2240 by have:=h.y1;have:=h.y2;omega),jS h.y1 h.y2,jS h.m0 h.m1,jS h.k0 h.k1,jS h.d0 h.d1,jS h.s0 h.s1,jS h.o0 h.o1,j3,jn,j6]
theorem MM{y m k w:Int}(_h1:1970<=y)(_h2:y<=2240)(gf:1<=m)(iB:m<=12)(dD:1<=k)(fL:k<=5):num y m 1<=nth y m k w/\nth y m k w<num y m 1+fc y m\/nth y m k w<num y m 1+35/\num y m 1<=nth y m k w:=by
 right;have hd:=C0 y m gf iB;unfold nth;dsimp only;split<;>omega
def ct(r:aU)(y:Int):Int×Int:=(nth y r.2.2.1 r.2.2.2.1 r.2.2.2.2.1*86400+r.2.2.2.2.2.1,r.2.2.2.2.2.2)
def fp(r:aU):bC:=(List.range (r.2.1-r.1+1).toNat).map λ(i:Nat)=>ct r (r.1+(i:Int))
def occs(l:List aU):bC:=l.flatMap fp
theorem jtR{r:aU}(h:jT r){y:Int}(h1:1970<=y)(h2:y<=2240):0<=(ct r y).1/\(ct r y).1<=10000000000:=by
 have hv:=C1 (C2 y r.2.2.1 h1 h2 h.m0 h.m1);have iD:=h.s0;have mc:=h.s1;have:=MM (w:=r.2.2.2.2.1) h1 h2 h.m0 h.m1 h.k0 h.k1;have hd:=qB y r.2.2.1;unfold ct;dsimp only;omega
theorem jxj{r:aU}(h:jT r):Sm (fp r):=by
 intro x hx;obtain⟨i,hi,rfl⟩:=jx.1 hx;have hi:=List.mem_range.1 hi;have h0:=h.y0;have h2:=h.y2;have:=jtR h (y:=r.1+(i:Int)) (by omega) (by omega);omega
theorem jxk{l:List aU}(h:∀r∈l,jT r):Sm (occs l):=by
 intro x hx;obtain⟨r,hr,hx⟩:=zi.1 hx;exact jxj (h r hr) x hx
theorem TQ{r:aU}(h:jT r)(rs:List aU)(a b:Int):∀(n:Nat)(i:Nat)(acc:bC),r.1+(i:Int)+n=r.2.1+1->acc.length+n<=100000->
  Fe (r.1+(i:Int)) rs a b r.1 r.2.1 r.2.2.1 r.2.2.2.1 r.2.2.2.2.1 r.2.2.2.2.2.1 r.2.2.2.2.2.2 acc=some (rs,a,b,acc++(List.range n).map λ(j:Nat)=>ct r (r.1+(i:Int)+(j:Int)))
 |0,i,acc,hi,_=>by
  rw[R6];simp only[j1X];rw[aj (by omega),j6,aY];simp
 |n+1,i,acc,hi,hl=>by
  have h0:=h.y0;have h2:=h.y2;have iD:=h.s0;have mc:=h.s1;have hv:=C1 (C2 (r.1+(i:Int)) r.2.2.1 (by omega) (by omega) h.m0 h.m1);have hn:=MM (w:=r.2.2.2.2.1) (y:=r.1+(i:Int)) (by omega) (by omega) h.m0 h.m1 h.k0 h.k1;have hd:=qB (r.1+(i:Int)) r.2.2.1;rw[R6];simp only[j1X];rw[ag (show r.1+(i:Int)<=r.2.1 by omega),jyr _ _ _ _ (by omega) (by omega) h.m0 h.m1 h.k0 h.k1 h.d0 h.d1];simp only[j5,j3]
  rw[ah (x:=nth (r.1+(i:Int)) r.2.2.1 r.2.2.2.1 r.2.2.2.2.1*86400) (by omega) (by omega),ah (x:=nth (r.1+(i:Int)) r.2.2.1 r.2.2.2.1 r.2.2.2.2.1*86400+r.2.2.2.2.2.1) (by omega) (by omega),
   ah (x:=r.1+(i:Int)+1) (by omega) (by omega)]
  rw[ag (by simp[aP];omega)];simp only[j5,aQ];have ih:=TQ h rs a b n (i+1) (acc++[ct r (r.1+(i:Int))]) (by omega) (by simp;omega);rw[show r.1+(i:Int)+1=r.1+((i+1:Nat):Int) by omega];refine ih.trans ?_
  have w9:(List.range n).map (λ(j:Nat)=>ct r (r.1+((i+1:Nat):Int)+(j:Int)))=(List.range n).map ((λ(j:Nat)=>ct r (r.1+(i:Int)+(j:Int))) ∘ Nat.succ):=List.map_congr_left λj _=>by
   simp only[Function.comp];congr 1;omega
  rw[List.range_succ_eq_map,ka,vz,w9];simp
theorem TR{rs:List aU}(h:∀r∈rs,jT r)(hlen:rs.length<=100):∀(n i:Nat)(acc:bC),i+n=rs.length->acc.length<=300*i->
  B9 rs (rs.length:Int) (i:Int) acc=some (acc++occs (rs.drop i))
 |0,i,acc,hi,_=>by
  rw[R7];simp only[j1Y];rw[aj (by omega),j6,aY,jc (by omega)];simp[occs]
 |n+1,i,acc,hi,hl=>by
  have au:i<rs.length:=by omega
  have hr:=h rs[i] (jh au);have h0:=hr.y0;have h1:=hr.y1;have h2:=hr.y2;have hg:rs.getD i ((0:Int),((0:Int),((0:Int),((0:Int),((0:Int),((0:Int),(0:Int)))))))=rs[i]:=by simp[au]
  have yF:=TQ hr rs (rs.length:Int) (i:Int) (rs[i].2.1-rs[i].1+1).toNat 0 acc (by omega) (by omega);rw[show rs[i].1+((0:Nat):Int)=rs[i].1 by omega]at yF;have ih:=TR h hlen n (i+1) (acc++fp rs[i]) (by omega) (by simp[fp];omega);rw[R7];simp only[j1Y];rw[ag (show (i:Int)<(rs.length:Int) by omega),aZ (by omega) (by omega)];simp only[j5,j7,hg,yF,j3];rw[ah (by omega) (by omega),aQ,jb au];refine ih.trans ?_;rw[jg];rfl
theorem TS{rs:List aU}(h:∀r∈rs,jT r)(hlen:rs.length<=100)(nm:ByteArray)(o:Int):∀(n i:Nat)(s:Int),i+n=rs.length->0<=s->s<=300*i->
  B8 s rs (rs.length:Int) (i:Int) nm o rs=some (.inr (s+((occs (rs.drop i)).length:Int),nm,o,rs))
 |0,i,s,hi,_,_=>by
  rw[R5];simp only[j1W];rw[aj (by omega),j6,aY,jc (by omega)];simp[occs]
 |n+1,i,s,hi,iD,mc=>by
  have au:i<rs.length:=by omega
  have hr:=h rs[i] (jh au);have h0:=hr.y0;have h1:=hr.y1;have h2:=hr.y2;have hg:rs.getD i ((0:Int),((0:Int),((0:Int),((0:Int),((0:Int),((0:Int),(0:Int)))))))=rs[i]:=by simp[au]
  have ih:=TS h hlen nm o n (i+1) (s+(rs[i].2.1-rs[i].1+1)) (by omega) (by omega) (by omega);have qC:jei (rs[i].1,(rs[i].2.1,(rs[i].2.2.1,(rs[i].2.2.2.1,(rs[i].2.2.2.2.1,(rs[i].2.2.2.2.2.1,rs[i].2.2.2.2.2.2))))))=some 0:=jxi hr;rw[R5];simp only[j1W];rw[ag (show (i:Int)<(rs.length:Int) by omega),aZ (by omega) (by omega)];simp only[j5,j7,hg,qC,j3,ji,j6];rw[ah (x:=rs[i].2.1-rs[i].1) (by omega) (by omega),ah (x:=rs[i].2.1-rs[i].1+1) (by omega) (by omega),ah (x:=s+(rs[i].2.1-rs[i].1+1)) (by omega) (by omega),ah (x:=(i:Int)+1) (by omega) (by omega),aQ];refine ih.trans ?_;rw[jb au]
  have:((occs (rs[i]::rs.drop (i+1))).length:Int)=(rs[i].2.1-rs[i].1+1)+((occs (rs.drop (i+1))).length:Int):=by
   have e1:(fp rs[i]).length=(rs[i].2.1-rs[i].1+1).toNat:=by simp[fp]
   show ((fp rs[i]++occs (rs.drop (i+1))).length:Int)=_;rw[je,e1];omega
  rw[this];congr 3;omega
theorem jkQ{nm:ByteArray}{o:Int}{rs:List aU}(h:∀r∈rs,jT r)(lx : -64800<=o)(jO:o<=64800)(hlen:rs.length<=16)(hn:(occs rs).length<20):j7m (nm,(o,rs))=some (eh (occs rs),0):=by
 have e0:=TS h (by omega) nm o rs.length 0 0 (by omega) (by omega) (by omega);have e2:=TR h (by omega) rs.length 0 [] (by omega) (by simp);rw[kc]at e0 e2;simp only[j7m,jS lx jO,j3,jn,j6,show Int.ofNat (List.length rs)=(rs.length:Int) from rfl];rw[aj (show¬(rs.length:Int)>16 by omega),j6,show B8 0 rs (rs.length:Int) 0 nm o rs=_ from e0];simp only[j3,lT];rw[aj (by omega),j6,show Int.ofNat (List.length rs)=(rs.length:Int) from rfl,show B9 rs (rs.length:Int) 0 []=_ from e2];simp only[j3,jt,jmQ (jxk h) hn]
def bP(now:Int):bC->bC
 |[]=>[]
 |x::r=>if x.2=now then bP now r else (x.1-now,x.2)::bP x.2 r
def Good(now:Int)(p:Option Int):bC->Prop
 |[]=>True
 |x::r=>if x.2=now then Good now p r else (-86400<x.2-now/\x.2-now<86400/\1000000<x.1-now/\x.1-now<=8589000000/\(∀q,p=some q->q+604800<=x.1-now) /\ -64800<=x.2/\x.2<=64800)/\Good x.2 (some (x.1-now)) r
theorem MN(L:bC)(hL:L.length<=1000):∀(n i:Nat)(now:Int)(acc:bC),i+n=L.length -> -64800<=now->now<=64800->acc.length<=i->(∀x∈acc,0<=x.1/\x.1<=8589934592)->Good now (acc.getLast?.map (·.1)) (L.drop i)->
  Ca now (L.length:Int) (i:Int) acc L=some (.inr (acc++bP now (L.drop i)))
 |0,i,now,acc,hi,_,_,_,_,_=>by
  rw[R8];simp only[j1Z];rw[aj (by omega),j6,aY,jc (by omega)];simp[bP]
 |n+1,i,now,acc,hi,pb,nB,tK,ei,hg=>by
  have au:i<L.length:=by omega
  rw[jb au]at hg ⊢;have bh:L.getD i ((0:Int),(0:Int))=L[i]:=by simp[au]
  rw[R8];simp only[j1Z];rw[ag (show (i:Int)<(L.length:Int) by omega),aZ (by omega) (by omega)];simp only[j5,j7,bh];generalize L[i]=x at *;rw[ah (x:=(i:Int)+1) (by omega) (by omega)];simp only[Good]at hg;by_cases hx:x.2=now
  .rw[if_pos hx]at hg;rw[eA hx];simp only[j5,aQ,bP];rw[if_pos hx];exact MN L hL n (i+1) now acc (by omega) pb nB (by omega) ei hg
  .rw[if_neg hx]at hg;obtain⟨⟨g1,g2,g3,g4,g5,g6,g7⟩,g8⟩:=hg;rw[cB hx,ah (x:=x.1-now) (by omega) (by omega),ah (x:=x.2-now) (by omega) (by omega),aj (show¬x.2-now>=86400 by omega),aj (show¬x.2-now <= -86400 by omega)];simp only[j6,jS (show (0:Int)<=x.1-now by omega) (show x.1-now<=8589934592 by omega),j3,jn,k5,Bool.true_and,show Int.ofNat (List.length acc)=(acc.length:Int) from rfl];rw[ah (x:=(acc.length:Int)-1) (by omega) (by omega)]
   have fT:=MN L hL n (i+1) x.2 (acc++[(x.1-now,x.2)]) (by omega) g6 g7 (by simp;omega)
    (λy hy=>by
     rcases js.1 hy with hy|hy
     .exact ei y hy
     .simp at hy;subst hy;exact⟨by show (0:Int)<=x.1-now;omega,by show x.1-now<=8589934592;omega⟩) (by simpa using g8)
   have bW:bP now (x::L.drop (i+1))=(x.1-now,x.2)::bP x.2 (L.drop (i+1)):=by simp[bP,hx]
   rw[bW];rw[jg]at fT;by_cases ha:acc=[]
   .subst ha;simp only[ql];rw[show inR (((0:Nat):Int)-1) 0=false from rfl,show decide (((0:Nat):Int)>0)=false from rfl];simp only[k5,j5,j6,Bool.or_true];rw[ag (by simp[aP])];simp only[j5,aQ];exact fT
   .have bG:0<acc.length:=List.length_pos_iff.2 ha;have dK:acc.getLast? = some (acc.getD (acc.length-1) (0,0)):=by rw[List.getLast?_eq_getElem?,List.getD_eq_getElem?_getD,jj (show acc.length-1<acc.length by omega)];rfl
    rw[dK]at g5;have g5:(acc.getD (acc.length-1) ((0:Int),(0:Int))).1+604800<=x.1-now:=g5 _ rfl;have hb:=ei (acc.getD (acc.length-1) (0,0)) (List.mem_of_getLast? dK);rw[aZ (by omega) (by omega),ag (show (acc.length:Int)>0 by omega),show ((acc.length:Int)-1).toNat=acc.length-1 by omega];simp only[Bool.true_or,j5];rw[ah (by omega) (by omega),aj (show¬x.1-now<(acc.getD (acc.length-1) ((0:Int),(0:Int))).1+604800 by omega),ag (by simp[aP];omega)];simp only[j5,j6,aQ];exact fT
def F5(p:Option Int):bC->Prop
 |[]=>True
 |x::r=>(1000000<x.1/\x.1<=8589000000/\(∀q,p=some q->q+604800<=x.1) /\ -64800<=x.2/\x.2<=64800)/\F5 (some x.1) r
theorem MO:∀(L:bC)(now:Int)(p:Option Int),Good now p L->F5 p (bP now L)
 |[],_,_,_=>trivial
 |x::r,now,p,h=>by
  simp only[Good]at h;by_cases hx:x.2=now
  .rw[if_pos hx]at h;simp only[bP];rw[if_pos hx];exact MO r now p h
  .rw[if_neg hx]at h;simp only[bP];rw[if_neg hx];obtain⟨⟨g1,g2,g3,g4,g5,g6,g7⟩,g8⟩:=h;exact⟨⟨g3,g4,g5,g6,g7⟩,MO r x.2 _ g8⟩
theorem F6:∀(L:bC)(now:Int),(bP now L).length<=L.length
 |[],_=>jq _
 |x::r,now=>by
  simp only[bP];split
  .have:=F6 r now;simp;omega
  .have:=F6 r x.2;simp;omega
theorem TT:∀(l:bC)(p:Option Int),F5 p l->(∀i,i+1<l.length->ib l i+604800<=ib l (i+1))/\(∀i,i<l.length->1000000<ib l i/\ib l i<=8589000000)/\
  (∀o i, -64800<=o->o<=64800->i<=l.length -> -64800<=cp o l i/\cp o l i<=64800)
 |[],_,_=>⟨λi h=>by simp at h,λi h=>by simp at h,λo i h1 h2 h3=>by
  have:i=0:=by simpa using h3
  subst this;exact⟨h1,h2⟩⟩
 |x::r,p,h=>by
  obtain⟨⟨g3,g4,g5,g6,g7⟩,g8⟩:=h;obtain⟨h1,h2,h3⟩:=TT r _ g8;refine⟨λi hi=>?_,λi hi=>?_,λo i lx jO hi=>?_⟩
  .cases i with
   |zero=>
    cases r with
    |nil=>simp at hi
    |cons y ys=>have:=g8.1.2.2.1 _ rfl;exact this
   |succ i=>exact h1 i (by simp at hi ⊢;omega)
  .cases i with
   |zero=>exact⟨g3,g4⟩
   |succ i=>exact h2 i (by simp at hi ⊢;omega)
  .cases i with
   |zero=>exact⟨lx,jO⟩
   |succ i=>
    cases i with
    |zero=>exact⟨g6,g7⟩
    |succ i=>exact h3 x.2 (i+1) g6 g7 (by simp at hi ⊢;omega)
theorem jxl{o:Int}{l:bC}(h:F5 none l)(hl:l.length<=1000)(h0 : -64800<=o)(h1:o<=64800):ic o l:=by
 obtain⟨a,b,c⟩:=TT l none h;exact⟨hl,a,λi hi=>(b i hi).1,λi hi=>(b i hi).2,λi hi=>(c o i h0 h1 hi).1,λi hi=>(c o i h0 h1 hi).2⟩
def qD(z:ByteArray×(Int×List aU))(l:bC):Prop:=j3d z=some (l,0)/\ic z.2.1 l
theorem jxm{nm:ByteArray}{o:Int}{rs:List aU}(h:∀r∈rs,jT r)(lx : -64800<=o)(jO:o<=64800)(hlen:rs.length<=16)(hn:(occs rs).length<20)(hg:Good o none (eh (occs rs))):qD (nm,(o,rs)) (bP o (eh (occs rs))):=by
 have hl:(eh (occs rs)).length<=1000:=by simp[eh,CZ];omega
 refine⟨?_,jxl (MO _ _ _ hg) (by have:=F6 (eh (occs rs)) o;omega) lx jO⟩;have:=MN (eh (occs rs)) hl (eh (occs rs)).length 0 o [] (by omega) lx jO (by simp) (by simp) hg;simp only[j3d,jkQ h lx jO hlen hn,j3,ji,j6,show Int.ofNat (List.length (eh (occs rs)))=((eh (occs rs)).length:Int) from rfl];rw[kc]at this;rw[show Ca o ((eh (occs rs)).length:Int) 0 [] (eh (occs rs))=_ from this];rfl
theorem TU{z:ByteArray×(Int×List aU)}{l:bC}(h:qD z l):jfx z=some ((z.2.1,l),0):=by
 simp only[jfx,show j3d (z.1,(z.2.1,z.2.2))=_ from h.1,j3]
theorem TW{y m k w:Int}(gf:1<=m)(iB:m<=12)(dD:2<=k)(fL:k<=5):num y m 1+7<=nth y m k w/\nth y m k w<=num y m 1+34:=by
 have hd:=C0 y m gf iB;unfold nth;dsimp only;split<;>omega
theorem MP{y m k w:Int}(gf:1<=m)(iB:m<=12)(dD:1<=k)(fL:k<=4):num y m 1<=nth y m k w/\nth y m k w<=num y m 1+27:=by
 have hd:=C0 y m gf iB;unfold nth;dsimp only;split<;>omega
theorem TX{a b:Int×Int}(h:a.1<b.1):eh [a,b]=[a,b]:=by
 simp[eh,jA,kC,show¬b.1<a.1 by omega]
theorem TY{a b c d:Int×Int}(h1:a.1<c.1)(h2:c.1<b.1)(h3:b.1<d.1):eh [a,b,c,d]=[a,c,b,d]:=by
 simp[eh,jA,kC,show¬b.1<a.1 by omega,h2,show¬c.1<a.1 by omega,show¬d.1<b.1 by omega]
theorem TZ(r1 r2:aU)(h1:r1.1=2025)(h2:r1.2.1=2025)(h3:r2.1=2025)(h4:r2.2.1=2025):occs [r1,r2]=[ct r1 2025,ct r2 2025]:=by
 simp[occs,fp,h1,h2,h3,h4]
theorem T0(r1 r2:aU)(h1:r1.1=2025)(h2:r1.2.1=2026)(h3:r2.1=2025)(h4:r2.2.1=2026):occs [r1,r2]=[ct r1 2025,ct r1 2026,ct r2 2025,ct r2 2026]:=by
 simp[occs,fp,h1,h2,h3,h4,List.range_succ]
theorem nR{now:Int}{p:Option Int}{x:Int×Int}{r:bC}(hx:x.2≠now)(h : -86400<x.2-now/\x.2-now<86400/\1000000<x.1-now/\x.1-now<=8589000000 /\ -64800<=x.2/\x.2<=64800)
  (hp:∀q,p=some q->q+604800<=x.1-now)(hr:Good x.2 (some (x.1-now)) r):Good now p (x::r):=by
 simp only[Good];rw[if_neg hx];exact⟨⟨h.1,h.2.1,h.2.2.1,h.2.2.2.1,hp,h.2.2.2.2.1,h.2.2.2.2.2⟩,hr⟩
theorem jtU{now:Int}{p:Option Int}{x:Int×Int}{r:bC}(hx:x.2=now)(hr:Good now p r):Good now p (x::r):=by
 simp only[Good];rw[if_pos hx];exact hr
theorem C4{P:Int->Prop}:∀q,(none:Option Int)=some q->P q:=λ_ h=>by simp at h
theorem uC{P:Int->Prop}{a:Int}(h:P a):∀q,some a=some q->P q:=λq hq=>by simp at hq;subst hq;exact h
theorem n251:num 2025 1 1=20089:=by decide
theorem n261:num 2026 1 1=20454:=by decide
theorem n252:num 2025 2 1=20120:=by decide
theorem n253:num 2025 3 1=20148:=by decide
theorem n262:num 2026 2 1=20485:=by decide
theorem n263:num 2026 3 1=20513:=by decide
structure MZ(o:Int)(rs:List aU):Prop where
 o0 : -43200<=o
 o1:o<=45000
 ok:∀r∈rs,jT r
 len:rs.length<=2
 few:(occs rs).length<=4
 good:Good o none (eh (occs rs))
theorem MZ.tab{o:Int}{rs:List aU}(h:MZ o rs)(nm:ByteArray):qD (nm,(o,rs)) (bP o (eh (occs rs))):=
 jxm h.ok (by have:=h.o0;omega) (by have:=h.o1;omega) (by have:=h.len;omega) (by have:=h.few;omega) h.good
theorem mz0{o:Int}(h0 : -43200<=o)(h1:o<=45000):MZ o []:=⟨h0,h1,by simp,by simp,by decide,trivial⟩
theorem T1{r1 r2:aU}(h1:jT r1)(h2:jT r2):∀r∈[r1,r2],jT r:=by
 intro r hr;simp at hr;rcases hr with rfl|rfl
 .exact h1
 .exact h2
theorem mz1{o last:Int}(h0 : -43200<=o)(h1:o<=45000)(hl:last=2025\/last=2026):MZ o [(2025,(last,(3,(5,(6,(7200,o+3600)))))),(2025,(last,(10,(5,(6,(10800,o))))))]:=by
 have a1:nth 2025 3 5 6=20177:=by decide
 have a2:nth 2025 10 5 6=20387:=by decide
 have a3:nth 2026 3 5 6=20541:=by decide
 have a4:nth 2026 10 5 6=20751:=by decide
 have br:=T1 (r1:=(2025,(last,(3,(5,(6,(7200,o+3600))))))) (r2:=(2025,(last,(10,(5,(6,(10800,o))))))) (by constructor<;>(dsimp only;omega)) (by constructor<;>(dsimp only;omega));rcases hl with rfl|rfl
 .have e:=TZ (2025,(2025,(3,(5,(6,(7200,o+3600)))))) (2025,(2025,(10,(5,(6,(10800,o)))))) rfl rfl rfl rfl;refine⟨h0,h1,br,by simp,by rw[e];simp,?_⟩;rw[e,TX (by simp only[ct];omega)];refine nR (by simp only[ct];omega) (by simp only[ct];omega) C4 (nR (by simp only[ct];omega) (by simp only[ct];omega) (uC (by simp only[ct];omega)) trivial)
 .have e:=T0 (2025,(2026,(3,(5,(6,(7200,o+3600)))))) (2025,(2026,(10,(5,(6,(10800,o)))))) rfl rfl rfl rfl;refine⟨h0,h1,br,by simp,by rw[e];simp,?_⟩;rw[e,TY (by simp only[ct];omega) (by simp only[ct];omega) (by simp only[ct];omega)]
  refine nR (by simp only[ct];omega) (by simp only[ct];omega) C4 (nR (by simp only[ct];omega) (by simp only[ct];omega) (uC (by simp only[ct];omega))
   (nR (by simp only[ct];omega) (by simp only[ct];omega) (uC (by simp only[ct];omega)) (nR (by simp only[ct];omega) (by simp only[ct];omega) (uC (by simp only[ct];omega)) trivial)))
theorem mz2{o last k1 w1 s1 c m2 k2 w2 s2:Int}(h0 : -43200<=o)(h1:o<=45000)(hl:last=2025\/last=2026)(hk:1<=k1)(bf:k1<=4)(hw:0<=w1)(HT:w1<=6)(hs:0<=s1)(dI:s1<=82800)(hc:1800<=c)(dp:c<=14400)
  (hm:m2=2\/m2=3)(hj:2<=k2)(gE:k2<=5)(hx:0<=w2)(lL:w2<=6)(ht:0<=s2)(qU:s2<=82800):MZ o [(2025,(last,(1,(k1,(w1,(s1,o+c)))))),(2025,(last,(m2,(k2,(w2,(s2,o))))))]:=by
 have br:=T1 (r1:=(2025,(last,(1,(k1,(w1,(s1,o+c))))))) (r2:=(2025,(last,(m2,(k2,(w2,(s2,o))))))) (by constructor<;>(dsimp only;omega)) (by constructor<;>(dsimp only;omega));have b1:=MP (y:=2025) (m:=1) (k:=k1) (w:=w1) (by omega) (by omega) hk bf;have b2:=MP (y:=2026) (m:=1) (k:=k1) (w:=w1) (by omega) (by omega) hk bf;have b3:=TW (y:=2025) (m:=m2) (k:=k2) (w:=w2) (by omega) (by omega) hj gE;have b4:=TW (y:=2026) (m:=m2) (k:=k2) (w:=w2) (by omega) (by omega) hj gE;have c1:20120<=num 2025 m2 1/\num 2025 m2 1<=20148:=by rcases hm with rfl|rfl<;>simp[n252,n253]
 have c2:20485<=num 2026 m2 1/\num 2026 m2 1<=20513:=by rcases hm with rfl|rfl<;>simp[n262,n263]
 rw[n251]at b1;rw[n261]at b2;rcases hl with rfl|rfl
 .have e:=TZ (2025,(2025,(1,(k1,(w1,(s1,o+c)))))) (2025,(2025,(m2,(k2,(w2,(s2,o)))))) rfl rfl rfl rfl;refine⟨h0,h1,br,by simp,by rw[e];simp,?_⟩;rw[e,TX (by simp only[ct];omega)];refine nR (by simp only[ct];omega) (by simp only[ct];omega) C4 (nR (by simp only[ct];omega) (by simp only[ct];omega) (uC (by simp only[ct];omega)) trivial)
 .have e:=T0 (2025,(2026,(1,(k1,(w1,(s1,o+c)))))) (2025,(2026,(m2,(k2,(w2,(s2,o)))))) rfl rfl rfl rfl;refine⟨h0,h1,br,by simp,by rw[e];simp,?_⟩;rw[e,TY (by simp only[ct];omega) (by simp only[ct];omega) (by simp only[ct];omega)]
  refine nR (by simp only[ct];omega) (by simp only[ct];omega) C4 (nR (by simp only[ct];omega) (by simp only[ct];omega) (uC (by simp only[ct];omega))
   (nR (by simp only[ct];omega) (by simp only[ct];omega) (uC (by simp only[ct];omega)) (nR (by simp only[ct];omega) (by simp only[ct];omega) (uC (by simp only[ct];omega)) trivial)))
theorem T2{o w s x:Int}(h0 : -43200<=o)(h1:o<=45000)(hw:0<=w)(HT:w<=6)(hs:0<=s)(dI:s<=84600)(rU : -64800<=x)(mz:x<=64800)(mh : -86400<x-o)(fa:x-o<86400):MZ o [(2026,(2026,(1,(2,(w,(s,x))))))]:=by
 have b:=MP (y:=2026) (m:=1) (k:=2) (w:=w) (by omega) (by omega) (by omega) (by omega);rw[n261]at b;have e:occs [((2026:Int),((2026:Int),((1:Int),((2:Int),(w,(s,x))))))]=[ct (2026,(2026,(1,(2,(w,(s,x)))))) 2026]:=by simp[occs,fp]
 refine⟨h0,h1,λr hr=>?_,by simp,by rw[e];simp,?_⟩
 .simp at hr;subst hr;constructor<;>(dsimp only;omega)
 .rw[e];have hi:eh [ct (2026,(2026,(1,(2,(w,(s,x)))))) 2026]=[ct (2026,(2026,(1,(2,(w,(s,x)))))) 2026]:=by simp[eh,jA,kC]
  rw[hi];by_cases T3:x=o
  .exact jtU T3 trivial
  .exact nR T3 (by simp only[ct];omega) C4 trivial
theorem jxn{L:List Int}{a:Int}(h:dv L a)(nm:ByteArray):∃o rs a',j3C L a nm=some ((nm,(o,rs)),L,a')/\MZ o rs/\dv L a':=by
 obtain⟨p,a1,e1,m1,d1⟩:=mJ h (xs:=[(0:Int),(4:Int),(-20:Int),(22:Int),(48:Int),(-47:Int)]) (by simp) (by simp);obtain⟨x2,a2,e2,x20,x21,d2⟩:=cM (n:=2) d1 (by omega) (by omega);obtain⟨x3,a3,e3,x30,x31,d3⟩:=cM (n:=3) d2 (by omega) (by omega);obtain⟨y,a4,e4,y0,y1,d4⟩:=cM (n:=2) d3 (by omega) (by omega);obtain⟨q,a5,e5,q0,q1,d5⟩:=cM (n:=4) d4 (by omega) (by omega);have hp : -47<=p/\p<=48:=by simp at m1;omega
 have hmul:0<=x2*x3/\x2*x3<=2:=by
  obtain rfl|rfl:x2=0\/x2=1:=by omega
  all_goals omega
 have lx : -43200<=900*(p+x2*x3):=by omega
 have jO:900*(p+x2*x3)<=45000:=by omega
 have dK:2025+y=2025\/2025+y=2026:=by omega
 simp only[j3C,e1,e2,e3,e4,e5,j3];rw[ah (x:=x2*x3) (by omega) (by omega),ah (x:=p+x2*x3) (by omega) (by omega),ah (x:=900*(p+x2*x3)) (by omega) (by omega),ah (x:=2025+y) (by omega) (by omega)];generalize 900*(p+x2*x3)=o at *;generalize 2025+y=last at *;by_cases xa:q=1
 .rw[eA xa,j5,ah (x:=o+3600) (by omega) (by omega)];exact⟨_,_,_,rfl,mz1 lx jO dK,d5⟩
 .rw[cB xa,j6];by_cases C5:q=2
  .rw[eA C5,j5];obtain⟨b1,c1,f1,b10,b11,g1⟩:=cM (n:=4) d5 (by omega) (by omega);obtain⟨b2,c2,f2,yG,MQ,g2⟩:=cM (n:=7) g1 (by omega) (by omega);obtain⟨b3,c3,f3,MR,MS,g3⟩:=cM (n:=24) g2 (by omega) (by omega);obtain⟨b4,c4,f4,b40,b41,g4⟩:=cM (n:=8) g3 (by omega) (by omega);obtain⟨b5,c5,f5,b50,b51,g5⟩:=cM (n:=2) g4 (by omega) (by omega);obtain⟨b6,c6,f6,m6,g6⟩:=mJ g5 (xs:=[(2:Int),(3:Int),(5:Int)]) (by simp) (by simp);obtain⟨b7,c7,f7,T4,b71,g7⟩:=cM (n:=7) g6 (by omega) (by omega);obtain⟨b8,c8,f8,b80,b81,g8⟩:=cM (n:=24) g7 (by omega) (by omega);have h6:2<=b6/\b6<=5:=by simp at m6;omega
   simp only[f1,f2,f3,f4,f5,f6,f7,f8,j3]
   rw[ah (x:=1+b1) (by omega) (by omega),ah (x:=3600*b3) (by omega) (by omega),ah (x:=1+b4) (by omega) (by omega),ah (x:=1800*(1+b4)) (by omega) (by omega),ah (x:=o+1800*(1+b4)) (by omega) (by omega),
    ah (x:=2+b5) (by omega) (by omega),ah (x:=3600*b8) (by omega) (by omega)]
   exact⟨_,_,_,rfl,mz2 lx jO dK (by omega) (by omega) yG (by omega) (by omega) (by omega) (by omega) (by omega) (by omega) h6.1 h6.2 T4 (by omega) (by omega) (by omega),g8⟩
  .rw[cB C5,j6];by_cases C6:q=3
   .rw[eA C6,j5];obtain⟨b1,c1,f1,m1,g1⟩:=mJ d5 (xs:=[(3600:Int),(-3600:Int),(82800:Int),(-82800:Int),(43200:Int)]) (by simp) (by simp);obtain⟨b2,c2,f2,yG,MQ,g2⟩:=cM (n:=7) g1 (by omega) (by omega);obtain⟨b3,c3,f3,MR,MS,g3⟩:=cM (n:=48) g2 (by omega) (by omega);have cO : -82800<=b1/\b1<=82800:=by simp at m1;omega
    simp only[f1,f2,f3,j3];rw[ah (x:=o+b1) (by omega) (by omega),ah (x:=1800*b3) (by omega) (by omega)];by_cases lC:o+b1>64800\/o+b1 < -64800
    .have hb:cond (decide (o+b1>64800)) true (decide (o+b1 < -64800))=true:=by
      rcases lC with lC|lC
      .rw[ag lC];rfl
      .rw[ag lC];cases decide (o+b1>64800)<;>rfl
     rw[hb,j5];exact⟨_,_,_,rfl,T2 lx jO yG (by omega) (by omega) (by omega) (by omega) (by omega) (by omega) (by omega),g3⟩
    .rw[aj (show¬o+b1>64800 by omega),aj (show¬o+b1 < -64800 by omega)];simp only[j6];exact⟨_,_,_,rfl,T2 lx jO yG (by omega) (by omega) (by omega) (by omega) (by omega) (by omega) (by omega),g3⟩
   .rw[cB C6,j6];exact⟨_,_,_,rfl,mz0 lx jO,d5⟩
theorem MT:∀(L:bC)(now:Int)(p:Option Int),Good now p L->∀i,i<(bP now L).length -> -86400<cp now (bP now L) (i+1)-cp now (bP now L) i/\cp now (bP now L) (i+1)-cp now (bP now L) i<86400
 |[],_,_,_,i,hi=>by simp[bP]at hi
 |x::r,now,p,h,i,hi=>by
  simp only[Good]at h;by_cases hx:x.2=now
  .rw[if_pos hx]at h;have e:bP now (x::r)=bP now r:=by simp[bP,hx]
   rw[e]at hi ⊢;exact MT r now p h i hi
  .rw[if_neg hx]at h;have e:bP now (x::r)=(x.1-now,x.2)::bP x.2 r:=by simp[bP,hx]
   rw[e]at hi ⊢;obtain⟨⟨g1,g2,_⟩,g8⟩:=h;cases i with
   |zero=>exact⟨g1,g2⟩
   |succ i=>
    have:=MT r x.2 _ g8 i (by simpa using hi);cases i with
    |zero=>exact this
    |succ i=>exact this
section
variable{o:Int}{l:bC}(h:ic o l)
include h
theorem F7{i j:Nat}{t:Int}(hi:i<=l.length)(hj:j<=l.length)(a1:bq l i<=t)(a2:t<bq l (i+1))(b1:bq l j<=t)(b2:t<bq l (j+1)):i=j:=by
 rcases vv i j with ec|ec|ec
 .have:=h.frm_le (i:=i+1) (j:=j) (by omega) (by omega);omega
 .exact ec
 .have:=h.frm_le (i:=j+1) (j:=i) (by omega) (by omega);omega
end
abbrev WL:=List (Int×Int)
def iq(p:Int):WL->Prop
 |[]=>p<=604800
 |x::r=>p<=x.1/\x.1<x.2/\x.2<=604800/\iq x.2 r
def hasB(s:Int):WL->Bool
 |[]=>false
 |x::r=>cond (cond (decide (x.1<=s)) (decide (s<x.2)) false) true (hasB s r)
theorem iq.weak{p q:Int}(hq:q<=p):∀{w:WL},iq p w->iq q w
 |[],h=>by show q<=604800;have:p<=604800:=h;omega
 |_::_,h=>⟨by have:=h.1;omega,h.2⟩
theorem yH:∀{w:WL}{p:Int},iq p w->∀i,i<w.length->p<=(w.getD i (0,0)).1/\(w.getD i (0,0)).1<(w.getD i (0,0)).2/\(w.getD i (0,0)).2<=604800
 |[],_,_,i,hi=>by simp at hi
 |x::r,p,h,i,hi=>by
  obtain⟨h1,h2,h3,h4⟩:=h;cases i with
  |zero=>exact⟨h1,h2,h3⟩
  |succ i=>exact yH (h4.weak (show p<=x.2 by omega)) i (by simpa using hi)
theorem MU:∀{w:WL}{p:Int},iq p w->∀i,i+1<w.length->(w.getD i (0,0)).2<=(w.getD (i+1) (0,0)).1
 |[],_,_,i,hi=>by simp at hi
 |x::[],_,_,i,hi=>by simp at hi
 |x::y::r,p,h,i,hi=>by
  cases i with
  |zero=>exact h.2.2.2.1
  |succ i=>exact MU h.2.2.2 i (by simpa using hi)
theorem T5{L:List Int}:∀(n:Nat)(p a:Int)(acc:WL),dv L a->0<=p->p<=604800->acc.length+n<=100->
  ∃w a',EV p (n:Int) L a acc=some (L,a',acc++w)/\iq p w/\w.length<=n/\dv L a'
 |0,p,a,acc,hd,_,hp,_=>by
  rw[Rz];simp only[j1J];rw[aj (by omega),j6,aY];exact⟨[],a,by simp,hp,by simp,hd⟩
 |n+1,p,a,acc,hd,iU,hp,ha=>by
  obtain⟨x,a1,e1,x0,x1,d1⟩:=cM (n:=30) hd (by omega) (by omega);obtain⟨y,a2,e2,y0,y1,d2⟩:=cM (n:=2) d1 (by omega) (by omega);obtain⟨q,a3,e3,m3,d3⟩:=mJ d2 (xs:=[(3600:Int),(28800:Int),(43200:Int),(86400:Int),(61:Int),(1:Int)]) (by simp) (by simp);have hq:1<=q/\q<=86400:=by simp at m3;omega
  rw[Rz];simp only[j1J];rw[ag (by omega)];simp only[j5,e1,e2,e3,j3];rw[ah (x:=3600*x) (by omega) (by omega),ah (x:=p+3600*x) (by omega) (by omega),ah (x:=60*y) (by omega) (by omega),ah (x:=p+3600*x+60*y) (by omega) (by omega),ah (x:=p+3600*x+60*y+q) (by omega) (by omega),ah (x:=((n+1:Nat):Int)-1) (by omega) (by omega)];by_cases lC:p+3600*x+60*y+q>604800
  .rw[ag lC,j5,aY];exact⟨[],a3,by simp,hp,by simp,d3⟩
  .rw[aj lC,ag (by simp[aP];omega)];simp only[j6,j5,aQ];obtain⟨w,a4,e4,hw,iX,d4⟩:=T5 n (p+3600*x+60*y+q) a3 (acc++[(p+3600*x+60*y,p+3600*x+60*y+q)]) d3 (by omega) (by omega) (by simp;omega);rw[show ((n+1:Nat):Int)-1=(n:Int) by omega];refine⟨(p+3600*x+60*y,p+3600*x+60*y+q)::w,a4,by rw[e4,jg];rfl,⟨by dsimp only;omega,by dsimp only;omega,by dsimp only;omega,hw⟩,by simp;omega,d4⟩
theorem MV{L:List Int}{a:Int}(h:dv L a):∃w a',j3F L a=some (w,L,a')/\iq 0 w/\w.length<=3/\dv L a':=by
 obtain⟨x,a1,e1,x0,x1,d1⟩:=cM (n:=4) h (by omega) (by omega);obtain⟨w,a',e2,h1,h2,h3⟩:=T5 x.toNat 0 a1 [] d1 (by omega) (by omega) (by simp;omega);rw[show ((x.toNat:Nat):Int)=x by omega,jt]at e2;simp only[j3F,e1,j3,e2];exact⟨w,a',rfl,h1,by omega,h3⟩
theorem T6{L:List Int}{a:Int}(h:dv L a):∃t a',j4T L a=some (t,L,a')/\1767139199<=t/\t<=1767139200+3600*575+3599/\dv L a':=by
 obtain⟨x,a1,e1,x0,x1,d1⟩:=cM (n:=576) h (by omega) (by omega);obtain⟨y,a2,e2,y0,y1,d2⟩:=cM (n:=3) d1 (by omega) (by omega);obtain⟨q,a3,e3,m3,d3⟩:=mJ d2 (xs:=[(-1:Int),(1:Int),(1800:Int),(3599:Int)]) (by simp) (by simp);have hq : -1<=q/\q<=3599:=by simp at m3;omega
 simp only[j4T,e1,j3,j0K,e2,e3];rw[ah (x:=3600*x) (by omega) (by omega),ah (x:=1767139200+3600*x) (by omega) (by omega),ah (x:=1767139200+3600*x+q) (by omega) (by omega)];cases (y==w64 (3-1)) with
 |true=>exact⟨_,_,rfl,by omega,by omega,d3⟩
 |false=>exact⟨_,_,rfl,by omega,by omega,d2⟩
theorem T7{w:WL}(h:iq 0 w)(hl:w.length<=14):∀(n i:Nat),i+n=w.length->Fg w w (w.length:Int) (i:Int)=some (.inr ())
 |0,i,hi=>by
  rw[Sb];simp only[j4h];rw[aj (by omega),j6,aY]
 |n+1,i,hi=>by
  have ih:=T7 h hl n (i+1) (by omega);have hg:=yH h i (by omega);rw[Sb];simp only[j4h];rw[ag (show (i:Int)<(w.length:Int) by omega),aZ (by omega) (by omega)];simp only[j5,j7];rw[aj (show¬(w.getD i ((0:Int),(0:Int))).1<0 by omega),aj (show¬(w.getD i ((0:Int),(0:Int))).1>=(w.getD i ((0:Int),(0:Int))).2 by omega),aj (show¬(w.getD i ((0:Int),(0:Int))).2>604800 by omega)];rw[ah (x:=(i:Int)+1) (by omega) (by omega)];simp only[j6];by_cases h0:i=0
  .rw[aj (by omega)];simp only[j6,aQ];exact ih
  .obtain⟨j,rfl⟩:∃j,i=j+1:=⟨i-1,by omega⟩;have MW:=MU h j (by omega);rw[ag (by omega),ah (x:=((j+1:Nat):Int)-1) (by omega) (by omega),aZ (by omega) (by omega),show (((j+1:Nat):Int)-1).toNat=j by omega,aj (by omega)];simp only[j5,j6,aQ];exact ih
theorem MX{w:WL}(h:iq 0 w)(hl:w.length<=14):jai w=some 0:=by
 have:=T7 h hl w.length 0 (by omega);rw[show ((0:Nat):Int)=0 from rfl]at this;simp only[jai,show Int.ofNat (List.length w)=(w.length:Int) from rfl];rw[aj (by omega),j6,this];rfl
abbrev bI:=ByteArray×(Int×List aU)
abbrev c9:=ByteArray×(Int×(WL×(Int×(Int×Bool))))
abbrev aW:=ByteArray×(Int×List Int)
abbrev bM:=ByteArray×(Int×((Int×Int)×(Int×(Int×(List Int×(WL×(Int×Int)))))))
abbrev dA:=ByteArray×(List bM×List (Int×(Int×(Int×(Int×Int)))))
def kE(z:bI):Prop:=MZ z.2.1 z.2.2
theorem yI{L:List Int}{a n:Int}(h:dv L a)(hn:1<=n)(vL:n<=1000000):∃b a',j0K L a n=some (b,L,a')/\dv L a':=by
 obtain⟨x,a1,e1,x0,x1,d1⟩:=cM (n:=n) h (by omega) (by omega);simp only[j0K,e1,j3];exact⟨_,_,rfl,d1⟩
structure C7(zs:List bI)(ps:List c9)(cs:List aW):Prop where
 z0:1<=zs.length
 z1:zs.length<=2
 ok:∀z∈zs,kE z
 p0:1<=ps.length
 p1:ps.length<=4
 c1:cs.length<=1
structure C8(l:bM):Prop where
 d0:20452<=l.2.2.1.1
 d1:l.2.2.1.1<=20457
 c0:0<=l.2.2.1.2
 c1:l.2.2.1.2<=79200
 u0:0<=l.2.2.2.1
 u1:l.2.2.2.1<=2
 e0:1<=l.2.2.2.2.1
 e1:l.2.2.2.2.1<=49
 e2:l.2.2.2.1≠0->l.2.2.2.2.1<=2
 m0:1<=l.2.2.2.2.2.1.length
 m1:l.2.2.2.2.2.1.length<=3
end Go.Proofs.Pw
