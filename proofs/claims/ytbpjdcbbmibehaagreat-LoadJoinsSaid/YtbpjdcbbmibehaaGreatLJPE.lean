/- oA 4: the wQ transitions, Iu and r8 are WY of the program. -/
import Derived.Test.YtbpjdcbbmibehaaGreatLJPD
open Go Go.Lft
namespace Go.Proofs.Pw
theorem sP{n lo hi:Int}(h1:lo<=n)(h2:n<=hi):jch n lo hi=some true:=by
 simp only[jch];rw[ag (show n>=lo from h1),ag h2];rfl
theorem jrR{r:aT}(h:lg r):je5 r=some true:=by
 simp only[je5,sP h.y0 (show r.1<=2240 by have:=h.y1;have:=h.y2;omega),sP h.y1 h.y2,sP h.m0 h.m1,sP h.k0 h.k1,sP h.d0 h.d1,sP h.s0 h.s1,sP h.o0 h.o1,j3,j5]
theorem WZ(x:Int×Int):∀l:bA,lC x l=l.takeWhile (λy=>decide (x.1<y.1))++x::l.dropWhile (λy=>decide (x.1<y.1))
 |[]=>rfl
 |y::ys=>by
  unfold lC;by_cases h:x.1<y.1
  .rw[if_pos h,WZ x ys];simp[h]
  .rw[if_neg h];simp[h]
theorem W0{rs:List aT}{i y a b:Int}:∀(rp mid:bA),rp.length+mid.length<=100000->
  Et rs i y (rp.length:Int) a b (rp.reverse++mid)=some (rs,i,y,((rp.dropWhile (λz=>decide (a<z.1))).length:Int),a,b,rp.reverse++mid)
 |[],mid,_=>by
  rw[Vq];simp only[j2z];rw[ao (by simp),j6,aY];rfl
 |z::zs,mid,hl=>by
  have hL:((z::zs).reverse++mid).length=zs.length+1+mid.length:=by simp;omega
  simp only[jl]at hl;have g2:((z::zs).reverse++mid).getD ((((zs.length+1:Nat):Int)-1).toNat) ((0:Int),(0:Int))=z:=by rw[show (((zs.length+1:Nat):Int)-1).toNat=zs.length by omega];simp
  rw[Vq];simp only[j2z,jl];simp only[aj (x:=((zs.length+1:Nat):Int)-1) (by omega) (by omega),g2];rw[ag (show ((zs.length+1:Nat):Int)>0 by omega),ba (by omega) (by rw[hL];omega)];simp only[j5];by_cases hc:a<z.1
  .rw[ag (show z.1>a from hc)];simp only[j5,aP];have ih:=W0 (rs:=rs) (i:=i) (y:=y) (a:=a) (b:=b) zs (z::mid) (by simp;omega);have e:(z::zs).reverse++mid=zs.reverse++z::mid:=by simp
   rw[e,show ((zs.length+1:Nat):Int)-1=(zs.length:Int) by omega,ih];simp[hc]
  .rw[ao (show¬z.1>a from hc)];simp only[j6,aY];simp[hc]
theorem jvH(l:bA)(x:Int×Int){k:Nat}(hk:k<=l.length):List.set (over (l++[x]) (k+1) (List.drop k (l++[x]))) k x=l.take k++x::l.drop k:=by
 have h1:(l++[x]).length=l.length+1:=by simp
 unfold over;rw[h1,jd (show (l++[x]).length<=k+1+(List.drop k (l++[x])).length by simp;omega),qj];have e1:List.drop k (l++[x])=List.drop k l++[x]:=by rw[List.drop_append_of_le_length hk]
 rw[e1];have e2:List.take (l.length+1-(k+1)) (List.drop k l++[x])=List.drop k l:=by rw[qz (by simp),List.take_of_length_le (by simp)]
 rw[e2];by_cases h:k<l.length
 .have e3:List.take (k+1) (l++[x])=l.take k++[l[k]]:=by rw[qz (by omega),qt h]
  rw[e3,jg,vg _ _ (by simp;omega)];simp[Nat.min_eq_left hk]
 .have bc:k=l.length:=by omega
  subst bc;have e3:List.take (l.length+1) (l++[x])=l++[x]:=List.take_of_length_le (by simp);rw[e3];simp
theorem W7{rs:List aT}{i:Nat}(hi:i<rs.length){r:aT}(hr:rs[i]=r)(h:lg r):∀(n j:Nat)(acc:bA),r.1+(j:Int)+n=r.2.1+1->acc.length+n<=90000->
  HS rs (i:Int) (r.1+(j:Int)) acc.reverse=some (rs,(i:Int),(kF ((List.range n).map λ(q:Nat)=>cE r (r.1+(j:Int)+(q:Int))) acc).reverse)
 |0,j,acc,hj,_=>by
  have hg:rs.getD i ((0:Int),((0:Int),((0:Int),((0:Int),((0:Int),((0:Int),(0:Int)))))))=r:=by simp[hi,hr]
  rw[Vr];simp only[j2A];rw[ba (by omega) (by omega)];simp only[j5,j7,hg];rw[ao (by omega),j6,aY];rfl
 |n+1,j,acc,hj,hl=>by
  have hg:rs.getD i ((0:Int),((0:Int),((0:Int),((0:Int),((0:Int),((0:Int),(0:Int)))))))=r:=by simp[hi,hr]
  have h0:=h.y0;have h2:=h.y2;have jG:=h.s0;have na:=h.s1;have hv:=EX (EY (r.1+(j:Int)) r.2.2.1 (by omega) (by omega) h.m0 h.m1);have hn:=O5 (w:=r.2.2.2.2.1) (y:=r.1+(j:Int)) (by omega) (by omega) h.m0 h.m1 h.k0 h.k1;have hd:=r5 (r.1+(j:Int)) r.2.2.1;rw[Vr];simp only[j2A];rw[ba (by omega) (by omega)];simp only[j5,j7,hg];rw[ag (show r.1+(j:Int)<=r.2.1 by omega),gi _ _ _ _ (by omega) (by omega) h.m0 h.m1 h.k0 h.k1 h.d0 h.d1];simp only[j5,j3];rw[aj (x:=nth (r.1+(j:Int)) r.2.2.1 r.2.2.2.1 r.2.2.2.2.1*86400) (by omega) (by omega),aj (x:=nth (r.1+(j:Int)) r.2.2.1 r.2.2.2.1 r.2.2.2.2.1*86400+r.2.2.2.2.2.1) (by omega) (by omega)];have Bo:=W0 (rs:=rs) (i:=(i:Int)) (y:=r.1+(j:Int)) (a:=(cE r (r.1+(j:Int))).1) (b:=(cE r (r.1+(j:Int))).2) acc [] (by simp;omega);rw[qj]at Bo;rw[show Int.ofNat (List.length acc.reverse)=(acc.length:Int) by simp];rw[show Et rs (i:Int) (r.1+(j:Int)) (acc.length:Int) (nth (r.1+(j:Int)) r.2.2.1 r.2.2.2.1 r.2.2.2.2.1*86400+r.2.2.2.2.2.1) r.2.2.2.2.2.2 acc.reverse=_ from Bo];simp only[j3];generalize hx:cE r (r.1+(j:Int))=x at *;have tG:(acc.dropWhile (λz=>decide (x.1<z.1))).length<=acc.length:=(List.dropWhile_sublist _).length_le;generalize hD:acc.dropWhile (λz=>decide (x.1<z.1))=D at *;have wR:(acc.reverse++[(x.1,x.2)]).length=acc.length+1:=by simp
  rw[ag (by simp[aQ];omega)];simp only[j5]
  rw[aj (x:=(D.length:Int)+1) (by omega) (by omega),ag (show (0:Int)<=(D.length:Int)+1 by omega),ag (show (D.length:Int)+1<=Int.ofNat (acc.reverse++[(x.1,x.2)]).length by rw[wR];show (D.length:Int)+1<=((acc.length+1:Nat):Int);omega),
   ag (show (0:Int)<=(D.length:Int) by omega),ag (show (D.length:Int)<=Int.ofNat (acc.reverse++[(x.1,x.2)]).length by rw[wR];show (D.length:Int)<=((acc.length+1:Nat):Int);omega)]
  simp only[vp,j5,j7,show ((D.length:Int)+1).toNat=D.length+1 by omega];have xo:(over (acc.reverse++[(x.1,x.2)]) (D.length+1) (List.drop D.length (acc.reverse++[(x.1,x.2)]))).length=acc.length+1:=by unfold over;simp;omega
  rw[ba (by omega) (by rw[xo];omega),jvH acc.reverse (x.1,x.2) (by simpa using tG)];simp only[j5];rw[aj (x:=r.1+(j:Int)+1) (by omega) (by omega),aP];have yR:acc.reverse.take D.length++(x.1,x.2)::acc.reverse.drop D.length=(lC x acc).reverse:=by have cY:=List.takeWhile_append_dropWhile (p:=λz:Int×Int=>decide (x.1<z.1)) (l:=acc);rw[WZ,hD];rw[hD]at cY;generalize acc.takeWhile (λz=>decide (x.1<z.1))=T at cY ⊢;rw[<-cY];simp
  rw[yR];have ih:=W7 hi hr h n (j+1) (lC x acc) (by omega) (by rw[EU];omega);rw[show r.1+(j:Int)+1=r.1+((j+1:Nat):Int) by omega];refine ih.trans ?_
  have yS:(List.range n).map (λ(q:Nat)=>cE r (r.1+((j+1:Nat):Int)+(q:Int)))=(List.range n).map ((λ(q:Nat)=>cE r (r.1+(j:Int)+(q:Int))) ∘ Nat.succ):=y9 λq _=>by
   simp only[Function.comp];congr 1;omega
  rw[List.range_succ_eq_map,jz,List.map_map,yS];simp[kF,hx]
theorem W8:∀(a b acc:bA),kF (a++b) acc=kF b (kF a acc)
 |[],_,_=>rfl
 |x::a,b,acc=>by simp only[zb,kF];exact W8 a b _
theorem W9{rs:List aT}(h:∀r∈rs,lg r)(hlen:rs.length<=100):∀(n i:Nat)(acc:bA),i+n=rs.length->acc.length<=300*i->
  Eu rs (i:Int) acc.reverse=some (kF (occs (rs.drop i)) acc).reverse
 |0,i,acc,hi,_=>by
  rw[Vs];simp only[j2B,show Int.ofNat (List.length rs)=(rs.length:Int) from rfl];rw[ao (by omega),j6,aY,jd (by omega)];rfl
 |n+1,i,acc,hi,hl=>by
  have ak:i<rs.length:=by omega
  have hr:=h rs[i] (ji ak);have h0:=hr.y0;have h1:=hr.y1;have h2:=hr.y2;have hg:rs.getD i ((0:Int),((0:Int),((0:Int),((0:Int),((0:Int),((0:Int),(0:Int)))))))=rs[i]:=by simp[ak]
  have sq:=W7 ak rfl hr (rs[i].2.1-rs[i].1+1).toNat 0 acc (by omega) (by omega);rw[show rs[i].1+((0:Nat):Int)=rs[i].1 by omega]at sq;have ih:=W9 h hlen n (i+1) (kF (fQ rs[i]) acc) (by omega) (by rw[EV];simp[fQ];omega);rw[Vs];simp only[j2B,show Int.ofNat (List.length rs)=(rs.length:Int) from rfl];rw[ag (show (i:Int)<(rs.length:Int) by omega),ba (by omega) (by omega)];simp only[j5,j7,hg,sq,j3];rw[aj (by omega) (by omega),aP,jb ak];refine ih.trans ?_;show _=some (kF (fQ rs[i]++occs (rs.drop (i+1))) acc).reverse;rw[W8]
theorem jvI{rs:List aT}(h:∀r∈rs,lg r)(hlen:rs.length<=100):j8c rs=some (eH (occs rs)):=by
 have e:=W9 h hlen rs.length 0 [] (by omega) (by simp);simp only[j8c];rw[show Eu rs 0 []=_ from e];rfl
theorem Xa{rs:List aT}(h:∀r∈rs,lg r)(hlen:rs.length<=100)(nm:ByteArray)(o:Int):∀(n i:Nat)(s:Int),i+n=rs.length->0<=s->s<=300*i->
  Ev s (i:Int) nm o rs=some (.inr (s+((occs (rs.drop i)).length:Int),nm,o,rs))
 |0,i,s,hi,_,_=>by
  rw[Vt];simp only[j2C,show Int.ofNat (List.length rs)=(rs.length:Int) from rfl];rw[ao (by omega),j6,aY,jd (by omega)];simp[occs]
 |n+1,i,s,hi,jG,na=>by
  have ak:i<rs.length:=by omega
  have hr:=h rs[i] (ji ak);have h0:=hr.y0;have h1:=hr.y1;have h2:=hr.y2;have hg:rs.getD i ((0:Int),((0:Int),((0:Int),((0:Int),((0:Int),((0:Int),(0:Int)))))))=rs[i]:=by simp[ak]
  have ih:=Xa h hlen nm o n (i+1) (s+(rs[i].2.1-rs[i].1+1)) (by omega) (by omega) (by omega);have r6:je5 (rs[i].1,(rs[i].2.1,(rs[i].2.2.1,(rs[i].2.2.2.1,(rs[i].2.2.2.2.1,(rs[i].2.2.2.2.2.1,rs[i].2.2.2.2.2.2))))))=some true:=jrR hr;rw[Vt];simp only[j2C,show Int.ofNat (List.length rs)=(rs.length:Int) from rfl];rw[ag (show (i:Int)<(rs.length:Int) by omega),ba (by omega) (by omega)];simp only[j5,j7,hg,r6,j3,jw,j6];rw[aj (x:=rs[i].2.1-rs[i].1) (by omega) (by omega),aj (x:=rs[i].2.1-rs[i].1+1) (by omega) (by omega),aj (x:=s+(rs[i].2.1-rs[i].1+1)) (by omega) (by omega),aj (x:=(i:Int)+1) (by omega) (by omega),aP];refine ih.trans ?_;rw[jb ak]
  have:((occs (rs[i]::rs.drop (i+1))).length:Int)=(rs[i].2.1-rs[i].1+1)+((occs (rs.drop (i+1))).length:Int):=by
   have e1:(fQ rs[i]).length=(rs[i].2.1-rs[i].1+1).toNat:=by simp[fQ]
   show ((fQ rs[i]++occs (rs.drop (i+1))).length:Int)=_;rw[jf,e1];omega
  rw[this];congr 3;omega
theorem Pt(L:bA)(hL:L.length<=1000):∀(n i:Nat)(now:Int)(acc:bA),i+n=L.length -> -64800<=now->now<=64800->acc.length<=i->(∀x∈acc,0<=x.1/\x.1<=8589934592)->Good now (acc.getLast?.map (·.1)) (L.drop i)->
  Ew now (i:Int) acc L=some (.inr (acc++dt now (L.drop i)))
 |0,i,now,acc,hi,_,_,_,_,_=>by
  rw[Vu];simp only[j2D,show Int.ofNat (List.length L)=(L.length:Int) from rfl];rw[ao (by omega),j6,aY,jd (by omega)];simp[dt]
 |n+1,i,now,acc,hi,oQ,mF,mH,eI,hg=>by
  have ak:i<L.length:=by omega
  rw[jb ak]at hg ⊢;have bk:L.getD i ((0:Int),(0:Int))=L[i]:=by simp[ak]
  rw[Vu];simp only[j2D,show Int.ofNat (List.length L)=(L.length:Int) from rfl];rw[ag (show (i:Int)<(L.length:Int) by omega),ba (by omega) (by omega)];simp only[j5,j7,bk];generalize L[i]=x at *;rw[aj (x:=(i:Int)+1) (by omega) (by omega)];simp only[Good]at hg;by_cases hx:x.2=now
  .rw[if_pos hx]at hg;rw[ff hx];simp only[j5,aP,dt];rw[if_pos hx];exact Pt L hL n (i+1) now acc (by omega) oQ mF (by omega) eI hg
  .rw[if_neg hx]at hg;obtain⟨⟨g1,g2,g3,g4,g5,g6,g7⟩,g8⟩:=hg;rw[cP hx,aj (x:=x.1-now) (by omega) (by omega),aj (x:=x.2-now) (by omega) (by omega)];simp only[j6,sP (show (-86399:Int)<=x.2-now by omega) (show x.2-now<=86399 by omega),sP (show (0:Int)<=x.1-now by omega) (show x.1-now<=8589934592 by omega),j3,jw,show Int.ofNat (List.length acc)=(acc.length:Int) from rfl]
   have gD:=Pt L hL n (i+1) x.2 (acc++[(x.1-now,x.2)]) (by omega) g6 g7 (by simp;omega)
    (λy hy=>by
     rcases jm.1 hy with hy|hy
     .exact eI y hy
     .simp at hy;subst hy;exact⟨by show (0:Int)<=x.1-now;omega,by show x.1-now<=8589934592;omega⟩) (by simpa using g8)
   have bY:dt now (x::L.drop (i+1))=(x.1-now,x.2)::dt x.2 (L.drop (i+1)):=by simp[dt,hx]
   rw[bY];rw[jg]at gD;rw[aj (x:=(acc.length:Int)-1) (by omega) (by omega)];by_cases ha:acc=[]
   .subst ha;simp only[qq];rw[show decide (((0:Nat):Int)>0)=false from rfl];simp only[j6];rw[ag (by simp[aQ])];simp only[j5,aP];exact gD
   .have bB:0<acc.length:=List.length_pos_iff.2 ha;have dC:acc.getLast? = some (acc.getD (acc.length-1) (0,0)):=by rw[List.getLast?_eq_getElem?,List.getD_eq_getElem?_getD,jk (show acc.length-1<acc.length by omega)];rfl
    rw[dC]at g5;have g5:(acc.getD (acc.length-1) ((0:Int),(0:Int))).1+604800<=x.1-now:=g5 _ rfl;have hb:=eI (acc.getD (acc.length-1) (0,0)) (List.mem_of_getLast? dC);rw[ba (by omega) (by omega),ag (show (acc.length:Int)>0 by omega),show ((acc.length:Int)-1).toNat=acc.length-1 by omega];simp only[j5];rw[aj (by omega) (by omega),ao (show¬x.1-now-(acc.getD (acc.length-1) ((0:Int),(0:Int))).1<604800 by omega),ag (by simp[aQ];omega)];simp only[j5,j6,aP];exact gD
theorem jzI{nm:ByteArray}{o:Int}{rs:List aT}(h:∀r∈rs,lg r)(mj : -64800<=o)(iW:o<=64800)(hlen:rs.length<=16)(hn:(occs rs).length<=640)(hg:Good o none (eH (occs rs))) :
  j8d (nm,(o,rs))=some (dt o (eH (occs rs)),0):=by
 have hl:(eH (occs rs)).length<=1000:=by simp[eH,EV];omega
 have e0:=Xa h (by omega) nm o rs.length 0 0 (by omega) (by omega) (by omega);rw[k5]at e0;have e2:=Pt (eH (occs rs)) hl (eH (occs rs)).length 0 o [] (by omega) mj iW (by simp) (by simp) hg;rw[k5]at e2;simp only[j8d,sP mj iW,j3,jw,j6,show Int.ofNat (List.length rs)=(rs.length:Int) from rfl];rw[ao (show¬(rs.length:Int)>16 by omega),j6,show Ev 0 0 nm o rs=_ from e0];simp only[j3,rN];rw[ao (by omega),j6,jvI h (by omega)];simp only[j3];rw[show Ew o 0 [] (eH (occs rs))=_ from e2];rfl
def Z4(z:ByteArray×(Int×List aT))(l:bA):Prop:=j8d z=some (l,0)/\gU z.2.1 l
theorem MZ.r4{o:Int}{rs:List aT}(h:MZ o rs)(nm:ByteArray):Z4 (nm,(o,rs)) (dt o (eH (occs rs))):=by
 have ht:=h.tab nm;refine⟨jzI h.ok (by have:=h.o0;omega) (by have:=h.o1;omega) ?_ ?_ h.good,ht.2⟩
 .have:=h.len;omega
 .have:=h.few;omega
section
variable{o:Int}{l:bA}(h:gU o l)
include h
end
section
variable{z:ByteArray×(Int×List aT)}{l:bA}(h:Z4 z l)
include h
end
def zB(o:Int)(l:bA)(s:Int):Prop:=∀j,j<=l.length->bh l (j+1)<=s-cu o l j
noncomputable def fO(o:Int)(l:bA)(s:Int):Option Int:=open Classical in if h:∃t k,mN o l s t k then some (Classical.choose h) else none
theorem mN.uniq{o:Int}{l:bA}{s t t':Int}{k k':Nat}(f:mN o l s t k)(g:mN o l s t' k'):k=k'/\t=t':=by
 have hk:k=k':=by
  rcases yj k k' with ak|heq|Bu
  .have:=g.bef k ak;have:=f.hks;omega
  .exact heq
  .have:=f.bef k' Bu;have:=g.hks;omega
 subst hk;exact⟨rfl,by rw[f.ht,g.ht]⟩
theorem zC{o:Int}{l:bA}{s t:Int}{k:Nat}(f:mN o l s t k):fO o l s=some t:=by
 have he:∃t k,mN o l s t k:=⟨t,k,f⟩;unfold fO;rw[dif_pos he];obtain⟨k',g⟩:=Classical.choose_spec he;rw[(g.uniq f).2]
theorem zD{o:Int}{l:bA}{s:Int}(dQ:zB o l s):fO o l s=none:=by
 unfold fO;rw[dif_neg]
 rintro⟨t,k,f⟩
 have:=dQ k f.hk;have:=f.hks;omega
theorem Pu(o:Int)(l:bA)(s:Int):(∃t k,mN o l s t k)\/zB o l s:=by
 by_cases dQ:zB o l s
 .exact .inr dQ
 .left
  have:∃j,j<=l.length/\s-cu o l j<bh l (j+1):=by
   apply jp;intro hn
   exact dQ λj hj=>by
    rcases Int.lt_or_le (s-cu o l j) (bh l (j+1)) with h|h
    .exact absurd ⟨j,hj,h⟩ hn
    .exact h
  obtain⟨j,hj,hjs⟩:=this;obtain⟨a,⟨ha,haN⟩,tH⟩:=CZ (λj=>s-cu o l j<bh l (j+1)/\j<=l.length) j ⟨hjs,hj⟩;refine⟨_,a,haN,ha,λi hi=>?_,rfl⟩;rcases Int.lt_or_le (s-cu o l i) (bh l (i+1)) with h'|h'
  .have:=tH i ⟨h',by omega⟩;omega
  .exact h'
theorem Iv{o:Int}{l:bA}{s t:Int}(he:fO o l s=some t):∃k,mN o l s t k:=by
 rcases Pu o l s with⟨t',k,f⟩|dQ
 .rw[zC f]at he;simp at he;subst he;exact⟨k,f⟩
 .rw[zD dQ]at he;simp at he
section
variable{o:Int}{l:bA}(h:gU o l)
include h
theorem Iw{s t:Int}(he:fO o l s=some t):s<=t+64800/\0<=t/\t<=8589934592:=by
 obtain⟨k,f⟩:=Iv he;obtain⟨p1,p2,p3⟩:=f.piece h;have o1:=h.of1 k f.hk;have g1:=h.frm_le (i:=0) (j:=k) (by omega) (by have:=f.hk;omega);have e0:bh l 0=0:=rY;have e1:bh l (l.length+1)=8589934593:=uz;have g2:=h.frm_le (i:=k+1) (j:=l.length+1) (by have:=f.hk;omega) (by omega);omega
theorem Xb{s:Int}(hs:8589934593+64800<=s):zB o l s:=λj hj=>by
 have o1:=h.of1 j hj;have e1:bh l (l.length+1)=8589934593:=uz;have g2:=h.frm_le (i:=j+1) (j:=l.length+1) (by omega) (by omega);omega
theorem jxx{s s' t':Int}(hs:s<=s')(he:fO o l s'=some t'):∃t,fO o l s=some t/\t<=t':=by
 obtain⟨k',g⟩:=Iv he;have g1:=g.hks;have bc:=g.hk;rcases Pu o l s with⟨t,k,f⟩|dQ
 .refine⟨t,zC f,?_⟩;obtain⟨p1,p2,p3⟩:=f.piece h;obtain⟨q1,q2,q3⟩:=g.piece h;have f1:=f.ht;have g2:=g.ht;rcases yj k k' with ak|heq|Bu
  .have:=h.frm_le (i:=k+1) (j:=k') (by omega) (by omega);omega
  .subst heq;omega
  .have:=f.bef k' Bu;omega
 .have:=dQ k' bc;omega
theorem Xc{d c s:Int}(jN:j3P (d,c)=some s)(jG : -1000000000000<=s)(na:s<=1000000000000)(dQ:zB o l s) :
  ∀(n i:Nat),i+n=l.length+1->D4 ((l.length+1:Nat):Int) (i:Int) d c (p7 o l (l.length+1))=some (.inr ())
 |0,i,hi=>by
  rw[HE];simp only[j1a];rw[ao (by omega),j6,aY]
 |n+1,i,hi=>by
  have hlen:=h.len;have lv:i<=l.length:=by omega
  have o1:=h.of0 i lv;have o2:=h.of1 i lv;have hb:=dQ i lv;have ak:=h.frm_lt lv;rw[HE];simp only[j1a];rw[ag (show (i:Int)<((l.length+1:Nat):Int) by omega),ba (by omega) (by rw[yQ];omega)];simp only[j5,j7,OW (show i<l.length+1 by omega),jN,j3,pc];rw[aj (x:=s-cu o l i) (by omega) (by omega),aj (x:=(i:Int)+1) (by omega) (by omega)];have hm:(if s-cu o l i>bh l i then s-cu o l i else bh l i)=max (bh l i) (s-cu o l i):=by split<;>omega
  rw[hm,ao (by omega),j6,aP];exact Xc jN jG na dQ n (i+1) (by omega)
theorem Pv{d c s:Int}(jN:j3P (d,c)=some s)(jG : -1000000000000<=s)(na:s<=1000000000000)(dQ:zB o l s):j2F (o,l) (d,c)=some (0,false):=by
 have:=Xc h jN jG na dQ (l.length+1) 0 (by omega);simp only[j2F,VZ h,j3,yQ,show Int.ofNat (List.length l+1)=((l.length+1:Nat):Int) from rfl];rw[show (0:Int)=((0:Nat):Int) from rfl,this];rfl
theorem Xd{d c:Int}(hd : -1000000<=d)(lO:d<=1000000000000000)(hc:0<=c)(gW:c<=86399) :
  j2F (o,l) (d,c)=some ((fO o l (d*86400+c)).getD 0,(fO o l (d*86400+c)).isSome):=by
 by_cases hb:d<=1000000
 .rcases Pu o l (d*86400+c) with⟨t,k,f⟩|dQ
  .have e:=jvA h hd hb (by omega) (by omega) f.hk f.hks f.bef;rw[<-f.ht]at e;rw[zC f];exact e
  .rw[zD dQ];exact Pv h (OX hd hb (by omega) (by omega)) (by omega) (by omega) dQ
 .have dQ:zB o l (d*86400+c):=Xb h (by omega);rw[zD dQ];by_cases dX:d<=1048576
  .have jN:j3P (d,c)=some (d*86400+c):=by simp only[j3P];rw[if_neg (show¬(-1048576:Int)>d by omega),if_neg (show¬(1048576:Int)<d by omega),aj (x:=d*86400) (by omega) (by omega),aj (by omega) (by omega)]
   exact Pv h jN (by omega) (by omega) dQ
  .have jN:j3P (d,c)=some (1048576*86400+c):=by simp only[j3P];rw[if_neg (show¬(-1048576:Int)>d by omega),if_pos (show (1048576:Int)<d by omega),aj (x:=1048576*86400) (by omega) (by omega),aj (by omega) (by omega)]
   exact Pv h jN (by omega) (by omega) (Xb h (by omega))
end
structure Rt(L:cb):Prop where
 d0:1<=L.2.2.1.1
 d1:L.2.2.1.1<=100000
 c0:0<=L.2.2.1.2
 c1:L.2.2.1.2<=86399
 u0:0<=L.2.2.2.1
 u1:L.2.2.2.1<=2
 e0:1<=L.2.2.2.2.1
 e1:L.2.2.2.2.1<=400
 m0:L.2.2.2.2.2.1≠[]
theorem Rt.step{L:cb}(h:Rt L):1<=fE L/\fE L<=2800:=by
 have:=h.e0;have:=h.e1;unfold fE;split<;>omega
noncomputable def hO(o:Int)(l:bA)(L:cb)(k:Int):Option Int:=
 if L.2.2.2.1=0 then (fO o l (eJ L 0)).bind λt=>if t+3600*L.2.2.2.2.1*k<=8589934592 then some (t+3600*L.2.2.2.2.1*k) else none
 else fO o l (eJ L k)
section
variable{o:Int}{l:bA}(ht:gU o l){L:cb}(h:Rt L)
include ht h
theorem Fh{k t:Int}(hk:0<=k)(he:hO o l L k=some t):0<=t/\t<=8589934592/\k<=2386092:=by
 have hs:=h.step;have Pd:=h.d0;have wy:=h.e0;have ng:=h.c0;unfold hO at he;by_cases h0:L.2.2.2.1=0
 .rw[if_pos h0]at he;cases hf:fO o l (eJ L 0) with
  |none=>rw[hf]at he;simp at he
  |some v=>
   rw[hf]at he;simp only[j3]at he;have hv:=Iw ht hf;have hm:3600*k<=3600*L.2.2.2.2.1*k:=v6 (by omega) hk;split at he
   .simp at he;omega
   .simp at he
 .rw[if_neg h0]at he;have hv:=Iw ht he;have hm:k*1<=k*fE L:=Int.mul_le_mul_of_nonneg_left hs.1 hk;unfold eJ at hv;omega
theorem jvL{k t:Int}(he:hO o l L (k+1)=some t):∃v,hO o l L k=some v/\v<=t:=by
 have hs:=h.step;have wy:=h.e0;unfold hO at he ⊢;by_cases h0:L.2.2.2.1=0
 .rw[if_pos h0]at he ⊢;cases hf:fO o l (eJ L 0) with
  |none=>rw[hf]at he;simp at he
  |some v=>
   rw[hf]at he;simp only[j3]at he ⊢;have hm:3600*L.2.2.2.2.1*(k+1)=3600*L.2.2.2.2.1*k+3600*L.2.2.2.2.1:=by rw[Int.mul_add,Int.mul_one]
   split at he
   .rw[if_pos (by omega)];simp at he;exact⟨_,rfl,by omega⟩
   .simp at he
 .rw[if_neg h0]at he ⊢;have hm:(k+1)*fE L=k*fE L+fE L:=by rw[Int.add_mul,Int.one_mul]
  exact jxx ht (by unfold eJ;rw[hm];omega) he
def QO(o:Int)(l:bA)(L:cb)(t k:Int):Prop:=∃v,hO o l L k=some v/\v<=t
theorem QO.down{t:Int}:∀(n:Nat){k:Int},QO o l L t (k+n)->QO o l L t k
 |0,k,hq=>by rwa[show k+((0:Nat):Int)=k by omega]at hq
 |n+1,k,hq=>by
  rw[show k+((n+1:Nat):Int)=k+(n:Int)+1 by omega]at hq;obtain⟨v,hv,sE⟩:=hq;obtain⟨v',gx,hl⟩:=jvL ht h (k:=k+(n:Int)) hv;exact QO.down n ⟨v',gx,by omega⟩
theorem QO.le{t k j:Int}(ee:k<=j)(hq:QO o l L t j):QO o l L t k:=by
 refine QO.down ht h (j-k).toNat ?_;rwa[show k+(((j-k).toNat:Nat):Int)=j by omega]
def mm(o:Int)(l:bA)(L:cb)(t K:Int):Prop:=(K = -1/\¬QO o l L t 0)\/(0<=K/\QO o l L t K/\¬QO o l L t (K+1))
theorem mm.uniq{t K K':Int}(a:mm o l L t K)(b:mm o l L t K'):K=K':=by
 rcases a with⟨a1,a2⟩|⟨a1,a2,a3⟩<;>rcases b with⟨b1,b2⟩|⟨b1,b2,b3⟩
 .omega
 .exact absurd (QO.le ht h b1 b2) a2
 .exact absurd (QO.le ht h a1 a2) b2
 .rcases Int.lt_trichotomy K K' with ak|heq|Bu
  .exact absurd (QO.le ht h (by omega) b2) a3
  .exact heq
  .exact absurd (QO.le ht h (by omega) a2) b3
theorem QO.day{t k:Int}(h0:L.2.2.2.1≠0)(hq:QO o l L t k){j:Nat}(hj:j<=l.length):L.2.2.1.1+k*fE L<=(t+cu o l j)/86400+2:=by
 obtain⟨v,hv,sE⟩:=hq;unfold hO at hv;rw[if_neg h0]at hv;have:=Iw ht hv;have o0:=ht.of0 j hj;have ng:=h.c0;unfold eJ at this;omega
end
theorem Xe{L:cb}(h:Rt L):j8O L=some (fE L):=by
 have:=h.e0;have:=h.e1;simp only[j8O,fE];by_cases h2:L.2.2.2.1=2
 .rw[ff h2,j5,if_pos h2,aj (by omega) (by omega)]
 .rw[cP h2,j6,if_neg h2]
def Fi(r:Option (Int×Bool))(x:Option Int):Prop:=∃v,r=some (v,x.isSome)/\∀t,x=some t->v=t
theorem pw{o:Int}{l:bA}(ht:gU o l){L:cb}(h:Rt L){k:Int}(hk:0<=k)(gn:k<=8589934592):Fi (j0H (o,l) L k) (hO o l L k):=by
 have hs:=h.step;have Pd:=h.d0;have pN:=h.d1;have ng:=h.c0;have fc:=h.c1;have wy:=h.e0;have CG:=h.e1;have gz:j8O (L.1,L.2.1,(L.2.2.1.1,L.2.2.1.2),L.2.2.2.1,L.2.2.2.2.1,L.2.2.2.2.2.1,L.2.2.2.2.2.2.1,L.2.2.2.2.2.2.2.1,L.2.2.2.2.2.2.2.2)=_:=Xe h;simp only[Fi,j0H,gz,j3];rw[ao (show¬k>8589934592 by omega),j6];by_cases h0:L.2.2.2.1=0
 .have hF:=Xd ht (d:=L.2.2.1.1) (c:=L.2.2.1.2) (by omega) (by omega) ng fc;have jG:L.2.2.1.1*86400+L.2.2.1.2=eJ L 0:=by unfold eJ;omega
  have yV:0<=3600*L.2.2.2.2.1*k:=Int.mul_nonneg (by omega) hk;have gp:3600*L.2.2.2.2.1*k<=3600*400*8589934592:=Int.mul_le_mul (by omega) gn hk (by omega);rw[show (L.2.2.2.1 != 0)=false by rw[h0];rfl,j6,hF,jG];simp only[j3];unfold hO;rw[if_pos h0];cases hf:fO o l (eJ L 0) with
  |none=>exact⟨_,rfl,λt h=>by simp at h⟩
  |some v=>
   have hv:=Iw ht hf;simp only[vb,ve,j5,j3,aj (x:=3600*L.2.2.2.2.1) (show -9223372036854775808<=_ by omega) (by omega),aj (x:=3600*L.2.2.2.2.1*k) (show -9223372036854775808<=_ by omega) (by omega),aj (x:=v+3600*L.2.2.2.2.1*k) (show -9223372036854775808<=_ by omega) (by omega)];by_cases hle:v+3600*L.2.2.2.2.1*k<=8589934592
   .rw[if_pos hle,ag hle];exact⟨_,rfl,λt h=>by simpa using h⟩
   .rw[if_neg hle,ao hle];exact⟨_,rfl,λt h=>by simp at h⟩
 .have yV:0<=k*fE L:=Int.mul_nonneg hk (by omega);have gp:k*fE L<=8589934592*2800:=Int.mul_le_mul gn hs.2 (by omega) (by omega);rw[show (L.2.2.2.1 != 0)=true by simp[h0],j5,aj (x:=k*fE L) (by omega) (by omega),aj (x:=L.2.2.1.1+k*fE L) (by omega) (by omega),Xd ht (by omega) (by omega) ng fc];simp only[j3];unfold hO;rw[if_neg h0];exact⟨_,rfl,λt h=>by have h:fO o l ((L.2.2.1.1+k*fE L)*86400+L.2.2.1.2)=some t:=h;rw[h];rfl⟩
theorem Xf{o:Int}{l:bA}(ht:gU o l){L:cb}(h:Rt L){t N:Int}(hN:N<=8589934592)(iE:QO o l L t 0):∀n:Nat,(n:Int)<=N->
  ∃k:Int,HK t (n:Int) o l L.1 L.2.1 L.2.2.1.1 L.2.2.1.2 L.2.2.2.1 L.2.2.2.2.1 L.2.2.2.2.2.1 L.2.2.2.2.2.2.1 L.2.2.2.2.2.2.2.1 L.2.2.2.2.2.2.2.2=
   some (t,k,o,l,L.1,L.2.1,L.2.2.1.1,L.2.2.1.2,L.2.2.2.1,L.2.2.2.2.1,L.2.2.2.2.2.1,L.2.2.2.2.2.2.1,L.2.2.2.2.2.2.2.1,L.2.2.2.2.2.2.2.2)/\0<=k/\QO o l L t k
 |0,_=>by
  rw[U2];simp only[j34];rw[ao (by omega),j6,aY];exact⟨_,rfl,by omega,iE⟩
 |n+1,hn=>by
  obtain⟨k,e,k0,k1⟩:=Xf ht h hN iE n (by omega);obtain⟨v,hH,hv⟩:=pw ht h (k:=((n+1:Nat):Int)) (by omega) (by omega);rw[U2];simp only[j34];rw[ag (by omega),j5,show j0H (o,l) (L.1,L.2.1,(L.2.2.1.1,L.2.2.1.2),L.2.2.2.1,L.2.2.2.2.1,L.2.2.2.2.2.1,L.2.2.2.2.2.2.1,L.2.2.2.2.2.2.2.1,L.2.2.2.2.2.2.2.2) ((n+1:Nat):Int)=_ from hH];simp only[j3];rw[aj (x:=((n+1:Nat):Int)-1) (by omega) (by omega),show ((n+1:Nat):Int)-1=(n:Int) by omega];cases hx:hO o l L ((n+1:Nat):Int) with
  |none=>simp only[yh,j6,aP];exact⟨k,e,k0,k1⟩
  |some x=>
   have:=hv x hx;subst this;simp only[ve,j5];by_cases hc:v<=t
   .rw[ag hc,j5,aY];exact⟨_,rfl,by omega,v,hx,hc⟩
   .rw[ao hc,j6,aP];exact⟨k,e,k0,k1⟩
theorem Xg{o:Int}{l:bA}(ht:gU o l){L:cb}(h:Rt L){t:Int}:∀(n:Nat)(k:Int),k+n=2386093->0<=k->QO o l L t k->
  ∃K:Int,HM t k o l L.1 L.2.1 L.2.2.1.1 L.2.2.1.2 L.2.2.2.1 L.2.2.2.2.1 L.2.2.2.2.2.1 L.2.2.2.2.2.2.1 L.2.2.2.2.2.2.2.1 L.2.2.2.2.2.2.2.2=some K/\0<=K/\QO o l L t K/\¬QO o l L t (K+1)
 |0,k,hn,hk,hq=>by
  obtain⟨v,hv,_⟩:=hq;have:=Fh ht h hk hv;omega
 |n+1,k,hn,hk,hq=>by
  obtain⟨v,hH,hv⟩:=pw ht h (k:=k+1) (by omega) (by omega);rw[jfh];simp only[j4s];rw[aj (x:=k+1) (by omega) (by omega),show j0H (o,l) (L.1,L.2.1,(L.2.2.1.1,L.2.2.1.2),L.2.2.2.1,L.2.2.2.2.1,L.2.2.2.2.2.1,L.2.2.2.2.2.2.1,L.2.2.2.2.2.2.2.1,L.2.2.2.2.2.2.2.2) (k+1)=_ from hH];simp only[j3];cases hx:hO o l L (k+1) with
  |none=>simp only[yh,kf,j5,aY];exact⟨k,rfl,hk,hq,λ⟨y,hy,_⟩=>by rw[hx]at hy;simp at hy⟩
  |some x=>
   have:=hv x hx;subst this;simp only[ve,jw,j6];by_cases hc:v>t
   .rw[ag hc,j5,aY];exact⟨k,rfl,hk,hq,λ⟨y,hy,GU⟩=>by rw[hx]at hy;simp at hy;omega⟩
   .rw[ao hc,j6,aP];exact Xg ht h n (k+1) (by omega) (by omega) ⟨v,hx,by omega⟩
theorem jvM{o:Int}{l:bA}{L:cb}(h:Rt L){t v:Int}(h0:L.2.2.2.1=0)(xI:t<=8589934592)(hf:fO o l (eJ L 0)=some v)(sE:v<=t)(hv0:0<=v) :
  mm o l L t ((t-v)/(3600*L.2.2.2.2.1))/\0<=(t-v)/(3600*L.2.2.2.2.1)/\(t-v)/(3600*L.2.2.2.2.1)<=8589934592:=by
 have wy:=h.e0;have CG:=h.e1;have q0:0<=(t-v)/(3600*L.2.2.2.2.1):=Int.ediv_nonneg (by omega) (by omega);have q1:3600*L.2.2.2.2.1*((t-v)/(3600*L.2.2.2.2.1))<=t-v:=Int.mul_ediv_self_le (by omega);have q2:t-v<3600*L.2.2.2.2.1*((t-v)/(3600*L.2.2.2.2.1))+3600*L.2.2.2.2.1:=Int.lt_mul_ediv_self_add (by omega);have q3:(t-v)/(3600*L.2.2.2.2.1)<=t-v:=Int.ediv_le_self _ (by omega);generalize (t-v)/(3600*L.2.2.2.2.1)=K at *;refine⟨.inr ⟨q0,⟨v+3600*L.2.2.2.2.1*K,?_,by omega⟩,?_⟩,q0,by omega⟩
 .unfold hO;rw[if_pos h0,hf];simp only[j3];rw[if_pos (by omega)]
 .rintro⟨y,hy,GU⟩
  unfold hO at hy;rw[if_pos h0,hf]at hy;simp only[j3,Int.mul_add,Int.mul_one]at hy;split at hy
  .simp at hy;omega
  .simp at hy
theorem jxy{o:Int}{l:bA}{L:cb}(h0:L.2.2.2.1=0){v:Int}(hv:hO o l L 0=some v):fO o l (eJ L 0)=some v:=by
 unfold hO at hv;rw[if_pos h0]at hv;cases hf:fO o l (eJ L 0) with
 |none=>rw[hf]at hv;simp at hv
 |some x=>
  rw[hf]at hv;simp only[j3,Int.mul_zero,zd]at hv;split at hv
  .simpa using hv
  .simp at hv
theorem jzJ{o:Int}{l:bA}(ht:gU o l){L:cb}(h:Rt L){t:Int}(h0t:0<=t)(xI:t<=8589934592):∃K:Int,j3H (o,l) L t=some K/\mm o l L t K:=by
 have hs:=h.step;have Pd:=h.d0;have pN:=h.d1;have wy:=h.e0;have CG:=h.e1;obtain⟨v0,hH,hv⟩:=pw ht h (k:=0) (by omega) (by omega);have gz:j8O (L.1,L.2.1,(L.2.2.1.1,L.2.2.1.2),L.2.2.2.1,L.2.2.2.2.1,L.2.2.2.2.2.1,L.2.2.2.2.2.2.1,L.2.2.2.2.2.2.2.1,L.2.2.2.2.2.2.2.2)=_:=Xe h;simp only[j3H,show j0H (o,l) (L.1,L.2.1,(L.2.2.1.1,L.2.2.1.2),L.2.2.2.1,L.2.2.2.2.1,L.2.2.2.2.2.1,L.2.2.2.2.2.2.1,L.2.2.2.2.2.2.2.1,L.2.2.2.2.2.2.2.2) 0=_ from hH,gz,j3];cases hx:hO o l L 0 with
 |none=>simp only[yh,kf,j5];exact⟨-1,rfl,.inl ⟨rfl,λ⟨y,hy,_⟩=>by rw[hx]at hy;simp at hy⟩⟩
 |some v=>
  have:=hv v hx;subst this;simp only[ve,jw,j6];by_cases hc:v0>t
  .rw[ag hc,j5];exact⟨-1,rfl,.inl ⟨rfl,λ⟨y,hy,GU⟩=>by rw[hx]at hy;simp at hy;omega⟩⟩
  .rw[ao hc,j6];have hq:QO o l L t 0:=⟨v0,hx,by omega⟩;have hva:=Fh ht h (k:=0) (by omega) hx;by_cases h0:L.2.2.2.1=0
   .obtain⟨s1,s2,s3⟩:=jvM (o:=o) (l:=l) h h0 xI (jxy h0 hx) (by omega) hva.1;rw[ff h0,j5,aj (x:=t-v0) (by omega) (by omega),aj (x:=3600*L.2.2.2.2.1) (by omega) (by omega),cP (show¬3600*L.2.2.2.2.1=0 by omega),vk (by omega),aj (x:=(t-v0)/(3600*L.2.2.2.2.1)) (by omega) (by omega)];exact⟨_,rfl,s1⟩
   .obtain⟨j,hj,j1,j2⟩:=wM ht h0t xI;have o0:=ht.of0 j hj;have o1:=ht.of1 j hj;rw[cP h0,j6,Ie ht hj j1 j2];simp only[j3];generalize JX:(t+cu o l j)/86400=ld;rw[cP (show¬fE L=0 by omega),aj (x:=ld-L.2.2.1.1) (by omega) (by omega)];simp only[kf,j5]
    obtain⟨n,hn,tI⟩:∃n:Nat,(if w64 (Int.tdiv (ld-L.2.2.1.1) (fE L))>0 then w64 (Int.tdiv (ld-L.2.2.1.1) (fE L)) else 0)=(n:Int)/\(n:Int)<=8589934592:=by
     by_cases gl:0<=ld-L.2.2.1.1
     .rw[vk gl];have q0:0<=(ld-L.2.2.1.1)/fE L:=Int.ediv_nonneg gl (by omega);have q1:(ld-L.2.2.1.1)/fE L<=ld-L.2.2.1.1:=Int.ediv_le_self _ gl;rw[aj (by omega) (by omega)];refine⟨((ld-L.2.2.1.1)/fE L).toNat,?_,?_⟩
      .split<;>omega
      .omega
     .have e:Int.tdiv (ld-L.2.2.1.1) (fE L) = -((-(ld-L.2.2.1.1))/fE L):=by rw[<-vk (by omega),Int.neg_tdiv,Int.neg_neg]
      have q0:0<=(-(ld-L.2.2.1.1))/fE L:=Int.ediv_nonneg (by omega) (by omega);have q1:(-(ld-L.2.2.1.1))/fE L <= -(ld-L.2.2.1.1):=Int.ediv_le_self _ (by omega);rw[e,aj (by omega) (by omega),if_neg (by omega)];exact⟨0,rfl,by omega⟩
    rw[hn];obtain⟨k,e,k0,k1⟩:=Xf ht h (ke _) hq n tI;have sK:=k1;obtain⟨y,hy,_⟩:=sK;have bR:=Fh ht h k0 hy;obtain⟨K,e2,K0,K1,K2⟩:=Xg ht h (t:=t) (2386093-k).toNat k (by omega) k0 k1;simp only[e,j3,e2];exact⟨K,rfl,.inr ⟨K0,K1,K2⟩⟩
end Go.Proofs.Pw
