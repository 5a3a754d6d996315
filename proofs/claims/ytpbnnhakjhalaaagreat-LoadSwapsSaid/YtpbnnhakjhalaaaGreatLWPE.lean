/- jR 4: the uG transitions, Gd and qF are Us of the program. -/
import Derived.Test.YtpbnnhakjhalaaaGreatLWPD
open Go Go.Lft
namespace Go.Proofs.Pw
theorem ru{n lo hi:Int}(h1:lo<=n)(h2:n<=hi):jch n lo hi=some true:=by
 simp only[jch];rw[ag (show n>=lo from h1),ag h2];rfl
theorem jrY{r:aU}(h:jT r):jeb r=some true:=by
 simp only[jeb,ru h.y0 (show r.1<=2240 by have:=h.y1;have:=h.y2;omega),ru h.y1 h.y2,ru h.m0 h.m1,ru h.k0 h.k1,ru h.d0 h.d1,ru h.s0 h.s1,ru h.o0 h.o1,j3,j5]
theorem Ut(x:Int×Int):∀l:bC,kC x l=l.takeWhile (λy=>decide (x.1<y.1))++x::l.dropWhile (λy=>decide (x.1<y.1))
 |[]=>rfl
 |y::ys=>by
  unfold kC;by_cases h:x.1<y.1
  .rw[if_pos h,Ut x ys];simp[h]
  .rw[if_neg h];simp[h]
theorem Uu{rs:List aU}{i y a b:Int}:∀(rp mid:bC),rp.length+mid.length<=100000->
  BP rs i y (rp.length:Int) a b (rp.reverse++mid)=some (rs,i,y,((rp.dropWhile (λz=>decide (a<z.1))).length:Int),a,b,rp.reverse++mid)
 |[],mid,_=>by
  rw[RN];simp only[j2g];rw[aj (by simp),j6,aY];rfl
 |z::zs,mid,hl=>by
  have hL:((z::zs).reverse++mid).length=zs.length+1+mid.length:=by simp;omega
  simp only[jo]at hl;have g2:((z::zs).reverse++mid).getD ((((zs.length+1:Nat):Int)-1).toNat) ((0:Int),(0:Int))=z:=by rw[show (((zs.length+1:Nat):Int)-1).toNat=zs.length by omega];simp
  rw[RN];simp only[j2g,jo];simp only[ah (x:=((zs.length+1:Nat):Int)-1) (by omega) (by omega),g2];rw[ag (show ((zs.length+1:Nat):Int)>0 by omega),aZ (by omega) (by rw[hL];omega)];simp only[j5];by_cases hc:a<z.1
  .rw[ag (show z.1>a from hc)];simp only[j5,aQ];have ih:=Uu (rs:=rs) (i:=i) (y:=y) (a:=a) (b:=b) zs (z::mid) (by simp;omega);have e:(z::zs).reverse++mid=zs.reverse++z::mid:=by simp
   rw[e,show ((zs.length+1:Nat):Int)-1=(zs.length:Int) by omega,ih];simp[hc]
  .rw[aj (show¬z.1>a from hc)];simp only[j6,aY];simp[hc]
theorem jvM(l:bC)(x:Int×Int){k:Nat}(hk:k<=l.length):List.set (over (l++[x]) (k+1) (List.drop k (l++[x]))) k x=l.take k++x::l.drop k:=by
 have h1:(l++[x]).length=l.length+1:=by simp
 unfold over;rw[h1,jc (show (l++[x]).length<=k+1+(List.drop k (l++[x])).length by simp;omega),qe];have e1:List.drop k (l++[x])=List.drop k l++[x]:=by rw[List.drop_append_of_le_length hk]
 rw[e1];have e2:List.take (l.length+1-(k+1)) (List.drop k l++[x])=List.drop k l:=by rw[qp (by simp),List.take_of_length_le (by simp)]
 rw[e2];by_cases h:k<l.length
 .have e3:List.take (k+1) (l++[x])=l.take k++[l[k]]:=by rw[qp (by omega),List.take_succ_eq_append_getElem h]
  rw[e3,jg,zq _ _ (by simp;omega)];simp[Nat.min_eq_left hk]
 .have bf:k=l.length:=by omega
  subst bf;have e3:List.take (l.length+1) (l++[x])=l++[x]:=List.take_of_length_le (by simp);rw[e3];simp
theorem Uv{rs:List aU}{i:Nat}(hi:i<rs.length){r:aU}(hr:rs[i]=r)(h:jT r):∀(n j:Nat)(acc:bC),r.1+(j:Int)+n=r.2.1+1->acc.length+n<=90000->
  E7 rs (i:Int) (r.1+(j:Int)) acc.reverse=some (rs,(i:Int),(jA ((List.range n).map λ(q:Nat)=>ct r (r.1+(j:Int)+(q:Int))) acc).reverse)
 |0,j,acc,hj,_=>by
  have hg:rs.getD i ((0:Int),((0:Int),((0:Int),((0:Int),((0:Int),((0:Int),(0:Int)))))))=r:=by simp[hi,hr]
  rw[RO];simp only[j2h];rw[aZ (by omega) (by omega)];simp only[j5,j7,hg];rw[aj (by omega),j6,aY];rfl
 |n+1,j,acc,hj,hl=>by
  have hg:rs.getD i ((0:Int),((0:Int),((0:Int),((0:Int),((0:Int),((0:Int),(0:Int)))))))=r:=by simp[hi,hr]
  have h0:=h.y0;have h2:=h.y2;have iD:=h.s0;have mc:=h.s1;have hv:=C1 (C2 (r.1+(j:Int)) r.2.2.1 (by omega) (by omega) h.m0 h.m1);have hn:=MM (w:=r.2.2.2.2.1) (y:=r.1+(j:Int)) (by omega) (by omega) h.m0 h.m1 h.k0 h.k1;have hd:=qB (r.1+(j:Int)) r.2.2.1;rw[RO];simp only[j2h];rw[aZ (by omega) (by omega)];simp only[j5,j7,hg];rw[ag (show r.1+(j:Int)<=r.2.1 by omega),fF _ _ _ _ (by omega) (by omega) h.m0 h.m1 h.k0 h.k1 h.d0 h.d1];simp only[j5,j3];rw[ah (x:=nth (r.1+(j:Int)) r.2.2.1 r.2.2.2.1 r.2.2.2.2.1*86400) (by omega) (by omega),ah (x:=nth (r.1+(j:Int)) r.2.2.1 r.2.2.2.1 r.2.2.2.2.1*86400+r.2.2.2.2.2.1) (by omega) (by omega)];have yF:=Uu (rs:=rs) (i:=(i:Int)) (y:=r.1+(j:Int)) (a:=(ct r (r.1+(j:Int))).1) (b:=(ct r (r.1+(j:Int))).2) acc [] (by simp;omega);rw[qe]at yF;rw[show Int.ofNat (List.length acc.reverse)=(acc.length:Int) by simp];rw[show BP rs (i:Int) (r.1+(j:Int)) (acc.length:Int) (nth (r.1+(j:Int)) r.2.2.1 r.2.2.2.1 r.2.2.2.2.1*86400+r.2.2.2.2.2.1) r.2.2.2.2.2.2 acc.reverse=_ from yF];simp only[j3];generalize hx:ct r (r.1+(j:Int))=x at *;have rZ:(acc.dropWhile (λz=>decide (x.1<z.1))).length<=acc.length:=(List.dropWhile_sublist _).length_le;generalize hD:acc.dropWhile (λz=>decide (x.1<z.1))=D at *;have uH:(acc.reverse++[(x.1,x.2)]).length=acc.length+1:=by simp
  rw[ag (by simp[aP];omega)];simp only[j5]
  rw[ah (x:=(D.length:Int)+1) (by omega) (by omega),ag (show (0:Int)<=(D.length:Int)+1 by omega),ag (show (D.length:Int)+1<=Int.ofNat (acc.reverse++[(x.1,x.2)]).length by rw[uH];show (D.length:Int)+1<=((acc.length+1:Nat):Int);omega),
   ag (show (0:Int)<=(D.length:Int) by omega),ag (show (D.length:Int)<=Int.ofNat (acc.reverse++[(x.1,x.2)]).length by rw[uH];show (D.length:Int)<=((acc.length+1:Nat):Int);omega)]
  simp only[Bool.and_self,j5,j7,show ((D.length:Int)+1).toNat=D.length+1 by omega];have vJ:(over (acc.reverse++[(x.1,x.2)]) (D.length+1) (List.drop D.length (acc.reverse++[(x.1,x.2)]))).length=acc.length+1:=by unfold over;simp;omega
  rw[aZ (by omega) (by rw[vJ];omega),jvM acc.reverse (x.1,x.2) (by simpa using rZ)];simp only[j5];rw[ah (x:=r.1+(j:Int)+1) (by omega) (by omega),aQ];have w8:acc.reverse.take D.length++(x.1,x.2)::acc.reverse.drop D.length=(kC x acc).reverse:=by have cP:=List.takeWhile_append_dropWhile (p:=λz:Int×Int=>decide (x.1<z.1)) (l:=acc);rw[Ut,hD];rw[hD]at cP;generalize acc.takeWhile (λz=>decide (x.1<z.1))=T at cP ⊢;rw[<-cP];simp
  rw[w8];have ih:=Uv hi hr h n (j+1) (kC x acc) (by omega) (by rw[CY];omega);rw[show r.1+(j:Int)+1=r.1+((j+1:Nat):Int) by omega];refine ih.trans ?_
  have w9:(List.range n).map (λ(q:Nat)=>ct r (r.1+((j+1:Nat):Int)+(q:Int)))=(List.range n).map ((λ(q:Nat)=>ct r (r.1+(j:Int)+(q:Int))) ∘ Nat.succ):=List.map_congr_left λq _=>by
   simp only[Function.comp];congr 1;omega
  rw[List.range_succ_eq_map,ka,vz,w9];simp[jA,hx]
theorem Uw:∀(a b acc:bC),jA (a++b) acc=jA b (jA a acc)
 |[],_,_=>rfl
 |x::a,b,acc=>by simp only[vc,jA];exact Uw a b _
theorem Ux{rs:List aU}(h:∀r∈rs,jT r)(hlen:rs.length<=100):∀(n i:Nat)(acc:bC),i+n=rs.length->acc.length<=300*i->
  BQ rs (i:Int) acc.reverse=some (jA (occs (rs.drop i)) acc).reverse
 |0,i,acc,hi,_=>by
  rw[RP];simp only[j2i,show Int.ofNat (List.length rs)=(rs.length:Int) from rfl];rw[aj (by omega),j6,aY,jc (by omega)];rfl
 |n+1,i,acc,hi,hl=>by
  have au:i<rs.length:=by omega
  have hr:=h rs[i] (jh au);have h0:=hr.y0;have h1:=hr.y1;have h2:=hr.y2;have hg:rs.getD i ((0:Int),((0:Int),((0:Int),((0:Int),((0:Int),((0:Int),(0:Int)))))))=rs[i]:=by simp[au]
  have qR:=Uv au rfl hr (rs[i].2.1-rs[i].1+1).toNat 0 acc (by omega) (by omega);rw[show rs[i].1+((0:Nat):Int)=rs[i].1 by omega]at qR;have ih:=Ux h hlen n (i+1) (jA (fp rs[i]) acc) (by omega) (by rw[CZ];simp[fp];omega);rw[RP];simp only[j2i,show Int.ofNat (List.length rs)=(rs.length:Int) from rfl];rw[ag (show (i:Int)<(rs.length:Int) by omega),aZ (by omega) (by omega)];simp only[j5,j7,hg,qR,j3];rw[ah (by omega) (by omega),aQ,jb au];refine ih.trans ?_;show _=some (jA (fp rs[i]++occs (rs.drop (i+1))) acc).reverse;rw[Uw]
theorem jvN{rs:List aU}(h:∀r∈rs,jT r)(hlen:rs.length<=100):j7U rs=some (eh (occs rs)):=by
 have e:=Ux h hlen rs.length 0 [] (by omega) (by simp);simp only[j7U];rw[show BQ rs 0 []=_ from e];rfl
theorem Uy{rs:List aU}(h:∀r∈rs,jT r)(hlen:rs.length<=100)(nm:ByteArray)(o:Int):∀(n i:Nat)(s:Int),i+n=rs.length->0<=s->s<=300*i->
  BR s (i:Int) nm o rs=some (.inr (s+((occs (rs.drop i)).length:Int),nm,o,rs))
 |0,i,s,hi,_,_=>by
  rw[RQ];simp only[j2j,show Int.ofNat (List.length rs)=(rs.length:Int) from rfl];rw[aj (by omega),j6,aY,jc (by omega)];simp[occs]
 |n+1,i,s,hi,iD,mc=>by
  have au:i<rs.length:=by omega
  have hr:=h rs[i] (jh au);have h0:=hr.y0;have h1:=hr.y1;have h2:=hr.y2;have hg:rs.getD i ((0:Int),((0:Int),((0:Int),((0:Int),((0:Int),((0:Int),(0:Int)))))))=rs[i]:=by simp[au]
  have ih:=Uy h hlen nm o n (i+1) (s+(rs[i].2.1-rs[i].1+1)) (by omega) (by omega) (by omega);have qC:jeb (rs[i].1,(rs[i].2.1,(rs[i].2.2.1,(rs[i].2.2.2.1,(rs[i].2.2.2.2.1,(rs[i].2.2.2.2.2.1,rs[i].2.2.2.2.2.2))))))=some true:=jrY hr;rw[RQ];simp only[j2j,show Int.ofNat (List.length rs)=(rs.length:Int) from rfl];rw[ag (show (i:Int)<(rs.length:Int) by omega),aZ (by omega) (by omega)];simp only[j5,j7,hg,qC,j3,jn,j6];rw[ah (x:=rs[i].2.1-rs[i].1) (by omega) (by omega),ah (x:=rs[i].2.1-rs[i].1+1) (by omega) (by omega),ah (x:=s+(rs[i].2.1-rs[i].1+1)) (by omega) (by omega),ah (x:=(i:Int)+1) (by omega) (by omega),aQ];refine ih.trans ?_;rw[jb au]
  have:((occs (rs[i]::rs.drop (i+1))).length:Int)=(rs[i].2.1-rs[i].1+1)+((occs (rs.drop (i+1))).length:Int):=by
   have e1:(fp rs[i]).length=(rs[i].2.1-rs[i].1+1).toNat:=by simp[fp]
   show ((fp rs[i]++occs (rs.drop (i+1))).length:Int)=_;rw[je,e1];omega
  rw[this];congr 3;omega
theorem Nc(L:bC)(hL:L.length<=1000):∀(n i:Nat)(now:Int)(acc:bC),i+n=L.length -> -64800<=now->now<=64800->acc.length<=i->(∀x∈acc,0<=x.1/\x.1<=8589934592)->Good now (acc.getLast?.map (·.1)) (L.drop i)->
  BT now (i:Int) acc L=some (.inr (acc++bP now (L.drop i)))
 |0,i,now,acc,hi,_,_,_,_,_=>by
  rw[RR];simp only[j2k,show Int.ofNat (List.length L)=(L.length:Int) from rfl];rw[aj (by omega),j6,aY,jc (by omega)];simp[bP]
 |n+1,i,now,acc,hi,pb,nB,tK,ei,hg=>by
  have au:i<L.length:=by omega
  rw[jb au]at hg ⊢;have bh:L.getD i ((0:Int),(0:Int))=L[i]:=by simp[au]
  rw[RR];simp only[j2k,show Int.ofNat (List.length L)=(L.length:Int) from rfl];rw[ag (show (i:Int)<(L.length:Int) by omega),aZ (by omega) (by omega)];simp only[j5,j7,bh];generalize L[i]=x at *;rw[ah (x:=(i:Int)+1) (by omega) (by omega)];simp only[Good]at hg;by_cases hx:x.2=now
  .rw[if_pos hx]at hg;rw[eA hx];simp only[j5,aQ,bP];rw[if_pos hx];exact Nc L hL n (i+1) now acc (by omega) pb nB (by omega) ei hg
  .rw[if_neg hx]at hg;obtain⟨⟨g1,g2,g3,g4,g5,g6,g7⟩,g8⟩:=hg;rw[cB hx,ah (x:=x.1-now) (by omega) (by omega),ah (x:=x.2-now) (by omega) (by omega)];simp only[j6,ru (show (-86399:Int)<=x.2-now by omega) (show x.2-now<=86399 by omega),ru (show (0:Int)<=x.1-now by omega) (show x.1-now<=8589934592 by omega),j3,jn,show Int.ofNat (List.length acc)=(acc.length:Int) from rfl]
   have fT:=Nc L hL n (i+1) x.2 (acc++[(x.1-now,x.2)]) (by omega) g6 g7 (by simp;omega)
    (λy hy=>by
     rcases js.1 hy with hy|hy
     .exact ei y hy
     .simp at hy;subst hy;exact⟨by show (0:Int)<=x.1-now;omega,by show x.1-now<=8589934592;omega⟩) (by simpa using g8)
   have bW:bP now (x::L.drop (i+1))=(x.1-now,x.2)::bP x.2 (L.drop (i+1)):=by simp[bP,hx]
   rw[bW];rw[jg]at fT;rw[ah (x:=(acc.length:Int)-1) (by omega) (by omega)];by_cases ha:acc=[]
   .subst ha;simp only[ql];rw[show decide (((0:Nat):Int)>0)=false from rfl];simp only[j6];rw[ag (by simp[aP])];simp only[j5,aQ];exact fT
   .have bG:0<acc.length:=List.length_pos_iff.2 ha;have dK:acc.getLast? = some (acc.getD (acc.length-1) (0,0)):=by rw[List.getLast?_eq_getElem?,List.getD_eq_getElem?_getD,jj (show acc.length-1<acc.length by omega)];rfl
    rw[dK]at g5;have g5:(acc.getD (acc.length-1) ((0:Int),(0:Int))).1+604800<=x.1-now:=g5 _ rfl;have hb:=ei (acc.getD (acc.length-1) (0,0)) (List.mem_of_getLast? dK);rw[aZ (by omega) (by omega),ag (show (acc.length:Int)>0 by omega),show ((acc.length:Int)-1).toNat=acc.length-1 by omega];simp only[j5];rw[ah (by omega) (by omega),aj (show¬x.1-now-(acc.getD (acc.length-1) ((0:Int),(0:Int))).1<604800 by omega),ag (by simp[aP];omega)];simp only[j5,j6,aQ];exact fT
theorem jzG{nm:ByteArray}{o:Int}{rs:List aU}(h:∀r∈rs,jT r)(lx : -64800<=o)(jO:o<=64800)(hlen:rs.length<=16)(hn:(occs rs).length<=640)(hg:Good o none (eh (occs rs))) :
  j4U (nm,(o,rs))=some (bP o (eh (occs rs)),0):=by
 have hl:(eh (occs rs)).length<=1000:=by simp[eh,CZ];omega
 have e0:=Uy h (by omega) nm o rs.length 0 0 (by omega) (by omega) (by omega);rw[kc]at e0;have e2:=Nc (eh (occs rs)) hl (eh (occs rs)).length 0 o [] (by omega) lx jO (by simp) (by simp) hg;rw[kc]at e2;simp only[j4U,ru lx jO,j3,jn,j6,show Int.ofNat (List.length rs)=(rs.length:Int) from rfl];rw[aj (show¬(rs.length:Int)>16 by omega),j6,show BR 0 0 nm o rs=_ from e0];simp only[j3,lT];rw[aj (by omega),j6,jvN h (by omega)];simp only[j3];rw[show BT o 0 [] (eh (occs rs))=_ from e2];rfl
def Z4(z:ByteArray×(Int×List aU))(l:bC):Prop:=j4U z=some (l,0)/\ic z.2.1 l
theorem MZ.r4{o:Int}{rs:List aU}(h:MZ o rs)(nm:ByteArray):Z4 (nm,(o,rs)) (bP o (eh (occs rs))):=by
 have ht:=h.tab nm;refine⟨jzG h.ok (by have:=h.o0;omega) (by have:=h.o1;omega) ?_ ?_ h.good,ht.2⟩
 .have:=h.len;omega
 .have:=h.few;omega
section
variable{o:Int}{l:bC}(h:ic o l)
include h
end
section
variable{z:ByteArray×(Int×List aU)}{l:bC}(h:Z4 z l)
include h
end
def xh(o:Int)(l:bC)(s:Int):Prop:=∀j,j<=l.length->bq l (j+1)<=s-cp o l j
noncomputable def fO(o:Int)(l:bC)(s:Int):Option Int:=open Classical in if h:∃t k,lU o l s t k then some (Classical.choose h) else none
theorem lU.uniq{o:Int}{l:bC}{s t t':Int}{k k':Nat}(f:lU o l s t k)(g:lU o l s t' k'):k=k'/\t=t':=by
 have hk:k=k':=by
  rcases vv k k' with au|heq|yL
  .have:=g.bef k au;have:=f.hks;omega
  .exact heq
  .have:=f.bef k' yL;have:=g.hks;omega
 subst hk;exact⟨rfl,by rw[f.ht,g.ht]⟩
theorem xi{o:Int}{l:bC}{s t:Int}{k:Nat}(f:lU o l s t k):fO o l s=some t:=by
 have he:∃t k,lU o l s t k:=⟨t,k,f⟩;unfold fO;rw[dif_pos he];obtain⟨k',g⟩:=Classical.choose_spec he;rw[(g.uniq f).2]
theorem xj{o:Int}{l:bC}{s:Int}(dO:xh o l s):fO o l s=none:=by
 unfold fO;rw[dif_neg]
 rintro⟨t,k,f⟩
 have:=dO k f.hk;have:=f.hks;omega
theorem Nd(o:Int)(l:bC)(s:Int):(∃t k,lU o l s t k)\/xh o l s:=by
 by_cases dO:xh o l s
 .exact .inr dO
 .left
  have:∃j,j<=l.length/\s-cp o l j<bq l (j+1):=by
   apply jm;intro hn
   exact dO λj hj=>by
    rcases Int.lt_or_le (s-cp o l j) (bq l (j+1)) with h|h
    .exact absurd ⟨j,hj,h⟩ hn
    .exact h
  obtain⟨j,hj,hjs⟩:=this;obtain⟨a,⟨ha,haN⟩,r5⟩:=AX (λj=>s-cp o l j<bq l (j+1)/\j<=l.length) j ⟨hjs,hj⟩;refine⟨_,a,haN,ha,λi hi=>?_,rfl⟩;rcases Int.lt_or_le (s-cp o l i) (bq l (i+1)) with h'|h'
  .have:=r5 i ⟨h',by omega⟩;omega
  .exact h'
theorem Ge{o:Int}{l:bC}{s t:Int}(he:fO o l s=some t):∃k,lU o l s t k:=by
 rcases Nd o l s with⟨t',k,f⟩|dO
 .rw[xi f]at he;simp at he;subst he;exact⟨k,f⟩
 .rw[xj dO]at he;simp at he
section
variable{o:Int}{l:bC}(h:ic o l)
include h
theorem Gf{s t:Int}(he:fO o l s=some t):s<=t+64800/\0<=t/\t<=8589934592:=by
 obtain⟨k,f⟩:=Ge he;obtain⟨p1,p2,p3⟩:=f.piece h;have o1:=h.of1 k f.hk;have g1:=h.frm_le (i:=0) (j:=k) (by omega) (by have:=f.hk;omega);have e0:bq l 0=0:=p9;have e1:bq l (l.length+1)=8589934593:=sH;have g2:=h.frm_le (i:=k+1) (j:=l.length+1) (by have:=f.hk;omega) (by omega);omega
theorem Uz{s:Int}(hs:8589934593+64800<=s):xh o l s:=λj hj=>by
 have o1:=h.of1 j hj;have e1:bq l (l.length+1)=8589934593:=sH;have g2:=h.frm_le (i:=j+1) (j:=l.length+1) (by omega) (by omega);omega
theorem jxv{s s' t':Int}(hs:s<=s')(he:fO o l s'=some t'):∃t,fO o l s=some t/\t<=t':=by
 obtain⟨k',g⟩:=Ge he;have g1:=g.hks;have bf:=g.hk;rcases Nd o l s with⟨t,k,f⟩|dO
 .refine⟨t,xi f,?_⟩;obtain⟨p1,p2,p3⟩:=f.piece h;obtain⟨q1,q2,q3⟩:=g.piece h;have f1:=f.ht;have g2:=g.ht;rcases vv k k' with au|heq|yL
  .have:=h.frm_le (i:=k+1) (j:=k') (by omega) (by omega);omega
  .subst heq;omega
  .have:=f.bef k' yL;omega
 .have:=dO k' bf;omega
theorem UA{d c s:Int}(iI:j3D (d,c)=some s)(iD : -1000000000000<=s)(mc:s<=1000000000000)(dO:xh o l s) :
  ∀(n i:Nat),i+n=l.length+1->Ck ((l.length+1:Nat):Int) (i:Int) d c (oI o l (l.length+1))=some (.inr ())
 |0,i,hi=>by
  rw[Fo];simp only[j13];rw[aj (by omega),j6,aY]
 |n+1,i,hi=>by
  have hlen:=h.len;have jX:i<=l.length:=by omega
  have o1:=h.of0 i jX;have o2:=h.of1 i jX;have hb:=dO i jX;have au:=h.frm_lt jX;rw[Fo];simp only[j13];rw[ag (show (i:Int)<((l.length+1:Nat):Int) by omega),aZ (by omega) (by rw[w7];omega)];simp only[j5,j7,MC (show i<l.length+1 by omega),iI,j3,pc];rw[ah (x:=s-cp o l i) (by omega) (by omega),ah (x:=(i:Int)+1) (by omega) (by omega)];have hm:(if s-cp o l i>bq l i then s-cp o l i else bq l i)=max (bq l i) (s-cp o l i):=by split<;>omega
  rw[hm,aj (by omega),j6,aQ];exact UA iI iD mc dO n (i+1) (by omega)
theorem Nf{d c s:Int}(iI:j3D (d,c)=some s)(iD : -1000000000000<=s)(mc:s<=1000000000000)(dO:xh o l s):j2s (o,l) (d,c)=some (0,false):=by
 have:=UA h iI iD mc dO (l.length+1) 0 (by omega);simp only[j2s,TC h,j3,w7,show Int.ofNat (List.length l+1)=((l.length+1:Nat):Int) from rfl];rw[show (0:Int)=((0:Nat):Int) from rfl,this];rfl
theorem UB{d c:Int}(hd : -1000000<=d)(me:d<=1000000000000000)(hc:0<=c)(gz:c<=86399) :
  j2s (o,l) (d,c)=some ((fO o l (d*86400+c)).getD 0,(fO o l (d*86400+c)).isSome):=by
 by_cases hb:d<=1000000
 .rcases Nd o l (d*86400+c) with⟨t,k,f⟩|dO
  .have e:=jvF h hd hb (by omega) (by omega) f.hk f.hks f.bef;rw[<-f.ht]at e;rw[xi f];exact e
  .rw[xj dO];exact Nf h (MD hd hb (by omega) (by omega)) (by omega) (by omega) dO
 .have dO:xh o l (d*86400+c):=Uz h (by omega);rw[xj dO];by_cases dH:d<=1048576
  .have iI:j3D (d,c)=some (d*86400+c):=by simp only[j3D];rw[if_neg (show¬(-1048576:Int)>d by omega),if_neg (show¬(1048576:Int)<d by omega),ah (x:=d*86400) (by omega) (by omega),ah (by omega) (by omega)]
   exact Nf h iI (by omega) (by omega) dO
  .have iI:j3D (d,c)=some (1048576*86400+c):=by simp only[j3D];rw[if_neg (show¬(-1048576:Int)>d by omega),if_pos (show (1048576:Int)<d by omega),ah (x:=1048576*86400) (by omega) (by omega),ah (by omega) (by omega)]
   exact Nf h iI (by omega) (by omega) (Uz h (by omega))
end
structure Rt(L:bM):Prop where
 d0:1<=L.2.2.1.1
 d1:L.2.2.1.1<=100000
 c0:0<=L.2.2.1.2
 c1:L.2.2.1.2<=86399
 u0:0<=L.2.2.2.1
 u1:L.2.2.2.1<=2
 e0:1<=L.2.2.2.2.1
 e1:L.2.2.2.2.1<=400
 m0:L.2.2.2.2.2.1≠[]
theorem Rt.step{L:bM}(h:Rt L):1<=fe L/\fe L<=2800:=by
 have:=h.e0;have:=h.e1;unfold fe;split<;>omega
noncomputable def hO(o:Int)(l:bC)(L:bM)(k:Int):Option Int:=
 if L.2.2.2.1=0 then (fO o l (ej L 0)).bind λt=>if t+3600*L.2.2.2.2.1*k<=8589934592 then some (t+3600*L.2.2.2.2.1*k) else none
 else fO o l (ej L k)
section
variable{o:Int}{l:bC}(ht:ic o l){L:bM}(h:Rt L)
include ht h
theorem Dh{k t:Int}(hk:0<=k)(he:hO o l L k=some t):0<=t/\t<=8589934592/\k<=2386092:=by
 have hs:=h.step;have MY:=h.d0;have uh:=h.e0;have mh:=h.c0;unfold hO at he;by_cases h0:L.2.2.2.1=0
 .rw[if_pos h0]at he;cases hf:fO o l (ej L 0) with
  |none=>rw[hf]at he;simp at he
  |some v=>
   rw[hf]at he;simp only[j3]at he;have hv:=Gf ht hf;have hm:3600*k<=3600*L.2.2.2.2.1*k:=Int.mul_le_mul_of_nonneg_right (by omega) hk;split at he
   .simp at he;omega
   .simp at he
 .rw[if_neg h0]at he;have hv:=Gf ht he;have hm:k*1<=k*fe L:=Int.mul_le_mul_of_nonneg_left hs.1 hk;unfold ej at hv;omega
theorem jvQ{k t:Int}(he:hO o l L (k+1)=some t):∃v,hO o l L k=some v/\v<=t:=by
 have hs:=h.step;have uh:=h.e0;unfold hO at he ⊢;by_cases h0:L.2.2.2.1=0
 .rw[if_pos h0]at he ⊢;cases hf:fO o l (ej L 0) with
  |none=>rw[hf]at he;simp at he
  |some v=>
   rw[hf]at he;simp only[j3]at he ⊢;have hm:3600*L.2.2.2.2.1*(k+1)=3600*L.2.2.2.2.1*k+3600*L.2.2.2.2.1:=by rw[Int.mul_add,Int.mul_one]
   split at he
   .rw[if_pos (by omega)];simp at he;exact⟨_,rfl,by omega⟩
   .simp at he
 .rw[if_neg h0]at he ⊢;have hm:(k+1)*fe L=k*fe L+fe L:=by rw[Int.add_mul,Int.one_mul]
  exact jxv ht (by unfold ej;rw[hm];omega) he
def QO(o:Int)(l:bC)(L:bM)(t k:Int):Prop:=∃v,hO o l L k=some v/\v<=t
theorem QO.down{t:Int}:∀(n:Nat){k:Int},QO o l L t (k+n)->QO o l L t k
 |0,k,hq=>by rwa[show k+((0:Nat):Int)=k by omega]at hq
 |n+1,k,hq=>by
  rw[show k+((n+1:Nat):Int)=k+(n:Int)+1 by omega]at hq;obtain⟨v,hv,tI⟩:=hq;obtain⟨v',fQ,hl⟩:=jvQ ht h (k:=k+(n:Int)) hv;exact QO.down n ⟨v',fQ,by omega⟩
theorem QO.le{t k j:Int}(dP:k<=j)(hq:QO o l L t j):QO o l L t k:=by
 refine QO.down ht h (j-k).toNat ?_;rwa[show k+(((j-k).toNat:Nat):Int)=j by omega]
def lD(o:Int)(l:bC)(L:bM)(t K:Int):Prop:=(K = -1/\¬QO o l L t 0)\/(0<=K/\QO o l L t K/\¬QO o l L t (K+1))
theorem lD.uniq{t K K':Int}(a:lD o l L t K)(b:lD o l L t K'):K=K':=by
 rcases a with⟨a1,a2⟩|⟨a1,a2,a3⟩<;>rcases b with⟨b1,b2⟩|⟨b1,b2,b3⟩
 .omega
 .exact absurd (QO.le ht h b1 b2) a2
 .exact absurd (QO.le ht h a1 a2) b2
 .rcases Int.lt_trichotomy K K' with au|heq|yL
  .exact absurd (QO.le ht h (by omega) b2) a3
  .exact heq
  .exact absurd (QO.le ht h (by omega) a2) b3
theorem QO.day{t k:Int}(h0:L.2.2.2.1≠0)(hq:QO o l L t k){j:Nat}(hj:j<=l.length):L.2.2.1.1+k*fe L<=(t+cp o l j)/86400+2:=by
 obtain⟨v,hv,tI⟩:=hq;unfold hO at hv;rw[if_neg h0]at hv;have:=Gf ht hv;have o0:=ht.of0 j hj;have mh:=h.c0;unfold ej at this;omega
end
theorem UC{L:bM}(h:Rt L):j8C L=some (fe L):=by
 have:=h.e0;have:=h.e1;simp only[j8C,fe];by_cases h2:L.2.2.2.1=2
 .rw[eA h2,j5,if_pos h2,ah (by omega) (by omega)]
 .rw[cB h2,j6,if_neg h2]
def Di(r:Option (Int×Bool))(x:Option Int):Prop:=∃v,r=some (v,x.isSome)/\∀t,x=some t->v=t
theorem nS{o:Int}{l:bC}(ht:ic o l){L:bM}(h:Rt L){k:Int}(hk:0<=k)(fL:k<=8589934592):Di (j0D (o,l) L k) (hO o l L k):=by
 have hs:=h.step;have MY:=h.d0;have qP:=h.d1;have mh:=h.c0;have fa:=h.c1;have uh:=h.e0;have AD:=h.e1;have hG:j8C (L.1,L.2.1,(L.2.2.1.1,L.2.2.1.2),L.2.2.2.1,L.2.2.2.2.1,L.2.2.2.2.2.1,L.2.2.2.2.2.2.1,L.2.2.2.2.2.2.2.1,L.2.2.2.2.2.2.2.2)=_:=UC h;simp only[Di,j0D,hG,j3];rw[aj (show¬k>8589934592 by omega),j6];by_cases h0:L.2.2.2.1=0
 .have hF:=UB ht (d:=L.2.2.1.1) (c:=L.2.2.1.2) (by omega) (by omega) mh fa;have iD:L.2.2.1.1*86400+L.2.2.1.2=ej L 0:=by unfold ej;omega
  have uE:0<=3600*L.2.2.2.2.1*k:=Int.mul_nonneg (by omega) hk;have gf:3600*L.2.2.2.2.1*k<=3600*400*8589934592:=Int.mul_le_mul (by omega) fL hk (by omega);rw[show (L.2.2.2.1 != 0)=false by rw[h0];rfl,j6,hF,iD];simp only[j3];unfold hO;rw[if_pos h0];cases hf:fO o l (ej L 0) with
  |none=>exact⟨_,rfl,λt h=>by simp at h⟩
  |some v=>
   have hv:=Gf ht hf;simp only[zg,zo,j5,j3,ah (x:=3600*L.2.2.2.2.1) (show -9223372036854775808<=_ by omega) (by omega),ah (x:=3600*L.2.2.2.2.1*k) (show -9223372036854775808<=_ by omega) (by omega),ah (x:=v+3600*L.2.2.2.2.1*k) (show -9223372036854775808<=_ by omega) (by omega)];by_cases hle:v+3600*L.2.2.2.2.1*k<=8589934592
   .rw[if_pos hle,ag hle];exact⟨_,rfl,λt h=>by simpa using h⟩
   .rw[if_neg hle,aj hle];exact⟨_,rfl,λt h=>by simp at h⟩
 .have uE:0<=k*fe L:=Int.mul_nonneg hk (by omega);have gf:k*fe L<=8589934592*2800:=Int.mul_le_mul fL hs.2 (by omega) (by omega);rw[show (L.2.2.2.1 != 0)=true by simp[h0],j5,ah (x:=k*fe L) (by omega) (by omega),ah (x:=L.2.2.1.1+k*fe L) (by omega) (by omega),UB ht (by omega) (by omega) mh fa];simp only[j3];unfold hO;rw[if_neg h0];exact⟨_,rfl,λt h=>by have h:fO o l ((L.2.2.1.1+k*fe L)*86400+L.2.2.1.2)=some t:=h;rw[h];rfl⟩
theorem UD{o:Int}{l:bC}(ht:ic o l){L:bM}(h:Rt L){t N:Int}(hN:N<=8589934592)(gY:QO o l L t 0):∀n:Nat,(n:Int)<=N->
  ∃k:Int,Fw t (n:Int) o l L.1 L.2.1 L.2.2.1.1 L.2.2.1.2 L.2.2.2.1 L.2.2.2.2.1 L.2.2.2.2.2.1 L.2.2.2.2.2.2.1 L.2.2.2.2.2.2.2.1 L.2.2.2.2.2.2.2.2=
   some (t,k,o,l,L.1,L.2.1,L.2.2.1.1,L.2.2.1.2,L.2.2.2.1,L.2.2.2.2.1,L.2.2.2.2.2.1,L.2.2.2.2.2.2.1,L.2.2.2.2.2.2.2.1,L.2.2.2.2.2.2.2.2)/\0<=k/\QO o l L t k
 |0,_=>by
  rw[SH];simp only[j2W];rw[aj (by omega),j6,aY];exact⟨_,rfl,by omega,gY⟩
 |n+1,hn=>by
  obtain⟨k,e,k0,k1⟩:=UD ht h hN gY n (by omega);obtain⟨v,hH,hv⟩:=nS ht h (k:=((n+1:Nat):Int)) (by omega) (by omega);rw[SH];simp only[j2W];rw[ag (by omega),j5,show j0D (o,l) (L.1,L.2.1,(L.2.2.1.1,L.2.2.1.2),L.2.2.2.1,L.2.2.2.2.1,L.2.2.2.2.2.1,L.2.2.2.2.2.2.1,L.2.2.2.2.2.2.2.1,L.2.2.2.2.2.2.2.2) ((n+1:Nat):Int)=_ from hH];simp only[j3];rw[ah (x:=((n+1:Nat):Int)-1) (by omega) (by omega),show ((n+1:Nat):Int)-1=(n:Int) by omega];cases hx:hO o l L ((n+1:Nat):Int) with
  |none=>simp only[vp,j6,aQ];exact⟨k,e,k0,k1⟩
  |some x=>
   have:=hv x hx;subst this;simp only[zo,j5];by_cases hc:v<=t
   .rw[ag hc,j5,aY];exact⟨_,rfl,by omega,v,hx,hc⟩
   .rw[aj hc,j6,aQ];exact⟨k,e,k0,k1⟩
theorem UE{o:Int}{l:bC}(ht:ic o l){L:bM}(h:Rt L){t:Int}:∀(n:Nat)(k:Int),k+n=2386093->0<=k->QO o l L t k->
  ∃K:Int,Fx t k o l L.1 L.2.1 L.2.2.1.1 L.2.2.1.2 L.2.2.2.1 L.2.2.2.2.1 L.2.2.2.2.2.1 L.2.2.2.2.2.2.1 L.2.2.2.2.2.2.2.1 L.2.2.2.2.2.2.2.2=some K/\0<=K/\QO o l L t K/\¬QO o l L t (K+1)
 |0,k,hn,hk,hq=>by
  obtain⟨v,hv,_⟩:=hq;have:=Dh ht h hk hv;omega
 |n+1,k,hn,hk,hq=>by
  obtain⟨v,hH,hv⟩:=nS ht h (k:=k+1) (by omega) (by omega);rw[jfB];simp only[j4o];rw[ah (x:=k+1) (by omega) (by omega),show j0D (o,l) (L.1,L.2.1,(L.2.2.1.1,L.2.2.1.2),L.2.2.2.1,L.2.2.2.2.1,L.2.2.2.2.2.1,L.2.2.2.2.2.2.1,L.2.2.2.2.2.2.2.1,L.2.2.2.2.2.2.2.2) (k+1)=_ from hH];simp only[j3];cases hx:hO o l L (k+1) with
  |none=>simp only[vp,k5,j5,aY];exact⟨k,rfl,hk,hq,λ⟨y,hy,_⟩=>by rw[hx]at hy;simp at hy⟩
  |some x=>
   have:=hv x hx;subst this;simp only[zo,jn,j6];by_cases hc:v>t
   .rw[ag hc,j5,aY];exact⟨k,rfl,hk,hq,λ⟨y,hy,Eu⟩=>by rw[hx]at hy;simp at hy;omega⟩
   .rw[aj hc,j6,aQ];exact UE ht h n (k+1) (by omega) (by omega) ⟨v,hx,by omega⟩
theorem jvR{o:Int}{l:bC}{L:bM}(h:Rt L){t v:Int}(h0:L.2.2.2.1=0)(wc:t<=8589934592)(hf:fO o l (ej L 0)=some v)(tI:v<=t)(hv0:0<=v) :
  lD o l L t ((t-v)/(3600*L.2.2.2.2.1))/\0<=(t-v)/(3600*L.2.2.2.2.1)/\(t-v)/(3600*L.2.2.2.2.1)<=8589934592:=by
 have uh:=h.e0;have AD:=h.e1;have q0:0<=(t-v)/(3600*L.2.2.2.2.1):=Int.ediv_nonneg (by omega) (by omega);have q1:3600*L.2.2.2.2.1*((t-v)/(3600*L.2.2.2.2.1))<=t-v:=Int.mul_ediv_self_le (by omega);have q2:t-v<3600*L.2.2.2.2.1*((t-v)/(3600*L.2.2.2.2.1))+3600*L.2.2.2.2.1:=Int.lt_mul_ediv_self_add (by omega);have q3:(t-v)/(3600*L.2.2.2.2.1)<=t-v:=Int.ediv_le_self _ (by omega);generalize (t-v)/(3600*L.2.2.2.2.1)=K at *;refine⟨.inr ⟨q0,⟨v+3600*L.2.2.2.2.1*K,?_,by omega⟩,?_⟩,q0,by omega⟩
 .unfold hO;rw[if_pos h0,hf];simp only[j3];rw[if_pos (by omega)]
 .rintro⟨y,hy,Eu⟩
  unfold hO at hy;rw[if_pos h0,hf]at hy;simp only[j3,Int.mul_add,Int.mul_one]at hy;split at hy
  .simp at hy;omega
  .simp at hy
theorem jxw{o:Int}{l:bC}{L:bM}(h0:L.2.2.2.1=0){v:Int}(hv:hO o l L 0=some v):fO o l (ej L 0)=some v:=by
 unfold hO at hv;rw[if_pos h0]at hv;cases hf:fO o l (ej L 0) with
 |none=>rw[hf]at hv;simp at hv
 |some x=>
  rw[hf]at hv;simp only[j3,Int.mul_zero,Int.add_zero]at hv;split at hv
  .simpa using hv
  .simp at hv
theorem jzH{o:Int}{l:bC}(ht:ic o l){L:bM}(h:Rt L){t:Int}(h0t:0<=t)(wc:t<=8589934592):∃K:Int,j3v (o,l) L t=some K/\lD o l L t K:=by
 have hs:=h.step;have MY:=h.d0;have qP:=h.d1;have uh:=h.e0;have AD:=h.e1;obtain⟨v0,hH,hv⟩:=nS ht h (k:=0) (by omega) (by omega);have hG:j8C (L.1,L.2.1,(L.2.2.1.1,L.2.2.1.2),L.2.2.2.1,L.2.2.2.2.1,L.2.2.2.2.2.1,L.2.2.2.2.2.2.1,L.2.2.2.2.2.2.2.1,L.2.2.2.2.2.2.2.2)=_:=UC h;simp only[j3v,show j0D (o,l) (L.1,L.2.1,(L.2.2.1.1,L.2.2.1.2),L.2.2.2.1,L.2.2.2.2.1,L.2.2.2.2.2.1,L.2.2.2.2.2.2.1,L.2.2.2.2.2.2.2.1,L.2.2.2.2.2.2.2.2) 0=_ from hH,hG,j3];cases hx:hO o l L 0 with
 |none=>simp only[vp,k5,j5];exact⟨-1,rfl,.inl ⟨rfl,λ⟨y,hy,_⟩=>by rw[hx]at hy;simp at hy⟩⟩
 |some v=>
  have:=hv v hx;subst this;simp only[zo,jn,j6];by_cases hc:v0>t
  .rw[ag hc,j5];exact⟨-1,rfl,.inl ⟨rfl,λ⟨y,hy,Eu⟩=>by rw[hx]at hy;simp at hy;omega⟩⟩
  .rw[aj hc,j6];have hq:QO o l L t 0:=⟨v0,hx,by omega⟩;have hva:=Dh ht h (k:=0) (by omega) hx;by_cases h0:L.2.2.2.1=0
   .obtain⟨s1,s2,s3⟩:=jvR (o:=o) (l:=l) h h0 wc (jxw h0 hx) (by omega) hva.1;rw[eA h0,j5,ah (x:=t-v0) (by omega) (by omega),ah (x:=3600*L.2.2.2.2.1) (by omega) (by omega),cB (show¬3600*L.2.2.2.2.1=0 by omega),zv (by omega),ah (x:=(t-v0)/(3600*L.2.2.2.2.1)) (by omega) (by omega)];exact⟨_,rfl,s1⟩
   .obtain⟨j,hj,j1,j2⟩:=CX ht h0t wc;have o0:=ht.of0 j hj;have o1:=ht.of1 j hj;rw[cB h0,j6,F0 ht hj j1 j2];simp only[j3];generalize HI:(t+cp o l j)/86400=ld;rw[cB (show¬fe L=0 by omega),ah (x:=ld-L.2.2.1.1) (by omega) (by omega)];simp only[k5,j5]
    obtain⟨n,hn,vL⟩:∃n:Nat,(if w64 (Int.tdiv (ld-L.2.2.1.1) (fe L))>0 then w64 (Int.tdiv (ld-L.2.2.1.1) (fe L)) else 0)=(n:Int)/\(n:Int)<=8589934592:=by
     by_cases fH:0<=ld-L.2.2.1.1
     .rw[zv fH];have q0:0<=(ld-L.2.2.1.1)/fe L:=Int.ediv_nonneg fH (by omega);have q1:(ld-L.2.2.1.1)/fe L<=ld-L.2.2.1.1:=Int.ediv_le_self _ fH;rw[ah (by omega) (by omega)];refine⟨((ld-L.2.2.1.1)/fe L).toNat,?_,?_⟩
      .split<;>omega
      .omega
     .have e:Int.tdiv (ld-L.2.2.1.1) (fe L) = -((-(ld-L.2.2.1.1))/fe L):=by rw[<-zv (by omega),Int.neg_tdiv,Int.neg_neg]
      have q0:0<=(-(ld-L.2.2.1.1))/fe L:=Int.ediv_nonneg (by omega) (by omega);have q1:(-(ld-L.2.2.1.1))/fe L <= -(ld-L.2.2.1.1):=Int.ediv_le_self _ (by omega);rw[e,ah (by omega) (by omega),if_neg (by omega)];exact⟨0,rfl,by omega⟩
    rw[hn];obtain⟨k,e,k0,k1⟩:=UD ht h (kg _) hq n vL;have rh:=k1;obtain⟨y,hy,_⟩:=rh;have bL:=Dh ht h k0 hy;obtain⟨K,e2,K0,K1,K2⟩:=UE ht h (t:=t) (2386093-k).toNat k (by omega) k0 k1;simp only[e,j3,e2];exact⟨K,rfl,.inr ⟨K0,K1,K2⟩⟩
end Go.Proofs.Pw
