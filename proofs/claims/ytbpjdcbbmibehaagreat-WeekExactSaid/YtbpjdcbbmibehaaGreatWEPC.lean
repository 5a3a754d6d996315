/- eU 4: the qS transitions, Az and mR are KF of the program. -/
import Derived.Test.YtbpjdcbbmibehaaGreatWEPB
open Go Go.Lft
namespace Go.Proofs.Pw
theorem mS{n lo hi:Int}(h1:lo<=n)(h2:n<=hi):j5l n lo hi=some true:=by
 simp only[j5l];rw[ao (show n>=lo from h1),ao h2];rfl
theorem UB{r:aP}(h:gF r):j7Q r=some true:=by
 simp only[j7Q,mS h.y0 (show r.1<=2240 by have:=h.y1;have:=h.y2;omega),mS h.y1 h.y2,mS h.m0 h.m1,mS h.k0 h.k1,mS h.d0 h.d1,mS h.s0 h.s1,mS h.o0 h.o1,j4,j6]
theorem KG(x:Int×Int):∀l:bd,gN x l=l.takeWhile (λy=>decide (x.1<y.1))++x::l.dropWhile (λy=>decide (x.1<y.1))
 |[]=>rfl
 |y::ys=>by
  unfold gN;by_cases h:x.1<y.1
  .rw[if_pos h,KG x ys];simp[h]
  .rw[if_neg h];simp[h]
theorem KH{rs:List aP}{i y a b:Int}:∀(rp mid:bd),rp.length+mid.length<=100000->
  xi rs i y (rp.length:Int) a b (rp.reverse++mid)=some (rs,i,y,((rp.dropWhile (λz=>decide (a<z.1))).length:Int),a,b,rp.reverse++mid)
 |[],mid,_=>by
  rw[JA];simp only[j1a];rw[aw (by simp),j7,bC];rfl
 |z::zs,mid,hl=>by
  have hL:((z::zs).reverse++mid).length=zs.length+1+mid.length:=by simp;omega
  simp only[jm]at hl;have g2:((z::zs).reverse++mid).getD ((((zs.length+1:Nat):Int)-1).toNat) ((0:Int),(0:Int))=z:=by rw[show (((zs.length+1:Nat):Int)-1).toNat=zs.length by omega];simp
  rw[JA];simp only[j1a,jm];simp only[an (x:=((zs.length+1:Nat):Int)-1) (by omega) (by omega),g2];rw[ao (show ((zs.length+1:Nat):Int)>0 by omega),bT (by omega) (by rw[hL];omega)];simp only[j6];by_cases hc:a<z.1
  .rw[ao (show z.1>a from hc)];simp only[j6,bF];have ih:=KH (rs:=rs) (i:=i) (y:=y) (a:=a) (b:=b) zs (z::mid) (by simp;omega);have e:(z::zs).reverse++mid=zs.reverse++z::mid:=by simp
   rw[e,show ((zs.length+1:Nat):Int)-1=(zs.length:Int) by omega,ih];simp[hc]
  .rw[aw (show¬z.1>a from hc)];simp only[j7,bC];simp[hc]
theorem UC(l:bd)(x:Int×Int){k:Nat}(hk:k<=l.length):List.set (over (l++[x]) (k+1) (List.drop k (l++[x]))) k x=l.take k++x::l.drop k:=by
 have h1:(l++[x]).length=l.length+1:=by simp
 unfold over;rw[h1,jd (show (l++[x]).length<=k+1+(List.drop k (l++[x])).length by simp;omega),kz];have e1:List.drop k (l++[x])=List.drop k l++[x]:=by rw[List.drop_append_of_le_length hk]
 rw[e1];have e2:List.take (l.length+1-(k+1)) (List.drop k l++[x])=List.drop k l:=by rw[List.take_append_of_le_length (by simp),List.take_of_length_le (by simp)]
 rw[e2];by_cases h:k<l.length
 .have e3:List.take (k+1) (l++[x])=l.take k++[l[k]]:=by rw[List.take_append_of_le_length (by omega),List.take_succ_eq_append_getElem h]
  rw[e3,jj,List.set_append_right _ _ (by simp;omega)];simp[Nat.min_eq_left hk]
 .have aR:k=l.length:=by omega
  subst aR;have e3:List.take (l.length+1) (l++[x])=l++[x]:=List.take_of_length_le (by simp);rw[e3];simp
theorem KI{rs:List aP}{i:Nat}(hi:i<rs.length){r:aP}(hr:rs[i]=r)(h:gF r):∀(n j:Nat)(acc:bd),r.1+(j:Int)+n=r.2.1+1->acc.length+n<=90000->
  zP rs (i:Int) (r.1+(j:Int)) acc.reverse=some (rs,(i:Int),(gg ((List.range n).map λ(q:Nat)=>bA r (r.1+(j:Int)+(q:Int))) acc).reverse)
 |0,j,acc,hj,_=>by
  have hg:rs.getD i ((0:Int),((0:Int),((0:Int),((0:Int),((0:Int),((0:Int),(0:Int)))))))=r:=by simp[hi,hr]
  rw[JB];simp only[j1b];rw[bT (by omega) (by omega)];simp only[j6,j8,hg];rw[aw (by omega),j7,bC];rfl
 |n+1,j,acc,hj,hl=>by
  have hg:rs.getD i ((0:Int),((0:Int),((0:Int),((0:Int),((0:Int),((0:Int),(0:Int)))))))=r:=by simp[hi,hr]
  have h0:=h.y0;have h2:=h.y2;have iV:=h.s0;have lN:=h.s1;have hv:=xD (xE (r.1+(j:Int)) r.2.2.1 (by omega) (by omega) h.m0 h.m1);have hn:=Fl (w:=r.2.2.2.2.1) (y:=r.1+(j:Int)) (by omega) (by omega) h.m0 h.m1 h.k0 h.k1;have hd:=mP (r.1+(j:Int)) r.2.2.1;rw[JB];simp only[j1b];rw[bT (by omega) (by omega)];simp only[j6,j8,hg];rw[ao (show r.1+(j:Int)<=r.2.1 by omega),dR _ _ _ _ (by omega) (by omega) h.m0 h.m1 h.k0 h.k1 h.d0 h.d1];simp only[j6,j4];rw[an (x:=nth (r.1+(j:Int)) r.2.2.1 r.2.2.2.1 r.2.2.2.2.1*86400) (by omega) (by omega),an (x:=nth (r.1+(j:Int)) r.2.2.1 r.2.2.2.1 r.2.2.2.2.1*86400+r.2.2.2.2.2.1) (by omega) (by omega)];have xG:=KH (rs:=rs) (i:=(i:Int)) (y:=r.1+(j:Int)) (a:=(bA r (r.1+(j:Int))).1) (b:=(bA r (r.1+(j:Int))).2) acc [] (by simp;omega);rw[kz]at xG;rw[show Int.ofNat (List.length acc.reverse)=(acc.length:Int) by simp];rw[show xi rs (i:Int) (r.1+(j:Int)) (acc.length:Int) (nth (r.1+(j:Int)) r.2.2.1 r.2.2.2.1 r.2.2.2.2.1*86400+r.2.2.2.2.2.1) r.2.2.2.2.2.2 acc.reverse=_ from xG];simp only[j4];generalize hx:bA r (r.1+(j:Int))=x at *;have oe:(acc.dropWhile (λz=>decide (x.1<z.1))).length<=acc.length:=(List.dropWhile_sublist _).length_le;generalize hD:acc.dropWhile (λz=>decide (x.1<z.1))=D at *;have qT:(acc.reverse++[(x.1,x.2)]).length=acc.length+1:=by simp
  rw[ao (by simp[bI];omega)];simp only[j6]
  rw[an (x:=(D.length:Int)+1) (by omega) (by omega),ao (show (0:Int)<=(D.length:Int)+1 by omega),ao (show (D.length:Int)+1<=Int.ofNat (acc.reverse++[(x.1,x.2)]).length by rw[qT];show (D.length:Int)+1<=((acc.length+1:Nat):Int);omega),
   ao (show (0:Int)<=(D.length:Int) by omega),ao (show (D.length:Int)<=Int.ofNat (acc.reverse++[(x.1,x.2)]).length by rw[qT];show (D.length:Int)<=((acc.length+1:Nat):Int);omega)]
  simp only[Bool.and_self,j6,j8,show ((D.length:Int)+1).toNat=D.length+1 by omega];have tz:(over (acc.reverse++[(x.1,x.2)]) (D.length+1) (List.drop D.length (acc.reverse++[(x.1,x.2)]))).length=acc.length+1:=by unfold over;simp;omega
  rw[bT (by omega) (by rw[tz];omega),UC acc.reverse (x.1,x.2) (by simpa using oe)];simp only[j6];rw[an (x:=r.1+(j:Int)+1) (by omega) (by omega),bF];have sM:acc.reverse.take D.length++(x.1,x.2)::acc.reverse.drop D.length=(gN x acc).reverse:=by have bS:=List.takeWhile_append_dropWhile (p:=λz:Int×Int=>decide (x.1<z.1)) (l:=acc);rw[KG,hD];rw[hD]at bS;generalize acc.takeWhile (λz=>decide (x.1<z.1))=T at bS ⊢;rw[<-bS];simp
  rw[sM];have ih:=KI hi hr h n (j+1) (gN x acc) (by omega) (by rw[xA];omega);rw[show r.1+(j:Int)+1=r.1+((j+1:Nat):Int) by omega];refine ih.trans ?_
  have sN:(List.range n).map (λ(q:Nat)=>bA r (r.1+((j+1:Nat):Int)+(q:Int)))=(List.range n).map ((λ(q:Nat)=>bA r (r.1+(j:Int)+(q:Int))) ∘ Nat.succ):=List.map_congr_left λq _=>by
   simp only[Function.comp];congr 1;omega
  rw[List.range_succ_eq_map,qb,zl,sN];simp[gg,hx]
theorem KJ:∀(a b acc:bd),gg (a++b) acc=gg b (gg a acc)
 |[],_,_=>rfl
 |x::a,b,acc=>by simp only[List.cons_append,gg];exact KJ a b _
theorem KK{rs:List aP}(h:∀r∈rs,gF r)(hlen:rs.length<=100):∀(n i:Nat)(acc:bd),i+n=rs.length->acc.length<=300*i->
  xj rs (i:Int) acc.reverse=some (gg (occs (rs.drop i)) acc).reverse
 |0,i,acc,hi,_=>by
  rw[JC];simp only[j1c,show Int.ofNat (List.length rs)=(rs.length:Int) from rfl];rw[aw (by omega),j7,bC,jd (by omega)];rfl
 |n+1,i,acc,hi,hl=>by
  have ak:i<rs.length:=by omega
  have hr:=h rs[i] (qr ak);have h0:=hr.y0;have h1:=hr.y1;have h2:=hr.y2;have hg:rs.getD i ((0:Int),((0:Int),((0:Int),((0:Int),((0:Int),((0:Int),(0:Int)))))))=rs[i]:=by simp[ak]
  have u9:=KI ak rfl hr (rs[i].2.1-rs[i].1+1).toNat 0 acc (by omega) (by omega);rw[show rs[i].1+((0:Nat):Int)=rs[i].1 by omega]at u9;have ih:=KK h hlen n (i+1) (gg (dH rs[i]) acc) (by omega) (by rw[xB];simp[dH];omega);rw[JC];simp only[j1c,show Int.ofNat (List.length rs)=(rs.length:Int) from rfl];rw[ao (show (i:Int)<(rs.length:Int) by omega),bT (by omega) (by omega)];simp only[j6,j8,hg,u9,j4];rw[an (by omega) (by omega),bF,je ak];refine ih.trans ?_;show _=some (gg (dH rs[i]++occs (rs.drop (i+1))) acc).reverse;rw[KJ]
theorem UD{rs:List aP}(h:∀r∈rs,gF r)(hlen:rs.length<=100):j3R rs=some (c9 (occs rs)):=by
 have e:=KK h hlen rs.length 0 [] (by omega) (by simp);simp only[j3R];rw[show xj rs 0 []=_ from e];rfl
theorem KL{rs:List aP}(h:∀r∈rs,gF r)(hlen:rs.length<=100)(nm:ByteArray)(o:Int):∀(n i:Nat)(s:Int),i+n=rs.length->0<=s->s<=300*i->
  xk s (i:Int) nm o rs=some (.inr (s+((occs (rs.drop i)).length:Int),nm,o,rs))
 |0,i,s,hi,_,_=>by
  rw[JD];simp only[j1d,show Int.ofNat (List.length rs)=(rs.length:Int) from rfl];rw[aw (by omega),j7,bC,jd (by omega)];simp[occs]
 |n+1,i,s,hi,iV,lN=>by
  have ak:i<rs.length:=by omega
  have hr:=h rs[i] (qr ak);have h0:=hr.y0;have h1:=hr.y1;have h2:=hr.y2;have hg:rs.getD i ((0:Int),((0:Int),((0:Int),((0:Int),((0:Int),((0:Int),(0:Int)))))))=rs[i]:=by simp[ak]
  have ih:=KL h hlen nm o n (i+1) (s+(rs[i].2.1-rs[i].1+1)) (by omega) (by omega) (by omega);have mQ:j7Q (rs[i].1,(rs[i].2.1,(rs[i].2.2.1,(rs[i].2.2.2.1,(rs[i].2.2.2.2.1,(rs[i].2.2.2.2.2.1,rs[i].2.2.2.2.2.2))))))=some true:=UB hr;rw[JD];simp only[j1d,show Int.ofNat (List.length rs)=(rs.length:Int) from rfl];rw[ao (show (i:Int)<(rs.length:Int) by omega),bT (by omega) (by omega)];simp only[j6,j8,hg,mQ,j4,ju,j7];rw[an (x:=rs[i].2.1-rs[i].1) (by omega) (by omega),an (x:=rs[i].2.1-rs[i].1+1) (by omega) (by omega),an (x:=s+(rs[i].2.1-rs[i].1+1)) (by omega) (by omega),an (x:=(i:Int)+1) (by omega) (by omega),bF];refine ih.trans ?_;rw[je ak]
  have:((occs (rs[i]::rs.drop (i+1))).length:Int)=(rs[i].2.1-rs[i].1+1)+((occs (rs.drop (i+1))).length:Int):=by
   have e1:(dH rs[i]).length=(rs[i].2.1-rs[i].1+1).toNat:=by simp[dH]
   show ((dH rs[i]++occs (rs.drop (i+1))).length:Int)=_;rw[jn,e1];omega
  rw[this];congr 3;omega
theorem Fu(L:bd)(hL:L.length<=1000):∀(n i:Nat)(now:Int)(acc:bd),i+n=L.length -> -64800<=now->now<=64800->acc.length<=i->(∀x∈acc,0<=x.1/\x.1<=8589934592)->Good now (acc.getLast?.map (·.1)) (L.drop i)->
  xl now (i:Int) acc L=some (.inr (acc++bX now (L.drop i)))
 |0,i,now,acc,hi,_,_,_,_,_=>by
  rw[JE];simp only[j1e,show Int.ofNat (List.length L)=(L.length:Int) from rfl];rw[aw (by omega),j7,bC,jd (by omega)];simp[bX]
 |n+1,i,now,acc,hi,kF,iw,lh,fJ,hg=>by
  have ak:i<L.length:=by omega
  rw[je ak]at hg ⊢;have cU:L.getD i ((0:Int),(0:Int))=L[i]:=by simp[ak]
  rw[JE];simp only[j1e,show Int.ofNat (List.length L)=(L.length:Int) from rfl];rw[ao (show (i:Int)<(L.length:Int) by omega),bT (by omega) (by omega)];simp only[j6,j8,cU];generalize L[i]=x at *;rw[an (x:=(i:Int)+1) (by omega) (by omega)];simp only[Good]at hg;by_cases hx:x.2=now
  .rw[if_pos hx]at hg;rw[uz hx];simp only[j6,bF,bX];rw[if_pos hx];exact Fu L hL n (i+1) now acc (by omega) kF iw (by omega) fJ hg
  .rw[if_neg hx]at hg;obtain⟨⟨g1,g2,g3,g4,g5,g6,g7⟩,g8⟩:=hg;rw[nC hx,an (x:=x.1-now) (by omega) (by omega),an (x:=x.2-now) (by omega) (by omega)];simp only[j7,mS (show (-86399:Int)<=x.2-now by omega) (show x.2-now<=86399 by omega),mS (show (0:Int)<=x.1-now by omega) (show x.1-now<=8589934592 by omega),j4,ju,show Int.ofNat (List.length acc)=(acc.length:Int) from rfl]
   have fe:=Fu L hL n (i+1) x.2 (acc++[(x.1-now,x.2)]) (by omega) g6 g7 (by simp;omega)
    (λy hy=>by
     rcases jp.1 hy with hy|hy
     .exact fJ y hy
     .simp at hy;subst hy;exact⟨by show (0:Int)<=x.1-now;omega,by show x.1-now<=8589934592;omega⟩) (by simpa using g8)
   have cN:bX now (x::L.drop (i+1))=(x.1-now,x.2)::bX x.2 (L.drop (i+1)):=by simp[bX,hx]
   rw[cN];rw[jj]at fe;rw[an (x:=(acc.length:Int)-1) (by omega) (by omega)];by_cases ha:acc=[]
   .subst ha;simp only[List.length_nil];rw[show decide (((0:Nat):Int)>0)=false from rfl];simp only[j7];rw[ao (by simp[bI])];simp only[j6,bF];exact fe
   .have cc:0<acc.length:=List.length_pos_iff.2 ha;have cZ:acc.getLast? = some (acc.getD (acc.length-1) (0,0)):=by rw[List.getLast?_eq_getElem?,jz,jq (show acc.length-1<acc.length by omega)];rfl
    rw[cZ]at g5;have g5:(acc.getD (acc.length-1) ((0:Int),(0:Int))).1+604800<=x.1-now:=g5 _ rfl;have hb:=fJ (acc.getD (acc.length-1) (0,0)) (List.mem_of_getLast? cZ);rw[bT (by omega) (by omega),ao (show (acc.length:Int)>0 by omega),show ((acc.length:Int)-1).toNat=acc.length-1 by omega];simp only[j6];rw[an (by omega) (by omega),aw (show¬x.1-now-(acc.getD (acc.length-1) ((0:Int),(0:Int))).1<604800 by omega),ao (by simp[bI];omega)];simp only[j6,j7,bF];exact fe
theorem UE{nm:ByteArray}{o:Int}{rs:List aP}(h:∀r∈rs,gF r)(iA : -64800<=o)(fC:o<=64800)(hlen:rs.length<=16)(hn:(occs rs).length<=640)(hg:Good o none (c9 (occs rs))) :
  j0V (nm,(o,rs))=some (bX o (c9 (occs rs)),0):=by
 have hl:(c9 (occs rs)).length<=1000:=by simp[c9,xB];omega
 have e0:=KL h (by omega) nm o rs.length 0 0 (by omega) (by omega) (by omega);rw[ka]at e0;have e2:=Fu (c9 (occs rs)) hl (c9 (occs rs)).length 0 o [] (by omega) iA fC (by simp) (by simp) hg;rw[ka]at e2;simp only[j0V,mS iA fC,j4,ju,j7,show Int.ofNat (List.length rs)=(rs.length:Int) from rfl];rw[aw (show¬(rs.length:Int)>16 by omega),j7,show xk 0 0 nm o rs=_ from e0];simp only[j4,ub];rw[aw (by omega),j7,UD h (by omega)];simp only[j4];rw[show xl o 0 [] (c9 (occs rs))=_ from e2];rfl
def Z4(z:ByteArray×(Int×List aP))(l:bd):Prop:=j0V z=some (l,0)/\jB z.2.1 l
theorem MZ.r4{o:Int}{rs:List aP}(h:MZ o rs)(nm:ByteArray):Z4 (nm,(o,rs)) (bX o (c9 (occs rs))):=by
 have ht:=h.tab nm;refine⟨UE h.ok (by have:=h.o0;omega) (by have:=h.o1;omega) ?_ ?_ h.good,ht.2⟩
 .have:=h.len;omega
 .have:=h.few;omega
section
variable{o:Int}{l:bd}(h:jB o l)
include h
theorem KM{t:Int}{k:Nat}(hk:k<=l.length)(h1:aH l k<=t)(h2:t<aH l (k+1)):∀(n i:Nat),i+n=k->xm l t (du o l i) (i:Int)=some (du o l k)
 |0,i,hi=>by
  have hi:i=k:=by omega
  subst hi;have hlen:=h.len;rw[JF];simp only[j25,show Int.ofNat (List.length l)=(l.length:Int) from rfl];by_cases ak:i<l.length
  .have e:aH l (i+1)=eN l i:=mO ak;rw[bT (by omega) (by omega),ao (show (i:Int)<(l.length:Int) by omega)];simp only[Bool.true_or,j6,j8];rw[aw (show¬(l.getD i ((0:Int),(0:Int))).1<=t by show¬eN l i<=t;omega),j7,bC]
  .rw[aw (show¬(i:Int)<(l.length:Int) by omega)];simp only[qc,Bool.or_true,j6,j7,bC]
 |n+1,i,hi=>by
  have hlen:=h.len;have ak:i<l.length:=by omega
  have e:aH l (i+1)=eN l i:=mO ak;have hle:=h.frm_le (i:=i+1) (j:=k) (by omega) (by omega);rw[JF];simp only[j25,show Int.ofNat (List.length l)=(l.length:Int) from rfl];rw[bT (by omega) (by omega),ao (show (i:Int)<(l.length:Int) by omega)];simp only[Bool.true_or,j6,j8];rw[ao (show (l.getD i ((0:Int),(0:Int))).1<=t by show eN l i<=t;omega),j6,an (by omega) (by omega),bF];exact KM hk h1 h2 n (i+1) (by omega)
theorem UF{nm:ByteArray}{rs:List aP}{t:Int}{k:Nat}(hk:k<=l.length)(h1:aH l k<=t)(h2:t<aH l (k+1)):j8l (nm,(o,rs)) l t=some (du o l k):=by
 have:=KM h hk h1 h2 k 0 (by omega);simp only[j8l];rw[show xm l t o 0=_ from this];rfl
end
theorem UG{t o:Int}(h1 : -864000<=t+o)(h2:t+o<=1000000000000):j9F t o=some ((t+o)/86400,(t+o)%86400):=by
 simp only[j9F];rw[an (x:=t+o) (by omega) (by omega),an (x:=t+o+864000) (by omega) (by omega),sK (by omega),qQ (by omega),an (x:=(t+o+864000)/86400) (by omega) (by omega),an (by omega) (by omega)];congr 2<;>omega
section
variable{z:ByteArray×(Int×List aP)}{l:bd}(h:Z4 z l)
include h
theorem UH{t:Int}{k:Nat}(h0:0<=t)(h1:t<=8589934592)(hk:k<=l.length)(b9:aH l k<=t)(dj:t<aH l (k+1)):j3E z t=some (du z.2.1 l k,0):=by
 simp only[j3E,show j0V (z.1,(z.2.1,z.2.2))=_ from h.1,j4,jl,j7,mS h0 h1,ju,UF h.2 hk b9 dj]
theorem UI{t:Int}{k:Nat}(h0:0<=t)(h1:t<=8589934592)(hk:k<=l.length)(b9:aH l k<=t)(dj:t<aH l (k+1)):j4n z t=some (((t+du z.2.1 l k)/86400,(t+du z.2.1 l k)%86400),0):=by
 have o1:=h.2.of0 k hk;have o2:=h.2.of1 k hk;simp only[j4n,show j3E (z.1,(z.2.1,z.2.2)) t=_ from UH h h0 h1 hk b9 dj,j4,jl,j7,UG (show -864000<=t+du z.2.1 l k by omega) (by omega)]
end
abbrev WL:=List (Int×Int)
def eB(p:Int):WL->Prop
 |[]=>p<=604800
 |x::r=>p<=x.1/\x.1<x.2/\x.2<=604800/\eB x.2 r
def df(p:Int):WL->WL
 |[]=>if p<604800 then [(p,604800)] else []
 |x::r=>if p<x.1 then (p,x.1)::df x.2 r else df x.2 r
def eb(p:Int):WL->WL
 |[]=>[]
 |x::r=>if p<x.1 then (p,x.1)::eb x.2 r else eb x.2 r
def mT(p:Int):WL->Int
 |[]=>p
 |x::r=>mT x.2 r
def fL:WL->Int
 |[]=>0
 |x::r=>(x.2-x.1)+fL r
def hasB(s:Int):WL->Bool
 |[]=>false
 |x::r=>cond (cond (decide (x.1<=s)) (decide (s<x.2)) false) true (hasB s r)
theorem eB.weak{p q:Int}(hq:q<=p):∀{w:WL},eB p w->eB q w
 |[],h=>by show q<=604800;have:p<=604800:=h;omega
 |_::_,h=>⟨by have:=h.1;omega,h.2⟩
theorem KN:∀(w:WL)(p:Int),df p w=eb p w++(if mT p w<604800 then [(mT p w,604800)] else [])
 |[],p=>rfl
 |x::r,p=>by
  simp only[df,eb,mT];rw[KN r x.2];split<;>rfl
theorem KO:∀(w:WL)(p:Int),(df p w).length<=w.length+1
 |[],p=>by simp only[df];split<;>simp
 |x::r,p=>by
  simp only[df];have:=KO r x.2;split<;>simp<;>omega
theorem KP:∀(w:WL)(p:Int),(eb p w).length<=w.length
 |[],p=>by simp[eb]
 |x::r,p=>by
  simp only[eb];have:=KP r x.2;split<;>simp<;>omega
theorem oY:∀{w:WL}{p:Int},eB p w->∀i,i<w.length->p<=(w.getD i (0,0)).1/\(w.getD i (0,0)).1<(w.getD i (0,0)).2/\(w.getD i (0,0)).2<=604800
 |[],_,_,i,hi=>by simp at hi
 |x::r,p,h,i,hi=>by
  obtain⟨h1,h2,h3,h4⟩:=h;cases i with
  |zero=>exact⟨h1,h2,h3⟩
  |succ i=>exact oY (h4.weak (show p<=x.2 by omega)) i (by simpa using hi)
theorem KQ:∀{w:WL}{p:Int},eB p w->∀i,i+1<w.length->(w.getD i (0,0)).2<=(w.getD (i+1) (0,0)).1
 |[],_,_,i,hi=>by simp at hi
 |x::[],_,_,i,hi=>by simp at hi
 |x::y::r,p,h,i,hi=>by
  cases i with
  |zero=>exact h.2.2.2.1
  |succ i=>exact KQ h.2.2.2 i (by simpa using hi)
theorem KR{L:List Int}:∀(n:Nat)(p a:Int)(acc:WL),lu L a->0<=p->p<=604800->acc.length+n<=100->
  ∃w a',zH p (n:Int) L a acc=some (L,a',acc++w)/\eB p w/\w.length<=n/\lu L a'
 |0,p,a,acc,hd,_,hp,_=>by
  rw[Js];simp only[j0U];rw[aw (by omega),j7,bC];exact⟨[],a,by simp,hp,by simp,hd⟩
 |n+1,p,a,acc,hd,Hf,hp,ha=>by
  obtain⟨x,a1,e1,x0,x1,d1⟩:=gE (n:=30) hd (by omega) (by omega);obtain⟨y,a2,e2,y0,y1,d2⟩:=gE (n:=2) d1 (by omega) (by omega);obtain⟨q,a3,e3,m3,d3⟩:=sL d2 (xs:=[(3600:Int),(28800:Int),(43200:Int),(86400:Int),(61:Int),(1:Int)]) (by simp) (by simp);have hq:1<=q/\q<=86400:=by simp at m3;omega
  rw[Js];simp only[j0U];rw[ao (by omega)];simp only[j6,e1,e2,e3,j4];rw[an (x:=3600*x) (by omega) (by omega),an (x:=p+3600*x) (by omega) (by omega),an (x:=60*y) (by omega) (by omega),an (x:=p+3600*x+60*y) (by omega) (by omega),an (x:=p+3600*x+60*y+q) (by omega) (by omega),an (x:=((n+1:Nat):Int)-1) (by omega) (by omega)];by_cases im:p+3600*x+60*y+q>604800
  .rw[ao im,j6,bC];exact⟨[],a3,by simp,hp,by simp,d3⟩
  .rw[aw im,ao (by simp[bI];omega)];simp only[j7,j6,bF];obtain⟨w,a4,e4,hw,yU,d4⟩:=KR n (p+3600*x+60*y+q) a3 (acc++[(p+3600*x+60*y,p+3600*x+60*y+q)]) d3 (by omega) (by omega) (by simp;omega);rw[show ((n+1:Nat):Int)-1=(n:Int) by omega];refine⟨(p+3600*x+60*y,p+3600*x+60*y+q)::w,a4,by rw[e4,jj];rfl,⟨by dsimp only;omega,by dsimp only;omega,by dsimp only;omega,hw⟩,by simp;omega,d4⟩
theorem UJ{L:List Int}{a:Int}(h:lu L a):∃w a',j3a L a=some (w,L,a')/\eB 0 w/\w.length<=3/\lu L a':=by
 obtain⟨x,a1,e1,x0,x1,d1⟩:=gE (n:=4) h (by omega) (by omega);obtain⟨w,a',e2,h1,h2,h3⟩:=KR x.toNat 0 a1 [] d1 (by omega) (by omega) (by simp;omega);rw[show ((x.toNat:Nat):Int)=x by omega,kj]at e2;simp only[j3a,e1,j4,e2];exact⟨w,a',rfl,h1,by omega,h3⟩
theorem KS{L:List Int}{a:Int}(h:lu L a):∃t a',j2k L a=some (t,L,a')/\1767139199<=t/\t<=1767139200+3600*575+3599/\lu L a':=by
 obtain⟨x,a1,e1,x0,x1,d1⟩:=gE (n:=576) h (by omega) (by omega);obtain⟨y,a2,e2,y0,y1,d2⟩:=gE (n:=3) d1 (by omega) (by omega);obtain⟨q,a3,e3,m3,d3⟩:=sL d2 (xs:=[(-1:Int),(1:Int),(1800:Int),(3599:Int)]) (by simp) (by simp);have hq : -1<=q/\q<=3599:=by simp at m3;omega
 simp only[j2k,e1,j4,j5W,e2,e3];rw[an (x:=3600*x) (by omega) (by omega),an (x:=1767139200+3600*x) (by omega) (by omega),an (x:=1767139200+3600*x+q) (by omega) (by omega)];cases (y==w64 (3-1)) with
 |true=>exact⟨_,_,rfl,by omega,by omega,d3⟩
 |false=>exact⟨_,_,rfl,by omega,by omega,d2⟩
theorem KT{w:WL}(h:eB 0 w)(hl:w.length<=14):∀(n i:Nat),i+n=w.length->sC w w (w.length:Int) (i:Int)=some (.inr ())
 |0,i,hi=>by
  rw[zG];simp only[j19];rw[aw (by omega),j7,bC]
 |n+1,i,hi=>by
  have ih:=KT h hl n (i+1) (by omega);have hg:=oY h i (by omega);rw[zG];simp only[j19];rw[ao (show (i:Int)<(w.length:Int) by omega),bT (by omega) (by omega)];simp only[j6,j8];rw[aw (show¬(w.getD i ((0:Int),(0:Int))).1<0 by omega),aw (show¬(w.getD i ((0:Int),(0:Int))).1>=(w.getD i ((0:Int),(0:Int))).2 by omega),aw (show¬(w.getD i ((0:Int),(0:Int))).2>604800 by omega)];rw[an (x:=(i:Int)+1) (by omega) (by omega)];simp only[j7];by_cases h0:i=0
  .rw[aw (by omega)];simp only[j7,bF];exact ih
  .obtain⟨j,rfl⟩:∃j,i=j+1:=⟨i-1,by omega⟩;have UK:=KQ h j (by omega);rw[ao (by omega),an (x:=((j+1:Nat):Int)-1) (by omega) (by omega),bT (by omega) (by omega),show (((j+1:Nat):Int)-1).toNat=j by omega,aw (by omega)];simp only[j6,j7,bF];exact ih
theorem UL{w:WL}(h:eB 0 w)(hl:w.length<=14):j1w w=some 0:=by
 have:=KT h hl w.length 0 (by omega);rw[show ((0:Nat):Int)=0 from rfl]at this;simp only[j1w,show Int.ofNat (List.length w)=(w.length:Int) from rfl];rw[aw (by omega),j7,this];rfl
theorem Fv{w:WL}(hl:w.length<=14):∀(n i:Nat)(p:Int)(acc:WL),i+n=w.length->acc.length<=i->ue p w (w.length:Int) (i:Int) acc=some (mT p (w.drop i),acc++eb p (w.drop i))
 |0,i,p,acc,hi,_=>by
  rw[Jj];simp only[j1Q];rw[aw (by omega),j7,bC,jd (by omega)];simp[mT,eb]
 |n+1,i,p,acc,hi,ha=>by
  have ak:i<w.length:=by omega
  have cU:w.getD i ((0:Int),(0:Int))=w[i]:=by simp[ak]
  rw[Jj,je ak];simp only[j1Q];rw[ao (show (i:Int)<(w.length:Int) by omega),bT (by omega) (by omega)];simp only[j6,j8,cU,eb,mT];rw[an (x:=(i:Int)+1) (by omega) (by omega)];by_cases hp:p<w[i].1
  .rw[ao hp,if_pos hp,ao (by simp[bI];omega)];simp only[j6,bF];have:=Fv hl n (i+1) w[i].2 (acc++[(p,w[i].1)]) (by omega) (by simp;omega);rw[jj]at this;exact this
  .rw[aw hp,if_neg hp];simp only[j7,bF];exact Fv hl n (i+1) w[i].2 acc (by omega) (by omega)
theorem KU{w:WL}(h:eB 0 w)(hl:w.length<=14):∀(n i:Nat)(s:Int),i+n=w.length->0<=s->s<=604800*i->zJ s w (w.length:Int) (i:Int)=some (s+fL (w.drop i))
 |0,i,s,hi,_,_=>by
  rw[Ju];simp only[j1R];rw[aw (by omega),j7,bC,jd (by omega)];simp[fL]
 |n+1,i,s,hi,hs,iH=>by
  have ak:i<w.length:=by omega
  have cU:w.getD i ((0:Int),(0:Int))=w[i]:=by simp[ak]
  have hg:=oY h i (by omega);rw[cU]at hg;rw[Ju,je ak];simp only[j1R];rw[ao (show (i:Int)<(w.length:Int) by omega),bT (by omega) (by omega)];simp only[j6,j8,cU,fL];rw[an (x:=(i:Int)+1) (by omega) (by omega),an (x:=w[i].2-w[i].1) (by omega) (by omega),an (x:=s+(w[i].2-w[i].1)) (by omega) (by omega),bF];have:=KU h hl n (i+1) (s+(w[i].2-w[i].1)) (by omega) (by omega) (by omega);rw[show s+(w[i].2-w[i].1+fL (w.drop (i+1)))=s+(w[i].2-w[i].1)+fL (w.drop (i+1)) by omega];exact this
theorem UM{w:WL}(h:eB 0 w)(hl:w.length<=14):j4m w=some (fL w):=by
 have:=KU h hl w.length 0 0 (by omega) (by omega) (by omega);rw[show ((0:Nat):Int)=0 from rfl,ka,Int.zero_add]at this;simp only[j4m,UL h hl,j4,jl,j7,show Int.ofNat (List.length w)=(w.length:Int) from rfl,this]
theorem KV{w:WL}(hl:w.length<=14)(s:Int):∀(n i:Nat),i+n=w.length->ur s w (w.length:Int) (i:Int)=some (cond (hasB s (w.drop i)) (.inl true) (.inr ()))
 |0,i,hi=>by
  rw[Jr];simp only[j2G];rw[aw (by omega),j7,bC,jd (by omega)];rfl
 |n+1,i,hi=>by
  have ak:i<w.length:=by omega
  have cU:w.getD i ((0:Int),(0:Int))=w[i]:=by simp[ak]
  have ih:=KV hl s n (i+1) (by omega);rw[Jr,je ak];simp only[j2G];rw[ao (show (i:Int)<(w.length:Int) by omega),bT (by omega) (by omega)];simp only[j6,j8,cU,hasB];rw[an (x:=(i:Int)+1) (by omega) (by omega)];cases hb:cond (decide (w[i].1<=s)) (decide (s<w[i].2)) false with
  |true=>simp only[j6,bC]
  |false=>simp only[j7,bF];exact ih
theorem UN{w:WL}(hl:w.length<=14)(s:Int):j6U w s=some (hasB s w):=by
 have:=KV hl s w.length 0 (by omega);rw[show ((0:Nat):Int)=0 from rfl,ka]at this;simp only[j6U,show Int.ofNat (List.length w)=(w.length:Int) from rfl,this,j4];cases hasB s w<;>rfl
end Go.Proofs.Pw
