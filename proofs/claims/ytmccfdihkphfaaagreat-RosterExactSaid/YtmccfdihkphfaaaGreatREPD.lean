/- eP 4: the nh transitions, KJ and sH are _Q of the program. -/
import Derived.Test.YtmccfdihkphfaaaGreatREPC
open _root_ renaming Int->m,Nat->F,ByteArray->G,List->J,Option->S
open List renaming length->u,drop_of_length_le->H,drop->K,take_of_length_le->M,range->N,take->O
open Int renaming ofNat->B,lt_or_le->R
open Option renaming some->E
open Decidable renaming decide->I
open Go Go.Lft
namespace Go.Proofs.Pw
theorem mA{n lo hi:m}(h1:lo<=n)(h2:n<=hi):j8x n lo hi=E true:=by
 simp only[j8x];rw[ag (show n>=lo from h1),ag h2];rfl
theorem RX{n lo hi:m}(h:¬(lo<=n/\n<=hi)):j8x n lo hi=E false:=by
 simp only[j8x];by_cases h1:n>=lo
 .rw[ag h1,an (λh2=>h ⟨h1,h2⟩)];rfl
 .rw[an h1];rfl
theorem jxG{r:aL}(h:iU r):jbu r=E true:=by
 simp only[jbu,mA h.y0 (show r.1<=2240 by have:=h.y1;have:=h.y2;omega),mA h.y1 h.y2,mA h.m0 h.m1,mA h.k0 h.k1,mA h.d0 h.d1,mA h.s0 h.s1,mA h.o0 h.o1,j4,j6]
theorem _R(x:m×m):∀l:bh,kS x l=l.takeWhile (λy=>I (x.1<y.1))++x::l.dropWhile (λy=>I (x.1<y.1))
 |[]=>rfl
 |y::ys=>by
  unfold kS;by_cases h:x.1<y.1
  .rw[if_pos h,_R x ys];simp[h]
  .rw[if_neg h];simp[h]
theorem _S{rs:J aL}{i y a b:m}:∀(rp mid:bh),rp.length+mid.length<=100000->
  Fx rs i y (rp.length:m) a b (rp.reverse++mid)=E (rs,i,y,((rp.dropWhile (λz=>I (a<z.1))).length:m),a,b,rp.reverse++mid)
 |[],mid,_=>by
  rw[Ys];simp only[j2T];rw[an ae,j7,aW];rfl
 |z::zs,mid,hl=>by
  have hL:((z::zs).reverse++mid).length=zs.length+1+mid.length:=az;simp only[ji]at hl;have g2:((z::zs).reverse++mid).getD ((((zs.length+1:F):m)-1).toNat) ((0:m),(0:m))=z:=by rw[show (((zs.length+1:F):m)-1).toNat=zs.length by omega];simp
  rw[Ys];simp only[j2T,ji];simp only[ar (x:=((zs.length+1:F):m)-1),g2];rw[ag (show ((zs.length+1:F):m)>0 by omega),bU aa (by rw[hL];omega)];simp only[j6];by_cases hc:a<z.1
  .rw[ag (show z.1>a from hc)];simp only[j6,aS];have ih:=_S (rs:=rs) (i:=i) (y:=y) (a:=a) (b:=b) zs (z::mid) az;have e:(z::zs).reverse++mid=zs.reverse++z::mid:=ae;rw[e,show ((zs.length+1:F):m)-1=(zs.length:m) by omega,ih];simp[hc]
  .rw[an (show¬z.1>a from hc)];simp only[j7,aW];simp[hc]
theorem jBR(l:bh)(x:m×m){k:F}(hk:k<=l.length):List.set (over (l++[x]) (k+1) (K k (l++[x]))) k x=l.take k++x::l.drop k:=by
 have h1:(l++[x]).length=l.length+1:=ae;unfold over;rw[h1,H (show (l++[x]).length<=k+1+(K k (l++[x])).length by simp;omega),kx];have e1:K k (l++[x])=K k l++[x]:=by rw[List.drop_append_of_le_length hk]
 rw[e1];have e2:O (l.length+1-(k+1)) (K k l++[x])=K k l:=by rw[qy ae,M ae]
 rw[e2];by_cases h:k<l.length
 .have e3:O (k+1) (l++[x])=l.take k++[l[k]]:=by rw[qy aa,List.take_succ_eq_append_getElem h]
  rw[e3,jg,vp _ _ az];simp[Nat.min_eq_left hk]
 .have bn:k=l.length:=aa;subst bn;have e3:O (l.length+1) (l++[x])=l++[x]:=M ae;rw[e3];simp
theorem _T{rs:J aL}{i:F}(hi:i<rs.length){r:aL}(hr:rs[i]=r)(h:iU r):∀(n j:F)(acc:bh),r.1+(j:m)+n=r.2.1+1->acc.length+n<=90000->
  Jg rs (i:m) (r.1+(j:m)) acc.reverse=E (rs,(i:m),(kT ((N n).map λ(q:F)=>cQ r (r.1+(j:m)+(q:m))) acc).reverse)
 |0,j,acc,hj,_=>by
  have hg:rs.getD i ((0:m),((0:m),((0:m),((0:m),((0:m),((0:m),(0:m)))))))=r:=by simp[hi,hr]
  rw[Yt];simp only[j2U];rw[bE];simp only[j6,j8,hg];rw[an aa,j7,aW];rfl
 |n+1,j,acc,hj,hl=>by
  have hg:rs.getD i ((0:m),((0:m),((0:m),((0:m),((0:m),((0:m),(0:m)))))))=r:=by simp[hi,hr]
  have h0:=h.y0;have h2:=h.y2;have jD:=h.s0;have lb:=h.s1;have hv:=Aw (CH (r.1+(j:m)) r.2.2.1 aa aa h.m0 h.m1);have hn:=KA (w:=r.2.2.2.2.1) (y:=r.1+(j:m)) aa aa h.m0 h.m1 h.k0 h.k1;have hd:=nF (r.1+(j:m)) r.2.2.1;rw[Yt];simp only[j2U];rw[bE];simp only[j6,j8,hg];rw[ag (show r.1+(j:m)<=r.2.1 by omega),gI _ _ _ _ aa aa h.m0 h.m1 h.k0 h.k1 h.d0 h.d1];simp only[j6,j4];rw[ar (x:=nth (r.1+(j:m)) r.2.2.1 r.2.2.2.1 r.2.2.2.2.1*86400),ar (x:=nth (r.1+(j:m)) r.2.2.1 r.2.2.2.1 r.2.2.2.2.1*86400+r.2.2.2.2.2.1)];have vG:=_S (rs:=rs) (i:=(i:m)) (y:=r.1+(j:m)) (a:=(cQ r (r.1+(j:m))).1) (b:=(cQ r (r.1+(j:m))).2) acc [] az;rw[kx]at vG;rw[show B (u acc.reverse)=(acc.length:m) by simp];rw[show Fx rs (i:m) (r.1+(j:m)) (acc.length:m) (nth (r.1+(j:m)) r.2.2.1 r.2.2.2.1 r.2.2.2.2.1*86400+r.2.2.2.2.2.1) r.2.2.2.2.2.2 acc.reverse=_ from vG];simp only[j4];generalize hx:cQ r (r.1+(j:m))=x at *;have uv:(acc.dropWhile (λz=>I (x.1<z.1))).length<=acc.length:=(List.dropWhile_sublist _).length_le;generalize hD:acc.dropWhile (λz=>I (x.1<z.1))=D at *;have xt:(acc.reverse++[(x.1,x.2)]).length=acc.length+1:=ae;rw[ag (by simp[aG];omega)];simp only[j6]
  rw[ar (x:=(D.length:m)+1),ag (show (0:m)<=(D.length:m)+1 by omega),ag (show (D.length:m)+1<=B (acc.reverse++[(x.1,x.2)]).length by rw[xt];show (D.length:m)+1<=((acc.length+1:F):m);omega),
   ag (show (0:m)<=(D.length:m) by omega),ag (show (D.length:m)<=B (acc.reverse++[(x.1,x.2)]).length by rw[xt];show (D.length:m)<=((acc.length+1:F):m);omega)]
  simp only[ql,j6,j8,show ((D.length:m)+1).toNat=D.length+1 by omega];have BA:(over (acc.reverse++[(x.1,x.2)]) (D.length+1) (K D.length (acc.reverse++[(x.1,x.2)]))).length=acc.length+1:=by unfold over;simp;omega
  rw[bU aa (by rw[BA];omega),jBR acc.reverse (x.1,x.2) (by simpa using uv)];simp only[j6];rw[ar (x:=r.1+(j:m)+1),aS];have As:acc.reverse.take D.length++(x.1,x.2)::acc.reverse.drop D.length=(kS x acc).reverse:=by have dE:=List.takeWhile_append_dropWhile (p:=λz:m×m=>I (x.1<z.1)) (l:=acc);rw[_R,hD];rw[hD]at dE;generalize acc.takeWhile (λz=>I (x.1<z.1))=T at dE ⊢;rw[<-dE];simp
  rw[As];have ih:=_T hi hr h n (j+1) (kS x acc) aa (by rw[Ga];omega);rw[show r.1+(j:m)+1=r.1+((j+1:F):m) by omega];refine ih.trans ?_
  have Ay:(N n).map (λ(q:F)=>cQ r (r.1+((j+1:F):m)+(q:m)))=(N n).map ((λ(q:F)=>cQ r (r.1+(j:m)+(q:m))) ∘ Nat.succ):=List.map_congr_left λq _=>by
   simp only[Function.comp];congr 1;omega
  rw[List.range_succ_eq_map,kj,List.map_map,Ay];simp[kT,hx]
theorem _U:∀(a b acc:bh),kT (a++b) acc=kT b (kT a acc)
 |[],_,_=>rfl
 |x::a,b,acc=>by simp only[List.cons_append,kT];exact _U a b _
theorem _V{rs:J aL}(h:∀r∈rs,iU r)(hlen:rs.length<=100):∀(n i:F)(acc:bh),i+n=rs.length->acc.length<=300*i->
  Fy rs (i:m) acc.reverse=E (kT (occs (rs.drop i)) acc).reverse
 |0,i,acc,hi,_=>by
  rw[Yu];simp only[j2V,show B (u rs)=(rs.length:m) from rfl];rw[an aa,j7,aW,H aa];rfl
 |n+1,i,acc,hi,hl=>by
  have aq:i<rs.length:=aa;have hr:=h rs[i] (jl aq);have h0:=hr.y0;have h1:=hr.y1;have h2:=hr.y2;have hg:rs.getD i ((0:m),((0:m),((0:m),((0:m),((0:m),((0:m),(0:m)))))))=rs[i]:=by simp[aq]
  have tc:=_T aq rfl hr (rs[i].2.1-rs[i].1+1).toNat 0 acc aa aa;rw[show rs[i].1+((0:F):m)=rs[i].1 by omega]at tc;have ih:=_V h hlen n (i+1) (kT (gr rs[i]) acc) aa (by rw[CF];simp[gr];omega);rw[Yu];simp only[j2V,show B (u rs)=(rs.length:m) from rfl];rw[ag (show (i:m)<(rs.length:m) by omega),bE];simp only[j6,j8,hg,tc,j4];rw[ar,aS,jb aq];refine ih.trans ?_;show _=E (kT (gr rs[i]++occs (rs.drop (i+1))) acc).reverse;rw[_U]
theorem _W{rs:J aL}(h:∀r∈rs,iU r)(hlen:rs.length<=100):j9Q rs=E (dM (occs rs)):=by
 have e:=_V h hlen rs.length 0 [] aa ae;simp only[j9Q];rw[show Fy rs 0 []=_ from e];rfl
theorem RY{rs:J aL}(h:∀r∈rs,iU r)(hlen:rs.length<=100)(nm:G)(o:m):∀(n i:F)(s:m),i+n=rs.length->0<=s->s<=300*i->
  Cq s (i:m) nm o rs=E (.inr (s+((occs (rs.drop i)).length:m),nm,o,rs))
 |0,i,s,hi,_,_=>by
  rw[OG];simp only[j1Y,show B (u rs)=(rs.length:m) from rfl];rw[an aa,j7,aW,H aa];simp[occs]
 |n+1,i,s,hi,jD,lb=>by
  have aq:i<rs.length:=aa;have hr:=h rs[i] (jl aq);have h0:=hr.y0;have h1:=hr.y1;have h2:=hr.y2;have hg:rs.getD i ((0:m),((0:m),((0:m),((0:m),((0:m),((0:m),(0:m)))))))=rs[i]:=by simp[aq]
  have ih:=RY h hlen nm o n (i+1) (s+(rs[i].2.1-rs[i].1+1)) aa aa aa;have sA:jbu (rs[i].1,(rs[i].2.1,(rs[i].2.2.1,(rs[i].2.2.2.1,(rs[i].2.2.2.2.1,(rs[i].2.2.2.2.2.1,rs[i].2.2.2.2.2.2))))))=E true:=jxG hr;rw[OG];simp only[j1Y,show B (u rs)=(rs.length:m) from rfl];rw[ag (show (i:m)<(rs.length:m) by omega),bE];simp only[j6,j8,hg,sA,j4,jc,j7];rw[ar (x:=rs[i].2.1-rs[i].1),ar (x:=rs[i].2.1-rs[i].1+1),ar (x:=s+(rs[i].2.1-rs[i].1+1)),ar (x:=(i:m)+1),aS];refine ih.trans ?_;rw[jb aq]
  have:((occs (rs[i]::rs.drop (i+1))).length:m)=(rs[i].2.1-rs[i].1+1)+((occs (rs.drop (i+1))).length:m):=by
   have e1:(gr rs[i]).length=(rs[i].2.1-rs[i].1+1).toNat:=by simp[gr]
   show ((gr rs[i]++occs (rs.drop (i+1))).length:m)=_;rw[List.length_append,e1];omega
  rw[this];congr 3;omega
theorem RZ(L:bh)(hL:L.length<=1000):∀(n i:F)(now:m)(acc:bh),i+n=L.length -> -64800<=now->now<=64800->acc.length<=i->(∀x∈acc,0<=x.1/\x.1<=8589934592)->Good now (acc.getLast?.map (·.1)) (L.drop i)->
  Cr now (i:m) acc L=E (.inr (acc++cC now (L.drop i)))
 |0,i,now,acc,hi,_,_,_,_,_=>by
  rw[Jh];simp only[j1D,show B (u L)=(L.length:m) from rfl];rw[an aa,j7,aW,H aa];simp[cC]
 |n+1,i,now,acc,hi,iE,om,uK,dJ,hg=>by
  have aq:i<L.length:=aa;rw[jb aq]at hg ⊢;have bc:L.getD i ((0:m),(0:m))=L[i]:=by simp[aq]
  rw[Jh];simp only[j1D,show B (u L)=(L.length:m) from rfl];rw[ag (show (i:m)<(L.length:m) by omega),bE];simp only[j6,j8,bc];generalize L[i]=x at *;rw[ar (x:=(i:m)+1)];simp only[Good]at hg;by_cases hx:x.2=now
  .rw[if_pos hx]at hg;rw[dI hx];simp only[j6,aS,cC];rw[if_pos hx];exact RZ L hL n (i+1) now acc aa iE om aa dJ hg
  .rw[if_neg hx]at hg;obtain⟨⟨g1,g2,g3,g4,g5,g6,g7⟩,g8⟩:=hg;rw[cG hx,ar (x:=x.1-now),ar (x:=x.2-now)];simp only[j7,mA (show (-86399:m)<=x.2-now by omega) (show x.2-now<=86399 by omega),mA (show (0:m)<=x.1-now by omega) (show x.1-now<=8589934592 by omega),j4,jc,show B (u acc)=(acc.length:m) from rfl]
   have eA:=RZ L hL n (i+1) x.2 (acc++[(x.1-now,x.2)]) aa g6 g7 az
    (λy hy=>by
     rcases jm.1 hy with hy|hy
     .exact dJ y hy
     .simp at hy;subst hy;exact⟨by show (0:m)<=x.1-now;omega,by show x.1-now<=8589934592;omega⟩) (by simpa using g8)
   have cL:cC now (x::L.drop (i+1))=(x.1-now,x.2)::cC x.2 (L.drop (i+1)):=by simp[cC,hx]
   rw[cL];rw[jg]at eA;rw[ar (x:=(acc.length:m)-1)];by_cases ha:acc=[]
   .subst ha;simp only[jz];rw[show I (((0:F):m)>0)=false from rfl];simp only[j7];rw[ag (by simp[aG])];simp only[j6,aS];exact eA
   .have bK:0<acc.length:=List.length_pos_iff.2 ha;have cX:acc.getLast? = E (acc.getD (acc.length-1) (0,0)):=by rw[List.getLast?_eq_getElem?,List.getD_eq_getElem?_getD,jo (show acc.length-1<acc.length by omega)];rfl
    rw[cX]at g5;have g5:(acc.getD (acc.length-1) ((0:m),(0:m))).1+604800<=x.1-now:=g5 _ rfl;have hb:=dJ (acc.getD (acc.length-1) (0,0)) (List.mem_of_getLast? cX);rw[bE,ag (show (acc.length:m)>0 by omega),show ((acc.length:m)-1).toNat=acc.length-1 by omega];simp only[j6];rw[ar,an (show¬x.1-now-(acc.getD (acc.length-1) ((0:m),(0:m))).1<604800 by omega),ag (by simp[aG];omega)];simp only[j6,j7,aS];exact eA
theorem jGF{nm:G}{o:m}{rs:J aL}(h:∀r∈rs,iU r)(jF : -64800<=o)(lu:o<=64800)(hlen:rs.length<=16)(hn:(occs rs).length<=640)(hg:Good o none (dM (occs rs))) :
  j0e (nm,(o,rs))=E (cC o (dM (occs rs)),0):=by
 have hl:(dM (occs rs)).length<=1000:=by simp[dM,CF];omega
 have e0:=RY h aa nm o rs.length 0 0 aa aa aa;rw[jk]at e0;have e2:=RZ (dM (occs rs)) hl (dM (occs rs)).length 0 o [] aa jF lu ae ae hg;rw[jk]at e2;simp only[j0e,mA jF lu,j4,jc,j7,show B (u rs)=(rs.length:m) from rfl];rw[an (show¬(rs.length:m)>16 by omega),j7,show Cq 0 0 nm o rs=_ from e0];simp only[j4,me];rw[an aa,j7,_W h aa];simp only[j4];rw[show Cr o 0 [] (dM (occs rs))=_ from e2];rfl
def Z4(z:G×(m×J aL))(l:bh):Prop:=j0e z=E (l,0)/\iF z.2.1 l
theorem MZ.r4{o:m}{rs:J aL}(h:MZ o rs)(nm:G):Z4 (nm,(o,rs)) (cC o (dM (occs rs))):=by
 have ht:=h.tab nm;refine⟨jGF h.ok (by have:=h.o0;omega) (by have:=h.o1;omega) ?_ ?_ h.good,ht.2⟩
 .have:=h.len;omega
 .have:=h.few;omega
section
variable{o:m}{l:bh}(h:iF o l)
include h
theorem _X{t:m}{k:F}(hk:k<=l.length)(h1:aX l k<=t)(h2:t<aX l (k+1)):∀(n i:F),i+n=k->Fz l t (bm o l i) (i:m)=E (bm o l k)
 |0,i,hi=>by
  have hi:i=k:=aa;subst hi;have hlen:=h.len;rw[YF];simp only[j5i,show B (u l)=(l.length:m) from rfl];by_cases aq:i<l.length
  .have e:aX l (i+1)=eD l i:=gN aq;rw[bE,ag (show (i:m)<(l.length:m) by omega)];simp only[z8,j6,j8];rw[an (show¬(l.getD i ((0:m),(0:m))).1<=t by show¬eD l i<=t;omega),j7,aW]
  .rw[an (show¬(i:m)<(l.length:m) by omega)];simp only[jp,yb,j6,j7,aW]
 |n+1,i,hi=>by
  have hlen:=h.len;have aq:i<l.length:=aa;have e:aX l (i+1)=eD l i:=gN aq;have hle:=h.frm_le (i:=i+1) (j:=k) aa aa;rw[YF];simp only[j5i,show B (u l)=(l.length:m) from rfl];rw[bE,ag (show (i:m)<(l.length:m) by omega)];simp only[z8,j6,j8];rw[ag (show (l.getD i ((0:m),(0:m))).1<=t by show eD l i<=t;omega),j6,ar,aS];exact _X hk h1 h2 n (i+1) aa
theorem jzZ{nm:G}{rs:J aL}{t:m}{k:F}(hk:k<=l.length)(h1:aX l k<=t)(h2:t<aX l (k+1)):jid (nm,(o,rs)) l t=E (bm o l k):=by
 have:=_X h hk h1 h2 k 0 aa;simp only[jid];rw[show Fz l t o 0=_ from this];rfl
theorem _Y{nm:G}{rs:J aL}{d c:m}(hd : -1000000<=d)(iC:d<=1000000)(hc:0<=c)(fC:c<=86399){k:F}(hk:k<=l.length)(hks:d*86400+c-bm o l k<aX l (k+1))
  (hb:∀j,j<k->aX l (j+1)<=d*86400+c-bm o l j):∀(n j:F),j+n=k->vB ((j:m)-1) nm o rs d c l=E (.inl (max (aX l k) (d*86400+c-bm o l k),0))
 |n,j,hj=>by
  have hlen:=h.len;have tj:j<=l.length:=aa;have o1:=h.of0 j tj;have o2:=h.of1 j tj;have aq:=h.frm_lt tj
  have key:∀A:S ((m×G×m×J aL×m×m×bh) ⊕ ((m×m) ⊕ Unit)),
    A=(cond (I (max (aX l j) (d*86400+c-bm o l j)<aX l (j+1))) (E (.inr (.inl (max (aX l j) (d*86400+c-bm o l j),0)))) (E (.inl ((j:m),nm,o,rs,d,c,l))))->
    lpK A (λh=>vB h.1 h.2.1 h.2.2.1 h.2.2.2.1 h.2.2.2.2.1 h.2.2.2.2.2.1 h.2.2.2.2.2.2)=E (.inl (max (aX l k) (d*86400+c-bm o l k),0)):=by
   intro A hA;rw[hA];cases n with
   |zero=>have rO:j=k:=aa;subst rO;rw[ag aa,j6,aW]
   |succ n=>have:=hb j aa;rw[an aa,j7,aS];have ih:=_Y (nm:=nm) (rs:=rs) hd iC hc fC hk hks hb n (j+1) aa;rwa[show ((j+1:F):m)-1=(j:m) by omega]at ih
  rw[OH];refine key _ ?_;simp only[j4w,show B (u l)=(l.length:m) from rfl];rw[ag (show (j:m)-1<(l.length:m) by omega)];simp only[show (j:m)-1+1=(j:m) by omega,ar (x:=(j:m)),j8];rw[ar (x:=d*86400),ar (x:=d*86400+c)];have nW:∀a b:m,(if a>b then a else b)=max b a:=λa b=>aa;clear key;cases j with
  |zero=>
   have oX:bm o l 0=o:=rfl;have l7:aX l 0=0:=rfl;rw[an (show¬((0:F):m)-1>=0 by omega)];rw[oX]at o1 o2 ⊢;rw[l7];simp only[j6,j7,ar (x:=d*86400+c-o),nW];by_cases gv:0<l.length
   .have e:aX l (0+1)=eD l 0:=gN gv;rw[e];rw[ag (show ((0:F):m)<(l.length:m) by omega),bE];rfl
   .have sJ:l.length=0:=aa;have e:aX l (0+1)=8589934593:=by have:=mj (l:=l);rwa[sJ]at this
    rw[e];rw[an (show¬((0:F):m)<(l.length:m) by omega)];rfl
  |succ i=>
   have gS:i<l.length:=aa;have oX:bm o l (i+1)=(l.getD i ((0:m),(0:m))).2:=rfl;have l7:aX l (i+1)=(l.getD i ((0:m),(0:m))).1:=gN gS;rw[show ((i+1:F):m)-1=(i:m) by omega,ag (show (i:m)>=0 by omega),bE];simp only[j6,j8,<-oX,<-l7];rw[ar (x:=d*86400+c-bm o l (i+1))];simp only[nW];by_cases gv:i+1<l.length
   .have e:aX l (i+1+1)=(l.getD (i+1) ((0:m),(0:m))).1:=gN gv;rw[ag (show ((i+1:F):m)<(l.length:m) by omega),bE];simp only[j6,<-e]
   .have e:aX l (i+1+1)=8589934593:=by have:=mj (l:=l);rwa[show l.length+1=i+1+1 by omega]at this
    rw[an (show¬((i+1:F):m)<(l.length:m) by omega),e];rfl
end
theorem jxH{t o:m}(h1 : -864000<=t+o)(h2:t+o<=1000000000000):jkj t o=E ((t+o)/86400,(t+o)%86400):=by
 simp only[jkj];rw[ar (x:=t+o),ar (x:=t+o+864000),vC aa,Aq aa,ar (x:=(t+o+864000)/86400),ar];congr 2<;>omega
section
variable{z:G×(m×J aL)}{l:bh}(h:Z4 z l)
include h
theorem jBS{t:m}{k:F}(h0:0<=t)(h1:t<=8589934592)(hk:k<=l.length)(dj:aX l k<=t)(fp:t<aX l (k+1)):jby z t=E (bm z.2.1 l k,0):=by
 simp only[jby,show j0e (z.1,(z.2.1,z.2.2))=_ from h.1,j4,jf,j7,mA h0 h1,jc,jzZ h.2 hk dj fp]
theorem _Z{t:m}{k:F}(h0:0<=t)(h1:t<=8589934592)(hk:k<=l.length)(dj:aX l k<=t)(fp:t<aX l (k+1)):j43 z t=E (((t+bm z.2.1 l k)/86400,(t+bm z.2.1 l k)%86400),0):=by
 have o1:=h.2.of0 k hk;have o2:=h.2.of1 k hk;simp only[j43,show jby (z.1,(z.2.1,z.2.2)) t=_ from jBS h h0 h1 hk dj fp,j4,jf,j7,jxH (show -864000<=t+bm z.2.1 l k by omega) aa]
omit h in
theorem R0{d:m}(h1 : -2<=d)(h2:d<=99422):jfg d=E true:=by
 simp only[jfg,mA h1 h2,j4]
theorem jxI{d c:m}(hd : -2<=d)(iC:d<=99422)(hc:0<=c)(fC:c<=86399){k:F}(hk:k<=l.length)(hks:d*86400+c-bm z.2.1 l k<aX l (k+1))
  (hb:∀j,j<k->aX l (j+1)<=d*86400+c-bm z.2.1 l j):j5h z (d,c)=E (max (aX l k) (d*86400+c-bm z.2.1 l k),0):=by
 have:=_Y h.2 (nm:=z.1) (rs:=z.2.2) (show -1000000<=d by omega) aa hc fC hk hks hb k 0 aa;simp only[j5h,show j0e (z.1,(z.2.1,z.2.2))=_ from h.1,j4,jf,j7,mA hc fC,jc,R0 hd iC];rw[an (show¬d < -2 by omega),j7,show vB (-1) z.1 z.2.1 z.2.2 d c l=_ from this];rfl
end
section
variable{o:m}{l:bh}(h:iF o l)
include h
def pS(o:m)(l:bh)(s:m):F->F->J m
 |_,0=>[]
 |j,n+1=>(if sy o l s j then [s-bm o l j] else [])++pS o l s (j+1) n
def jY(o:m)(l:bh)(s:m):J Int:=pS o l s 0 (l.length+1)
omit h in
theorem KK(s:m):∀n j,(pS o l s j n).length<=n
 |0,_=>by simp[pS]
 |n+1,j=>by
  have:=KK s n (j+1);simp only[pS];split<;>simp<;>omega
omit h in
theorem jBT{s:m}{j:F}:(cond (I (s-bm o l j>=aX l j)) (I (s-bm o l j<aX l (j+1))) false)=I (sy o l s j):=by
 by_cases h1:aX l j<=s-bm o l j
 .rw[ag (show s-bm o l j>=aX l j from h1),j6];by_cases h2:s-bm o l j<aX l (j+1)
  .rw[ag h2,ag (show sy o l s j from⟨h1,h2⟩)]
  .rw[an h2,an (λhs:sy o l s j=>h2 hs.2)]
 .rw[an (show¬s-bm o l j>=aX l j from h1),j7,an (λhs:sy o l s j=>h1 hs.1)]
theorem _0{nm:G}{rs:J aL}{d c:m}(hd : -1000000<=d)(iC:d<=1000000)(hc:0<=c)(fC:c<=86399):∀(n j:F)(acc:J m),j+n=l.length+1->acc.length<=j->
  Ak ((j:m)-1) nm o rs d c l acc=E (acc++pS o l (d*86400+c) j n)
 |0,j,acc,hj,_=>by
  rw[YQ];simp only[j3J,show B (u l)=(l.length:m) from rfl];rw[an aa,j7,aW];simp[pS]
 |n+1,j,acc,hj,ha=>by
  have hlen:=h.len;have o1:=h.of0 j aa;have o2:=h.of1 j aa
  have key:∀A:S ((m×G×m×J aL×m×m×bh×J m) ⊕ J m),
    A=(cond (I (sy o l (d*86400+c) j)) (E (.inl ((j:m),nm,o,rs,d,c,l,acc++[d*86400+c-bm o l j]))) (E (.inl ((j:m),nm,o,rs,d,c,l,acc))))->
    lpK A (λh=>Ak h.1 h.2.1 h.2.2.1 h.2.2.2.1 h.2.2.2.2.1 h.2.2.2.2.2.1 h.2.2.2.2.2.2.1 h.2.2.2.2.2.2.2)=E (acc++pS o l (d*86400+c) j (n+1)):=by
   intro A hA;rw[hA]
   have ih:∀bI:J m,bI.length<=j+1->Ak (j:m) nm o rs d c l bI=E (bI++pS o l (d*86400+c) (j+1) n):=λbI h'=>by
    have:=_0 (nm:=nm) (rs:=rs) hd iC hc fC n (j+1) bI aa h';rwa[show ((j+1:F):m)-1=(j:m) by omega]at this
   by_cases hs:sy o l (d*86400+c) j
   .rw[ag hs,j6,aS];refine(ih (acc++[d*86400+c-bm o l j]) az).trans ?_;simp[pS,hs]
   .rw[an hs,j7,aS];refine(ih acc aa).trans ?_;simp[pS,hs]
  rw[YQ];refine key _ ?_;simp only[j3J,show B (u l)=(l.length:m) from rfl];rw[ag (show (j:m)-1<(l.length:m) by omega)];simp only[show (j:m)-1+1=(j:m) by omega,ar (x:=(j:m)),j8];have cm:I (acc.length+[d*86400+c-bm o l j].length<=aG)=true:=ag (by simp[aG];omega);rw[ar (x:=d*86400),ar (x:=d*86400+c)];have c9:=jBT (o:=o) (l:=l) (s:=d*86400+c) (j:=j);cases j with
  |zero=>
   have oX:bm o l 0=o:=rfl;have l7:aX l 0=0:=rfl;rw[an (show¬((0:F):m)-1>=0 by omega)];rw[oX]at o1 o2 cm c9 ⊢;rw[l7]at c9;simp only[j6,j7,ar (x:=d*86400+c-o)];by_cases gv:0<l.length
   .have e:aX l (0+1)=eD l 0:=gN gv;rw[e]at c9;rw[ag (show ((0:F):m)<(l.length:m) by omega),bE];simp only[j6];rw[show (l.getD 0 ((0:m),(0:m))).1=eD l 0 from rfl,c9,cm];rfl
   .have sJ:l.length=0:=aa;have e:aX l (0+1)=8589934593:=by have:=mj (l:=l);rwa[sJ]at this
    rw[e]at c9;rw[an (show¬((0:F):m)<(l.length:m) by omega)];simp only[j7];rw[c9,cm];rfl
  |succ i=>
   have gS:i<l.length:=aa;have oX:bm o l (i+1)=(l.getD i ((0:m),(0:m))).2:=rfl;have l7:aX l (i+1)=(l.getD i ((0:m),(0:m))).1:=gN gS;rw[show ((i+1:F):m)-1=(i:m) by omega,ag (show (i:m)>=0 by omega),bE];simp only[j6,j8,<-oX,<-l7];rw[ar (x:=d*86400+c-bm o l (i+1))];by_cases gv:i+1<l.length
   .have e:aX l (i+1+1)=(l.getD (i+1) ((0:m),(0:m))).1:=gN gv;rw[ag (show ((i+1:F):m)<(l.length:m) by omega),bE];simp only[j6,<-e];rw[c9,cm];rfl
   .have e:aX l (i+1+1)=8589934593:=by have:=mj (l:=l);rwa[show l.length+1=i+1+1 by omega]at this
    rw[an (show¬((i+1:F):m)<(l.length:m) by omega)];rw[e]at c9;simp only[j7];rw[c9,cm];rfl
end
section
variable{z:G×(m×J aL)}{l:bh}(h:Z4 z l)
include h
theorem _1{d c:m}(hd : -2<=d)(iC:d<=99422)(hc:0<=c)(fC:c<=86399):j7V z (d,c)=E (jY z.2.1 l (d*86400+c),0):=by
 have:=_0 h.2 (nm:=z.1) (rs:=z.2.2) (show -1000000<=d by omega) aa hc fC (l.length+1) 0 [] aa ae;simp only[j7V,show j0e (z.1,(z.2.1,z.2.2))=_ from h.1,j4,jf,j7,mA hc fC,jc,R0 hd iC];rw[show Ak (-1) z.1 z.2.1 z.2.2 d c l []=_ from this];rfl
end
def xu(o:m)(l:bh)(s:m):Prop:=∀j,j<=l.length->aX l (j+1)<=s-bm o l j
noncomputable def fO(o:m)(l:bh)(s:m):S Int:=open Classical in if h:∃t k,nG o l s t k then E (Classical.choose h) else none
theorem nG.uniq{o:m}{l:bh}{s t t':m}{k k':F}(f:nG o l s t k)(g:nG o l s t' k'):k=k'/\t=t':=by
 have hk:k=k':=by
  rcases v8 k k' with aq|heq|CJ
  .have:=g.bef k aq;have:=f.hks;omega
  .exact heq
  .have:=f.bef k' CJ;have:=g.hks;omega
 subst hk;exact⟨rfl,by rw[f.ht,g.ht]⟩
theorem vI{o:m}{l:bh}{s t:m}{k:F}(f:nG o l s t k):fO o l s=E t:=by
 have he:∃t k,nG o l s t k:=⟨t,k,f⟩;unfold fO;rw[dif_pos he];obtain⟨k',g⟩:=Classical.choose_spec he;rw[(g.uniq f).2]
theorem sK{o:m}{l:bh}{s:m}(cY:xu o l s):fO o l s=none:=by
 unfold fO;rw[dif_neg]
 rintro⟨t,k,f⟩
 have:=cY k f.hk;have:=f.hks;omega
theorem KL(o:m)(l:bh)(s:m):(∃t k,nG o l s t k)\/xu o l s:=by
 by_cases cY:xu o l s
 .exact .inr cY
 .left
  have:∃j,j<=l.length/\s-bm o l j<aX l (j+1):=by
   apply ju;intro hn
   exact cY λj hj=>by
    rcases R (s-bm o l j) (aX l (j+1)) with h|h
    .exact absurd ⟨j,hj,h⟩ hn
    .exact h
  obtain⟨j,hj,hjs⟩:=this;obtain⟨a,⟨ha,haN⟩,nY⟩:=BV (λj=>s-bm o l j<aX l (j+1)/\j<=l.length) j ⟨hjs,hj⟩;refine⟨_,a,haN,ha,λi hi=>?_,rfl⟩;rcases R (s-bm o l i) (aX l (i+1)) with h'|h'
  .have:=nY i ⟨h',aa⟩;omega
  .exact h'
theorem KM{o:m}{l:bh}{s t:m}(he:fO o l s=E t):∃k,nG o l s t k:=by
 rcases KL o l s with⟨t',k,f⟩|cY
 .rw[vI f]at he;simp at he;subst he;exact⟨k,f⟩
 .rw[sK cY]at he;simp at he
section
variable{o:m}{l:bh}(h:iF o l)
include h
theorem CK{s t:m}(he:fO o l s=E t):s<=t+64800/\0<=t/\t<=8589934592:=by
 obtain⟨k,f⟩:=KM he;obtain⟨p1,p2,p3⟩:=f.piece h;have o1:=h.of1 k f.hk;have g1:=h.frm_le (i:=0) (j:=k) aa (by have:=f.hk;omega);have e0:aX l 0=0:=mi;have e1:aX l (l.length+1)=8589934593:=mj;have g2:=h.frm_le (i:=k+1) (j:=l.length+1) (by have:=f.hk;omega) aa;omega
theorem R1{s:m}(hs:8589934593+64800<=s):xu o l s:=λj hj=>by
 have o1:=h.of1 j hj;have e1:aX l (l.length+1)=8589934593:=mj;have g2:=h.frm_le (i:=j+1) (j:=l.length+1) aa aa;omega
theorem jE6{s s' t':m}(hs:s<=s')(he:fO o l s'=E t'):∃t,fO o l s=E t/\t<=t':=by
 obtain⟨k',g⟩:=KM he;have g1:=g.hks;have bn:=g.hk;rcases KL o l s with⟨t,k,f⟩|cY
 .refine⟨t,vI f,?_⟩;obtain⟨p1,p2,p3⟩:=f.piece h;obtain⟨q1,q2,q3⟩:=g.piece h;have f1:=f.ht;have g2:=g.ht;rcases v8 k k' with aq|heq|CJ
  .have:=h.frm_le (i:=k+1) (j:=k') aa aa;omega
  .subst heq;omega
  .have:=f.bef k' CJ;omega
 .have:=cY k' bn;omega
theorem _2{d c s:m}(kU:j4s (d,c)=E s)(jD : -1000000000000<=s)(lb:s<=1000000000000)(cY:xu o l s) :
  ∀(n i:F),i+n=l.length+1->Fa ((l.length+1:F):m) (i:m) d c (qN o l (l.length+1))=E (.inr ())
 |0,i,hi=>by
  rw[II];simp only[j1r];rw[an aa,j7,aW]
 |n+1,i,hi=>by
  have hlen:=h.len;have gS:i<=l.length:=aa;have o1:=h.of0 i gS;have o2:=h.of1 i gS;have hb:=cY i gS;have aq:=h.frm_lt gS;rw[II];simp only[j1r];rw[ag (show (i:m)<((l.length+1:F):m) by omega),bU aa (by rw[Ar];omega)];simp only[j6,j8,Ry (show i<l.length+1 by omega),kU,j4,pc];rw[ar (x:=s-bm o l i),ar (x:=(i:m)+1)];have hm:(if s-bm o l i>aX l i then s-bm o l i else aX l i)=max (aX l i) (s-bm o l i):=by split<;>omega
  rw[hm,an aa,j7,aS];exact _2 kU jD lb cY n (i+1) aa
theorem R2{d c s:m}(kU:j4s (d,c)=E s)(jD : -1000000000000<=s)(lb:s<=1000000000000)(cY:xu o l s):j2X (o,l) (d,c)=E (0,false):=by
 have:=_2 h kU jD lb cY (l.length+1) 0 aa;simp only[j2X,Z8 h,j4,Ar,show B (u l+1)=((l.length+1:F):m) from rfl];rw[show (0:m)=((0:F):m) from rfl,this];rfl
theorem _3{d c:m}(hd : -1000000<=d)(iC:d<=1000000000000000)(hc:0<=c)(fC:c<=86399) :
  j2X (o,l) (d,c)=E ((fO o l (d*86400+c)).getD 0,(fO o l (d*86400+c)).isSome):=by
 by_cases hb:d<=1000000
 .rcases KL o l (d*86400+c) with⟨t,k,f⟩|cY
  .have e:=jBL h hd hb aa aa f.hk f.hks f.bef;rw[<-f.ht]at e;rw[vI f];exact e
  .rw[sK cY];exact R2 h (Rz hd hb aa aa) aa aa cY
 .have cY:xu o l (d*86400+c):=R1 h aa;rw[sK cY];by_cases eI:d<=1048576
  .have kU:j4s (d,c)=E (d*86400+c):=by simp only[j4s];rw[if_neg (show¬(-1048576:m)>d by omega),if_neg (show¬(1048576:m)<d by omega),ar (x:=d*86400),ar]
   exact R2 h kU aa aa cY
  .have kU:j4s (d,c)=E (1048576*86400+c):=by simp only[j4s];rw[if_neg (show¬(-1048576:m)>d by omega),if_pos (show (1048576:m)<d by omega),ar (x:=1048576*86400),ar]
   exact R2 h kU aa aa (R1 h aa)
theorem _4{nm:G}{rs:J aL}{d c:m}(hd : -1000000<=d)(iC:d<=1000000)(hc:0<=c)(fC:c<=86399)(cY:xu o l (d*86400+c)):∀(n j:F),j+n=l.length+1->
  vB ((j:m)-1) nm o rs d c l=E (.inr ())
 |0,j,hj=>by
  rw[OH];simp only[j4w,show B (u l)=(l.length:m) from rfl];rw[an aa,j7,aW]
 |n+1,j,hj=>by
  have hlen:=h.len;have tj:j<=l.length:=aa;have o1:=h.of0 j tj;have o2:=h.of1 j tj;have aq:=h.frm_lt tj;have hb:=cY j tj;have ih:=_4 (nm:=nm) (rs:=rs) hd iC hc fC cY n (j+1) aa;rw[show ((j+1:F):m)-1=(j:m) by omega]at ih
  have key:∀A:S ((m×G×m×J aL×m×m×bh) ⊕ ((m×m) ⊕ Unit)),
    A=(cond (I (max (aX l j) (d*86400+c-bm o l j)<aX l (j+1))) (E (.inr (.inl (max (aX l j) (d*86400+c-bm o l j),0)))) (E (.inl ((j:m),nm,o,rs,d,c,l))))->
    lpK A (λh=>vB h.1 h.2.1 h.2.2.1 h.2.2.2.1 h.2.2.2.2.1 h.2.2.2.2.2.1 h.2.2.2.2.2.2)=E (.inr ()):=by
   intro A hA;rw[hA,an aa,j7,aS];exact ih
  rw[OH];refine key _ ?_;simp only[j4w,show B (u l)=(l.length:m) from rfl];rw[ag (show (j:m)-1<(l.length:m) by omega)];simp only[show (j:m)-1+1=(j:m) by omega,ar (x:=(j:m)),j8];rw[ar (x:=d*86400),ar (x:=d*86400+c)];have nW:∀a b:m,(if a>b then a else b)=max b a:=λa b=>aa;clear key;cases j with
  |zero=>
   have oX:bm o l 0=o:=rfl;have l7:aX l 0=0:=rfl;rw[an (show¬((0:F):m)-1>=0 by omega)];rw[oX]at o1 o2 ⊢;rw[l7];simp only[j6,j7,ar (x:=d*86400+c-o),nW];by_cases gv:0<l.length
   .have e:aX l (0+1)=eD l 0:=gN gv;rw[e];rw[ag (show ((0:F):m)<(l.length:m) by omega),bE];rfl
   .have sJ:l.length=0:=aa;have e:aX l (0+1)=8589934593:=by have:=mj (l:=l);rwa[sJ]at this
    rw[e];rw[an (show¬((0:F):m)<(l.length:m) by omega)];rfl
  |succ i=>
   have gS:i<l.length:=aa;have oX:bm o l (i+1)=(l.getD i ((0:m),(0:m))).2:=rfl;have l7:aX l (i+1)=(l.getD i ((0:m),(0:m))).1:=gN gS;rw[show ((i+1:F):m)-1=(i:m) by omega,ag (show (i:m)>=0 by omega),bE];simp only[j6,j8,<-oX,<-l7];rw[ar (x:=d*86400+c-bm o l (i+1))];simp only[nW];by_cases gv:i+1<l.length
   .have e:aX l (i+1+1)=(l.getD (i+1) ((0:m),(0:m))).1:=gN gv;rw[ag (show ((i+1:F):m)<(l.length:m) by omega),bE];simp only[j6,<-e]
   .have e:aX l (i+1+1)=8589934593:=by have:=mj (l:=l);rwa[show l.length+1=i+1+1 by omega]at this
    rw[an (show¬((i+1:F):m)<(l.length:m) by omega),e];rfl
end
theorem R3{z:bH}{l:bh}(h:Z4 z l){d c:m}(hd:1<=d)(hc:0<=c)(fC:c<=86399) :
  j5h z (d,c)=E (match fO z.2.1 l (d*86400+c) with|some t=>(t,0)|none=>(0,10)):=by
 by_cases hb:d<=99422
 .rcases KL z.2.1 l (d*86400+c) with⟨t,k,f⟩|cY
  .have e:=jxI h (d:=d) (c:=c) aa hb hc fC f.hk f.hks f.bef;rw[<-f.ht]at e;rw[vI f];exact e
  .have:=_4 h.2 (nm:=z.1) (rs:=z.2.2) (show -1000000<=d by omega) aa hc fC cY (l.length+1) 0 aa;rw[sK cY];simp only[j5h,show j0e (z.1,(z.2.1,z.2.2))=_ from h.1,j4,jf,j7,mA hc fC,jc,R0 (show -2<=d by omega) hb];rw[an (show¬d < -2 by omega),j7,show vB (-1) z.1 z.2.1 z.2.2 d c l=_ from this];rfl
 .rw[sK (R1 h.2 aa)];simp only[j5h,show j0e (z.1,(z.2.1,z.2.2))=_ from h.1,j4,jf,j7,mA hc fC,jc,jfg,RX (show¬(-2<=d/\d<=99422) by omega)];rw[an (show¬d < -2 by omega)];rfl
end Go.Proofs.Pw
