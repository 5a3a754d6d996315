/- eB 4: the il transitions, Jq and mC are Yi of the program. -/
import Derived.Test.YtllkgjaoejhneaaGreatSEPC
open _root_ renaming Int->m,Nat->F,ByteArray->G,List->I,Option->S
open List renaming length->u,drop->J,take_append_of_le_length->K,take_of_length_le->M,range->N,take->O
open Int renaming ofNat->B,lt_or_le->R
open Option renaming some->E
open Decidable renaming decide->H
open Go Go.Lft
namespace Go.Proofs.Pw
theorem lP{n lo hi:m}(h1:lo<=n)(h2:n<=hi):j7z n lo hi=E true:=by
 simp only[j7z];rw[ah (show n>=lo from h1),ah h2];rfl
theorem Qn{n lo hi:m}(h:¬(lo<=n/\n<=hi)):j7z n lo hi=E false:=by
 simp only[j7z];by_cases h1:n>=lo
 .rw[ah h1,ak (λh2=>h ⟨h1,h2⟩)];rfl
 .rw[ak h1];rfl
theorem jus{r:aH}(h:iF r):jaa r=E true:=by
 simp only[jaa,lP h.y0 (show r.1<=2240 by have:=h.y1;have:=h.y2;omega),lP h.y1 h.y2,lP h.m0 h.m1,lP h.k0 h.k1,lP h.d0 h.d1,lP h.s0 h.s1,lP h.o0 h.o1,ja,jc]
theorem Yj(x:m×m):∀l:bg,jY x l=l.takeWhile (λy=>H (x.1<y.1))++x::l.dropWhile (λy=>H (x.1<y.1))
 |[]=>rfl
 |y::ys=>by
  unfold jY;by_cases h:x.1<y.1
  .rw[if_pos h,Yj x ys];simp[h]
  .rw[if_neg h];simp[h]
theorem Yk{rs:I aH}{i y a b:m}:∀(rp mid:bg),rp.length+mid.length<=100000->
  EM rs i y (rp.length:m) a b (rp.reverse++mid)=E (rs,i,y,((rp.dropWhile (λz=>H (a<z.1))).length:m),a,b,rp.reverse++mid)
 |[],mid,_=>by
  rw[V3];simp only[j2D];rw[ak af,jd,ba];rfl
 |z::zs,mid,hl=>by
  have hL:((z::zs).reverse++mid).length=zs.length+1+mid.length:=ay;simp only[jq]at hl;have g2:((z::zs).reverse++mid).getD ((((zs.length+1:F):m)-1).toNat) ((0:m),(0:m))=z:=by rw[show (((zs.length+1:F):m)-1).toNat=zs.length by omega];simp
  rw[V3];simp only[j2D,jq];simp only[ar (x:=((zs.length+1:F):m)-1),g2];rw[ah (show ((zs.length+1:F):m)>0 by omega),cb aa (by rw[hL];omega)];simp only[jc];by_cases hc:a<z.1
  .rw[ah (show z.1>a from hc)];simp only[jc,aV];have ih:=Yk (rs:=rs) (i:=i) (y:=y) (a:=a) (b:=b) zs (z::mid) ay;have e:(z::zs).reverse++mid=zs.reverse++z::mid:=af;rw[e,show ((zs.length+1:F):m)-1=(zs.length:m) by omega,ih];simp[hc]
  .rw[ak (show¬z.1>a from hc)];simp only[jd,ba];simp[hc]
theorem jyo(l:bg)(x:m×m){k:F}(hk:k<=l.length):List.set (over (l++[x]) (k+1) (J k (l++[x]))) k x=l.take k++x::l.drop k:=by
 have h1:(l++[x]).length=l.length+1:=af;unfold over;rw[h1,jj (show (l++[x]).length<=k+1+(J k (l++[x])).length by simp;omega),qh];have e1:J k (l++[x])=J k l++[x]:=by rw[List.drop_append_of_le_length hk]
 rw[e1];have e2:O (l.length+1-(k+1)) (J k l++[x])=J k l:=by rw[K af,M af]
 rw[e2];by_cases h:k<l.length
 .have e3:O (k+1) (l++[x])=l.take k++[l[k]]:=by rw[K aa,List.take_succ_eq_append_getElem h]
  rw[e3,jo,vz _ _ ay];simp[Nat.min_eq_left hk]
 .have bk:k=l.length:=aa;subst bk;have e3:O (l.length+1) (l++[x])=l++[x]:=M af;rw[e3];simp
theorem Yl{rs:I aH}{i:F}(hi:i<rs.length){r:aH}(hr:rs[i]=r)(h:iF r):∀(n j:F)(acc:bg),r.1+(j:m)+n=r.2.1+1->acc.length+n<=90000->
  HV rs (i:m) (r.1+(j:m)) acc.reverse=E (rs,(i:m),(jZ ((N n).map λ(q:F)=>cM r (r.1+(j:m)+(q:m))) acc).reverse)
 |0,j,acc,hj,_=>by
  have hg:rs.getD i ((0:m),((0:m),((0:m),((0:m),((0:m),((0:m),(0:m)))))))=r:=by simp[hi,hr]
  rw[V4];simp only[j2E];rw[bP];simp only[jc,je,hg];rw[ak aa,jd,ba];rfl
 |n+1,j,acc,hj,hl=>by
  have hg:rs.getD i ((0:m),((0:m),((0:m),((0:m),((0:m),((0:m),(0:m)))))))=r:=by simp[hi,hr]
  have h0:=h.y0;have h2:=h.y2;have iN:=h.s0;have kJ:=h.s1;have hv:=zQ (B8 (r.1+(j:m)) r.2.2.1 aa aa h.m0 h.m1);have hn:=Jg (w:=r.2.2.2.2.1) (y:=r.1+(j:m)) aa aa h.m0 h.m1 h.k0 h.k1;have hd:=mP (r.1+(j:m)) r.2.2.1;rw[V4];simp only[j2E];rw[bP];simp only[jc,je,hg];rw[ah (show r.1+(j:m)<=r.2.1 by omega),gv _ _ _ _ aa aa h.m0 h.m1 h.k0 h.k1 h.d0 h.d1];simp only[jc,ja];rw[ar (x:=nth (r.1+(j:m)) r.2.2.1 r.2.2.2.1 r.2.2.2.2.1*86400),ar (x:=nth (r.1+(j:m)) r.2.2.1 r.2.2.2.1 r.2.2.2.2.1*86400+r.2.2.2.2.2.1)];have wM:=Yk (rs:=rs) (i:=(i:m)) (y:=r.1+(j:m)) (a:=(cM r (r.1+(j:m))).1) (b:=(cM r (r.1+(j:m))).2) acc [] ay;rw[qh]at wM;rw[show B (u acc.reverse)=(acc.length:m) by simp];rw[show EM rs (i:m) (r.1+(j:m)) (acc.length:m) (nth (r.1+(j:m)) r.2.2.1 r.2.2.2.1 r.2.2.2.2.1*86400+r.2.2.2.2.2.1) r.2.2.2.2.2.2 acc.reverse=_ from wM];simp only[ja];generalize hx:cM r (r.1+(j:m))=x at *;have tK:(acc.dropWhile (λz=>H (x.1<z.1))).length<=acc.length:=(List.dropWhile_sublist _).length_le;generalize hD:acc.dropWhile (λz=>H (x.1<z.1))=D at *;have wO:(acc.reverse++[(x.1,x.2)]).length=acc.length+1:=af;rw[ah (by simp[aF];omega)];simp only[jc]
  rw[ar (x:=(D.length:m)+1),ah (show (0:m)<=(D.length:m)+1 by omega),ah (show (D.length:m)+1<=B (acc.reverse++[(x.1,x.2)]).length by rw[wO];show (D.length:m)+1<=((acc.length+1:F):m);omega),
   ah (show (0:m)<=(D.length:m) by omega),ah (show (D.length:m)<=B (acc.reverse++[(x.1,x.2)]).length by rw[wO];show (D.length:m)<=((acc.length+1:F):m);omega)]
  simp only[yq,jc,je,show ((D.length:m)+1).toNat=D.length+1 by omega];have xB:(over (acc.reverse++[(x.1,x.2)]) (D.length+1) (J D.length (acc.reverse++[(x.1,x.2)]))).length=acc.length+1:=by unfold over;simp;omega
  rw[cb aa (by rw[xB];omega),jyo acc.reverse (x.1,x.2) (by simpa using tK)];simp only[jc];rw[ar (x:=r.1+(j:m)+1),aV];have zN:acc.reverse.take D.length++(x.1,x.2)::acc.reverse.drop D.length=(jY x acc).reverse:=by have dX:=List.takeWhile_append_dropWhile (p:=λz:m×m=>H (x.1<z.1)) (l:=acc);rw[Yj,hD];rw[hD]at dX;generalize acc.takeWhile (λz=>H (x.1<z.1))=T at dX ⊢;rw[<-dX];simp
  rw[zN];have ih:=Yl hi hr h n (j+1) (jY x acc) aa (by rw[Fi];omega);rw[show r.1+(j:m)+1=r.1+((j+1:F):m) by omega];refine ih.trans ?_
  have zS:(N n).map (λ(q:F)=>cM r (r.1+((j+1:F):m)+(q:m)))=(N n).map ((λ(q:F)=>cM r (r.1+(j:m)+(q:m))) ∘ Nat.succ):=List.map_congr_left λq _=>by
   simp only[Function.comp];congr 1;omega
  rw[List.range_succ_eq_map,qe,List.map_map,zS];simp[jZ,hx]
theorem Ym:∀(a b acc:bg),jZ (a++b) acc=jZ b (jZ a acc)
 |[],_,_=>rfl
 |x::a,b,acc=>by simp only[List.cons_append,jZ];exact Ym a b _
theorem Yn{rs:I aH}(h:∀r∈rs,iF r)(hlen:rs.length<=100):∀(n i:F)(acc:bg),i+n=rs.length->acc.length<=300*i->
  EN rs (i:m) acc.reverse=E (jZ (occs (rs.drop i)) acc).reverse
 |0,i,acc,hi,_=>by
  rw[V5];simp only[j2F,show B (u rs)=(rs.length:m) from rfl];rw[ak aa,jd,ba,jj aa];rfl
 |n+1,i,acc,hi,hl=>by
  have au:i<rs.length:=aa;have hr:=h rs[i] (ju au);have h0:=hr.y0;have h1:=hr.y1;have h2:=hr.y2;have hg:rs.getD i ((0:m),((0:m),((0:m),((0:m),((0:m),((0:m),(0:m)))))))=rs[i]:=by simp[au]
  have sw:=Yl au rfl hr (rs[i].2.1-rs[i].1+1).toNat 0 acc aa aa;rw[show rs[i].1+((0:F):m)=rs[i].1 by omega]at sw;have ih:=Yn h hlen n (i+1) (jZ (fY rs[i]) acc) aa (by rw[B7];simp[fY];omega);rw[V5];simp only[j2F,show B (u rs)=(rs.length:m) from rfl];rw[ah (show (i:m)<(rs.length:m) by omega),bP];simp only[jc,je,hg,sw,ja];rw[ar,aV,jh au];refine ih.trans ?_;show _=E (jZ (fY rs[i]++occs (rs.drop (i+1))) acc).reverse;rw[Ym]
theorem Yo{rs:I aH}(h:∀r∈rs,iF r)(hlen:rs.length<=100):j8L rs=E (dE (occs rs)):=by
 have e:=Yn h hlen rs.length 0 [] aa af;simp only[j8L];rw[show EN rs 0 []=_ from e];rfl
theorem Qo{rs:I aH}(h:∀r∈rs,iF r)(hlen:rs.length<=100)(nm:G)(o:m):∀(n i:F)(s:m),i+n=rs.length->0<=s->s<=300*i->
  BT s (i:m) nm o rs=E (.inr (s+((occs (rs.drop i)).length:m),nm,o,rs))
 |0,i,s,hi,_,_=>by
  rw[Nj];simp only[j1P,show B (u rs)=(rs.length:m) from rfl];rw[ak aa,jd,ba,jj aa];simp[occs]
 |n+1,i,s,hi,iN,kJ=>by
  have au:i<rs.length:=aa;have hr:=h rs[i] (ju au);have h0:=hr.y0;have h1:=hr.y1;have h2:=hr.y2;have hg:rs.getD i ((0:m),((0:m),((0:m),((0:m),((0:m),((0:m),(0:m)))))))=rs[i]:=by simp[au]
  have ih:=Qo h hlen nm o n (i+1) (s+(rs[i].2.1-rs[i].1+1)) aa aa aa;have rU:jaa (rs[i].1,(rs[i].2.1,(rs[i].2.2.1,(rs[i].2.2.2.1,(rs[i].2.2.2.2.1,(rs[i].2.2.2.2.2.1,rs[i].2.2.2.2.2.2))))))=E true:=jus hr;rw[Nj];simp only[j1P,show B (u rs)=(rs.length:m) from rfl];rw[ah (show (i:m)<(rs.length:m) by omega),bP];simp only[jc,je,hg,rU,ja,jk,jd];rw[ar (x:=rs[i].2.1-rs[i].1),ar (x:=rs[i].2.1-rs[i].1+1),ar (x:=s+(rs[i].2.1-rs[i].1+1)),ar (x:=(i:m)+1),aV];refine ih.trans ?_;rw[jh au]
  have:((occs (rs[i]::rs.drop (i+1))).length:m)=(rs[i].2.1-rs[i].1+1)+((occs (rs.drop (i+1))).length:m):=by
   have e1:(fY rs[i]).length=(rs[i].2.1-rs[i].1+1).toNat:=by simp[fY]
   show ((fY rs[i]++occs (rs.drop (i+1))).length:m)=_;rw[jn,e1];omega
  rw[this];congr 3;omega
theorem Qp(L:bg)(hL:L.length<=1000):∀(n i:F)(now:m)(acc:bg),i+n=L.length -> -64800<=now->now<=64800->acc.length<=i->(∀x∈acc,0<=x.1/\x.1<=8589934592)->Good now (acc.getLast?.map (·.1)) (L.drop i)->
  BU now (i:m) acc L=E (.inr (acc++cj now (L.drop i)))
 |0,i,now,acc,hi,_,_,_,_,_=>by
  rw[HW];simp only[j1x,show B (u L)=(L.length:m) from rfl];rw[ak aa,jd,ba,jj aa];simp[cj]
 |n+1,i,now,acc,hi,kK,nA,Be,dI,hg=>by
  have au:i<L.length:=aa;rw[jh au]at hg ⊢;have bm:L.getD i ((0:m),(0:m))=L[i]:=by simp[au]
  rw[HW];simp only[j1x,show B (u L)=(L.length:m) from rfl];rw[ah (show (i:m)<(L.length:m) by omega),bP];simp only[jc,je,bm];generalize L[i]=x at *;rw[ar (x:=(i:m)+1)];simp only[Good]at hg;by_cases hx:x.2=now
  .rw[if_pos hx]at hg;rw[fh hx];simp only[jc,aV,cj];rw[if_pos hx];exact Qp L hL n (i+1) now acc aa kK nA aa dI hg
  .rw[if_neg hx]at hg;obtain⟨⟨g1,g2,g3,g4,g5,g6,g7⟩,g8⟩:=hg;rw[cU hx,ar (x:=x.1-now),ar (x:=x.2-now)];simp only[jd,lP (show (-86399:m)<=x.2-now by omega) (show x.2-now<=86399 by omega),lP (show (0:m)<=x.1-now by omega) (show x.1-now<=8589934592 by omega),ja,jk,show B (u acc)=(acc.length:m) from rfl]
   have ff:=Qp L hL n (i+1) x.2 (acc++[(x.1-now,x.2)]) aa g6 g7 ay
    (λy hy=>by
     rcases js.1 hy with hy|hy
     .exact dI y hy
     .simp at hy;subst hy;exact⟨by show (0:m)<=x.1-now;omega,by show x.1-now<=8589934592;omega⟩) (by simpa using g8)
   have cF:cj now (x::L.drop (i+1))=(x.1-now,x.2)::cj x.2 (L.drop (i+1)):=by simp[cj,hx]
   rw[cF];rw[jo]at ff;rw[ar (x:=(acc.length:m)-1)];by_cases ha:acc=[]
   .subst ha;simp only[kr];rw[show H (((0:F):m)>0)=false from rfl];simp only[jd];rw[ah (by simp[aF])];simp only[jc,aV];exact ff
   .have bU:0<acc.length:=List.length_pos_iff.2 ha;have cG:acc.getLast? = E (acc.getD (acc.length-1) (0,0)):=by rw[List.getLast?_eq_getElem?,List.getD_eq_getElem?_getD,kb (show acc.length-1<acc.length by omega)];rfl
    rw[cG]at g5;have g5:(acc.getD (acc.length-1) ((0:m),(0:m))).1+604800<=x.1-now:=g5 _ rfl;have hb:=dI (acc.getD (acc.length-1) (0,0)) (List.mem_of_getLast? cG);rw[bP,ah (show (acc.length:m)>0 by omega),show ((acc.length:m)-1).toNat=acc.length-1 by omega];simp only[jc];rw[ar,ak (show¬x.1-now-(acc.getD (acc.length-1) ((0:m),(0:m))).1<604800 by omega),ah (by simp[aF];omega)];simp only[jc,jd,aV];exact ff
theorem jCK{nm:G}{o:m}{rs:I aH}(h:∀r∈rs,iF r)(lO : -64800<=o)(kP:o<=64800)(hlen:rs.length<=16)(hn:(occs rs).length<=640)(hg:Good o none (dE (occs rs))) :
  j0d (nm,(o,rs))=E (cj o (dE (occs rs)),0):=by
 have hl:(dE (occs rs)).length<=1000:=by simp[dE,B7];omega
 have e0:=Qo h aa nm o rs.length 0 0 aa aa aa;rw[jt]at e0;have e2:=Qp (dE (occs rs)) hl (dE (occs rs)).length 0 o [] aa lO kP af af hg;rw[jt]at e2;simp only[j0d,lP lO kP,ja,jk,jd,show B (u rs)=(rs.length:m) from rfl];rw[ak (show¬(rs.length:m)>16 by omega),jd,show BT 0 0 nm o rs=_ from e0];simp only[ja,lN];rw[ak aa,jd,Yo h aa];simp only[ja];rw[show BU o 0 [] (dE (occs rs))=_ from e2];rfl
def Z4(z:G×(m×I aH))(l:bg):Prop:=j0d z=E (l,0)/\iD z.2.1 l
theorem MZ.r4{o:m}{rs:I aH}(h:MZ o rs)(nm:G):Z4 (nm,(o,rs)) (cj o (dE (occs rs))):=by
 have ht:=h.tab nm;refine⟨jCK h.ok (by have:=h.o0;omega) (by have:=h.o1;omega) ?_ ?_ h.good,ht.2⟩
 .have:=h.len;omega
 .have:=h.few;omega
section
variable{o:m}{l:bg}(h:iD o l)
include h
theorem Yp{t:m}{k:F}(hk:k<=l.length)(h1:aS l k<=t)(h2:t<aS l (k+1)):∀(n i:F),i+n=k->EO l t (bj o l i) (i:m)=E (bj o l k)
 |0,i,hi=>by
  have hi:i=k:=aa;subst hi;have hlen:=h.len;rw[Wi];simp only[j4M,show B (u l)=(l.length:m) from rfl];by_cases au:i<l.length
  .have e:aS l (i+1)=dW l i:=gE au;rw[bP,ah (show (i:m)<(l.length:m) by omega)];simp only[zv,jc,je];rw[ak (show¬(l.getD i ((0:m),(0:m))).1<=t by show¬dW l i<=t;omega),jd,ba]
  .rw[ak (show¬(i:m)<(l.length:m) by omega)];simp only[jv,Bool.or_true,jc,jd,ba]
 |n+1,i,hi=>by
  have hlen:=h.len;have au:i<l.length:=aa;have e:aS l (i+1)=dW l i:=gE au;have hle:=h.frm_le (i:=i+1) (j:=k) aa aa;rw[Wi];simp only[j4M,show B (u l)=(l.length:m) from rfl];rw[bP,ah (show (i:m)<(l.length:m) by omega)];simp only[zv,jc,je];rw[ah (show (l.getD i ((0:m),(0:m))).1<=t by show dW l i<=t;omega),jc,ar,aV];exact Yp hk h1 h2 n (i+1) aa
theorem jwG{nm:G}{rs:I aH}{t:m}{k:F}(hk:k<=l.length)(h1:aS l k<=t)(h2:t<aS l (k+1)):jg9 (nm,(o,rs)) l t=E (bj o l k):=by
 have:=Yp h hk h1 h2 k 0 aa;simp only[jg9];rw[show EO l t o 0=_ from this];rfl
theorem Yq{nm:G}{rs:I aH}{d c:m}(hd : -1000000<=d)(ig:d<=1000000)(hc:0<=c)(fy:c<=86399){k:F}(hk:k<=l.length)(hks:d*86400+c-bj o l k<aS l (k+1))
  (hb:∀j,j<k->aS l (j+1)<=d*86400+c-bj o l j):∀(n j:F),j+n=k->uy ((j:m)-1) nm o rs d c l=E (.inl (max (aS l k) (d*86400+c-bj o l k),0))
 |n,j,hj=>by
  have hlen:=h.len;have qQ:j<=l.length:=aa;have o1:=h.of0 j qQ;have o2:=h.of1 j qQ;have au:=h.frm_lt qQ
  have key:∀A:S ((m×G×m×I aH×m×m×bg) ⊕ ((m×m) ⊕ Unit)),
    A=(cond (H (max (aS l j) (d*86400+c-bj o l j)<aS l (j+1))) (E (.inr (.inl (max (aS l j) (d*86400+c-bj o l j),0)))) (E (.inl ((j:m),nm,o,rs,d,c,l))))->
    lpK A (λh=>uy h.1 h.2.1 h.2.2.1 h.2.2.2.1 h.2.2.2.2.1 h.2.2.2.2.2.1 h.2.2.2.2.2.2)=E (.inl (max (aS l k) (d*86400+c-bj o l k),0)):=by
   intro A hA;rw[hA];cases n with
   |zero=>have rh:j=k:=aa;subst rh;rw[ah aa,jc,ba]
   |succ n=>have:=hb j aa;rw[ak aa,jd,aV];have ih:=Yq (nm:=nm) (rs:=rs) hd ig hc fy hk hks hb n (j+1) aa;rwa[show ((j+1:F):m)-1=(j:m) by omega]at ih
  rw[Nk];refine key _ ?_;simp only[j4d,show B (u l)=(l.length:m) from rfl];rw[ah (show (j:m)-1<(l.length:m) by omega)];simp only[show (j:m)-1+1=(j:m) by omega,ar (x:=(j:m)),je];rw[ar (x:=d*86400),ar (x:=d*86400+c)];have qR:∀a b:m,(if a>b then a else b)=max b a:=λa b=>aa;clear key;cases j with
  |zero=>
   have pb:bj o l 0=o:=rfl;have mi:aS l 0=0:=rfl;rw[ak (show¬((0:F):m)-1>=0 by omega)];rw[pb]at o1 o2 ⊢;rw[mi];simp only[jc,jd,ar (x:=d*86400+c-o),qR];by_cases ix:0<l.length
   .have e:aS l (0+1)=dW l 0:=gE ix;rw[e];rw[ah (show ((0:F):m)<(l.length:m) by omega),bP];rfl
   .have rX:l.length=0:=aa;have e:aS l (0+1)=8589934593:=by have:=lE (l:=l);rwa[rX]at this
    rw[e];rw[ak (show¬((0:F):m)<(l.length:m) by omega)];rfl
  |succ i=>
   have mK:i<l.length:=aa;have pb:bj o l (i+1)=(l.getD i ((0:m),(0:m))).2:=rfl;have mi:aS l (i+1)=(l.getD i ((0:m),(0:m))).1:=gE mK;rw[show ((i+1:F):m)-1=(i:m) by omega,ah (show (i:m)>=0 by omega),bP];simp only[jc,je,<-pb,<-mi];rw[ar (x:=d*86400+c-bj o l (i+1))];simp only[qR];by_cases ix:i+1<l.length
   .have e:aS l (i+1+1)=(l.getD (i+1) ((0:m),(0:m))).1:=gE ix;rw[ah (show ((i+1:F):m)<(l.length:m) by omega),bP];simp only[jc,<-e]
   .have e:aS l (i+1+1)=8589934593:=by have:=lE (l:=l);rwa[show l.length+1=i+1+1 by omega]at this
    rw[ak (show¬((i+1:F):m)<(l.length:m) by omega),e];rfl
end
theorem jut{t o:m}(h1 : -864000<=t+o)(h2:t+o<=1000000000000):ji9 t o=E ((t+o)/86400,(t+o)%86400):=by
 simp only[ji9];rw[ar (x:=t+o),ar (x:=t+o+864000),uz aa,zL aa,ar (x:=(t+o+864000)/86400),ar];congr 2<;>omega
section
variable{z:G×(m×I aH)}{l:bg}(h:Z4 z l)
include h
theorem jyp{t:m}{k:F}(h0:0<=t)(h1:t<=8589934592)(hk:k<=l.length)(dm:aS l k<=t)(eR:t<aS l (k+1)):jae z t=E (bj z.2.1 l k,0):=by
 simp only[jae,show j0d (z.1,(z.2.1,z.2.2))=_ from h.1,ja,jm,jd,lP h0 h1,jk,jwG h.2 hk dm eR]
theorem Yr{t:m}{k:F}(h0:0<=t)(h1:t<=8589934592)(hk:k<=l.length)(dm:aS l k<=t)(eR:t<aS l (k+1)):j3I z t=E (((t+bj z.2.1 l k)/86400,(t+bj z.2.1 l k)%86400),0):=by
 have o1:=h.2.of0 k hk;have o2:=h.2.of1 k hk;simp only[j3I,show jae (z.1,(z.2.1,z.2.2)) t=_ from jyp h h0 h1 hk dm eR,ja,jm,jd,jut (show -864000<=t+bj z.2.1 l k by omega) aa]
omit h in
theorem Qq{d:m}(h1 : -2<=d)(h2:d<=99422):jdF d=E true:=by
 simp only[jdF,lP h1 h2,ja]
theorem juu{d c:m}(hd : -2<=d)(ig:d<=99422)(hc:0<=c)(fy:c<=86399){k:F}(hk:k<=l.length)(hks:d*86400+c-bj z.2.1 l k<aS l (k+1))
  (hb:∀j,j<k->aS l (j+1)<=d*86400+c-bj z.2.1 l j):j4L z (d,c)=E (max (aS l k) (d*86400+c-bj z.2.1 l k),0):=by
 have:=Yq h.2 (nm:=z.1) (rs:=z.2.2) (show -1000000<=d by omega) aa hc fy hk hks hb k 0 aa;simp only[j4L,show j0d (z.1,(z.2.1,z.2.2))=_ from h.1,ja,jm,jd,lP hc fy,jk,Qq hd ig];rw[ak (show¬d < -2 by omega),jd,show uy (-1) z.1 z.2.1 z.2.2 d c l=_ from this];rfl
end
section
variable{o:m}{l:bg}(h:iD o l)
include h
def pd(o:m)(l:bg)(s:m):F->F->I m
 |_,0=>[]
 |j,n+1=>(if rT o l s j then [s-bj o l j] else [])++pd o l s (j+1) n
def jE(o:m)(l:bg)(s:m):I Int:=pd o l s 0 (l.length+1)
omit h in
theorem Jr(s:m):∀n j,(pd o l s j n).length<=n
 |0,_=>by simp[pd]
 |n+1,j=>by
  have:=Jr s n (j+1);simp only[pd];split<;>simp<;>omega
omit h in
theorem jyq{s:m}{j:F}:(cond (H (s-bj o l j>=aS l j)) (H (s-bj o l j<aS l (j+1))) false)=H (rT o l s j):=by
 by_cases h1:aS l j<=s-bj o l j
 .rw[ah (show s-bj o l j>=aS l j from h1),jc];by_cases h2:s-bj o l j<aS l (j+1)
  .rw[ah h2,ah (show rT o l s j from⟨h1,h2⟩)]
  .rw[ak h2,ak (λhs:rT o l s j=>h2 hs.2)]
 .rw[ak (show¬s-bj o l j>=aS l j from h1),jd,ak (λhs:rT o l s j=>h1 hs.1)]
theorem Ys{nm:G}{rs:I aH}{d c:m}(hd : -1000000<=d)(ig:d<=1000000)(hc:0<=c)(fy:c<=86399):∀(n j:F)(acc:I m),j+n=l.length+1->acc.length<=j->
  zG ((j:m)-1) nm o rs d c l acc=E (acc++pd o l (d*86400+c) j n)
 |0,j,acc,hj,_=>by
  rw[Ws];simp only[j3o,show B (u l)=(l.length:m) from rfl];rw[ak aa,jd,ba];simp[pd]
 |n+1,j,acc,hj,ha=>by
  have hlen:=h.len;have o1:=h.of0 j aa;have o2:=h.of1 j aa
  have key:∀A:S ((m×G×m×I aH×m×m×bg×I m) ⊕ I m),
    A=(cond (H (rT o l (d*86400+c) j)) (E (.inl ((j:m),nm,o,rs,d,c,l,acc++[d*86400+c-bj o l j]))) (E (.inl ((j:m),nm,o,rs,d,c,l,acc))))->
    lpK A (λh=>zG h.1 h.2.1 h.2.2.1 h.2.2.2.1 h.2.2.2.2.1 h.2.2.2.2.2.1 h.2.2.2.2.2.2.1 h.2.2.2.2.2.2.2)=E (acc++pd o l (d*86400+c) j (n+1)):=by
   intro A hA;rw[hA]
   have ih:∀bE:I m,bE.length<=j+1->zG (j:m) nm o rs d c l bE=E (bE++pd o l (d*86400+c) (j+1) n):=λbE h'=>by
    have:=Ys (nm:=nm) (rs:=rs) hd ig hc fy n (j+1) bE aa h';rwa[show ((j+1:F):m)-1=(j:m) by omega]at this
   by_cases hs:rT o l (d*86400+c) j
   .rw[ah hs,jc,aV];refine(ih (acc++[d*86400+c-bj o l j]) ay).trans ?_;simp[pd,hs]
   .rw[ak hs,jd,aV];refine(ih acc aa).trans ?_;simp[pd,hs]
  rw[Ws];refine key _ ?_;simp only[j3o,show B (u l)=(l.length:m) from rfl];rw[ah (show (j:m)-1<(l.length:m) by omega)];simp only[show (j:m)-1+1=(j:m) by omega,ar (x:=(j:m)),je];have bT:H (acc.length+[d*86400+c-bj o l j].length<=aF)=true:=ah (by simp[aF];omega);rw[ar (x:=d*86400),ar (x:=d*86400+c)];have dj:=jyq (o:=o) (l:=l) (s:=d*86400+c) (j:=j);cases j with
  |zero=>
   have pb:bj o l 0=o:=rfl;have mi:aS l 0=0:=rfl;rw[ak (show¬((0:F):m)-1>=0 by omega)];rw[pb]at o1 o2 bT dj ⊢;rw[mi]at dj;simp only[jc,jd,ar (x:=d*86400+c-o)];by_cases ix:0<l.length
   .have e:aS l (0+1)=dW l 0:=gE ix;rw[e]at dj;rw[ah (show ((0:F):m)<(l.length:m) by omega),bP];simp only[jc];rw[show (l.getD 0 ((0:m),(0:m))).1=dW l 0 from rfl,dj,bT];rfl
   .have rX:l.length=0:=aa;have e:aS l (0+1)=8589934593:=by have:=lE (l:=l);rwa[rX]at this
    rw[e]at dj;rw[ak (show¬((0:F):m)<(l.length:m) by omega)];simp only[jd];rw[dj,bT];rfl
  |succ i=>
   have mK:i<l.length:=aa;have pb:bj o l (i+1)=(l.getD i ((0:m),(0:m))).2:=rfl;have mi:aS l (i+1)=(l.getD i ((0:m),(0:m))).1:=gE mK;rw[show ((i+1:F):m)-1=(i:m) by omega,ah (show (i:m)>=0 by omega),bP];simp only[jc,je,<-pb,<-mi];rw[ar (x:=d*86400+c-bj o l (i+1))];by_cases ix:i+1<l.length
   .have e:aS l (i+1+1)=(l.getD (i+1) ((0:m),(0:m))).1:=gE ix;rw[ah (show ((i+1:F):m)<(l.length:m) by omega),bP];simp only[jc,<-e];rw[dj,bT];rfl
   .have e:aS l (i+1+1)=8589934593:=by have:=lE (l:=l);rwa[show l.length+1=i+1+1 by omega]at this
    rw[ak (show¬((i+1:F):m)<(l.length:m) by omega)];rw[e]at dj;simp only[jd];rw[dj,bT];rfl
end
section
variable{z:G×(m×I aH)}{l:bg}(h:Z4 z l)
include h
theorem Yt{d c:m}(hd : -2<=d)(ig:d<=99422)(hc:0<=c)(fy:c<=86399):j70 z (d,c)=E (jE z.2.1 l (d*86400+c),0):=by
 have:=Ys h.2 (nm:=z.1) (rs:=z.2.2) (show -1000000<=d by omega) aa hc fy (l.length+1) 0 [] aa af;simp only[j70,show j0d (z.1,(z.2.1,z.2.2))=_ from h.1,ja,jm,jd,lP hc fy,jk,Qq hd ig];rw[show zG (-1) z.1 z.2.1 z.2.2 d c l []=_ from this];rfl
end
def wP(o:m)(l:bg)(s:m):Prop:=∀j,j<=l.length->aS l (j+1)<=s-bj o l j
noncomputable def fO(o:m)(l:bg)(s:m):S Int:=open Classical in if h:∃t k,mQ o l s t k then E (Classical.choose h) else none
theorem mQ.uniq{o:m}{l:bg}{s t t':m}{k k':F}(f:mQ o l s t k)(g:mQ o l s t' k'):k=k'/\t=t':=by
 have hk:k=k':=by
  rcases vp k k' with au|heq|Cb
  .have:=g.bef k au;have:=f.hks;omega
  .exact heq
  .have:=f.bef k' Cb;have:=g.hks;omega
 subst hk;exact⟨rfl,by rw[f.ht,g.ht]⟩
theorem uE{o:m}{l:bg}{s t:m}{k:F}(f:mQ o l s t k):fO o l s=E t:=by
 have he:∃t k,mQ o l s t k:=⟨t,k,f⟩;unfold fO;rw[dif_pos he];obtain⟨k',g⟩:=Classical.choose_spec he;rw[(g.uniq f).2]
theorem rY{o:m}{l:bg}{s:m}(cY:wP o l s):fO o l s=none:=by
 unfold fO;rw[dif_neg]
 rintro⟨t,k,f⟩
 have:=cY k f.hk;have:=f.hks;omega
theorem Js(o:m)(l:bg)(s:m):(∃t k,mQ o l s t k)\/wP o l s:=by
 by_cases cY:wP o l s
 .exact .inr cY
 .left
  have:∃j,j<=l.length/\s-bj o l j<aS l (j+1):=by
   apply kn;intro hn
   exact cY λj hj=>by
    rcases R (s-bj o l j) (aS l (j+1)) with h|h
    .exact absurd ⟨j,hj,h⟩ hn
    .exact h
  obtain⟨j,hj,hjs⟩:=this;obtain⟨a,⟨ha,haN⟩,nj⟩:=wk (λj=>s-bj o l j<aS l (j+1)/\j<=l.length) j ⟨hjs,hj⟩;refine⟨_,a,haN,ha,λi hi=>?_,rfl⟩;rcases R (s-bj o l i) (aS l (i+1)) with h'|h'
  .have:=nj i ⟨h',aa⟩;omega
  .exact h'
theorem Jt{o:m}{l:bg}{s t:m}(he:fO o l s=E t):∃k,mQ o l s t k:=by
 rcases Js o l s with⟨t',k,f⟩|cY
 .rw[uE f]at he;simp at he;subst he;exact⟨k,f⟩
 .rw[rY cY]at he;simp at he
section
variable{o:m}{l:bg}(h:iD o l)
include h
theorem Cc{s t:m}(he:fO o l s=E t):s<=t+64800/\0<=t/\t<=8589934592:=by
 obtain⟨k,f⟩:=Jt he;obtain⟨p1,p2,p3⟩:=f.piece h;have o1:=h.of1 k f.hk;have g1:=h.frm_le (i:=0) (j:=k) aa (by have:=f.hk;omega);have e0:aS l 0=0:=lD;have e1:aS l (l.length+1)=8589934593:=lE;have g2:=h.frm_le (i:=k+1) (j:=l.length+1) (by have:=f.hk;omega) aa;omega
theorem Qr{s:m}(hs:8589934593+64800<=s):wP o l s:=λj hj=>by
 have o1:=h.of1 j hj;have e1:aS l (l.length+1)=8589934593:=lE;have g2:=h.frm_le (i:=j+1) (j:=l.length+1) aa aa;omega
theorem jAA{s s' t':m}(hs:s<=s')(he:fO o l s'=E t'):∃t,fO o l s=E t/\t<=t':=by
 obtain⟨k',g⟩:=Jt he;have g1:=g.hks;have bk:=g.hk;rcases Js o l s with⟨t,k,f⟩|cY
 .refine⟨t,uE f,?_⟩;obtain⟨p1,p2,p3⟩:=f.piece h;obtain⟨q1,q2,q3⟩:=g.piece h;have f1:=f.ht;have g2:=g.ht;rcases vp k k' with au|heq|Cb
  .have:=h.frm_le (i:=k+1) (j:=k') aa aa;omega
  .subst heq;omega
  .have:=f.bef k' Cb;omega
 .have:=cY k' bk;omega
theorem Yu{d c s:m}(kA:j46 (d,c)=E s)(iN : -1000000000000<=s)(kJ:s<=1000000000000)(cY:wP o l s) :
  ∀(n i:F),i+n=l.length+1->Ew ((l.length+1:F):m) (i:m) d c (pT o l (l.length+1))=E (.inr ())
 |0,i,hi=>by
  rw[Hx];simp only[j1m];rw[ak aa,jd,ba]
 |n+1,i,hi=>by
  have hlen:=h.len;have mK:i<=l.length:=aa;have o1:=h.of0 i mK;have o2:=h.of1 i mK;have hb:=cY i mK;have au:=h.frm_lt mK;rw[Hx];simp only[j1m];rw[ah (show (i:m)<((l.length+1:F):m) by omega),cb aa (by rw[zM];omega)];simp only[jc,je,P0 (show i<l.length+1 by omega),kA,ja,pc];rw[ar (x:=s-bj o l i),ar (x:=(i:m)+1)];have hm:(if s-bj o l i>aS l i then s-bj o l i else aS l i)=max (aS l i) (s-bj o l i):=by split<;>omega
  rw[hm,ak aa,jd,aV];exact Yu kA iN kJ cY n (i+1) aa
theorem Qs{d c s:m}(kA:j46 (d,c)=E s)(iN : -1000000000000<=s)(kJ:s<=1000000000000)(cY:wP o l s):j2H (o,l) (d,c)=E (0,false):=by
 have:=Yu h kA iN kJ cY (l.length+1) 0 aa;simp only[j2H,XC h,ja,zM,show B (u l+1)=((l.length+1:F):m) from rfl];rw[show (0:m)=((0:F):m) from rfl,this];rfl
theorem Yv{d c:m}(hd : -1000000<=d)(ig:d<=1000000000000000)(hc:0<=c)(fy:c<=86399) :
  j2H (o,l) (d,c)=E ((fO o l (d*86400+c)).getD 0,(fO o l (d*86400+c)).isSome):=by
 by_cases hb:d<=1000000
 .rcases Js o l (d*86400+c) with⟨t,k,f⟩|cY
  .have e:=jyi h hd hb aa aa f.hk f.hks f.bef;rw[<-f.ht]at e;rw[uE f];exact e
  .rw[rY cY];exact Qs h (P1 hd hb aa aa) aa aa cY
 .have cY:wP o l (d*86400+c):=Qr h aa;rw[rY cY];by_cases eF:d<=1048576
  .have kA:j46 (d,c)=E (d*86400+c):=by simp only[j46];rw[if_neg (show¬(-1048576:m)>d by omega),if_neg (show¬(1048576:m)<d by omega),ar (x:=d*86400),ar]
   exact Qs h kA aa aa cY
  .have kA:j46 (d,c)=E (1048576*86400+c):=by simp only[j46];rw[if_neg (show¬(-1048576:m)>d by omega),if_pos (show (1048576:m)<d by omega),ar (x:=1048576*86400),ar]
   exact Qs h kA aa aa (Qr h aa)
theorem Yw{nm:G}{rs:I aH}{d c:m}(hd : -1000000<=d)(ig:d<=1000000)(hc:0<=c)(fy:c<=86399)(cY:wP o l (d*86400+c)):∀(n j:F),j+n=l.length+1->
  uy ((j:m)-1) nm o rs d c l=E (.inr ())
 |0,j,hj=>by
  rw[Nk];simp only[j4d,show B (u l)=(l.length:m) from rfl];rw[ak aa,jd,ba]
 |n+1,j,hj=>by
  have hlen:=h.len;have qQ:j<=l.length:=aa;have o1:=h.of0 j qQ;have o2:=h.of1 j qQ;have au:=h.frm_lt qQ;have hb:=cY j qQ;have ih:=Yw (nm:=nm) (rs:=rs) hd ig hc fy cY n (j+1) aa;rw[show ((j+1:F):m)-1=(j:m) by omega]at ih
  have key:∀A:S ((m×G×m×I aH×m×m×bg) ⊕ ((m×m) ⊕ Unit)),
    A=(cond (H (max (aS l j) (d*86400+c-bj o l j)<aS l (j+1))) (E (.inr (.inl (max (aS l j) (d*86400+c-bj o l j),0)))) (E (.inl ((j:m),nm,o,rs,d,c,l))))->
    lpK A (λh=>uy h.1 h.2.1 h.2.2.1 h.2.2.2.1 h.2.2.2.2.1 h.2.2.2.2.2.1 h.2.2.2.2.2.2)=E (.inr ()):=by
   intro A hA;rw[hA,ak aa,jd,aV];exact ih
  rw[Nk];refine key _ ?_;simp only[j4d,show B (u l)=(l.length:m) from rfl];rw[ah (show (j:m)-1<(l.length:m) by omega)];simp only[show (j:m)-1+1=(j:m) by omega,ar (x:=(j:m)),je];rw[ar (x:=d*86400),ar (x:=d*86400+c)];have qR:∀a b:m,(if a>b then a else b)=max b a:=λa b=>aa;clear key;cases j with
  |zero=>
   have pb:bj o l 0=o:=rfl;have mi:aS l 0=0:=rfl;rw[ak (show¬((0:F):m)-1>=0 by omega)];rw[pb]at o1 o2 ⊢;rw[mi];simp only[jc,jd,ar (x:=d*86400+c-o),qR];by_cases ix:0<l.length
   .have e:aS l (0+1)=dW l 0:=gE ix;rw[e];rw[ah (show ((0:F):m)<(l.length:m) by omega),bP];rfl
   .have rX:l.length=0:=aa;have e:aS l (0+1)=8589934593:=by have:=lE (l:=l);rwa[rX]at this
    rw[e];rw[ak (show¬((0:F):m)<(l.length:m) by omega)];rfl
  |succ i=>
   have mK:i<l.length:=aa;have pb:bj o l (i+1)=(l.getD i ((0:m),(0:m))).2:=rfl;have mi:aS l (i+1)=(l.getD i ((0:m),(0:m))).1:=gE mK;rw[show ((i+1:F):m)-1=(i:m) by omega,ah (show (i:m)>=0 by omega),bP];simp only[jc,je,<-pb,<-mi];rw[ar (x:=d*86400+c-bj o l (i+1))];simp only[qR];by_cases ix:i+1<l.length
   .have e:aS l (i+1+1)=(l.getD (i+1) ((0:m),(0:m))).1:=gE ix;rw[ah (show ((i+1:F):m)<(l.length:m) by omega),bP];simp only[jc,<-e]
   .have e:aS l (i+1+1)=8589934593:=by have:=lE (l:=l);rwa[show l.length+1=i+1+1 by omega]at this
    rw[ak (show¬((i+1:F):m)<(l.length:m) by omega),e];rfl
end
theorem Qt{z:bS}{l:bg}(h:Z4 z l){d c:m}(hd:1<=d)(hc:0<=c)(fy:c<=86399) :
  j4L z (d,c)=E (match fO z.2.1 l (d*86400+c) with|some t=>(t,0)|none=>(0,10)):=by
 by_cases hb:d<=99422
 .rcases Js z.2.1 l (d*86400+c) with⟨t,k,f⟩|cY
  .have e:=juu h (d:=d) (c:=c) aa hb hc fy f.hk f.hks f.bef;rw[<-f.ht]at e;rw[uE f];exact e
  .have:=Yw h.2 (nm:=z.1) (rs:=z.2.2) (show -1000000<=d by omega) aa hc fy cY (l.length+1) 0 aa;rw[rY cY];simp only[j4L,show j0d (z.1,(z.2.1,z.2.2))=_ from h.1,ja,jm,jd,lP hc fy,jk,Qq (show -2<=d by omega) hb];rw[ak (show¬d < -2 by omega),jd,show uy (-1) z.1 z.2.1 z.2.2 d c l=_ from this];rfl
 .rw[rY (Qr h.2 aa)];simp only[j4L,show j0d (z.1,(z.2.1,z.2.2))=_ from h.1,ja,jm,jd,lP hc fy,jk,jdF,Qn (show¬(-2<=d/\d<=99422) by omega)];rw[ak (show¬d < -2 by omega)];rfl
end Go.Proofs.Pw
