/- gH 4: the um transitions, GH and Dk are Ug of the program. -/
import Derived.Test.YtllkgjaoejhneaaGreatCEPC
open _root_ renaming Int->m,Nat->F,ByteArray->G,List->M,Option->U
open List renaming length->u,drop->H,take_append_of_le_length->I,take_of_length_le->N,range->O,take->R
open Option renaming some->B,none->Z
open Int renaming ofNat->E,lt_or_le->S
open Decidable renaming decide->J
open Go Go.Lft
namespace Go.Proofs.Pw
theorem la{n lo hi:m}(h1:lo<=n)(h2:n<=hi):j7d n lo hi=B true:=by
 simp only[j7d];rw[ai (show n>=lo from h1),ai h2];rfl
theorem Ng{n lo hi:m}(h:¬(lo<=n/\n<=hi)):j7d n lo hi=B false:=by
 simp only[j7d];by_cases h1:n>=lo
 .rw[ai h1,al (λh2=>h ⟨h1,h2⟩)];rfl
 .rw[al h1];rfl
theorem jrs{r:aP}(h:gx r):j8S r=B true:=by
 simp only[j8S,la h.y0 (show r.1<=2240 by have:=h.y1;have:=h.y2;omega),la h.y1 h.y2,la h.m0 h.m1,la h.k0 h.k1,la h.d0 h.d1,la h.s0 h.s1,la h.o0 h.o1,ja,jc]
theorem Uh(x:m×m):∀l:aW,iB x l=l.takeWhile (λy=>J (x.1<y.1))++x::l.dropWhile (λy=>J (x.1<y.1))
 |[]=>rfl
 |y::ys=>by
  unfold iB;by_cases h:x.1<y.1
  .rw[if_pos h,Uh x ys];simp[h]
  .rw[if_neg h];simp[h]
theorem Ui{rs:M aP}{i y a b:m}:∀(rp mid:aW),rp.length+mid.length<=100000->
  Cr rs i y (rp.length:m) a b (rp.reverse++mid)=B (rs,i,y,((rp.dropWhile (λz=>J (a<z.1))).length:m),a,b,rp.reverse++mid)
 |[],mid,_=>by
  rw[Se];simp only[j2m];rw[al af,jd,bd];rfl
 |z::zs,mid,hl=>by
  have hL:((z::zs).reverse++mid).length=zs.length+1+mid.length:=aN;simp only[ju]at hl;have g2:((z::zs).reverse++mid).getD ((((zs.length+1:F):m)-1).toNat) ((0:m),(0:m))=z:=by rw[show (((zs.length+1:F):m)-1).toNat=zs.length by omega];simp
  rw[Se];simp only[j2m,ju];simp only[au (x:=((zs.length+1:F):m)-1),g2];rw[ai (show ((zs.length+1:F):m)>0 by omega),cG aa (by rw[hL];omega)];simp only[jc];by_cases hc:a<z.1
  .rw[ai (show z.1>a from hc)];simp only[jc,aZ];have ih:=Ui (rs:=rs) (i:=i) (y:=y) (a:=a) (b:=b) zs (z::mid) aN;have e:(z::zs).reverse++mid=zs.reverse++z::mid:=af;rw[e,show ((zs.length+1:F):m)-1=(zs.length:m) by omega,ih];simp[hc]
  .rw[al (show¬z.1>a from hc)];simp only[jd,bd];simp[hc]
theorem jv3(l:aW)(x:m×m){k:F}(hk:k<=l.length):List.set (over (l++[x]) (k+1) (H k (l++[x]))) k x=l.take k++x::l.drop k:=by
 have h1:(l++[x]).length=l.length+1:=af;unfold over;rw[h1,jk (show (l++[x]).length<=k+1+(H k (l++[x])).length by simp;omega),zh];have e1:H k (l++[x])=H k l++[x]:=by rw[List.drop_append_of_le_length hk]
 rw[e1];have e2:R (l.length+1-(k+1)) (H k l++[x])=H k l:=by rw[I af,N af]
 rw[e2];by_cases h:k<l.length
 .have e3:R (k+1) (l++[x])=l.take k++[l[k]]:=by rw[I aa,List.take_succ_eq_append_getElem h]
  rw[e3,kc,List.set_append_right _ _ aN];simp[Nat.min_eq_left hk]
 .have bg:k=l.length:=aa;subst bg;have e3:R (l.length+1) (l++[x])=l++[x]:=N af;rw[e3];simp
theorem Uj{rs:M aP}{i:F}(hi:i<rs.length){r:aP}(hr:rs[i]=r)(h:gx r):∀(n j:F)(acc:aW),r.1+(j:m)+n=r.2.1+1->acc.length+n<=90000->
  FC rs (i:m) (r.1+(j:m)) acc.reverse=B (rs,(i:m),(iC ((O n).map λ(q:F)=>cd r (r.1+(j:m)+(q:m))) acc).reverse)
 |0,j,acc,hj,_=>by
  have hg:rs.getD i ((0:m),((0:m),((0:m),((0:m),((0:m),((0:m),(0:m)))))))=r:=by simp[hi,hr]
  rw[Sf];simp only[j2n];rw[bR];simp only[jc,je,hg];rw[al aa,jd,bd];rfl
 |n+1,j,acc,hj,hl=>by
  have hg:rs.getD i ((0:m),((0:m),((0:m),((0:m),((0:m),((0:m),(0:m)))))))=r:=by simp[hi,hr]
  have h0:=h.y0;have h2:=h.y2;have gE:=h.s0;have iN:=h.s1;have hv:=wW (yS (r.1+(j:m)) r.2.2.1 aa aa h.m0 h.m1);have hn:=Gz (w:=r.2.2.2.2.1) (y:=r.1+(j:m)) aa aa h.m0 h.m1 h.k0 h.k1;have hd:=lF (r.1+(j:m)) r.2.2.1;rw[Sf];simp only[j2n];rw[bR];simp only[jc,je,hg];rw[ai (show r.1+(j:m)<=r.2.1 by omega),fJ _ _ _ _ aa aa h.m0 h.m1 h.k0 h.k1 h.d0 h.d1];simp only[jc,ja];rw[au (x:=nth (r.1+(j:m)) r.2.2.1 r.2.2.2.1 r.2.2.2.2.1*86400),au (x:=nth (r.1+(j:m)) r.2.2.1 r.2.2.2.1 r.2.2.2.2.1*86400+r.2.2.2.2.2.1)];have Dd:=Ui (rs:=rs) (i:=(i:m)) (y:=r.1+(j:m)) (a:=(cd r (r.1+(j:m))).1) (b:=(cd r (r.1+(j:m))).2) acc [] aN;rw[zh]at Dd;rw[show E (u acc.reverse)=(acc.length:m) by simp];rw[show Cr rs (i:m) (r.1+(j:m)) (acc.length:m) (nth (r.1+(j:m)) r.2.2.1 r.2.2.2.1 r.2.2.2.2.1*86400+r.2.2.2.2.2.1) r.2.2.2.2.2.2 acc.reverse=_ from Dd];simp only[ja];generalize hx:cd r (r.1+(j:m))=x at *;have rB:(acc.dropWhile (λz=>J (x.1<z.1))).length<=acc.length:=(List.dropWhile_sublist _).length_le;generalize hD:acc.dropWhile (λz=>J (x.1<z.1))=D at *;have uq:(acc.reverse++[(x.1,x.2)]).length=acc.length+1:=af;rw[ai (by simp[aR];omega)];simp only[jc]
  rw[au (x:=(D.length:m)+1),ai (show (0:m)<=(D.length:m)+1 by omega),ai (show (D.length:m)+1<=E (acc.reverse++[(x.1,x.2)]).length by rw[uq];show (D.length:m)+1<=((acc.length+1:F):m);omega),
   ai (show (0:m)<=(D.length:m) by omega),ai (show (D.length:m)<=E (acc.reverse++[(x.1,x.2)]).length by rw[uq];show (D.length:m)<=((acc.length+1:F):m);omega)]
  simp only[Bool.and_self,jc,je,show ((D.length:m)+1).toNat=D.length+1 by omega];have vB:(over (acc.reverse++[(x.1,x.2)]) (D.length+1) (H D.length (acc.reverse++[(x.1,x.2)]))).length=acc.length+1:=by unfold over;simp;omega
  rw[cG aa (by rw[vB];omega),jv3 acc.reverse (x.1,x.2) (by simpa using rB)];simp only[jc];rw[au (x:=r.1+(j:m)+1),aZ];have wT:acc.reverse.take D.length++(x.1,x.2)::acc.reverse.drop D.length=(iB x acc).reverse:=by have dp:=List.takeWhile_append_dropWhile (p:=λz:m×m=>J (x.1<z.1)) (l:=acc);rw[Uh,hD];rw[hD]at dp;generalize acc.takeWhile (λz=>J (x.1<z.1))=T at dp ⊢;rw[<-dp];simp
  rw[wT];have ih:=Uj hi hr h n (j+1) (iB x acc) aa (by rw[C6];omega);rw[show r.1+(j:m)+1=r.1+((j+1:F):m) by omega];refine ih.trans ?_
  have wY:(O n).map (λ(q:F)=>cd r (r.1+((j+1:F):m)+(q:m)))=(O n).map ((λ(q:F)=>cd r (r.1+(j:m)+(q:m))) ∘ Nat.succ):=List.map_congr_left λq _=>by
   simp only[Function.comp];congr 1;omega
  rw[List.range_succ_eq_map,qq,List.map_map,wY];simp[iC,hx]
theorem Uk:∀(a b acc:aW),iC (a++b) acc=iC b (iC a acc)
 |[],_,_=>rfl
 |x::a,b,acc=>by simp only[List.cons_append,iC];exact Uk a b _
theorem Ul{rs:M aP}(h:∀r∈rs,gx r)(hlen:rs.length<=100):∀(n i:F)(acc:aW),i+n=rs.length->acc.length<=300*i->
  Cs rs (i:m) acc.reverse=B (iC (occs (rs.drop i)) acc).reverse
 |0,i,acc,hi,_=>by
  rw[Sh];simp only[j2o,show E (u rs)=(rs.length:m) from rfl];rw[al aa,jd,bd,jk aa];rfl
 |n+1,i,acc,hi,hl=>by
  have ay:i<rs.length:=aa;have hr:=h rs[i] (jq ay);have h0:=hr.y0;have h1:=hr.y1;have h2:=hr.y2;have hg:rs.getD i ((0:m),((0:m),((0:m),((0:m),((0:m),((0:m),(0:m)))))))=rs[i]:=by simp[ay]
  have Al:=Uj ay rfl hr (rs[i].2.1-rs[i].1+1).toNat 0 acc aa aa;rw[show rs[i].1+((0:F):m)=rs[i].1 by omega]at Al;have ih:=Ul h hlen n (i+1) (iC (fo rs[i]) acc) aa (by rw[C7];simp[fo];omega);rw[Sh];simp only[j2o,show E (u rs)=(rs.length:m) from rfl];rw[ai (show (i:m)<(rs.length:m) by omega),bR];simp only[jc,je,hg,Al,ja];rw[au,aZ,jj ay];refine ih.trans ?_;show _=B (iC (fo rs[i]++occs (rs.drop (i+1))) acc).reverse;rw[Uk]
theorem Um{rs:M aP}(h:∀r∈rs,gx r)(hlen:rs.length<=100):j7v rs=B (dD (occs rs)):=by
 have e:=Ul h hlen rs.length 0 [] aa af;simp only[j7v];rw[show Cs rs 0 []=_ from e];rfl
theorem Nh{rs:M aP}(h:∀r∈rs,gx r)(hlen:rs.length<=100)(nm:G)(o:m):∀(n i:F)(s:m),i+n=rs.length->0<=s->s<=300*i->
  yI s (i:m) nm o rs=B (.inr (s+((occs (rs.drop i)).length:m),nm,o,rs))
 |0,i,s,hi,_,_=>by
  rw[Ki];simp only[j1C,show E (u rs)=(rs.length:m) from rfl];rw[al aa,jd,bd,jk aa];simp[occs]
 |n+1,i,s,hi,gE,iN=>by
  have ay:i<rs.length:=aa;have hr:=h rs[i] (jq ay);have h0:=hr.y0;have h1:=hr.y1;have h2:=hr.y2;have hg:rs.getD i ((0:m),((0:m),((0:m),((0:m),((0:m),((0:m),(0:m)))))))=rs[i]:=by simp[ay]
  have ih:=Nh h hlen nm o n (i+1) (s+(rs[i].2.1-rs[i].1+1)) aa aa aa;have pO:j8S (rs[i].1,(rs[i].2.1,(rs[i].2.2.1,(rs[i].2.2.2.1,(rs[i].2.2.2.2.1,(rs[i].2.2.2.2.2.1,rs[i].2.2.2.2.2.2))))))=B true:=jrs hr;rw[Ki];simp only[j1C,show E (u rs)=(rs.length:m) from rfl];rw[ai (show (i:m)<(rs.length:m) by omega),bR];simp only[jc,je,hg,pO,ja,jl,jd];rw[au (x:=rs[i].2.1-rs[i].1),au (x:=rs[i].2.1-rs[i].1+1),au (x:=s+(rs[i].2.1-rs[i].1+1)),au (x:=(i:m)+1),aZ];refine ih.trans ?_;rw[jj ay]
  have:((occs (rs[i]::rs.drop (i+1))).length:m)=(rs[i].2.1-rs[i].1+1)+((occs (rs.drop (i+1))).length:m):=by
   have e1:(fo rs[i]).length=(rs[i].2.1-rs[i].1+1).toNat:=by simp[fo]
   show ((fo rs[i]++occs (rs.drop (i+1))).length:m)=_;rw[jv,e1];omega
  rw[this];congr 3;omega
theorem Ni(L:aW)(hL:L.length<=1000):∀(n i:F)(now:m)(acc:aW),i+n=L.length -> -64800<=now->now<=64800->acc.length<=i->(∀x∈acc,0<=x.1/\x.1<=8589934592)->Good now (acc.getLast?.map (·.1)) (L.drop i)->
  yJ now (i:m) acc L=B (.inr (acc++bV now (L.drop i)))
 |0,i,now,acc,hi,_,_,_,_,_=>by
  rw[FD];simp only[j1j,show E (u L)=(L.length:m) from rfl];rw[al aa,jd,bd,jk aa];simp[bV]
 |n+1,i,now,acc,hi,h9,lD,yc,gY,hg=>by
  have ay:i<L.length:=aa;rw[jj ay]at hg ⊢;have bG:L.getD i ((0:m),(0:m))=L[i]:=by simp[ay]
  rw[FD];simp only[j1j,show E (u L)=(L.length:m) from rfl];rw[ai (show (i:m)<(L.length:m) by omega),bR];simp only[jc,je,bG];generalize L[i]=x at *;rw[au (x:=(i:m)+1)];simp only[Good]at hg;by_cases hx:x.2=now
  .rw[if_pos hx]at hg;rw[fi hx];simp only[jc,aZ,bV];rw[if_pos hx];exact Ni L hL n (i+1) now acc aa h9 lD aa gY hg
  .rw[if_neg hx]at hg;obtain⟨⟨g1,g2,g3,g4,g5,g6,g7⟩,g8⟩:=hg;rw[cN hx,au (x:=x.1-now),au (x:=x.2-now)];simp only[jd,la (show (-86399:m)<=x.2-now by omega) (show x.2-now<=86399 by omega),la (show (0:m)<=x.1-now by omega) (show x.1-now<=8589934592 by omega),ja,jl,show E (u acc)=(acc.length:m) from rfl]
   have dZ:=Ni L hL n (i+1) x.2 (acc++[(x.1-now,x.2)]) aa g6 g7 aN
    (λy hy=>by
     rcases jx.1 hy with hy|hy
     .exact gY y hy
     .simp at hy;subst hy;exact⟨by show (0:m)<=x.1-now;omega,by show x.1-now<=8589934592;omega⟩) (by simpa using g8)
   have dX:bV now (x::L.drop (i+1))=(x.1-now,x.2)::bV x.2 (L.drop (i+1)):=by simp[bV,hx]
   rw[dX];rw[kc]at dZ;rw[au (x:=(acc.length:m)-1)];by_cases ha:acc=[]
   .subst ha;simp only[ku];rw[show J (((0:F):m)>0)=false from rfl];simp only[jd];rw[ai (by simp[aR])];simp only[jc,aZ];exact dZ
   .have cI:0<acc.length:=List.length_pos_iff.2 ha;have cW:acc.getLast? = B (acc.getD (acc.length-1) (0,0)):=by rw[List.getLast?_eq_getElem?,List.getD_eq_getElem?_getD,ka (show acc.length-1<acc.length by omega)];rfl
    rw[cW]at g5;have g5:(acc.getD (acc.length-1) ((0:m),(0:m))).1+604800<=x.1-now:=g5 _ rfl;have hb:=gY (acc.getD (acc.length-1) (0,0)) (List.mem_of_getLast? cW);rw[bR,ai (show (acc.length:m)>0 by omega),show ((acc.length:m)-1).toNat=acc.length-1 by omega];simp only[jc];rw[au,al (show¬x.1-now-(acc.getD (acc.length-1) ((0:m),(0:m))).1<604800 by omega),ai (by simp[aR];omega)];simp only[jc,jd,aZ];exact dZ
theorem jyv{nm:G}{o:m}{rs:M aP}(h:∀r∈rs,gx r)(jU : -64800<=o)(iV:o<=64800)(hlen:rs.length<=16)(hn:(occs rs).length<=640)(hg:Good o Z (dD (occs rs))) :
  j0g (nm,(o,rs))=B (bV o (dD (occs rs)),0):=by
 have hl:(dD (occs rs)).length<=1000:=by simp[dD,C7];omega
 have e0:=Nh h aa nm o rs.length 0 0 aa aa aa;rw[jw]at e0;have e2:=Ni (dD (occs rs)) hl (dD (occs rs)).length 0 o [] aa jU iV af af hg;rw[jw]at e2;simp only[j0g,la jU iV,ja,jl,jd,show E (u rs)=(rs.length:m) from rfl];rw[al (show¬(rs.length:m)>16 by omega),jd,show yI 0 0 nm o rs=_ from e0];simp only[ja,kW];rw[al aa,jd,Um h aa];simp only[ja];rw[show yJ o 0 [] (dD (occs rs))=_ from e2];rfl
def Z4(z:G×(m×M aP))(l:aW):Prop:=j0g z=B (l,0)/\gv z.2.1 l
theorem MZ.r4{o:m}{rs:M aP}(h:MZ o rs)(nm:G):Z4 (nm,(o,rs)) (bV o (dD (occs rs))):=by
 have ht:=h.tab nm;refine⟨jyv h.ok (by have:=h.o0;omega) (by have:=h.o1;omega) ?_ ?_ h.good,ht.2⟩
 .have:=h.len;omega
 .have:=h.few;omega
section
variable{o:m}{l:aW}(h:gv o l)
include h
theorem Un{t:m}{k:F}(hk:k<=l.length)(h1:ba l k<=t)(h2:t<ba l (k+1)):∀(n i:F),i+n=k->Cw l t (bL o l i) (i:m)=B (bL o l k)
 |0,i,hi=>by
  have hi:i=k:=aa;subst hi;have hlen:=h.len;rw[SA];simp only[j49,show E (u l)=(l.length:m) from rfl];by_cases ay:i<l.length
  .have e:ba l (i+1)=dS l i:=ie ay;rw[bR,ai (show (i:m)<(l.length:m) by omega)];simp only[zj,jc,je];rw[al (show¬(l.getD i ((0:m),(0:m))).1<=t by show¬dS l i<=t;omega),jd,bd]
  .rw[al (show¬(i:m)<(l.length:m) by omega)];simp only[jo,vw,jc,jd,bd]
 |n+1,i,hi=>by
  have hlen:=h.len;have ay:i<l.length:=aa;have e:ba l (i+1)=dS l i:=ie ay;have hle:=h.frm_le (i:=i+1) (j:=k) aa aa;rw[SA];simp only[j49,show E (u l)=(l.length:m) from rfl];rw[bR,ai (show (i:m)<(l.length:m) by omega)];simp only[zj,jc,je];rw[ai (show (l.getD i ((0:m),(0:m))).1<=t by show dS l i<=t;omega),jc,au,aZ];exact Un hk h1 h2 n (i+1) aa
theorem jtB{nm:G}{rs:M aP}{t:m}{k:F}(hk:k<=l.length)(h1:ba l k<=t)(h2:t<ba l (k+1)):jed (nm,(o,rs)) l t=B (bL o l k):=by
 have:=Un h hk h1 h2 k 0 aa;simp only[jed];rw[show Cw l t o 0=_ from this];rfl
theorem Uo{nm:G}{rs:M aP}{d c:m}(hd : -1000000<=d)(ir:d<=1000000)(hc:0<=c)(fp:c<=86399){k:F}(hk:k<=l.length)(hks:d*86400+c-bL o l k<ba l (k+1))
  (hb:∀j,j<k->ba l (j+1)<=d*86400+c-bL o l j):∀(n j:F),j+n=k->si ((j:m)-1) nm o rs d c l=B (.inl (max (ba l k) (d*86400+c-bL o l k),0))
 |n,j,hj=>by
  have hlen:=h.len;have oJ:j<=l.length:=aa;have o1:=h.of0 j oJ;have o2:=h.of1 j oJ;have ay:=h.frm_lt oJ
  have key:∀A:U ((m×G×m×M aP×m×m×aW) ⊕ ((m×m) ⊕ Unit)),
    A=(cond (J (max (ba l j) (d*86400+c-bL o l j)<ba l (j+1))) (B (.inr (.inl (max (ba l j) (d*86400+c-bL o l j),0)))) (B (.inl ((j:m),nm,o,rs,d,c,l))))->
    lpK A (λh=>si h.1 h.2.1 h.2.2.1 h.2.2.2.1 h.2.2.2.2.1 h.2.2.2.2.2.1 h.2.2.2.2.2.2)=B (.inl (max (ba l k) (d*86400+c-bL o l k),0)):=by
   intro A hA;rw[hA];cases n with
   |zero=>have Ie:j=k:=aa;subst Ie;rw[ai aa,jc,bd]
   |succ n=>have:=hb j aa;rw[al aa,jd,aZ];have ih:=Uo (nm:=nm) (rs:=rs) hd ir hc fp hk hks hb n (j+1) aa;rwa[show ((j+1:F):m)-1=(j:m) by omega]at ih
  rw[Kj];refine key _ ?_;simp only[j3C,show E (u l)=(l.length:m) from rfl];rw[ai (show (j:m)-1<(l.length:m) by omega)];simp only[show (j:m)-1+1=(j:m) by omega,au (x:=(j:m)),je];rw[au (x:=d*86400),au (x:=d*86400+c)];have vA:∀a b:m,(if a>b then a else b)=max b a:=λa b=>aa;clear key;cases j with
  |zero=>
   have su:bL o l 0=o:=rfl;have pg:ba l 0=0:=rfl;rw[al (show¬((0:F):m)-1>=0 by omega)];rw[su]at o1 o2 ⊢;rw[pg];simp only[jc,jd,au (x:=d*86400+c-o),vA];by_cases kE:0<l.length
   .have e:ba l (0+1)=dS l 0:=ie kE;rw[e];rw[ai (show ((0:F):m)<(l.length:m) by omega),bR];rfl
   .have xb:l.length=0:=aa;have e:ba l (0+1)=8589934593:=by have:=mo (l:=l);rwa[xb]at this
    rw[e];rw[al (show¬((0:F):m)<(l.length:m) by omega)];rfl
  |succ i=>
   have mC:i<l.length:=aa;have su:bL o l (i+1)=(l.getD i ((0:m),(0:m))).2:=rfl;have pg:ba l (i+1)=(l.getD i ((0:m),(0:m))).1:=ie mC;rw[show ((i+1:F):m)-1=(i:m) by omega,ai (show (i:m)>=0 by omega),bR];simp only[jc,je,<-su,<-pg];rw[au (x:=d*86400+c-bL o l (i+1))];simp only[vA];by_cases kE:i+1<l.length
   .have e:ba l (i+1+1)=(l.getD (i+1) ((0:m),(0:m))).1:=ie kE;rw[ai (show ((i+1:F):m)<(l.length:m) by omega),bR];simp only[jc,<-e]
   .have e:ba l (i+1+1)=8589934593:=by have:=mo (l:=l);rwa[show l.length+1=i+1+1 by omega]at this
    rw[al (show¬((i+1:F):m)<(l.length:m) by omega),e];rfl
end
theorem jrt{t o:m}(h1 : -864000<=t+o)(h2:t+o<=1000000000000):jg2 t o=B ((t+o)/86400,(t+o)%86400):=by
 simp only[jg2];rw[au (x:=t+o),au (x:=t+o+864000),qS aa,yR aa,au (x:=(t+o+864000)/86400),au];congr 2<;>omega
section
variable{z:G×(m×M aP)}{l:aW}(h:Z4 z l)
include h
theorem jv4{t:m}{k:F}(h0:0<=t)(h1:t<=8589934592)(hk:k<=l.length)(df:ba l k<=t)(eb:t<ba l (k+1)):j8W z t=B (bL z.2.1 l k,0):=by
 simp only[j8W,show j0g (z.1,(z.2.1,z.2.2))=_ from h.1,ja,ji,jd,la h0 h1,jl,jtB h.2 hk df eb]
theorem Up{t:m}{k:F}(h0:0<=t)(h1:t<=8589934592)(hk:k<=l.length)(df:ba l k<=t)(eb:t<ba l (k+1)):j3b z t=B (((t+bL z.2.1 l k)/86400,(t+bL z.2.1 l k)%86400),0):=by
 have o1:=h.2.of0 k hk;have o2:=h.2.of1 k hk;simp only[j3b,show j8W (z.1,(z.2.1,z.2.2)) t=_ from jv4 h h0 h1 hk df eb,ja,ji,jd,jrt (show -864000<=t+bL z.2.1 l k by omega) aa]
omit h in
theorem Uq{d:m}(h1 : -2<=d)(h2:d<=99422):jdv d=B true:=by
 simp only[jdv,la h1 h2,ja]
theorem jru{d c:m}(hd : -2<=d)(ir:d<=99422)(hc:0<=c)(fp:c<=86399){k:F}(hk:k<=l.length)(hks:d*86400+c-bL z.2.1 l k<ba l (k+1))
  (hb:∀j,j<k->ba l (j+1)<=d*86400+c-bL z.2.1 l j):j2V z (d,c)=B (max (ba l k) (d*86400+c-bL z.2.1 l k),0):=by
 have:=Uo h.2 (nm:=z.1) (rs:=z.2.2) (show -1000000<=d by omega) aa hc fp hk hks hb k 0 aa;simp only[j2V,show j0g (z.1,(z.2.1,z.2.2))=_ from h.1,ja,ji,jd,la hc fp,jl,Uq hd ir];rw[al (show¬d < -2 by omega),jd,show si (-1) z.1 z.2.1 z.2.2 d c l=_ from this];rfl
end
section
variable{o:m}{l:aW}(h:gv o l)
include h
end
section
variable{z:G×(m×M aP)}{l:aW}(h:Z4 z l)
include h
end
def ur(o:m)(l:aW)(s:m):Prop:=∀j,j<=l.length->ba l (j+1)<=s-bL o l j
noncomputable def fO(o:m)(l:aW)(s:m):U Int:=open Classical in if h:∃t k,mR o l s t k then B (Classical.choose h) else Z
theorem mR.uniq{o:m}{l:aW}{s t t':m}{k k':F}(f:mR o l s t k)(g:mR o l s t' k'):k=k'/\t=t':=by
 have hk:k=k':=by
  rcases vr k k' with ay|heq|yU
  .have:=g.bef k ay;have:=f.hks;omega
  .exact heq
  .have:=f.bef k' yU;have:=g.hks;omega
 subst hk;exact⟨rfl,by rw[f.ht,g.ht]⟩
theorem pQ{o:m}{l:aW}{s t:m}{k:F}(f:mR o l s t k):fO o l s=B t:=by
 have he:∃t k,mR o l s t k:=⟨t,k,f⟩;unfold fO;rw[dif_pos he];obtain⟨k',g⟩:=Classical.choose_spec he;rw[(g.uniq f).2]
theorem pR{o:m}{l:aW}{s:m}(cX:ur o l s):fO o l s=none:=by
 unfold fO;rw[dif_neg]
 rintro⟨t,k,f⟩
 have:=cX k f.hk;have:=f.hks;omega
theorem Dl(o:m)(l:aW)(s:m):(∃t k,mR o l s t k)\/ur o l s:=by
 by_cases cX:ur o l s
 .exact .inr cX
 .left
  have:∃j,j<=l.length/\s-bL o l j<ba l (j+1):=by
   apply zg;intro hn
   exact cX λj hj=>by
    rcases S (s-bL o l j) (ba l (j+1)) with h|h
    .exact absurd ⟨j,hj,h⟩ hn
    .exact h
  obtain⟨j,hj,hjs⟩:=this;obtain⟨a,⟨ha,haN⟩,rC⟩:=Bz (λj=>s-bL o l j<ba l (j+1)/\j<=l.length) j ⟨hjs,hj⟩;refine⟨_,a,haN,ha,λi hi=>?_,rfl⟩;rcases S (s-bL o l i) (ba l (i+1)) with h'|h'
  .have:=rC i ⟨h',aa⟩;omega
  .exact h'
theorem Ur{o:m}{l:aW}{s t:m}(he:fO o l s=B t):∃k,mR o l s t k:=by
 rcases Dl o l s with⟨t',k,f⟩|cX
 .rw[pQ f]at he;simp at he;subst he;exact⟨k,f⟩
 .rw[pR cX]at he;simp at he
section
variable{o:m}{l:aW}(h:gv o l)
include h
theorem xc{s t:m}(he:fO o l s=B t):s<=t+64800/\0<=t/\t<=8589934592:=by
 obtain⟨k,f⟩:=Ur he;obtain⟨p1,p2,p3⟩:=f.piece h;have o1:=h.of1 k f.hk;have g1:=h.frm_le (i:=0) (j:=k) aa (by have:=f.hk;omega);have e0:ba l 0=0:=mn;have e1:ba l (l.length+1)=8589934593:=mo;have g2:=h.frm_le (i:=k+1) (j:=l.length+1) (by have:=f.hk;omega) aa;omega
theorem Nj{s:m}(hs:8589934593+64800<=s):ur o l s:=λj hj=>by
 have o1:=h.of1 j hj;have e1:ba l (l.length+1)=8589934593:=mo;have g2:=h.frm_le (i:=j+1) (j:=l.length+1) aa aa;omega
theorem jwO{s s' t':m}(hs:s<=s')(he:fO o l s'=B t'):∃t,fO o l s=B t/\t<=t':=by
 obtain⟨k',g⟩:=Ur he;have g1:=g.hks;have bg:=g.hk;rcases Dl o l s with⟨t,k,f⟩|cX
 .refine⟨t,pQ f,?_⟩;obtain⟨p1,p2,p3⟩:=f.piece h;obtain⟨q1,q2,q3⟩:=g.piece h;have f1:=f.ht;have g2:=g.ht;rcases vr k k' with ay|heq|yU
  .have:=h.frm_le (i:=k+1) (j:=k') aa aa;omega
  .subst heq;omega
  .have:=f.bef k' yU;omega
 .have:=cX k' bg;omega
theorem Us{d c s:m}(lb:j3w (d,c)=B s)(gE : -1000000000000<=s)(iN:s<=1000000000000)(cX:ur o l s) :
  ∀(n i:F),i+n=l.length+1->Ck ((l.length+1:F):m) (i:m) d c (od o l (l.length+1))=B (.inr ())
 |0,i,hi=>by
  rw[Fi];simp only[j1b];rw[al aa,jd,bd]
 |n+1,i,hi=>by
  have hlen:=h.len;have mC:i<=l.length:=aa;have o1:=h.of0 i mC;have o2:=h.of1 i mC;have hb:=cX i mC;have ay:=h.frm_lt mC;rw[Fi];simp only[j1b];rw[ai (show (i:m)<((l.length+1:F):m) by omega),cG aa (by rw[wS];omega)];simp only[jc,je,ML (show i<l.length+1 by omega),lb,ja,pc];rw[au (x:=s-bL o l i),au (x:=(i:m)+1)];have hm:(if s-bL o l i>ba l i then s-bL o l i else ba l i)=max (ba l i) (s-bL o l i):=by split<;>omega
  rw[hm,al aa,jd,aZ];exact Us lb gE iN cX n (i+1) aa
theorem Nk{d c s:m}(lb:j3w (d,c)=B s)(gE : -1000000000000<=s)(iN:s<=1000000000000)(cX:ur o l s):j1l (o,l) (d,c)=B (0,false):=by
 have:=Us h lb gE iN cX (l.length+1) 0 aa;simp only[j1l,Tz h,ja,wS,show E (u l+1)=((l.length+1:F):m) from rfl];rw[show (0:m)=((0:F):m) from rfl,this];rfl
theorem Nl{d c:m}(hd : -1000000<=d)(ir:d<=1000000000000000)(hc:0<=c)(fp:c<=86399) :
  j1l (o,l) (d,c)=B ((fO o l (d*86400+c)).getD 0,(fO o l (d*86400+c)).isSome):=by
 by_cases hb:d<=1000000
 .rcases Dl o l (d*86400+c) with⟨t,k,f⟩|cX
  .have e:=juX h hd hb aa aa f.hk f.hks f.bef;rw[<-f.ht]at e;rw[pQ f];exact e
  .rw[pR cX];exact Nk h (MM hd hb aa aa) aa aa cX
 .have cX:ur o l (d*86400+c):=Nj h aa;rw[pR cX];by_cases dM:d<=1048576
  .have lb:j3w (d,c)=B (d*86400+c):=by simp only[j3w];rw[if_neg (show¬(-1048576:m)>d by omega),if_neg (show¬(1048576:m)<d by omega),au (x:=d*86400),au]
   exact Nk h lb aa aa cX
  .have lb:j3w (d,c)=B (1048576*86400+c):=by simp only[j3w];rw[if_neg (show¬(-1048576:m)>d by omega),if_pos (show (1048576:m)<d by omega),au (x:=1048576*86400),au]
   exact Nk h lb aa aa (Nj h aa)
theorem Ut{nm:G}{rs:M aP}{d c:m}(hd : -1000000<=d)(ir:d<=1000000)(hc:0<=c)(fp:c<=86399)(cX:ur o l (d*86400+c)):∀(n j:F),j+n=l.length+1->
  si ((j:m)-1) nm o rs d c l=B (.inr ())
 |0,j,hj=>by
  rw[Kj];simp only[j3C,show E (u l)=(l.length:m) from rfl];rw[al aa,jd,bd]
 |n+1,j,hj=>by
  have hlen:=h.len;have oJ:j<=l.length:=aa;have o1:=h.of0 j oJ;have o2:=h.of1 j oJ;have ay:=h.frm_lt oJ;have hb:=cX j oJ;have ih:=Ut (nm:=nm) (rs:=rs) hd ir hc fp cX n (j+1) aa;rw[show ((j+1:F):m)-1=(j:m) by omega]at ih
  have key:∀A:U ((m×G×m×M aP×m×m×aW) ⊕ ((m×m) ⊕ Unit)),
    A=(cond (J (max (ba l j) (d*86400+c-bL o l j)<ba l (j+1))) (B (.inr (.inl (max (ba l j) (d*86400+c-bL o l j),0)))) (B (.inl ((j:m),nm,o,rs,d,c,l))))->
    lpK A (λh=>si h.1 h.2.1 h.2.2.1 h.2.2.2.1 h.2.2.2.2.1 h.2.2.2.2.2.1 h.2.2.2.2.2.2)=B (.inr ()):=by
   intro A hA;rw[hA,al aa,jd,aZ];exact ih
  rw[Kj];refine key _ ?_;simp only[j3C,show E (u l)=(l.length:m) from rfl];rw[ai (show (j:m)-1<(l.length:m) by omega)];simp only[show (j:m)-1+1=(j:m) by omega,au (x:=(j:m)),je];rw[au (x:=d*86400),au (x:=d*86400+c)];have vA:∀a b:m,(if a>b then a else b)=max b a:=λa b=>aa;clear key;cases j with
  |zero=>
   have su:bL o l 0=o:=rfl;have pg:ba l 0=0:=rfl;rw[al (show¬((0:F):m)-1>=0 by omega)];rw[su]at o1 o2 ⊢;rw[pg];simp only[jc,jd,au (x:=d*86400+c-o),vA];by_cases kE:0<l.length
   .have e:ba l (0+1)=dS l 0:=ie kE;rw[e];rw[ai (show ((0:F):m)<(l.length:m) by omega),bR];rfl
   .have xb:l.length=0:=aa;have e:ba l (0+1)=8589934593:=by have:=mo (l:=l);rwa[xb]at this
    rw[e];rw[al (show¬((0:F):m)<(l.length:m) by omega)];rfl
  |succ i=>
   have mC:i<l.length:=aa;have su:bL o l (i+1)=(l.getD i ((0:m),(0:m))).2:=rfl;have pg:ba l (i+1)=(l.getD i ((0:m),(0:m))).1:=ie mC;rw[show ((i+1:F):m)-1=(i:m) by omega,ai (show (i:m)>=0 by omega),bR];simp only[jc,je,<-su,<-pg];rw[au (x:=d*86400+c-bL o l (i+1))];simp only[vA];by_cases kE:i+1<l.length
   .have e:ba l (i+1+1)=(l.getD (i+1) ((0:m),(0:m))).1:=ie kE;rw[ai (show ((i+1:F):m)<(l.length:m) by omega),bR];simp only[jc,<-e]
   .have e:ba l (i+1+1)=8589934593:=by have:=mo (l:=l);rwa[show l.length+1=i+1+1 by omega]at this
    rw[al (show¬((i+1:F):m)<(l.length:m) by omega),e];rfl
end
theorem GI{z:bz}{l:aW}(h:Z4 z l){d c:m}(hd:1<=d)(hc:0<=c)(fp:c<=86399) :
  j2V z (d,c)=B (match fO z.2.1 l (d*86400+c) with|some t=>(t,0)|none=>(0,10)):=by
 by_cases hb:d<=99422
 .rcases Dl z.2.1 l (d*86400+c) with⟨t,k,f⟩|cX
  .have e:=jru h (d:=d) (c:=c) aa hb hc fp f.hk f.hks f.bef;rw[<-f.ht]at e;rw[pQ f];exact e
  .have:=Ut h.2 (nm:=z.1) (rs:=z.2.2) (show -1000000<=d by omega) aa hc fp cX (l.length+1) 0 aa;rw[pR cX];simp only[j2V,show j0g (z.1,(z.2.1,z.2.2))=_ from h.1,ja,ji,jd,la hc fp,jl,Uq (show -2<=d by omega) hb];rw[al (show¬d < -2 by omega),jd,show si (-1) z.1 z.2.1 z.2.2 d c l=_ from this];rfl
 .rw[pR (Nj h.2 aa)];simp only[j2V,show j0g (z.1,(z.2.1,z.2.2))=_ from h.1,ja,ji,jd,la hc fp,jl,jdv,Ng (show¬(-2<=d/\d<=99422) by omega)];rw[al (show¬d < -2 by omega)];rfl
structure Rt(L:bh):Prop where
 d0:1<=L.2.2.1.1
 d1:L.2.2.1.1<=100000
 c0:0<=L.2.2.1.2
 c1:L.2.2.1.2<=86399
 u0:0<=L.2.2.2.1
 u1:L.2.2.2.1<=2
 e0:1<=L.2.2.2.2.1
 e1:L.2.2.2.2.1<=400
 m0:L.2.2.2.2.2.1≠[]
theorem Rt.step{L:bh}(h:Rt L):1<=dx L/\dx L<=2800:=by
 have:=h.e0;have:=h.e1;unfold dx;split<;>omega
noncomputable def hO(o:m)(l:aW)(L:bh)(k:m):U Int:=
 if L.2.2.2.1=0 then (fO o l (dy L 0)).bind λt=>if t+3600*L.2.2.2.2.1*k<=8589934592 then B (t+3600*L.2.2.2.2.1*k) else Z
 else fO o l (dy L k)
section
variable{o:m}{l:aW}(ht:gv o l){L:bh}(h:Rt L)
include ht h
theorem Dm{k t:m}(hk:0<=k)(he:hO o l L k=B t):0<=t/\t<=8589934592/\k<=2386092:=by
 have hs:=h.step;have GJ:=h.d0;have qQ:=h.e0;have gn:=h.c0;unfold hO at he;by_cases h0:L.2.2.2.1=0
 .rw[if_pos h0]at he;cases hf:fO o l (dy L 0) with
  |none=>rw[hf]at he;simp at he
  |some v=>
   rw[hf]at he;simp only[ja]at he;have hv:=xc ht hf;have hm:3600*k<=3600*L.2.2.2.2.1*k:=Int.mul_le_mul_of_nonneg_right aa hk;split at he
   .simp at he;omega
   .simp at he
 .rw[if_neg h0]at he;have hv:=xc ht he;have hm:k*1<=k*dx L:=Int.mul_le_mul_of_nonneg_left hs.1 hk;unfold dy at hv;omega
theorem jv5{k t:m}(he:hO o l L (k+1)=B t):∃v,hO o l L k=B v/\v<=t:=by
 have hs:=h.step;have qQ:=h.e0;unfold hO at he ⊢;by_cases h0:L.2.2.2.1=0
 .rw[if_pos h0]at he ⊢;cases hf:fO o l (dy L 0) with
  |none=>rw[hf]at he;simp at he
  |some v=>
   rw[hf]at he;simp only[ja]at he ⊢;have hm:3600*L.2.2.2.2.1*(k+1)=3600*L.2.2.2.2.1*k+3600*L.2.2.2.2.1:=by rw[Int.mul_add,Int.mul_one]
   split at he
   .rw[if_pos aa];simp at he;exact⟨_,rfl,aa⟩
   .simp at he
 .rw[if_neg h0]at he ⊢;have hm:(k+1)*dx L=k*dx L+dx L:=by rw[Int.add_mul,Int.one_mul]
  exact jwO ht (by unfold dy;rw[hm];omega) he
def QO(o:m)(l:aW)(L:bh)(t k:m):Prop:=∃v,hO o l L k=B v/\v<=t
theorem QO.down{t:m}:∀(n:F){k:m},QO o l L t (k+n)->QO o l L t k
 |0,k,hq=>by rwa[show k+((0:F):m)=k by omega]at hq
 |n+1,k,hq=>by
  rw[show k+((n+1:F):m)=k+(n:m)+1 by omega]at hq;obtain⟨v,hv,ya⟩:=hq;obtain⟨v',gp,hl⟩:=jv5 ht h (k:=k+(n:m)) hv;exact QO.down n ⟨v',gp,aa⟩
theorem QO.le{t k j:m}(dO:k<=j)(hq:QO o l L t j):QO o l L t k:=by
 refine QO.down ht h (j-k).toNat ?_;rwa[show k+(((j-k).toNat:F):m)=j by omega]
def sv(o:m)(l:aW)(L:bh)(t K:m):Prop:=(K = -1/\¬QO o l L t 0)\/(0<=K/\QO o l L t K/\¬QO o l L t (K+1))
theorem sv.uniq{t K K':m}(a:sv o l L t K)(b:sv o l L t K'):K=K':=by
 rcases a with⟨a1,a2⟩|⟨a1,a2,a3⟩<;>rcases b with⟨b1,b2⟩|⟨b1,b2,b3⟩
 .omega
 .exact absurd (QO.le ht h b1 b2) a2
 .exact absurd (QO.le ht h a1 a2) b2
 .rcases Int.lt_trichotomy K K' with ay|heq|yU
  .exact absurd (QO.le ht h aa b2) a3
  .exact heq
  .exact absurd (QO.le ht h aa a2) b3
theorem QO.day{t k:m}(h0:L.2.2.2.1≠0)(hq:QO o l L t k){j:F}(hj:j<=l.length):L.2.2.1.1+k*dx L<=(t+bL o l j)/86400+2:=by
 obtain⟨v,hv,ya⟩:=hq;unfold hO at hv;rw[if_neg h0]at hv;have:=xc ht hv;have o0:=ht.of0 j hj;have gn:=h.c0;unfold dy at this;omega
end
end Go.Proofs.Pw
