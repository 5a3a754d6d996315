/- Chapter 4: the reference's transitions, offsets and instants are those of the program. -/
import Derived.Test.YtgepoeafaklbjaaGreatPFPB
import Derived.Test.YtgepoeafaklbjaaGreatPFPA
open _root_ renaming Int->m,Nat->u,List->B,ByteArray->E,Option->Ä
open Option renaming some->p,isSome_some->U,isSome_none->Å
open Int renaming ofNat->F,mul_nonneg->R,mul_le_mul->S,tdiv_eq_ediv_of_nonneg->W,ediv_le_self->Z,ediv_nonneg->Á,tdiv->Ì
open List renaming length->G,drop_eq_getElem_cons->H,getElem_mem->M,getD_eq_getElem?_getD->X,getElem?_eq_getElem->Y,drop_of_length_le->À,drop->Ã,append_nil->Ç,range->È,drop_zero->É
open Bool renaming not_true->I,not_false->O,true_or->Ë
open Decidable renaming decide->J
open Go Go.Lft
namespace Go.Proofs.Pw
theorem jbc{n lo hi:m}(h1:lo<=n)(h2:n<=hi):j9r n lo hi=p true:=by
 grind[j9r]
theorem jCr{n lo hi:m}(h:¬(lo<=n/\n<=hi)):j9r n lo hi=p false:=by
 grind[j9r]
theorem jtF{r:Rule}(h:ROk r):jfo r=p true:=by
 simp only[jfo,jbc h.y0 (show r.1<=2240 by have:=h.y1;have:=h.y2;omega),jbc h.y1 h.y2,jbc h.m0 h.m1,jbc h.k0 h.k1,jbc h.d0 h.d1,jbc h.s0 h.s1,jbc h.o0 h.o1,j4,j6]
theorem jjw(x:m×m):∀l:TrL,ja2 x l=l.takeWhile (λy=>J (x.1<y.1))++x::l.dropWhile (λy=>J (x.1<y.1))
 |[]=>rfl
 |y::ys=>by
  unfold ja2;by_cases h:x.1<y.1
  .rw[if_pos h,jjw x ys];simp[h]
  .rw[if_neg h];simp[h]
theorem jCs{rs:B Rule}{i y a b:m}:∀(rp mid:TrL),rp.length+mid.length<=100000->
  j72 rs i y (rp.length:m) a b (rp.reverse++mid)=p (rs,i,y,((rp.dropWhile (λz=>J (a<z.1))).length:m),a,b,rp.reverse++mid)
 |[],mid,_=>by
  rw[jaD];simp(disch:=omega)only[S0];rfl
 |z::zs,mid,hl=>by
  have hL:((z::zs).reverse++mid).length=zs.length+1+mid.length:=sqo_;simp only[List.length_cons]at hl;have g2:((z::zs).reverse++mid).getD ((((zs.length+1:u):m)-1).toNat) (0,0)=z:=by simp(disch:=omega)only[S0];simp
  rw[jaD];simp(disch:=omega)only[j4n,g2,S0];by_cases hc:a<z.1
  .simp(disch:=omega)only[S0];have ih:=jCs (rs:=rs) (i:=i) (y:=y) (a:=a) (b:=b) zs (z::mid) sqo_;have e:(z::zs).reverse++mid=zs.reverse++z::mid:=smp_;rw[e,show ((zs.length+1:u):m)-1=(zs.length:m) by omega,ih];simp[hc]
  .simp(disch:=omega)only[S0];simp[hc]
theorem jym(l:TrL)(x:m×m){k:u}(hk:k<=l.length):List.set (over (l++[x]) (k+1) (Ã k (l++[x]))) k x=l.take k++x::l.drop k:=by
 have h1:(l++[x]).length=l.length+1:=smp_;unfold over;rw[h1,À (show (l++[x]).length<=k+1+(Ã k (l++[x])).length by simp;omega),Ç];have e1:Ã k (l++[x])=Ã k l++[x]:=by rw[List.drop_append_of_le_length hk]
 grind[List.take_succ_eq_append_getElem]
theorem jCt{rs:B Rule}{i:u}(hi:i<rs.length){r:Rule}(hr:rs[i]=r)(h:ROk r):∀(n j:u)(acc:TrL),r.1+(j:m)+n=r.2.1+1->acc.length+n<=90000->
  j9s rs (i:m) (r.1+(j:m)) acc.reverse=p (rs,(i:m),(j4o ((È n).map λ(q:u)=>occ r (r.1+(j:m)+(q:m))) acc).reverse)
 |0,j,acc,hj,_=>by
  have hg:rs.getD i (0,0,0,0,0,0,0)=r:=by simp[hi,hr]
  rw[jaE];simp(disch:=omega)only[j2N,hg,S0];rfl
 |n+1,j,acc,hj,hl=>by
  have hg:rs.getD i (0,0,0,0,0,0,0)=r:=by simp[hi,hr]
  have h0:=h.y0;have h2:=h.y2;have hs0:=h.s0;have hs1:=h.s1;have hv:=jfS (jdV (r.1+(j:m)) r.2.2.1 omg_ omg_ h.m0 h.m1);have hn:=jlw (w:=r.2.2.2.2.1) (y:=r.1+(j:m)) omg_ omg_ h.m0 h.m1 h.k0 h.k1;have hd:=j7D (r.1+(j:m)) r.2.2.1;rw[jaE];simp only[j2N];rw[j0O];simp only[j6,j8,hg];rw[j00 (show r.1+(j:m)<=r.2.1 by omega),jtE _ _ _ _ omg_ omg_ h.m0 h.m1 h.k0 h.k1 h.d0 h.d1];simp only[j6,j4];rw[j05 (x:=nth (r.1+(j:m)) r.2.2.1 r.2.2.2.1 r.2.2.2.2.1*86400),j05 (x:=nth (r.1+(j:m)) r.2.2.1 r.2.2.2.1 r.2.2.2.2.1*86400+r.2.2.2.2.2.1)];have hl4:=jCs (rs:=rs) (i:=(i:m)) (y:=r.1+(j:m)) (a:=(occ r (r.1+(j:m))).1) (b:=(occ r (r.1+(j:m))).2) acc [] sqo_;rw[Ç]at hl4;rw[show F (G acc.reverse)=(acc.length:m) by simp];rw[show j72 rs (i:m) (r.1+(j:m)) (acc.length:m) (nth (r.1+(j:m)) r.2.2.1 r.2.2.2.1 r.2.2.2.2.1*86400+r.2.2.2.2.2.1) r.2.2.2.2.2.2 acc.reverse=_ from hl4];simp only[j4];generalize hx:occ r (r.1+(j:m))=x at *;have hdl:(acc.dropWhile (λz=>J (x.1<z.1))).length<=acc.length:=(List.dropWhile_sublist _).length_le;generalize hD:acc.dropWhile (λz=>J (x.1<z.1))=D at *;have hlen1:(acc.reverse++[(x.1,x.2)]).length=acc.length+1:=smp_;rw[j00 (by simp[j02];omega)];simp only[j6]
  rw[j05 (x:=(D.length:m)+1),j00 (show (0:m)<=(D.length:m)+1 by omega),j00 (show (D.length:m)+1<=F (acc.reverse++[(x.1,x.2)]).length by simp_all),
   j00 (show (0:m)<=(D.length:m) by omega),j00 (show (D.length:m)<=F (acc.reverse++[(x.1,x.2)]).length by grind)]
  simp only[Bool.and_self,j6,j8,show ((D.length:m)+1).toNat=D.length+1 by omega];have hov:(over (acc.reverse++[(x.1,x.2)]) (D.length+1) (Ã D.length (acc.reverse++[(x.1,x.2)]))).length=acc.length+1:=by unfold over;simp;omega
  rw[j0X omg_ (by rw[hov];omega),jym acc.reverse (x.1,x.2) (by simpa using hdl)];simp only[j6];rw[j05 (x:=r.1+(j:m)+1),j03];have hins:acc.reverse.take D.length++(x.1,x.2)::acc.reverse.drop D.length=(ja2 x acc).reverse:=by grind[List.takeWhile_append_dropWhile,jjw]
  rw[hins];have ih:=jCt hi hr h n (j+1) (ja2 x acc) omg_ (by rw[jdU];omega);rw[show r.1+(j:m)+1=r.1+((j+1:u):m) by omega];refine ih.trans ?_
  have hmap:(È n).map (λ(q:u)=>occ r (r.1+((j+1:u):m)+(q:m)))=(È n).map ((λ(q:u)=>occ r (r.1+(j:m)+(q:m))) ∘ Nat.succ):=List.map_congr_left λq _=>by
   grind
  grind[List.range_succ_eq_map,j4o]
theorem jjx:∀(a b acc:TrL),j4o (a++b) acc=j4o b (j4o a acc)
 |[],_,_=>rfl
 |x::a,b,acc=>by simp only[List.cons_append,j4o];exact jjx a b _
theorem jCu{rs:B Rule}(h:∀r∈rs,ROk r)(hlen:rs.length<=100):∀(n i:u)(acc:TrL),i+n=rs.length->acc.length<=300*i->
  j73 rs (i:m) acc.reverse=p (j4o (occs (rs.drop i)) acc).reverse
 |0,i,acc,hi,_=>by
  rw[jaF];simp(disch:=omega)only[j2O,À,S0];rfl
 |n+1,i,acc,hi,hl=>by
  have hlt:i<rs.length:=omg_;have hr:=h rs[i] (M hlt);have h0:=hr.y0;have h1:=hr.y1;have h2:=hr.y2;have hg:rs.getD i (0,0,0,0,0,0,0)=rs[i]:=by simp[hlt]
  have hl2:=jCt hlt rfl hr (rs[i].2.1-rs[i].1+1).toNat 0 acc omg_ omg_;rw[show rs[i].1+((0:u):m)=rs[i].1 by omega]at hl2;have ih:=jCu h hlen n (i+1) (j4o (occR rs[i]) acc) omg_ (by grind[jaO,occR]);rw[jaF];simp(disch:=omega)only[j2O,hl2,H hlt,S0];grind[occR,occs,jjx]
theorem jyn{rs:B Rule}(h:∀r∈rs,ROk r)(hlen:rs.length<=100):j9t rs=p (j8g (occs rs)):=by
 have e:=jCu h hlen rs.length 0 [] omg_ smp_;simp only[j9t];rw[show j73 rs 0 []=_ from e];rfl
theorem jzq{rs:B Rule}(h:∀r∈rs,ROk r)(hlen:rs.length<=100)(nm:E)(o:m):∀(n i:u)(s:m),i+n=rs.length->0<=s->s<=300*i->
  j55 s (i:m) nm o rs=p (.inr (s+((occs (rs.drop i)).length:m),nm,o,rs))
 |0,i,s,hi,_,_=>by
  grind[jaG,j2P,S0,occs]
 |n+1,i,s,hi,hs0,hs1=>by
  have hlt:i<rs.length:=omg_;have hr:=h rs[i] (M hlt);have h0:=hr.y0;have h1:=hr.y1;have h2:=hr.y2;have hg:rs.getD i (0,0,0,0,0,0,0)=rs[i]:=by simp[hlt]
  have ih:=jzq h hlen nm o n (i+1) (s+(rs[i].2.1-rs[i].1+1)) omg_ omg_ omg_;have hrule:jfo (rs[i].1,rs[i].2.1,rs[i].2.2.1,rs[i].2.2.2.1,rs[i].2.2.2.2.1,rs[i].2.2.2.2.2.1,rs[i].2.2.2.2.2.2)=p true:=jtF hr;rw[jaG];simp(disch:=omega)only[j2P,hrule,S0];refine ih.trans ?_;rw[H hlt];grind[occs,occR]
theorem jB0(L:TrL)(hL:L.length<=1000):∀(n i:u)(now:m)(acc:TrL),i+n=L.length -> -64800<=now->now<=64800->acc.length<=i->(∀x∈acc,0<=x.1/\x.1<=8589934592)->Good now (acc.getLast?.map (·.1)) (L.drop i)->
  j56 now (i:m) acc L=p (.inr (acc++outT now (L.drop i)))
 |0,i,now,acc,hi,_,_,_,_,_=>by
  grind[jaH,j2Q,j06,outT]
 |n+1,i,now,acc,hi,hn0,hn1,hal,hacc,hg=>by
  have hlt:i<L.length:=omg_;rw[H hlt]at hg ⊢;have hgd:L.getD i (0,0)=L[i]:=by simp[hlt]
  rw[jaH];simp only[j2Q,show F (G L)=(L.length:m) from rfl];rw[j00 (show (i:m)<(L.length:m) by omega),j0O];simp only[j6,j8,hgd];generalize L[i]=x at *;rw[j05 (x:=(i:m)+1)];simp only[Good]at hg;by_cases hx:x.2=now
  .rw[if_pos hx]at hg;rw[j43 hx];simp only[j6,j03,outT];rw[if_pos hx];exact jB0 L hL n (i+1) now acc omg_ hn0 hn1 omg_ hacc hg
  .rw[if_neg hx]at hg;obtain⟨⟨g1,g2,g3,g4,g5,g6,g7⟩,g8⟩:=hg;rw[j1G hx,j05 (x:=x.1-now),j05 (x:=x.2-now)];simp only[j7,jbc (show (-86399:m)<=x.2-now by omega) (show x.2-now<=86399 by omega),jbc (show (0:m)<=x.1-now by omega) (show x.1-now<=8589934592 by omega),j4,I,show F (G acc)=(acc.length:m) from rfl]
   have hnext:=jB0 L hL n (i+1) x.2 (acc++[(x.1-now,x.2)]) omg_ g6 g7 sqo_
    (λy hy=>by
     grind) (by simpa using g8)
   have hout:outT now (x::L.drop (i+1))=(x.1-now,x.2)::outT x.2 (L.drop (i+1)):=by simp[outT,hx]
   rw[hout];rw[List.append_assoc]at hnext;rw[j05 (x:=(acc.length:m)-1)];by_cases ha:acc=[]
   .grind[j02,j03]
   .have hpos:0<acc.length:=List.length_pos_iff.2 ha;have hlast:acc.getLast? = p (acc.getD (acc.length-1) (0,0)):=by grind
    rw[hlast]at g5;have g5:(acc.getD (acc.length-1) (0,0)).1+604800<=x.1-now:=g5 _ rfl;have hb:=hacc (acc.getD (acc.length-1) (0,0)) (List.mem_of_getLast? hlast);rw[j0O,j00 (show (acc.length:m)>0 by omega),show ((acc.length:m)-1).toNat=acc.length-1 by omega];simp only[j6];grind[j4N,j02,j03]
theorem jDM{nm:E}{o:m}{rs:B Rule}(h:∀r∈rs,ROk r)(ho0 : -64800<=o)(ho1:o<=64800)(hlen:rs.length<=16)(hn:(occs rs).length<=640)(hg:Good o none (j8g (occs rs))) :
  j0q (nm,o,rs)=p (outT o (j8g (occs rs)),0):=by
 have hl:(j8g (occs rs)).length<=1000:=by simp[j8g,jaO];omega
 have e0:=jzq h omg_ nm o rs.length 0 0 omg_ omg_ omg_;rw[É]at e0;have e2:=jB0 (j8g (occs rs)) hl (j8g (occs rs)).length 0 o [] omg_ ho0 ho1 smp_ smp_ hg;rw[É]at e2;simp(disch:=omega)only[j0q,jbc ho0 ho1,show j55 0 0 nm o rs=_ from e0,jyn h omg_,show j56 o 0 [] (j8g (occs rs))=_ from e2,S0];rfl
def Z4(z:E×m×B Rule)(l:TrL):Prop:=j0q z=p (l,0)/\TOk z.2.1 l
theorem MZ.r4{o:m}{rs:B Rule}(h:MZ o rs)(nm:E):Z4 (nm,o,rs) (outT o (j8g (occs rs))):=by
 have ht:=h.tab nm;refine⟨jDM h.ok (by have:=h.o0;omega) (by have:=h.o1;omega) ?_ ?_ h.good,ht.2⟩;all_goals grind[len,few]
section
variable{o:m}{l:TrL}(h:TOk o l)
include h
theorem jpC{t:m}{k:u}(hk:k<=l.length)(h1:frm l k<=t)(h2:t<frm l (k+1)):∀(n i:u),i+n=k->jbo l t (tof o l i) (i:m)=p (tof o l k)
 |0,i,hi=>by
  have hi:i=k:=omg_;subst hi;have hlen:=h.len;rw[jeM];simp only[j5a,show F (G l)=(l.length:m) from rfl];by_cases hlt:i<l.length
  .have e:frm l (i+1)=tat l i:=jdi hlt;rw[j0O,j00 (show (i:m)<(l.length:m) by omega)];simp only[Ë,j6,j8];rw[j01 (show¬(l.getD i (0,0)).1<=t by show¬tat l i<=t;omega),j7,j06]
  .rw[j01 (show¬(i:m)<(l.length:m) by omega)];simp only[O,Bool.or_true,j6,j7,j06]
 |n+1,i,hi=>by
  have hlen:=h.len;have hlt:i<l.length:=omg_;have e:frm l (i+1)=tat l i:=jdi hlt;have hle:=h.frm_le (i:=i+1) (j:=k) omg_ omg_;rw[jeM];simp only[j5a,show F (G l)=(l.length:m) from rfl];rw[j0O,j00 (show (i:m)<(l.length:m) by omega)];simp only[Ë,j6,j8];rw[j00 (show (l.getD i (0,0)).1<=t by show tat l i<=t;omega),j6,j05,j03];exact jpC hk h1 h2 n (i+1) omg_
theorem jvZ{nm:E}{rs:B Rule}{t:m}{k:u}(hk:k<=l.length)(h1:frm l k<=t)(h2:t<frm l (k+1)):jg6 (nm,o,rs) l t=p (tof o l k):=by
 have:=jpC h hk h1 h2 k 0 omg_;simp only[jg6];rw[show jbo l t o 0=_ from this];rfl
theorem jlz{nm:E}{rs:B Rule}{d c:m}(hd : -1000000<=d)(hd2:d<=1000000)(hc:0<=c)(hc2:c<=86399){k:u}(hk:k<=l.length)(hks:d*86400+c-tof o l k<frm l (k+1))
  (hb:∀j,j<k->frm l (j+1)<=d*86400+c-tof o l j):∀(n j:u),j+n=k->j66 ((j:m)-1) nm o rs d c l=p (.inl (max (frm l k) (d*86400+c-tof o l k),0))
 |n,j,hj=>by
  have hlen:=h.len;have hjl:j<=l.length:=omg_;have o1:=h.of0 j hjl;have o2:=h.of1 j hjl;have hlt:=h.frm_lt hjl
  have key:∀A:Ä ((m×E×m×B Rule×m×m×TrL) ⊕ ((m×m) ⊕ Unit)),
    A=(cond (J (max (frm l j) (d*86400+c-tof o l j)<frm l (j+1))) (p (.inr (.inl (max (frm l j) (d*86400+c-tof o l j),0)))) (p (.inl ((j:m),nm,o,rs,d,c,l))))->
    lpK A (λh=>j66 h.1 h.2.1 h.2.2.1 h.2.2.2.1 h.2.2.2.2.1 h.2.2.2.2.2.1 h.2.2.2.2.2.2)=p (.inl (max (frm l k) (d*86400+c-tof o l k),0)):=by
   intro A hA;rw[hA];cases n with
   |zero=>have hjk:j=k:=omg_;subst hjk;rw[j00 omg_,j6,j06]
   |succ n=>have:=hb j omg_;rw[j01 omg_,j7,j03];have ih:=jlz (nm:=nm) (rs:=rs) hd hd2 hc hc2 hk hks hb n (j+1) omg_;rwa[show ((j+1:u):m)-1=(j:m) by omega]at ih
  rw[jcc];refine key _ ?_;simp only[j4v,j4g,j4h,show F (G l)=(l.length:m) from rfl];rw[j00 (show (j:m)-1<(l.length:m) by omega)];simp only[show (j:m)-1+1=(j:m) by omega,j05 (x:=(j:m)),j8];rw[j05 (x:=d*86400),j05 (x:=d*86400+c)];have hmx:∀a b:m,(if a>b then a else b)=max b a:=λa b=>omg_;clear key;cases j with
  |zero=>
   have ht0:tof o l 0=o:=rfl;have hf0:frm l 0=0:=rfl;rw[j01 (show¬((0:u):m)-1>=0 by omega)];rw[ht0]at o1 o2 ⊢;rw[hf0];simp only[j6,j7,j05 (x:=d*86400+c-o),hmx];by_cases hl0:0<l.length
   .have e:frm l (0+1)=tat l 0:=jdi hl0;rw[e];rw[j00 (show ((0:u):m)<(l.length:m) by omega),j0O];rfl
   .have hl0':l.length=0:=omg_;have e:frm l (0+1)=8589934593:=by have:=j81 (l:=l);rwa[hl0']at this
    rw[e];rw[j01 (show¬((0:u):m)<(l.length:m) by omega)];rfl
  |succ i=>
   have hil:i<l.length:=omg_;have ht0:tof o l (i+1)=(l.getD i (0,0)).2:=rfl;have hf0:frm l (i+1)=(l.getD i (0,0)).1:=jdi hil;rw[show ((i+1:u):m)-1=(i:m) by omega,j00 (show (i:m)>=0 by omega),j0O];simp only[j6,j8,<-ht0,<-hf0];rw[j05 (x:=d*86400+c-tof o l (i+1))];simp only[hmx];by_cases hl0:i+1<l.length
   .have e:frm l (i+1+1)=(l.getD (i+1) (0,0)).1:=jdi hl0;rw[j00 (show ((i+1:u):m)<(l.length:m) by omega),j0O];simp only[j6,<-e]
   .have e:frm l (i+1+1)=8589934593:=by have:=j81 (l:=l);rwa[show l.length+1=i+1+1 by omega]at this
    rw[j01 (show¬((i+1:u):m)<(l.length:m) by omega),e];rfl
end
theorem jtG{t o:m}(h1 : -864000<=t+o)(h2:t+o<=1000000000000):jhT t o=p ((t+o)/86400,(t+o)%86400):=by
 simp(disch:=omega)only[jhT,jcm,jfR,S0];congr 2<;>omega
section
variable{z:E×m×B Rule}{l:TrL}(h:Z4 z l)
include h
theorem jyo{t:m}{k:u}(h0:0<=t)(h1:t<=8589934592)(hk:k<=l.length)(hk1:frm l k<=t)(hk2:t<frm l (k+1)):jaJ z t=p (tof z.2.1 l k,0):=by
 simp(disch:=omega)only[jaJ,show j0q (z.1,z.2.1,z.2.2)=_ from h.1,jbc h0 h1,jvZ h.2 hk hk1 hk2,S0]
theorem jsb{t:m}{k:u}(h0:0<=t)(h1:t<=8589934592)(hk:k<=l.length)(hk1:frm l k<=t)(hk2:t<frm l (k+1)):j4I z t=p (((t+tof z.2.1 l k)/86400,(t+tof z.2.1 l k)%86400),0):=by
 have o1:=h.2.of0 k hk;have o2:=h.2.of1 k hk;simp(disch:=omega)only[j4I,show jaJ (z.1,z.2.1,z.2.2) t=_ from jyo h h0 h1 hk hk1 hk2,jtG,S0]
omit h in
theorem jj6{d:m}(h1 : -2<=d)(h2:d<=99422):jdN d=p true:=by
 simp only[jdN,jbc h1 h2,j4]
theorem jtH{d c:m}(hd : -2<=d)(hd2:d<=99422)(hc:0<=c)(hc2:c<=86399){k:u}(hk:k<=l.length)(hks:d*86400+c-tof z.2.1 l k<frm l (k+1))
  (hb:∀j,j<k->frm l (j+1)<=d*86400+c-tof z.2.1 l j):j59 z (d,c)=p (max (frm l k) (d*86400+c-tof z.2.1 l k),0):=by
 have:=jlz h.2 (nm:=z.1) (rs:=z.2.2) (show -1000000<=d by omega) omg_ hc hc2 hk hks hb k 0 omg_;simp only[j59,show j0q (z.1,z.2.1,z.2.2)=_ from h.1,j4,bne_self_eq_false,j7,jbc hc hc2,I,jj6 hd hd2];rw[j01 (show¬d < -2 by omega),j7,show j66 (-1) z.1 z.2.1 z.2.2 d c l=_ from this];rfl
end
section
variable{o:m}{l:TrL}(h:TOk o l)
include h
def jj7(o:m)(l:TrL)(s:m):u->u->B m
 |_,0=>[]
 |j,n+1=>(if Sol o l s j then [s-tof o l j] else [])++jj7 o l s (j+1) n
def sols(o:m)(l:TrL)(s:m):B Int:=jj7 o l s 0 (l.length+1)
omit h in
theorem jij(s:m):∀n j,(jj7 o l s j n).length<=n
 |0,_=>by simp[jj7]
 |n+1,j=>by
  have:=jij s n (j+1);simp only[jj7];split<;>simp<;>omega
omit h in
theorem jyp{s:m}{j:u}:(cond (J (s-tof o l j>=frm l j)) (J (s-tof o l j<frm l (j+1))) false)=J (Sol o l s j):=by
 by_cases h1:frm l j<=s-tof o l j
 .simp(disch:=omega)only[S0];by_cases h2:s-tof o l j<frm l (j+1)
  .rw[j00 h2,j00 (show Sol o l s j from⟨h1,h2⟩)]
  .rw[j01 h2,j01 (λhs:Sol o l s j=>h2 hs.2)]
 .rw[j01 (show¬s-tof o l j>=frm l j from h1),j7,j01 (λhs:Sol o l s j=>h1 hs.1)]
theorem jmP{nm:E}{rs:B Rule}{d c:m}(hd : -1000000<=d)(hd2:d<=1000000)(hc:0<=c)(hc2:c<=86399):∀(n j:u)(acc:B m),j+n=l.length+1->acc.length<=j->
  j4S ((j:m)-1) nm o rs d c l acc=p (acc++jj7 o l (d*86400+c) j n)
 |0,j,acc,hj,_=>by
  rw[jcf];simp(disch:=omega)only[j3N,j3X,j3Y,S0];simp[jj7]
 |n+1,j,acc,hj,ha=>by
  have hlen:=h.len;have o1:=h.of0 j omg_;have o2:=h.of1 j omg_
  have key:∀A:Ä ((m×E×m×B Rule×m×m×TrL×B m) ⊕ B m),
    A=(cond (J (Sol o l (d*86400+c) j)) (p (.inl ((j:m),nm,o,rs,d,c,l,acc++[d*86400+c-tof o l j]))) (p (.inl ((j:m),nm,o,rs,d,c,l,acc))))->
    lpK A (λh=>j4S h.1 h.2.1 h.2.2.1 h.2.2.2.1 h.2.2.2.2.1 h.2.2.2.2.2.1 h.2.2.2.2.2.2.1 h.2.2.2.2.2.2.2)=p (acc++jj7 o l (d*86400+c) j (n+1)):=by
   intro A hA;rw[hA]
   have ih:∀acc':B m,acc'.length<=j+1->j4S (j:m) nm o rs d c l acc'=p (acc'++jj7 o l (d*86400+c) (j+1) n):=λacc' h'=>by
    have:=jmP (nm:=nm) (rs:=rs) hd hd2 hc hc2 n (j+1) acc' omg_ h';rwa[show ((j+1:u):m)-1=(j:m) by omega]at this
   by_cases hs:Sol o l (d*86400+c) j
   .rw[j00 hs,j6,j03];refine(ih (acc++[d*86400+c-tof o l j]) sqo_).trans ?_;simp[jj7,hs]
   .rw[j01 hs,j7,j03];refine(ih acc omg_).trans ?_;simp[jj7,hs]
  rw[jcf];refine key _ ?_;simp only[j3N,j3X,j3Y,show F (G l)=(l.length:m) from rfl];rw[j00 (show (j:m)-1<(l.length:m) by omega)];simp only[show (j:m)-1+1=(j:m) by omega,j05 (x:=(j:m)),j8];have hsz:J (acc.length+[d*86400+c-tof o l j].length<=j02)=true:=j00 (by simp[j02];omega);rw[j05 (x:=d*86400),j05 (x:=d*86400+c)];have hcs:=jyp (o:=o) (l:=l) (s:=d*86400+c) (j:=j);cases j with
  |zero=>
   have ht0:tof o l 0=o:=rfl;have hf0:frm l 0=0:=rfl;rw[j01 (show¬((0:u):m)-1>=0 by omega)];rw[ht0]at o1 o2 hsz hcs ⊢;rw[hf0]at hcs;simp only[j6,j7,j05 (x:=d*86400+c-o)];by_cases hl0:0<l.length
   .have e:frm l (0+1)=tat l 0:=jdi hl0;rw[e]at hcs;rw[j00 (show ((0:u):m)<(l.length:m) by omega),j0O];simp only[j6];rw[show (l.getD 0 (0,0)).1=tat l 0 from rfl,hcs,hsz];rfl
   .have hl0':l.length=0:=omg_;have e:frm l (0+1)=8589934593:=by have:=j81 (l:=l);rwa[hl0']at this
    rw[e]at hcs;rw[j01 (show¬((0:u):m)<(l.length:m) by omega)];simp only[j7];rw[hcs,hsz];rfl
  |succ i=>
   have hil:i<l.length:=omg_;have ht0:tof o l (i+1)=(l.getD i (0,0)).2:=rfl;have hf0:frm l (i+1)=(l.getD i (0,0)).1:=jdi hil;rw[show ((i+1:u):m)-1=(i:m) by omega,j00 (show (i:m)>=0 by omega),j0O];simp only[j6,j8,<-ht0,<-hf0];rw[j05 (x:=d*86400+c-tof o l (i+1))];by_cases hl0:i+1<l.length
   .have e:frm l (i+1+1)=(l.getD (i+1) (0,0)).1:=jdi hl0;rw[j00 (show ((i+1:u):m)<(l.length:m) by omega),j0O];simp only[j6,<-e];rw[hcs,hsz];rfl
   .have e:frm l (i+1+1)=8589934593:=by have:=j81 (l:=l);rwa[show l.length+1=i+1+1 by omega]at this
    rw[j01 (show¬((i+1:u):m)<(l.length:m) by omega)];rw[e]at hcs;simp only[j7];rw[hcs,hsz];rfl
end
section
variable{z:E×m×B Rule}{l:TrL}(h:Z4 z l)
include h
theorem jpD{d c:m}(hd : -2<=d)(hd2:d<=99422)(hc:0<=c)(hc2:c<=86399):j7N z (d,c)=p (sols z.2.1 l (d*86400+c),0):=by
 have:=jmP h.2 (nm:=z.1) (rs:=z.2.2) (show -1000000<=d by omega) omg_ hc hc2 (l.length+1) 0 [] omg_ smp_;simp(disch:=omega)only[j7N,show j0q (z.1,z.2.1,z.2.2)=_ from h.1,jbc hc hc2,jj6 hd hd2,show j4S (-1) z.1 z.2.1 z.2.2 d c l []=_ from this,S0];rfl
end
def NoF(o:m)(l:TrL)(s:m):Prop:=∀j,j<=l.length->frm l (j+1)<=s-tof o l j
noncomputable def fO(o:m)(l:TrL)(s:m):Ä Int:=open Classical in if h:∃t k,Fst o l s t k then p (Classical.choose h) else none
theorem Fst.uniq{o:m}{l:TrL}{s t t':m}{k k':u}(f:Fst o l s t k)(g:Fst o l s t' k'):k=k'/\t=t':=by
 have hk:k=k':=by
  rcases Nat.lt_trichotomy k k' with hlt|heq|hgt
  .have:=g.bef k hlt;have:=f.hks;omega
  .exact heq
  .have:=f.bef k' hgt;have:=g.hks;omega
 subst hk;exact⟨rfl,by rw[f.ht,g.ht]⟩
theorem fO_t{o:m}{l:TrL}{s t:m}{k:u}(f:Fst o l s t k):fO o l s=p t:=by
 have he:∃t k,Fst o l s t k:=⟨t,k,f⟩;unfold fO;rw[dif_pos he];obtain⟨k',g⟩:=Classical.choose_spec he;rw[(g.uniq f).2]
theorem fO_n{o:m}{l:TrL}{s:m}(hno:NoF o l s):fO o l s=none:=by
 unfold fO;rw[dif_neg]
 rintro⟨t,k,f⟩
 have:=hno k f.hk;have:=f.hks;omega
theorem jsc(o:m)(l:TrL)(s:m):(∃t k,Fst o l s t k)\/NoF o l s:=by
 by_cases hno:NoF o l s
 .exact .inr hno
 .left
  have:∃j,j<=l.length/\s-tof o l j<frm l (j+1):=by
   apply Classical.byContradiction;intro hn
   exact hno λj hj=>by
    simp_all
  obtain⟨j,hj,hjs⟩:=this;obtain⟨a,⟨ha,haN⟩,hmin⟩:=jkA (λj=>s-tof o l j<frm l (j+1)/\j<=l.length) j ⟨hjs,hj⟩;refine⟨_,a,haN,ha,λi hi=>?_,rfl⟩;grind
theorem jtI{o:m}{l:TrL}{s t:m}(he:fO o l s=p t):∃k,Fst o l s t k:=by
 rcases jsc o l s with⟨t',k,f⟩|hno
 .rw[fO_t f]at he;grind
 grind[fO_n]
section
variable{o:m}{l:TrL}(h:TOk o l)
include h
theorem jtJ{s t:m}(he:fO o l s=p t):s<=t+64800/\0<=t/\t<=8589934592:=by
 obtain⟨k,f⟩:=jtI he;obtain⟨p1,p2,p3⟩:=f.piece h;have o1:=h.of1 k f.hk;have g1:=h.frm_le (i:=0) (j:=k) omg_ (by have:=f.hk;omega);have e0:frm l 0=0:=frm0;have e1:frm l (l.length+1)=8589934593:=j81;have g2:=h.frm_le (i:=k+1) (j:=l.length+1) (by have:=f.hk;omega) omg_;omega
theorem jw0{s:m}(hs:8589934593+64800<=s):NoF o l s:=λj hj=>by
 have o1:=h.of1 j hj;have e1:frm l (l.length+1)=8589934593:=j81;have g2:=h.frm_le (i:=j+1) (j:=l.length+1) omg_ omg_;omega
theorem jB1{s s' t':m}(hs:s<=s')(he:fO o l s'=p t'):∃t,fO o l s=p t/\t<=t':=by
 obtain⟨k',g⟩:=jtI he;have g1:=g.hks;have hk':=g.hk;rcases jsc o l s with⟨t,k,f⟩|hno
 .refine⟨t,fO_t f,?_⟩;obtain⟨p1,p2,p3⟩:=f.piece h;obtain⟨q1,q2,q3⟩:=g.piece h;have f1:=f.ht;have g2:=g.ht;rcases Nat.lt_trichotomy k k' with hlt|heq|hgt
  .have:=h.frm_le (i:=k+1) (j:=k') omg_ omg_;omega
  .subst heq;omega
  .have:=f.bef k' hgt;omega
 .have:=hno k' hk';omega
theorem jlA{d c s:m}(hsec:j4p (d,c)=p s)(hs0 : -1000000000000<=s)(hs1:s<=1000000000000)(hno:NoF o l s) :
  ∀(n i:u),i+n=l.length+1->j6f ((l.length+1:u):m) (i:m) d c (pcs o l (l.length+1))=p (.inr ())
 |0,i,hi=>by
  rw[j4M];simp(disch:=omega)only[j1m,S0]
 |n+1,i,hi=>by
  have hlen:=h.len;have hil:i<=l.length:=omg_;have o1:=h.of0 i hil;have o2:=h.of1 i hil;have hb:=hno i hil;have hlt:=h.frm_lt hil;rw[j4M];simp only[j1m];rw[j00 (show (i:m)<((l.length+1:u):m) by omega),j0X omg_ (by rw[jhb];omega)];simp only[j6,j8,jqT (show i<l.length+1 by omega),hsec,j4,pc];rw[j05 (x:=s-tof o l i),j05 (x:=(i:m)+1)];have hm:(if s-tof o l i>frm l i then s-tof o l i else frm l i)=max (frm l i) (s-tof o l i):=by split<;>omega
  rw[hm,j01 omg_,j7,j03];exact jlA hsec hs0 hs1 hno n (i+1) omg_
theorem jo2{d c s:m}(hsec:j4p (d,c)=p s)(hs0 : -1000000000000<=s)(hs1:s<=1000000000000)(hno:NoF o l s):j2Z (o,l) (d,c)=p (0,false):=by
 have:=jlA h hsec hs0 hs1 hno (l.length+1) 0 omg_;grind[j2Z,jpv,jhb,S0]
theorem jpE{d c:m}(hd : -1000000<=d)(hd2:d<=1000000000000000)(hc:0<=c)(hc2:c<=86399) :
  j2Z (o,l) (d,c)=p ((fO o l (d*86400+c)).getD 0,(fO o l (d*86400+c)).isSome):=by
 by_cases hb:d<=1000000
 .rcases jsc o l (d*86400+c) with⟨t,k,f⟩|hno
  .have e:=jyf h hd hb omg_ omg_ f.hk f.hks f.bef;rw[<-f.ht]at e;rw[fO_t f];exact e
  grind[fO_n,jo2,jj3]
 .have hno:NoF o l (d*86400+c):=jw0 h omg_;rw[fO_n hno];by_cases hb2:d<=1048576
  .have hsec:j4p (d,c)=p (d*86400+c):=by simp(disch:=omega)only[j4p,if_neg,S0]
   grind[jo2]
  .have hsec:j4p (d,c)=p (1048576*86400+c):=by simp(disch:=omega)only[j4p,if_pos,S0]
   grind[jo2,jw0]
theorem jlB{nm:E}{rs:B Rule}{d c:m}(hd : -1000000<=d)(hd2:d<=1000000)(hc:0<=c)(hc2:c<=86399)(hno:NoF o l (d*86400+c)):∀(n j:u),j+n=l.length+1->
  j66 ((j:m)-1) nm o rs d c l=p (.inr ())
 |0,j,hj=>by
  rw[jcc];simp(disch:=omega)only[j4v,j4g,j4h,S0]
 |n+1,j,hj=>by
  have hlen:=h.len;have hjl:j<=l.length:=omg_;have o1:=h.of0 j hjl;have o2:=h.of1 j hjl;have hlt:=h.frm_lt hjl;have hb:=hno j hjl;have ih:=jlB (nm:=nm) (rs:=rs) hd hd2 hc hc2 hno n (j+1) omg_;rw[show ((j+1:u):m)-1=(j:m) by omega]at ih
  have key:∀A:Ä ((m×E×m×B Rule×m×m×TrL) ⊕ ((m×m) ⊕ Unit)),
    A=(cond (J (max (frm l j) (d*86400+c-tof o l j)<frm l (j+1))) (p (.inr (.inl (max (frm l j) (d*86400+c-tof o l j),0)))) (p (.inl ((j:m),nm,o,rs,d,c,l))))->
    lpK A (λh=>j66 h.1 h.2.1 h.2.2.1 h.2.2.2.1 h.2.2.2.2.1 h.2.2.2.2.2.1 h.2.2.2.2.2.2)=p (.inr ()):=by
   grind[j03]
  rw[jcc];refine key _ ?_;simp only[j4v,j4g,j4h,show F (G l)=(l.length:m) from rfl];rw[j00 (show (j:m)-1<(l.length:m) by omega)];simp only[show (j:m)-1+1=(j:m) by omega,j05 (x:=(j:m)),j8];rw[j05 (x:=d*86400),j05 (x:=d*86400+c)];have hmx:∀a b:m,(if a>b then a else b)=max b a:=λa b=>omg_;clear key;cases j with
  |zero=>grind[tof,frm,j4N,tat,j0X]
  |succ i=>
   have hil:i<l.length:=omg_;have ht0:tof o l (i+1)=(l.getD i (0,0)).2:=rfl;have hf0:frm l (i+1)=(l.getD i (0,0)).1:=jdi hil;rw[show ((i+1:u):m)-1=(i:m) by omega,j00 (show (i:m)>=0 by omega),j0O];simp only[j6,j8,<-ht0,<-hf0];rw[j05 (x:=d*86400+c-tof o l (i+1))];simp only[hmx];by_cases hl0:i+1<l.length
   .have e:frm l (i+1+1)=(l.getD (i+1) (0,0)).1:=jdi hl0;grind[j0X]
   grind[j81]
end
theorem jhe{z:j0D}{l:TrL}(h:Z4 z l){d c:m}(hd:1<=d)(hc:0<=c)(hc2:c<=86399) :
  j59 z (d,c)=p (match fO z.2.1 l (d*86400+c) with|some t=>(t,0)|none=>(0,10)):=by
 by_cases hb:d<=99422
 .rcases jsc z.2.1 l (d*86400+c) with⟨t,k,f⟩|hno
  .have e:=jtH h (d:=d) (c:=c) omg_ hb hc hc2 f.hk f.hks f.bef;rw[<-f.ht]at e;rw[fO_t f];exact e
  .have:=jlB h.2 (nm:=z.1) (rs:=z.2.2) (show -1000000<=d by omega) omg_ hc hc2 hno (l.length+1) 0 omg_;rw[fO_n hno];simp only[j59,show j0q (z.1,z.2.1,z.2.2)=_ from h.1,j4,bne_self_eq_false,j7,jbc hc hc2,I,jj6 (show -2<=d by omega) hb];rw[j01 (show¬d < -2 by omega),j7,show j66 (-1) z.1 z.2.1 z.2.2 d c l=_ from this];rfl
 .rw[fO_n (jw0 h.2 omg_)];simp only[j59,show j0q (z.1,z.2.1,z.2.2)=_ from h.1,j4,bne_self_eq_false,j7,jbc hc hc2,I,jdN,jCr (show¬(-2<=d/\d<=99422) by omega)];grind
structure Rt(L:j0b):Prop where
 d0:1<=L.2.2.1.1
 d1:L.2.2.1.1<=100000
 c0:0<=L.2.2.1.2
 c1:L.2.2.1.2<=86399
 u0:0<=L.2.2.2.1
 u1:L.2.2.2.1<=2
 e0:1<=L.2.2.2.2.1
 e1:L.2.2.2.2.1<=400
 m0:L.2.2.2.2.2.1≠[]
theorem Rt.step{L:j0b}(h:Rt L):1<=j2V L/\j2V L<=2800:=by
 have:=h.e0;have:=h.e1;unfold j2V;split<;>omega
noncomputable def hO(o:m)(l:TrL)(L:j0b)(k:m):Ä Int:=
 if L.2.2.2.1=0 then (fO o l (sLoc L 0)).bind λt=>if t+3600*L.2.2.2.2.1*k<=8589934592 then p (t+3600*L.2.2.2.2.1*k) else none
 else fO o l (sLoc L k)
section
variable{o:m}{l:TrL}(ht:TOk o l){L:j0b}(h:Rt L)
include ht h
theorem jr1{k t:m}(hk:0<=k)(he:hO o l L k=p t):0<=t/\t<=8589934592/\k<=2386092:=by
 have hs:=h.step;have hd0:=h.d0;have he0:=h.e0;have hc0:=h.c0;unfold hO at he;by_cases h0:L.2.2.2.1=0
 .rw[if_pos h0]at he;cases hf:fO o l (sLoc L 0) with
  |none=>rw[hf]at he;simp at he
  |some v=>
   rw[hf]at he;simp only[j4]at he;have hv:=jtJ ht hf;have hm:3600*k<=3600*L.2.2.2.2.1*k:=Int.mul_le_mul_of_nonneg_right omg_ hk;split at he
   .simp at he;omega
   .simp at he
 .rw[if_neg h0]at he;have hv:=jtJ ht he;have hm:k*1<=k*j2V L:=Int.mul_le_mul_of_nonneg_left hs.1 hk;unfold sLoc at hv;omega
theorem jyq{k t:m}(he:hO o l L (k+1)=p t):∃v,hO o l L k=p v/\v<=t:=by
 have hs:=h.step;have he0:=h.e0;unfold hO at he ⊢;by_cases h0:L.2.2.2.1=0
 .rw[if_pos h0]at he ⊢;cases hf:fO o l (sLoc L 0) with
  |none=>rw[hf]at he;simp at he
  |some v=>
   rw[hf]at he;simp only[j4]at he ⊢;have hm:3600*L.2.2.2.2.1*(k+1)=3600*L.2.2.2.2.1*k+3600*L.2.2.2.2.1:=by rw[Int.mul_add,Int.mul_one]
   split at he
   .rw[if_pos omg_];simp at he;exact⟨_,rfl,omg_⟩
   .simp at he
 .rw[if_neg h0]at he ⊢;have hm:(k+1)*j2V L=k*j2V L+j2V L:=by rw[Int.add_mul,Int.one_mul]
  exact jB1 ht (by unfold sLoc;rw[hm];omega) he
def QO(o:m)(l:TrL)(L:j0b)(t k:m):Prop:=∃v,hO o l L k=p v/\v<=t
theorem QO.down{t:m}:∀(n:u){k:m},QO o l L t (k+n)->QO o l L t k
 |0,k,hq=>by rwa[show k+((0:u):m)=k by omega]at hq
 |n+1,k,hq=>by
  rw[show k+((n+1:u):m)=k+(n:m)+1 by omega]at hq;obtain⟨v,hv,hvt⟩:=hq;obtain⟨v',hv',hl⟩:=jyq ht h (k:=k+(n:m)) hv;exact QO.down n ⟨v',hv',omg_⟩
theorem QO.le{t k j:m}(hkj:k<=j)(hq:QO o l L t j):QO o l L t k:=by
 refine QO.down ht h (j-k).toNat ?_;rwa[show k+(((j-k).toNat:u):m)=j by omega]
def ShO(o:m)(l:TrL)(L:j0b)(t K:m):Prop:=(K = -1/\¬QO o l L t 0)\/(0<=K/\QO o l L t K/\¬QO o l L t (K+1))
theorem ShO.uniq{t K K':m}(a:ShO o l L t K)(b:ShO o l L t K'):K=K':=by
 rcases a with⟨a1,a2⟩|⟨a1,a2,a3⟩<;>rcases b with⟨b1,b2⟩|⟨b1,b2,b3⟩
 .omega
 .exact absurd (QO.le ht h b1 b2) a2
 .exact absurd (QO.le ht h a1 a2) b2
 .rcases Int.lt_trichotomy K K' with hlt|heq|hgt
  .exact absurd (QO.le ht h omg_ b2) a3
  .exact heq
  .exact absurd (QO.le ht h omg_ a2) b3
theorem QO.day{t k:m}(h0:L.2.2.2.1≠0)(hq:QO o l L t k){j:u}(hj:j<=l.length):L.2.2.1.1+k*j2V L<=(t+tof o l j)/86400+2:=by
 obtain⟨v,hv,hvt⟩:=hq;unfold hO at hv;rw[if_neg h0]at hv;have:=jtJ ht hv;have o0:=ht.of0 j hj;have hc0:=h.c0;unfold sLoc at this;omega
end
theorem jsd{L:j0b}(h:Rt L):jab L=p (j2V L):=by
 have:=h.e0;have:=h.e1;grind[jab,j2V,S0]
def HVal(r:Ä (m×Bool))(x:Ä m):Prop:=∃v,r=p (v,x.isSome)/\∀t,x=p t->v=t
theorem recH{o:m}{l:TrL}(ht:TOk o l){L:j0b}(h:Rt L){k:m}(hk:0<=k)(hk2:k<=8589934592):HVal (j0S (o,l) L k) (hO o l L k):=by
 have hs:=h.step;have hd0:=h.d0;have hd1:=h.d1;have hc0:=h.c0;have hc1:=h.c1;have he0:=h.e0;have he1:=h.e1;have hstep:jab (L.1,L.2.1,(L.2.2.1.1,L.2.2.1.2),L.2.2.2.1,L.2.2.2.2.1,L.2.2.2.2.2.1,L.2.2.2.2.2.2.1,L.2.2.2.2.2.2.2.1,L.2.2.2.2.2.2.2.2)=_:=jsd h;simp only[HVal,j0S,hstep,j4];rw[j01 (show¬k>8589934592 by omega),j7];by_cases h0:L.2.2.2.1=0
 .have hF:=jpE ht (d:=L.2.2.1.1) (c:=L.2.2.1.2) omg_ omg_ hc0 hc1;have hs0:L.2.2.1.1*86400+L.2.2.1.2=sLoc L 0:=by unfold sLoc;omega
  have hm0:0<=3600*L.2.2.2.2.1*k:=R omg_ hk;have hm1:3600*L.2.2.2.2.1*k<=3600*400*8589934592:=S omg_ hk2 hk omg_;rw[show (L.2.2.2.1 != 0)=false by rw[h0];rfl,j7,hF,hs0];simp only[j4];unfold hO;rw[if_pos h0];cases hf:fO o l (sLoc L 0) with
  |none=>simp_all
  |some v=>
   have hv:=jtJ ht hf;simp(disch:=omega)only[Option.getD_some,S0];by_cases hle:v+3600*L.2.2.2.2.1*k<=8589934592
   .simp_all
   .rw[if_neg hle,j01 hle]
    simp_all
 .have hm0:0<=k*j2V L:=R hk omg_;have hm1:k*j2V L<=8589934592*2800:=S hk2 hs.2 omg_ omg_;rw[show (L.2.2.2.1 != 0)=true by simp[h0],j6,j05 (x:=k*j2V L),j05 (x:=L.2.2.1.1+k*j2V L),jpE ht omg_ omg_ hc0 hc1];simp only[j4];unfold hO;rw[if_neg h0];exact⟨_,rfl,λt h=>by have h:fO o l ((L.2.2.1.1+k*j2V L)*86400+L.2.2.1.2)=p t:=h;rw[h];rfl⟩
theorem r10H{z:j0D}{l:TrL}(hz:Z4 z l){L:j0b}(h:Rt L){k:m}(hk:0<=k)(hk2:k<=8589934592):HVal (j7w z L k) (hO z.2.1 l L k):=by
 have hs:=h.step;have hd0:=h.d0;have hd1:=h.d1;have hc0:=h.c0;have hc1:=h.c1;have he0:=h.e0;have he1:=h.e1;have hu1:=h.u1;have hu0:=h.u0;simp only[HVal,j7w];have hm0:0<=k*L.2.2.2.2.1:=R hk omg_;have hm1:k*L.2.2.2.2.1<=8589934592*400:=S hk2 omg_ omg_ omg_;rw[j05 (x:=k*L.2.2.2.2.1)];by_cases h0:L.2.2.2.1=0
 .have hF:=jhe hz (d:=L.2.2.1.1) (c:=L.2.2.1.2) omg_ hc0 hc1;have hs0:L.2.2.1.1*86400+L.2.2.1.2=sLoc L 0:=by unfold sLoc;omega
  rw[j43 h0,j6,show j59 (z.1,z.2.1,z.2.2) (L.2.2.1.1,L.2.2.1.2)=_ from hF,hs0];simp only[j4];have hcm:k*L.2.2.2.2.1*3600=3600*L.2.2.2.2.1*k:=by grind
  have hm2:0<=3600*L.2.2.2.2.1*k:=R omg_ hk;have hm3:3600*L.2.2.2.2.1*k<=3600*400*8589934592:=S omg_ hk2 hk omg_;simp(disch:=omega)only[hcm,S0];unfold hO;rw[if_pos h0];cases hf:fO z.2.1 l (sLoc L 0) with
  |none=>simp_all
  |some v=>
   have hv:=jtJ hz.2 hf;simp(disch:=omega)only[S0];by_cases hle:v+3600*L.2.2.2.2.1*k<=8589934592
   .simp_all
   .rw[if_neg hle,j01 hle]
    simp_all
 .rw[j1G h0,j7]
  have fin:∀n:m,n=k*j2V L->0<=n->HVal ((j59 (z.1,z.2.1,z.2.2) (L.2.2.1.1+n,L.2.2.1.2)).bind λr=>p (r.1,(r.2==(0:m)))) (hO z.2.1 l L k):=by
   intro n hn hn0;have hF:=jhe hz (d:=L.2.2.1.1+n) (c:=L.2.2.1.2) omg_ hc0 hc1;rw[show j59 (z.1,z.2.1,z.2.2) (L.2.2.1.1+n,L.2.2.1.2)=_ from hF];unfold hO;rw[if_neg h0];have hsl:(L.2.2.1.1+n)*86400+L.2.2.1.2=sLoc L k:=by rw[hn];rfl
   rw[hsl];cases hf:fO z.2.1 l (sLoc L k) with
   |none=>exact⟨_,rfl,λt h=>by simp at h⟩
   |some v=>exact⟨_,rfl,λt h=>by simpa using h⟩
  by_cases h2:L.2.2.2.1=2
  .have hsd:j2V L=7*L.2.2.2.2.1:=by grind[j2V]
   have e1:k*L.2.2.2.2.1*7=k*j2V L:=by grind
   simp(disch:=omega)only[S0];exact fin _ e1 omg_
  .have hsd:j2V L=L.2.2.2.2.1:=by grind[j2V]
   simp(disch:=omega)only[S0];exact fin _ (by rw[hsd]) hm0
theorem jCv{o:m}{l:TrL}(ht:TOk o l){L:j0b}(h:Rt L){t N:m}(hN:N<=8589934592)(hfirst:QO o l L t 0):∀n:u,(n:m)<=N->
  ∃k:m,j8n t (n:m) o l L.1 L.2.1 L.2.2.1.1 L.2.2.1.2 L.2.2.2.1 L.2.2.2.2.1 L.2.2.2.2.2.1 L.2.2.2.2.2.2.1 L.2.2.2.2.2.2.2.1 L.2.2.2.2.2.2.2.2=
   p (t,k,o,l,L.1,L.2.1,L.2.2.1.1,L.2.2.1.2,L.2.2.2.1,L.2.2.2.2.1,L.2.2.2.2.2.1,L.2.2.2.2.2.2.1,L.2.2.2.2.2.2.2.1,L.2.2.2.2.2.2.2.2)/\0<=k/\QO o l L t k
 |0,_=>by
  grind[jbR,j3y,S0]
 |n+1,hn=>by
  obtain⟨k,e,k0,k1⟩:=jCv ht h hN hfirst n omg_;obtain⟨v,hH,hv⟩:=recH ht h (k:=((n+1:u):m)) omg_ omg_;rw[jbR];simp only[j3y];rw[j00 omg_,j6,show j0S (o,l) (L.1,L.2.1,(L.2.2.1.1,L.2.2.1.2),L.2.2.2.1,L.2.2.2.2.1,L.2.2.2.2.2.1,L.2.2.2.2.2.2.1,L.2.2.2.2.2.2.2.1,L.2.2.2.2.2.2.2.2) ((n+1:u):m)=_ from hH];simp only[j4];rw[j05 (x:=((n+1:u):m)-1),show ((n+1:u):m)-1=(n:m) by omega];cases hx:hO o l L ((n+1:u):m) with
  |none=>grind[j03]
  |some x=>
   have:=hv x hx;subst this;simp only[U,j6];by_cases hc:v<=t
   .rw[j00 hc,j6,j06];exact⟨_,rfl,omg_,v,hx,hc⟩
   grind[j03]
theorem jCw{o:m}{l:TrL}(ht:TOk o l){L:j0b}(h:Rt L){t:m}:∀(n:u)(k:m),k+n=2386093->0<=k->QO o l L t k->
  ∃K:m,jaW t k o l L.1 L.2.1 L.2.2.1.1 L.2.2.1.2 L.2.2.2.1 L.2.2.2.2.1 L.2.2.2.2.2.1 L.2.2.2.2.2.2.1 L.2.2.2.2.2.2.2.1 L.2.2.2.2.2.2.2.2=p K/\0<=K/\QO o l L t K/\¬QO o l L t (K+1)
 |0,k,hn,hk,hq=>by
  obtain⟨v,hv,_⟩:=hq;have:=jr1 ht h hk hv;omega
 |n+1,k,hn,hk,hq=>by
  obtain⟨v,hH,hv⟩:=recH ht h (k:=k+1) omg_ omg_;rw[jgT];simp(disch:=omega)only[j50,show j0S (o,l) (L.1,L.2.1,(L.2.2.1.1,L.2.2.1.2),L.2.2.2.1,L.2.2.2.2.1,L.2.2.2.2.2.1,L.2.2.2.2.2.2.1,L.2.2.2.2.2.2.2.1,L.2.2.2.2.2.2.2.2) (k+1)=_ from hH,S0];cases hx:hO o l L (k+1) with
  |none=>simp only[Å,O,j6,j06];exact⟨k,rfl,hk,hq,λ⟨y,hy,_⟩=>by simp_all⟩
  |some x=>
   have:=hv x hx;subst this;simp only[U,I,j7];by_cases hc:v>t
   .rw[j00 hc,j6,j06];exact⟨k,rfl,hk,hq,λ⟨y,hy,hyt⟩=>by grind⟩
   .rw[j01 hc,j7,j03];exact jCw ht h n (k+1) omg_ omg_ ⟨v,hx,omg_⟩
theorem jse{o:m}{l:TrL}{L:j0b}(h:Rt L){t v:m}(h0:L.2.2.2.1=0)(htt:t<=8589934592)(hf:fO o l (sLoc L 0)=p v)(hvt:v<=t)(hv0:0<=v) :
  ShO o l L t ((t-v)/(3600*L.2.2.2.2.1))/\0<=(t-v)/(3600*L.2.2.2.2.1)/\(t-v)/(3600*L.2.2.2.2.1)<=8589934592:=by
 have he0:=h.e0;have he1:=h.e1;have q0:0<=(t-v)/(3600*L.2.2.2.2.1):=Á omg_ omg_;have q1:3600*L.2.2.2.2.1*((t-v)/(3600*L.2.2.2.2.1))<=t-v:=Int.mul_ediv_self_le omg_;have q2:t-v<3600*L.2.2.2.2.1*((t-v)/(3600*L.2.2.2.2.1))+3600*L.2.2.2.2.1:=Int.lt_mul_ediv_self_add omg_;have q3:(t-v)/(3600*L.2.2.2.2.1)<=t-v:=Z _ omg_;generalize (t-v)/(3600*L.2.2.2.2.1)=K at *;refine⟨.inr ⟨q0,⟨v+3600*L.2.2.2.2.1*K,?_,omg_⟩,?_⟩,q0,omg_⟩
 .grind[hO]
 .rintro⟨y,hy,hyt⟩
  grind[hO]
theorem jw1{o:m}{l:TrL}{L:j0b}(h0:L.2.2.2.1=0){v:m}(hv:hO o l L 0=p v):fO o l (sLoc L 0)=p v:=by
 unfold hO at hv;rw[if_pos h0]at hv;cases hf:fO o l (sLoc L 0)<;>simp_all
theorem jDN{o:m}{l:TrL}(ht:TOk o l){L:j0b}(h:Rt L){t:m}(h0t:0<=t)(htt:t<=8589934592):∃K:m,j4l (o,l) L t=p K/\ShO o l L t K:=by
 have hs:=h.step;have hd0:=h.d0;have hd1:=h.d1;have he0:=h.e0;have he1:=h.e1;obtain⟨v0,hH,hv⟩:=recH ht h (k:=0) omg_ omg_;have hstep:jab (L.1,L.2.1,(L.2.2.1.1,L.2.2.1.2),L.2.2.2.1,L.2.2.2.2.1,L.2.2.2.2.2.1,L.2.2.2.2.2.2.1,L.2.2.2.2.2.2.2.1,L.2.2.2.2.2.2.2.2)=_:=jsd h;simp only[j4l,show j0S (o,l) (L.1,L.2.1,(L.2.2.1.1,L.2.2.1.2),L.2.2.2.1,L.2.2.2.2.1,L.2.2.2.2.2.1,L.2.2.2.2.2.2.1,L.2.2.2.2.2.2.2.1,L.2.2.2.2.2.2.2.2) 0=_ from hH,hstep,j4];cases hx:hO o l L 0 with
 |none=>simp only[Å,O,j6];exact⟨-1,rfl,.inl ⟨rfl,λ⟨y,hy,_⟩=>by simp_all⟩⟩
 |some v=>
  have:=hv v hx;subst this;simp only[U,I,j7];by_cases hc:v0>t
  .rw[j00 hc,j6];exact⟨-1,rfl,.inl ⟨rfl,λ⟨y,hy,hyt⟩=>by grind⟩⟩
  .rw[j01 hc,j7];have hq:QO o l L t 0:=⟨v0,hx,omg_⟩;have hva:=jr1 ht h (k:=0) omg_ hx;by_cases h0:L.2.2.2.1=0
   .obtain⟨s1,s2,s3⟩:=jse (o:=o) (l:=l) h h0 htt (jw1 h0 hx) omg_ hva.1;simp(disch:=omega)only[W,S0];exact⟨_,rfl,s1⟩
   .obtain⟨j,hj,j1,j2⟩:=jaq ht h0t htt;have o0:=ht.of0 j hj;have o1:=ht.of1 j hj;rw[j1G h0,j7,jge ht hj j1 j2];simp only[j4];generalize hld:(t+tof o l j)/86400=ld;rw[j1G (show¬j2V L=0 by omega),j05 (x:=ld-L.2.2.1.1)];simp only[O,j6]
    obtain⟨n,hn,hn2⟩:∃n:u,(if w64 (Ì (ld-L.2.2.1.1) (j2V L))>0 then w64 (Ì (ld-L.2.2.1.1) (j2V L)) else 0)=(n:m)/\(n:m)<=8589934592:=by
     by_cases hneg:0<=ld-L.2.2.1.1
     .rw[W hneg];have q0:0<=(ld-L.2.2.1.1)/j2V L:=Á hneg omg_;have q1:(ld-L.2.2.1.1)/j2V L<=ld-L.2.2.1.1:=Z _ hneg;rw[j05];refine⟨((ld-L.2.2.1.1)/j2V L).toNat,?_,?_⟩
      .split<;>omega
      .omega
     .have e:Ì (ld-L.2.2.1.1) (j2V L) = -((-(ld-L.2.2.1.1))/j2V L):=by grind[Int.neg_tdiv]
      have q0:0<=(-(ld-L.2.2.1.1))/j2V L:=Á omg_ omg_;have q1:(-(ld-L.2.2.1.1))/j2V L <= -(ld-L.2.2.1.1):=Z _ omg_;simp(disch:=omega)only[if_neg,S0];grind
    rw[hn];obtain⟨k,e,k0,k1⟩:=jCv ht h (Int.le_refl _) hq n hn2;have hkb:=k1;obtain⟨y,hy,_⟩:=hkb;have hkk:=jr1 ht h k0 hy;obtain⟨K,e2,K0,K1,K2⟩:=jCw ht h (t:=t) (2386093-k).toNat k omg_ k0 k1;simp only[e,j4,e2];exact⟨K,rfl,.inr ⟨K0,K1,K2⟩⟩
def tb(z:j0D):m×TrL:=(z.2.1,outT z.2.1 (j8g (occs z.2.2)))
theorem ZOk.ztab{z:j0D}(h:ZOk z):ZTab z (tb z).2:=MZ.tab (o:=z.2.1) (rs:=z.2.2) h z.1
theorem ZOk.zdif{z:j0D}(h:ZOk z):Dif z.2.1 (tb z).2:=jqW _ _ _ (MZ.good h)
theorem ZOk.zref{z:j0D}(h:ZOk z):ZTab z (tb z).2/\Z4 z (tb z).2/\Dif z.2.1 (tb z).2:=⟨h.ztab,MZ.r4 (o:=z.2.1) (rs:=z.2.2) h z.1,h.zdif⟩
theorem jw2{zs:B j0D}(h:∀z∈zs,ZOk z)(hl:zs.length<=100):∀(n i:u),i+n=zs.length->jai zs (zs.length:m) (i:m) ((zs.take i).map tb)=p (zs.map tb)
 |0,i,hi=>by
  rw[jdE];simp only[j4C];rw[j01 omg_,j7,j06,List.take_of_length_le omg_]
 |n+1,i,hi=>by
  have hlt:i<zs.length:=omg_;have hgd:zs.getD i (ByteArray.empty,0,[])=zs[i]:=by simp[hlt]
  have ht:=jCb (h zs[i] (M hlt)).ztab;have ih:=jw2 h hl n (i+1) omg_;rw[List.take_add_one,Y hlt,List.map_append]at ih;rw[jdE];simp only[j4C];rw[j00 omg_,j0O,j05 (x:=(i:m)+1)];simp only[j6,j8,hgd];rw[show jgQ (zs[i].1,zs[i].2.1,zs[i].2.2)=_ from ht];simp only[j4];rw[j00 (by simp[j02];omega),j6,j03];exact ih
theorem jB2{zs:B j0D}(h:∀z∈zs,ZOk z)(hl:zs.length<=100){ps:B j0h}{cs:B CalT}{ss:B j0r}:jhD (zs,ps,cs,ss)=p ((zs,ps,cs,ss),zs.map tb):=by
 have lp:=jw2 h hl zs.length 0 omg_;simp only[jhD,jgR,show F zs.length=(zs.length:m) from rfl];rw[show jai zs (zs.length:m) 0 []=_ from lp];rfl
theorem jsf{zs:B j0D}{i:m}(h0:0<=i)(h1:i<(zs.length:m)):List.getD (zs.map tb) i.toNat (0,[])=tb (zs.getD i.toNat (ByteArray.empty,0,[])):=by
 have hlt:i.toNat<zs.length:=omg_;simp[X,hlt]
theorem zget{zs:B j0D}(h:∀z∈zs,ZOk z){i:m}(h0:0<=i)(h1:i<(zs.length:m)):ZOk (zs.getD i.toNat (ByteArray.empty,0,[])):=by
 have hlt:i.toNat<zs.length:=omg_;rw[X,Y hlt];exact h _ (M hlt)
theorem jyr(a b:m):jcL a b=p (J (a<b)):=by
 simp only[jcL,jbj,j4,bne_self_eq_false,j7]
theorem jB3{ds:B m}(hs:ds.Pairwise (· < ·))(hl:ds.length<=128){x:m}:∀(n a b:u),b-a<=n->a<=b->b<=ds.length->(∀i,(hi:i<ds.length)->i<a->ds[i]<x)->(∀i,(hi:i<ds.length)->b<=i->x<=ds[i])->
  ∃k:u,j3E ds x (ds.length:m) (a:m) (b:m)=p (ds,x,(ds.length:m),(k:m))/\k<=ds.length/\(∀i,(hi:i<ds.length)->i<k->ds[i]<x)/\∀i,(hi:i<ds.length)->k<=i->x<=ds[i]
 |n,a,b,hn,hab,hb,h1,h2=>by
  rw[j9c];simp only[j1v];by_cases hlt:a<b
  .have hm:IntKind.wrap .u64 ((a:m)+(b:m))=(a:m)+(b:m):=IntWalk.u64_in _ ⟨omg_,omg_⟩;have hd:Int.fdiv ((a:m)+(b:m)) 2=(((a+b)/2:u):m):=by rw[Int.fdiv_eq_ediv_of_nonneg _ omg_];omega
   have hml:(a+b)/2<ds.length:=omg_;have hgd:ds.getD ((a+b)/2) (0:m)=ds[(a+b)/2]:=by simp[hml]
   rw[j00 (show (a:m)<(b:m) by omega),j05 (x:=(a:m)+(b:m)),hm,hd,j05 (x:=(((a+b)/2:u):m)),j0O,j05 (x:=(((a+b)/2:u):m)+1)];simp only[j6,j8,hgd,jyr,j4];cases n with
   |zero=>omega
   |succ n=>
    by_cases hc:ds[(a+b)/2]<x
    .rw[j00 hc,j6,j03];refine jB3 hs hl n ((a+b)/2+1) b omg_ omg_ hb (λi hi hia=>?_) h2;by_cases he:i=(a+b)/2
     .subst he;exact hc
     .exact Int.lt_trans (List.pairwise_iff_getElem.1 hs i ((a+b)/2) hi hml omg_) hc
    .rw[j01 hc,j7,j03];refine jB3 hs hl n a ((a+b)/2) omg_ omg_ omg_ h1 (λi hi hia=>?_);by_cases he:i=(a+b)/2
     .subst he;exact Int.not_lt.1 hc
     .exact Int.le_trans (Int.not_lt.1 hc) (Int.le_of_lt (List.pairwise_iff_getElem.1 hs ((a+b)/2) i hml hi omg_))
  .have:a=b:=omg_;subst this;rw[j01 omg_,j7,j06];exact⟨a,rfl,hb,h1,h2⟩
def okW(w:WL)(s:m):Bool:=cond (J ((w.length:m)>0)) (hasB s w) true
section
variable{zs:B j0D}{ps:B j0h}{cs:B CalT}{ss:B j0r}(hz:∀z∈zs,ZOk z)
include hz
def whoL(L:j0b)(K:m):Int:=L.2.2.2.2.2.1.getD (Int.tmod K (L.2.2.2.2.2.1.length:m)).toNat 0
end
theorem LCk.rt{nz np nc:u}{L:j0b}(h:LCk nz np nc L)(hd:L.2.2.1.1<=100000):Rt L:=
 ⟨h.d0,hd,h.c0,h.c1,h.u0,h.u1,h.e0,h.e1,λhn=>h.m0 (by rw[hn];rfl)⟩
theorem jCx{z:j0D}(hz:ZOk z){t:m}(h0:0<=t)(h1:t<=8589934592):∃d s,j1B (tb z) t=p d/\j7P d=p s:=by
 have ht:=hz.ztab;obtain⟨j,hj,j1,j2⟩:=jaq ht.2 h0 h1;have o0:=ht.2.of0 j hj;have o1:=ht.2.of1 j hj;obtain⟨s,hs⟩:∃s,j7P ((t+tof z.2.1 (tb z).2 j)/86400,(t+tof z.2.1 (tb z).2 j)%86400)=p s:=by simp only[j7P,jmK,j4];exact⟨_,rfl⟩
 exact⟨_,s,jge ht.2 hj j1 j2,hs⟩
end Go.Proofs.Pw
