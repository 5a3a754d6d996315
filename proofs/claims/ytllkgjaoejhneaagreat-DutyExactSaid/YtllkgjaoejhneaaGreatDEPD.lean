/- Chapter 4: the reference's transitions, offsets and instants are those of the program. -/
import Derived.Test.YtllkgjaoejhneaaGreatDEPC
open _root_ renaming Int->m,Nat->F,ByteArray->G,List->I,Option->S
open List renaming length->u,drop->J,take_append_of_le_length->K,take_of_length_le->M,range->N,take->O
open Int renaming ofNat->B,lt_or_le->R
open Option renaming some->E
open Decidable renaming decide->H
open Go Go.Lft
namespace Go.Proofs.Pw
theorem j8i {n lo hi:m} (h1:lo≤n) (h2:n≤hi):j6L n lo hi=E true:=by
 simp only [j6L]
 rw [j00 (show n≥lo from h1),j00 h2];rfl
theorem juR {n lo hi:m} (h:¬ (lo≤n∧n≤hi)):j6L n lo hi=E false:=by
 simp only [j6L]
 by_cases h1:n≥lo
 ·rw [j00 h1,j01 (fun h2=>h ⟨h1,h2⟩)];rfl
 ·rw [j01 h1];rfl
theorem jsK {r:Rule} (h:ROk r):j9a r=E true:=by
 simp only [j9a,j8i h.y0 (show r.1≤2240 by have:=h.y1;have:=h.y2;omega),j8i h.y1 h.y2,j8i h.m0 h.m1,j8i h.k0 h.k1,j8i h.d0 h.d1,j8i h.s0 h.s1,j8i h.o0 h.o1,ja,jc]
theorem jiy (x:m×m):∀ l:TrL,j6R x l=l.takeWhile (fun y=>H (x.1<y.1))++x::l.dropWhile (fun y=>H (x.1<y.1))
 | []=>rfl
 | y::ys=>by
  unfold j6R
  by_cases h:x.1<y.1
  ·rw [if_pos h,jiy x ys];simp [h]
  ·rw [if_neg h];simp [h]
theorem jzj {rs:I Rule} {i y a b:m}:∀ (rp mid:TrL),rp.length+mid.length≤100000→
  j4g rs i y (rp.length:m) a b (rp.reverse++mid)=E (rs,i,y,((rp.dropWhile (fun z=>H (a<z.1))).length:m),a,b,rp.reverse++mid)
 | [],mid,_=>by
  rw [j9b]
  simp only [j2i]
  rw [j01 smp_,jd,j08]
  rfl
 | z::zs,mid,hl=>by
  have hL:((z::zs).reverse++mid).length=zs.length+1+mid.length:=sqo_
  simp only [jp] at hl
  have g2:((z::zs).reverse++mid).getD ((((zs.length+1:F):m)-1).toNat) ((0:m),(0:m))=z:=by
   rw [show (((zs.length+1:F):m)-1).toNat=zs.length by omega]
   simp
  rw [j9b]
  simp only [j2i,jp]
  simp only [j07 (x:=((zs.length+1:F):m)-1),g2]
  rw [j00 (show ((zs.length+1:F):m)>0 by omega),j1v omg_ (by rw [hL];omega)]
  simp only [jc]
  by_cases hc:a<z.1
  ·rw [j00 (show z.1>a from hc)]
   simp only [jc,j06]
   have ih:=jzj (rs:=rs) (i:=i) (y:=y) (a:=a) (b:=b) zs (z::mid) sqo_
   have e:(z::zs).reverse++mid=zs.reverse++z::mid:=smp_
   rw [e,show ((zs.length+1:F):m)-1=(zs.length:m) by omega,ih]
   simp [hc]
  ·rw [j01 (show ¬ z.1>a from hc)]
   simp only [jd,j08]
   simp [hc]
theorem jwk (l:TrL) (x:m×m) {k:F} (hk:k≤l.length):List.set (over (l++[x]) (k+1) (J k (l++[x]))) k x=l.take k++x::l.drop k:=by
 have h1:(l++[x]).length=l.length+1:=smp_
 unfold over
 rw [h1,jj (show (l++[x]).length≤k+1+(J k (l++[x])).length by simp;omega),ql]
 have e1:J k (l++[x])=J k l++[x]:=by rw [List.drop_append_of_le_length hk]
 rw [e1]
 have e2:O (l.length+1-(k+1)) (J k l++[x])=J k l:=by
  rw [K smp_,M smp_]
 rw [e2]
 by_cases h:k<l.length
 ·have e3:O (k+1) (l++[x])=l.take k++[l[k]]:=by
   rw [K omg_,List.take_succ_eq_append_getElem h]
  rw [e3,jr,vv _ _ sqo_]
  simp [Nat.min_eq_left hk]
 ·have hk':k=l.length:=omg_
  subst hk'
  have e3:O (l.length+1) (l++[x])=l++[x]:=M smp_
  rw [e3]
  simp
theorem jzk {rs:I Rule} {i:F} (hi:i<rs.length) {r:Rule} (hr:rs[i]=r) (h:ROk r):∀ (n j:F) (acc:TrL),r.1+(j:m)+n=r.2.1+1→acc.length+n≤90000→
  j5H rs (i:m) (r.1+(j:m)) acc.reverse=E (rs,(i:m),(j2M ((N n).map fun (q:F)=>occ r (r.1+(j:m)+(q:m))) acc).reverse)
 | 0,j,acc,hj,_=>by
  have hg:rs.getD i ((0:m),((0:m),((0:m),((0:m),((0:m),((0:m),(0:m)))))))=r:=by simp [hi,hr]
  rw [j9c]
  simp only [j2j]
  rw [j1o]
  simp only [jc,je,hg]
  rw [j01 omg_,jd,j08]
  rfl
 | n+1,j,acc,hj,hl=>by
  have hg:rs.getD i ((0:m),((0:m),((0:m),((0:m),((0:m),((0:m),(0:m)))))))=r:=by simp [hi,hr]
  have h0:=h.y0;have h2:=h.y2;have hs0:=h.s0;have hs1:=h.s1
  have hv:=jb3 (jal (r.1+(j:m)) r.2.2.1 omg_ omg_ h.m0 h.m1)
  have hn:=jht (w:=r.2.2.2.2.1) (y:=r.1+(j:m)) omg_ omg_ h.m0 h.m1 h.k0 h.k1
  have hd:=j3y (r.1+(j:m)) r.2.2.1
  rw [j9c]
  simp only [j2j]
  rw [j1o]
  simp only [jc,je,hg]
  rw [j00 (show r.1+(j:m)≤r.2.1 by omega),r01_Nth_ok _ _ _ _ omg_ omg_ h.m0 h.m1 h.k0 h.k1 h.d0 h.d1]
  simp only [jc,ja]
  rw [j07 (x:=nth (r.1+(j:m)) r.2.2.1 r.2.2.2.1 r.2.2.2.2.1*86400),j07 (x:=nth (r.1+(j:m)) r.2.2.1 r.2.2.2.1 r.2.2.2.2.1*86400+r.2.2.2.2.2.1)]
  have hl4:=jzj (rs:=rs) (i:=(i:m)) (y:=r.1+(j:m)) (a:=(occ r (r.1+(j:m))).1) (b:=(occ r (r.1+(j:m))).2) acc [] sqo_
  rw [ql] at hl4
  rw [show B (u acc.reverse)=(acc.length:m) by simp]
  rw [show j4g rs (i:m) (r.1+(j:m)) (acc.length:m) (nth (r.1+(j:m)) r.2.2.1 r.2.2.2.1 r.2.2.2.2.1*86400+r.2.2.2.2.2.1) r.2.2.2.2.2.2 acc.reverse=_ from hl4]
  simp only [ja]
  generalize hx:occ r (r.1+(j:m))=x at *
  have hdl:(acc.dropWhile (fun z=>H (x.1<z.1))).length≤acc.length:=(List.dropWhile_sublist _).length_le
  generalize hD:acc.dropWhile (fun z=>H (x.1<z.1))=D at *
  have hlen1:(acc.reverse++[(x.1,x.2)]).length=acc.length+1:=smp_
  rw [j00 (by simp [j05];omega)]
  simp only [jc]
  rw [j07 (x:=(D.length:m)+1),j00 (show (0:m)≤(D.length:m)+1 by omega),j00 (show (D.length:m)+1≤B (acc.reverse++[(x.1,x.2)]).length by rw [hlen1];show (D.length:m)+1≤((acc.length+1:F):m);omega),
   j00 (show (0:m)≤(D.length:m) by omega),j00 (show (D.length:m)≤B (acc.reverse++[(x.1,x.2)]).length by rw [hlen1];show (D.length:m)≤((acc.length+1:F):m);omega)]
  simp only [y8,jc,je,show ((D.length:m)+1).toNat=D.length+1 by omega]
  have hov:(over (acc.reverse++[(x.1,x.2)]) (D.length+1) (J D.length (acc.reverse++[(x.1,x.2)]))).length=acc.length+1:=by
   unfold over
   simp
   omega
  rw [j1v omg_ (by rw [hov];omega),jwk acc.reverse (x.1,x.2) (by simpa using hdl)]
  simp only [jc]
  rw [j07 (x:=r.1+(j:m)+1),j06]
  have hins:acc.reverse.take D.length++(x.1,x.2)::acc.reverse.drop D.length=(j6R x acc).reverse:=by
   have hsp:=List.takeWhile_append_dropWhile (p:=fun z:m×m=>H (x.1<z.1)) (l:=acc)
   rw [jiy,hD]
   rw [hD] at hsp
   generalize acc.takeWhile (fun z=>H (x.1<z.1))=T at hsp ⊢
   rw [←hsp]
   simp
  rw [hins]
  have ih:=jzk hi hr h n (j+1) (j6R x acc) omg_ (by rw [jcU];omega)
  rw [show r.1+(j:m)+1=r.1+((j+1:F):m) by omega]
  refine ih.trans ?_
  have hmap:(N n).map (fun (q:F)=>occ r (r.1+((j+1:F):m)+(q:m)))=(N n).map ((fun (q:F)=>occ r (r.1+(j:m)+(q:m))) ∘ Nat.succ):=List.map_congr_left fun q _=>by
   simp only [Function.comp]
   congr 1
   omega
  rw [List.range_succ_eq_map,qu,yq,hmap]
  simp [j2M,hx]
theorem jiz:∀ (a b acc:TrL),j2M (a++b) acc=j2M b (j2M a acc)
 | [],_,_=>rfl
 | x::a,b,acc=>by simp only [List.cons_append,j2M];exact jiz a b _
theorem jzl {rs:I Rule} (h:∀ r∈rs,ROk r) (hlen:rs.length≤100):∀ (n i:F) (acc:TrL),i+n=rs.length→acc.length≤300*i→
  j4h rs (i:m) acc.reverse=E (j2M (occs (rs.drop i)) acc).reverse
 | 0,i,acc,hi,_=>by
  rw [j9d]
  simp only [j2k,show B (u rs)=(rs.length:m) from rfl]
  rw [j01 omg_,jd,j08,jj omg_]
  rfl
 | n+1,i,acc,hi,hl=>by
  have hlt:i<rs.length:=omg_
  have hr:=h rs[i] (jx hlt)
  have h0:=hr.y0;have h1:=hr.y1;have h2:=hr.y2
  have hg:rs.getD i ((0:m),((0:m),((0:m),((0:m),((0:m),((0:m),(0:m)))))))=rs[i]:=by simp [hlt]
  have hl2:=jzk hlt rfl hr (rs[i].2.1-rs[i].1+1).toNat 0 acc omg_ omg_
  rw [show rs[i].1+((0:F):m)=rs[i].1 by omega] at hl2
  have ih:=jzl h hlen n (i+1) (j2M (occR rs[i]) acc) omg_ (by rw [j7u];simp [occR];omega)
  rw [j9d]
  simp only [j2k,show B (u rs)=(rs.length:m) from rfl]
  rw [j00 (show (i:m)<(rs.length:m) by omega),j1o]
  simp only [jc,je,hg,hl2,ja]
  rw [j07,j06,jh hlt]
  refine ih.trans ?_
  show _=E (j2M (occR rs[i]++occs (rs.drop (i+1))) acc).reverse
  rw [jiz]
theorem jrz {rs:I Rule} (h:∀ r∈rs,ROk r) (hlen:rs.length≤100):j7T rs=E (j35 (occs rs)):=by
 have e:=jzl h hlen rs.length 0 [] omg_ smp_
 simp only [j7T]
 rw [show j4h rs 0 []=_ from e]
 rfl
theorem juS {rs:I Rule} (h:∀ r∈rs,ROk r) (hlen:rs.length≤100) (nm:G) (o:m):∀ (n i:F) (s:m),i+n=rs.length→0≤s→s≤300*i→
  j3d s (i:m) nm o rs=E (.inr (s+((occs (rs.drop i)).length:m),nm,o,rs))
 | 0,i,s,hi,_,_=>by
  rw [j5Y]
  simp only [j1G,show B (u rs)=(rs.length:m) from rfl]
  rw [j01 omg_,jd,j08,jj omg_]
  simp [occs]
 | n+1,i,s,hi,hs0,hs1=>by
  have hlt:i<rs.length:=omg_
  have hr:=h rs[i] (jx hlt)
  have h0:=hr.y0;have h1:=hr.y1;have h2:=hr.y2
  have hg:rs.getD i ((0:m),((0:m),((0:m),((0:m),((0:m),((0:m),(0:m)))))))=rs[i]:=by simp [hlt]
  have ih:=juS h hlen nm o n (i+1) (s+(rs[i].2.1-rs[i].1+1)) omg_ omg_ omg_
  have hrule:j9a (rs[i].1,(rs[i].2.1,(rs[i].2.2.1,(rs[i].2.2.2.1,(rs[i].2.2.2.2.1,(rs[i].2.2.2.2.2.1,rs[i].2.2.2.2.2.2))))))=E true:=jsK hr
  rw [j5Y]
  simp only [j1G,show B (u rs)=(rs.length:m) from rfl]
  rw [j00 (show (i:m)<(rs.length:m) by omega),j1o]
  simp only [jc,je,hg,hrule,ja,jk,jd]
  rw [j07 (x:=rs[i].2.1-rs[i].1),j07 (x:=rs[i].2.1-rs[i].1+1),j07 (x:=s+(rs[i].2.1-rs[i].1+1)),j07 (x:=(i:m)+1),j06]
  refine ih.trans ?_
  rw [jh hlt]
  have:((occs (rs[i]::rs.drop (i+1))).length:m)=(rs[i].2.1-rs[i].1+1)+((occs (rs.drop (i+1))).length:m):=by
   have e1:(occR rs[i]).length=(rs[i].2.1-rs[i].1+1).toNat:=by simp [occR]
   show ((occR rs[i]++occs (rs.drop (i+1))).length:m)=_
   rw [jo,e1];omega
  rw [this]
  congr 3;omega
theorem jyj (L:TrL) (hL:L.length≤1000):∀ (n i:F) (now:m) (acc:TrL),i+n=L.length → -64800≤now→now≤64800→acc.length≤i→(∀ x∈acc,0≤x.1∧x.1≤8589934592)→Good now (acc.getLast?.map (·.1)) (L.drop i)→
  j3e now (i:m) acc L=E (.inr (acc++outT now (L.drop i)))
 | 0,i,now,acc,hi,_,_,_,_,_=>by
  rw [j4i]
  simp only [j1k,show B (u L)=(L.length:m) from rfl]
  rw [j01 omg_,jd,j08,jj omg_]
  simp [outT]
 | n+1,i,now,acc,hi,hn0,hn1,hal,hacc,hg=>by
  have hlt:i<L.length:=omg_
  rw [jh hlt] at hg ⊢
  have hgd:L.getD i ((0:m),(0:m))=L[i]:=by simp [hlt]
  rw [j4i]
  simp only [j1k,show B (u L)=(L.length:m) from rfl]
  rw [j00 (show (i:m)<(L.length:m) by omega),j1o]
  simp only [jc,je,hgd]
  generalize L[i]=x at *
  rw [j07 (x:=(i:m)+1)]
  simp only [Good] at hg
  by_cases hx:x.2=now
  ·rw [if_pos hx] at hg
   rw [j5N hx]
   simp only [jc,j06,outT]
   rw [if_pos hx]
   exact jyj L hL n (i+1) now acc omg_ hn0 hn1 omg_ hacc hg
  ·rw [if_neg hx] at hg
   obtain ⟨⟨g1,g2,g3,g4,g5,g6,g7⟩,g8⟩:=hg
   rw [j2q hx,j07 (x:=x.1-now),j07 (x:=x.2-now)]
   simp only [jd,j8i (show (-86399:m)≤x.2-now by omega) (show x.2-now≤86399 by omega),j8i (show (0:m)≤x.1-now by omega) (show x.1-now≤8589934592 by omega),ja,jk,show B (u acc)=(acc.length:m) from rfl]
   have hnext:=jyj L hL n (i+1) x.2 (acc++[(x.1-now,x.2)]) omg_ g6 g7 sqo_
    (fun y hy=>by
     rcases js.1 hy with hy | hy
     ·exact hacc y hy
     ·simp at hy;subst hy;exact ⟨by show (0:m)≤x.1-now;omega,by show x.1-now≤8589934592;omega⟩) (by simpa using g8)
   have hout:outT now (x::L.drop (i+1))=(x.1-now,x.2)::outT x.2 (L.drop (i+1)):=by simp [outT,hx]
   rw [hout]
   rw [jr] at hnext
   rw [j07 (x:=(acc.length:m)-1)]
   by_cases ha:acc=[]
   ·subst ha
    simp only [qc]
    rw [show H (((0:F):m)>0)=false from rfl]
    simp only [jd]
    rw [j00 (by simp [j05])]
    simp only [jc,j06]
    exact hnext
   ·have hpos:0<acc.length:=List.length_pos_iff.2 ha
    have hlast:acc.getLast? = E (acc.getD (acc.length-1) (0,0)):=by
     rw [List.getLast?_eq_getElem?,List.getD_eq_getElem?_getD,jv (show acc.length-1<acc.length by omega)];rfl
    rw [hlast] at g5
    have g5:(acc.getD (acc.length-1) ((0:m),(0:m))).1+604800≤x.1-now:=g5 _ rfl
    have hb:=hacc (acc.getD (acc.length-1) (0,0)) (List.mem_of_getLast? hlast)
    rw [j1o,j00 (show (acc.length:m)>0 by omega),show ((acc.length:m)-1).toNat=acc.length-1 by omega]
    simp only [jc]
    rw [j07,j01 (show ¬ x.1-now-(acc.getD (acc.length-1) ((0:m),(0:m))).1<604800 by omega),j00 (by simp [j05];omega)]
    simp only [jc,jd,j06]
    exact hnext
theorem jAd {nm:G} {o:m} {rs:I Rule} (h:∀ r∈rs,ROk r) (ho0 : -64800≤o) (ho1:o≤64800) (hlen:rs.length≤16) (hn:(occs rs).length≤640) (hg:Good o none (j35 (occs rs))) :
  j0c (nm,(o,rs))=E (outT o (j35 (occs rs)),0):=by
 have hl:(j35 (occs rs)).length≤1000:=by simp [j35,j7u];omega
 have e0:=juS h omg_ nm o rs.length 0 0 omg_ omg_ omg_
 rw [jy] at e0
 have e2:=jyj (j35 (occs rs)) hl (j35 (occs rs)).length 0 o [] omg_ ho0 ho1 smp_ smp_ hg
 rw [jy] at e2
 simp only [j0c,j8i ho0 ho1,ja,jk,jd,show B (u rs)=(rs.length:m) from rfl]
 rw [j01 (show ¬ (rs.length:m)>16 by omega),jd,show j3d 0 0 nm o rs=_ from e0]
 simp only [ja,j48]
 rw [j01 omg_,jd,jrz h omg_]
 simp only [ja]
 rw [show j3e o 0 [] (j35 (occs rs))=_ from e2]
 rfl
def Z4 (z:G×(m×I Rule)) (l:TrL):Prop:=j0c z=E (l,0)∧TOk z.2.1 l
theorem MZ.r4 {o:m} {rs:I Rule} (h:MZ o rs) (nm:G):Z4 (nm,(o,rs)) (outT o (j35 (occs rs))):=by
 have ht:=h.tab nm
 refine ⟨jAd h.ok (by have:=h.o0;omega) (by have:=h.o1;omega) ?_ ?_ h.good,ht.2⟩
 ·have:=h.len;omega
 ·have:=h.few;omega
section
variable {o:m} {l:TrL} (h:TOk o l)
include h
theorem jp7 {t:m} {k:F} (hk:k≤l.length) (h1:frm l k≤t) (h2:t<frm l (k+1)):∀ (n i:F),i+n=k→j7V l t (tof o l i) (i:m)=E (tof o l k)
 | 0,i,hi=>by
  have hi:i=k:=omg_
  subst hi
  have hlen:=h.len
  rw [je0]
  simp only [j4m,show B (u l)=(l.length:m) from rfl]
  by_cases hlt:i<l.length
  ·have e:frm l (i+1)=tat l i:=j7w hlt
   rw [j1o,j00 (show (i:m)<(l.length:m) by omega)]
   simp only [zu,jc,je]
   rw [j01 (show ¬ (l.getD i ((0:m),(0:m))).1≤t by show ¬ tat l i≤t;omega),jd,j08]
  ·rw [j01 (show ¬ (i:m)<(l.length:m) by omega)]
   simp only [jt,yf,jc,jd,j08]
 | n+1,i,hi=>by
  have hlen:=h.len
  have hlt:i<l.length:=omg_
  have e:frm l (i+1)=tat l i:=j7w hlt
  have hle:=h.frm_le (i:=i+1) (j:=k) omg_ omg_
  rw [je0]
  simp only [j4m,show B (u l)=(l.length:m) from rfl]
  rw [j1o,j00 (show (i:m)<(l.length:m) by omega)]
  simp only [zu,jc,je]
  rw [j00 (show (l.getD i ((0:m),(0:m))).1≤t by show tat l i≤t;omega),jc,j07,j06]
  exact jp7 hk h1 h2 n (i+1) omg_
theorem juT {nm:G} {rs:I Rule} {t:m} {k:F} (hk:k≤l.length) (h1:frm l k≤t) (h2:t<frm l (k+1)):jfb (nm,(o,rs)) l t=E (tof o l k):=by
 have:=jp7 h hk h1 h2 k 0 omg_
 simp only [jfb]
 rw [show j7V l t o 0=_ from this]
 rfl
theorem jkz {nm:G} {rs:I Rule} {d c:m} (hd : -1000000≤d) (hd2:d≤1000000) (hc:0≤c) (hc2:c≤86399) {k:F} (hk:k≤l.length) (hks:d*86400+c-tof o l k<frm l (k+1))
  (hb:∀ j,j<k→frm l (j+1)≤d*86400+c-tof o l j):∀ (n j:F),j+n=k→j4k ((j:m)-1) nm o rs d c l=E (.inl (max (frm l k) (d*86400+c-tof o l k),0))
 | n,j,hj=>by
  have hlen:=h.len
  have hjl:j≤l.length:=omg_
  have o1:=h.of0 j hjl;have o2:=h.of1 j hjl
  have hlt:=h.frm_lt hjl
  have key:∀ A:S ((m×G×m×I Rule×m×m×TrL) ⊕ ((m×m) ⊕ Unit)),
    A=(cond (H (max (frm l j) (d*86400+c-tof o l j)<frm l (j+1))) (E (.inr (.inl (max (frm l j) (d*86400+c-tof o l j),0)))) (E (.inl ((j:m),nm,o,rs,d,c,l))))→
    lpK A (fun h=>j4k h.1 h.2.1 h.2.2.1 h.2.2.2.1 h.2.2.2.2.1 h.2.2.2.2.2.1 h.2.2.2.2.2.2)=E (.inl (max (frm l k) (d*86400+c-tof o l k),0)):=by
   intro A hA
   rw [hA]
   cases n with
   | zero=>
    have hjk:j=k:=omg_
    subst hjk
    rw [j00 omg_,jc,j08]
   | succ n=>
    have:=hb j omg_
    rw [j01 omg_,jd,j06]
    have ih:=jkz (nm:=nm) (rs:=rs) hd hd2 hc hc2 hk hks hb n (j+1) omg_
    rwa [show ((j+1:F):m)-1=(j:m) by omega] at ih
  rw [jaD]
  refine key _ ?_
  simp only [j3N,show B (u l)=(l.length:m) from rfl]
  rw [j00 (show (j:m)-1<(l.length:m) by omega)]
  simp only [show (j:m)-1+1=(j:m) by omega,j07 (x:=(j:m)),je]
  rw [j07 (x:=d*86400),j07 (x:=d*86400+c)]
  have hmx:∀ a b:m,(if a>b then a else b)=max b a:=fun a b=>omg_
  clear key
  cases j with
  | zero=>
   have ht0:tof o l 0=o:=rfl
   have hf0:frm l 0=0:=rfl
   rw [j01 (show ¬ ((0:F):m)-1≥0 by omega)]
   rw [ht0] at o1 o2 ⊢
   rw [hf0]
   simp only [jc,jd,j07 (x:=d*86400+c-o),hmx]
   by_cases hl0:0<l.length
   ·have e:frm l (0+1)=tat l 0:=j7w hl0
    rw [e]
    rw [j00 (show ((0:F):m)<(l.length:m) by omega),j1o]
    rfl
   ·have hl0':l.length=0:=omg_
    have e:frm l (0+1)=8589934593:=by have:=j5g (l:=l);rwa [hl0'] at this
    rw [e]
    rw [j01 (show ¬ ((0:F):m)<(l.length:m) by omega)]
    rfl
  | succ i=>
   have hil:i<l.length:=omg_
   have ht0:tof o l (i+1)=(l.getD i ((0:m),(0:m))).2:=rfl
   have hf0:frm l (i+1)=(l.getD i ((0:m),(0:m))).1:=j7w hil
   rw [show ((i+1:F):m)-1=(i:m) by omega,j00 (show (i:m)≥0 by omega),j1o]
   simp only [jc,je,←ht0,←hf0]
   rw [j07 (x:=d*86400+c-tof o l (i+1))]
   simp only [hmx]
   by_cases hl0:i+1<l.length
   ·have e:frm l (i+1+1)=(l.getD (i+1) ((0:m),(0:m))).1:=j7w hl0
    rw [j00 (show ((i+1:F):m)<(l.length:m) by omega),j1o]
    simp only [jc,←e]
   ·have e:frm l (i+1+1)=8589934593:=by have:=j5g (l:=l);rwa [show l.length+1=i+1+1 by omega] at this
    rw [j01 (show ¬ ((i+1:F):m)<(l.length:m) by omega),e]
    rfl
end
theorem jsL {t o:m} (h1 : -864000≤t+o) (h2:t+o≤1000000000000):jgZ t o=E ((t+o)/86400,(t+o)%86400):=by
 simp only [jgZ]
 rw [j07 (x:=t+o),j07 (x:=t+o+864000),jdN omg_,jgn omg_,j07 (x:=(t+o+864000)/86400),j07]
 congr 2<;>omega
section
variable {z:G×(m×I Rule)} {l:TrL} (h:Z4 z l)
include h
theorem jwl {t:m} {k:F} (h0:0≤t) (h1:t≤8589934592) (hk:k≤l.length) (hk1:frm l k≤t) (hk2:t<frm l (k+1)):j9e z t=E (tof z.2.1 l k,0):=by
 simp only [j9e,show j0c (z.1,(z.2.1,z.2.2))=_ from h.1,ja,jm,jd,j8i h0 h1,jk,juT h.2 hk hk1 hk2]
theorem jrA {t:m} {k:F} (h0:0≤t) (h1:t≤8589934592) (hk:k≤l.length) (hk1:frm l k≤t) (hk2:t<frm l (k+1)):j3k z t=E (((t+tof z.2.1 l k)/86400,(t+tof z.2.1 l k)%86400),0):=by
 have o1:=h.2.of0 k hk;have o2:=h.2.of1 k hk
 simp only [j3k,show j9e (z.1,(z.2.1,z.2.2)) t=_ from jwl h h0 h1 hk hk1 hk2,ja,jm,jd,jsL (show -864000≤t+tof z.2.1 l k by omega) omg_]
omit h in
theorem ji8 {d:m} (h1 : -2≤d) (h2:d≤99422):jcI d=E true:=by
 simp only [jcI,j8i h1 h2,ja]
theorem jsM {d c:m} (hd : -2≤d) (hd2:d≤99422) (hc:0≤c) (hc2:c≤86399) {k:F} (hk:k≤l.length) (hks:d*86400+c-tof z.2.1 l k<frm l (k+1))
  (hb:∀ j,j<k→frm l (j+1)≤d*86400+c-tof z.2.1 l j):j4l z (d,c)=E (max (frm l k) (d*86400+c-tof z.2.1 l k),0):=by
 have:=jkz h.2 (nm:=z.1) (rs:=z.2.2) (show -1000000≤d by omega) omg_ hc hc2 hk hks hb k 0 omg_
 simp only [j4l,show j0c (z.1,(z.2.1,z.2.2))=_ from h.1,ja,jm,jd,j8i hc hc2,jk,ji8 hd hd2]
 rw [j01 (show ¬ d < -2 by omega),jd,show j4k (-1) z.1 z.2.1 z.2.2 d c l=_ from this]
 rfl
end
section
variable {o:m} {l:TrL} (h:TOk o l)
include h
def ji9 (o:m) (l:TrL) (s:m):F→F→I m
 | _,0=>[]
 | j,n+1=>(if Sol o l s j then [s-tof o l j] else [])++ji9 o l s (j+1) n
def sols (o:m) (l:TrL) (s:m):I Int:=ji9 o l s 0 (l.length+1)
omit h in
theorem jhu (s:m):∀ n j,(ji9 o l s j n).length≤n
 | 0,_=>by simp [ji9]
 | n+1,j=>by
  have:=jhu s n (j+1)
  simp only [ji9]
  split<;>simp<;>omega
omit h in
theorem jwm {s:m} {j:F}:(cond (H (s-tof o l j≥frm l j)) (H (s-tof o l j<frm l (j+1))) false)=H (Sol o l s j):=by
 by_cases h1:frm l j≤s-tof o l j
 ·rw [j00 (show s-tof o l j≥frm l j from h1),jc]
  by_cases h2:s-tof o l j<frm l (j+1)
  ·rw [j00 h2,j00 (show Sol o l s j from ⟨h1,h2⟩)]
  ·rw [j01 h2,j01 (fun hs:Sol o l s j=>h2 hs.2)]
 ·rw [j01 (show ¬ s-tof o l j≥frm l j from h1),jd,j01 (fun hs:Sol o l s j=>h1 hs.1)]
theorem jlU {nm:G} {rs:I Rule} {d c:m} (hd : -1000000≤d) (hd2:d≤1000000) (hc:0≤c) (hc2:c≤86399):∀ (n j:F) (acc:I m),j+n=l.length+1→acc.length≤j→
  j3l ((j:m)-1) nm o rs d c l acc=E (acc++ji9 o l (d*86400+c) j n)
 | 0,j,acc,hj,_=>by
  rw [jaG]
  simp only [j30,show B (u l)=(l.length:m) from rfl]
  rw [j01 omg_,jd,j08]
  simp [ji9]
 | n+1,j,acc,hj,ha=>by
  have hlen:=h.len
  have o1:=h.of0 j omg_;have o2:=h.of1 j omg_
  have key:∀ A:S ((m×G×m×I Rule×m×m×TrL×I m) ⊕ I m),
    A=(cond (H (Sol o l (d*86400+c) j)) (E (.inl ((j:m),nm,o,rs,d,c,l,acc++[d*86400+c-tof o l j]))) (E (.inl ((j:m),nm,o,rs,d,c,l,acc))))→
    lpK A (fun h=>j3l h.1 h.2.1 h.2.2.1 h.2.2.2.1 h.2.2.2.2.1 h.2.2.2.2.2.1 h.2.2.2.2.2.2.1 h.2.2.2.2.2.2.2)=E (acc++ji9 o l (d*86400+c) j (n+1)):=by
   intro A hA
   rw [hA]
   have ih:∀ acc':I m,acc'.length≤j+1→j3l (j:m) nm o rs d c l acc'=E (acc'++ji9 o l (d*86400+c) (j+1) n):=fun acc' h'=>by
    have:=jlU (nm:=nm) (rs:=rs) hd hd2 hc hc2 n (j+1) acc' omg_ h'
    rwa [show ((j+1:F):m)-1=(j:m) by omega] at this
   by_cases hs:Sol o l (d*86400+c) j
   ·rw [j00 hs,jc,j06]
    refine (ih (acc++[d*86400+c-tof o l j]) sqo_).trans ?_
    simp [ji9,hs]
   ·rw [j01 hs,jd,j06]
    refine (ih acc omg_).trans ?_
    simp [ji9,hs]
  rw [jaG]
  refine key _ ?_
  simp only [j30,show B (u l)=(l.length:m) from rfl]
  rw [j00 (show (j:m)-1<(l.length:m) by omega)]
  simp only [show (j:m)-1+1=(j:m) by omega,j07 (x:=(j:m)),je]
  have hsz:H (acc.length+[d*86400+c-tof o l j].length≤j05)=true:=j00 (by simp [j05];omega)
  rw [j07 (x:=d*86400),j07 (x:=d*86400+c)]
  have hcs:=jwm (o:=o) (l:=l) (s:=d*86400+c) (j:=j)
  cases j with
  | zero=>
   have ht0:tof o l 0=o:=rfl
   have hf0:frm l 0=0:=rfl
   rw [j01 (show ¬ ((0:F):m)-1≥0 by omega)]
   rw [ht0] at o1 o2 hsz hcs ⊢
   rw [hf0] at hcs
   simp only [jc,jd,j07 (x:=d*86400+c-o)]
   by_cases hl0:0<l.length
   ·have e:frm l (0+1)=tat l 0:=j7w hl0
    rw [e] at hcs
    rw [j00 (show ((0:F):m)<(l.length:m) by omega),j1o]
    simp only [jc]
    rw [show (l.getD 0 ((0:m),(0:m))).1=tat l 0 from rfl,hcs,hsz]
    rfl
   ·have hl0':l.length=0:=omg_
    have e:frm l (0+1)=8589934593:=by have:=j5g (l:=l);rwa [hl0'] at this
    rw [e] at hcs
    rw [j01 (show ¬ ((0:F):m)<(l.length:m) by omega)]
    simp only [jd]
    rw [hcs,hsz]
    rfl
  | succ i=>
   have hil:i<l.length:=omg_
   have ht0:tof o l (i+1)=(l.getD i ((0:m),(0:m))).2:=rfl
   have hf0:frm l (i+1)=(l.getD i ((0:m),(0:m))).1:=j7w hil
   rw [show ((i+1:F):m)-1=(i:m) by omega,j00 (show (i:m)≥0 by omega),j1o]
   simp only [jc,je,←ht0,←hf0]
   rw [j07 (x:=d*86400+c-tof o l (i+1))]
   by_cases hl0:i+1<l.length
   ·have e:frm l (i+1+1)=(l.getD (i+1) ((0:m),(0:m))).1:=j7w hl0
    rw [j00 (show ((i+1:F):m)<(l.length:m) by omega),j1o]
    simp only [jc,←e]
    rw [hcs,hsz]
    rfl
   ·have e:frm l (i+1+1)=8589934593:=by have:=j5g (l:=l);rwa [show l.length+1=i+1+1 by omega] at this
    rw [j01 (show ¬ ((i+1:F):m)<(l.length:m) by omega)]
    rw [e] at hcs
    simp only [jd]
    rw [hcs,hsz]
    rfl
end
section
variable {z:G×(m×I Rule)} {l:TrL} (h:Z4 z l)
include h
theorem jp8 {d c:m} (hd : -2≤d) (hd2:d≤99422) (hc:0≤c) (hc2:c≤86399):j6h z (d,c)=E (sols z.2.1 l (d*86400+c),0):=by
 have:=jlU h.2 (nm:=z.1) (rs:=z.2.2) (show -1000000≤d by omega) omg_ hc hc2 (l.length+1) 0 [] omg_ smp_
 simp only [j6h,show j0c (z.1,(z.2.1,z.2.2))=_ from h.1,ja,jm,jd,j8i hc hc2,jk,ji8 hd hd2]
 rw [show j3l (-1) z.1 z.2.1 z.2.2 d c l []=_ from this]
 rfl
end
def NoF (o:m) (l:TrL) (s:m):Prop:=∀ j,j≤l.length→frm l (j+1)≤s-tof o l j
noncomputable def fO (o:m) (l:TrL) (s:m):S Int:=open Classical in if h:∃ t k,Fst o l s t k then E (Classical.choose h) else none
theorem Fst.uniq {o:m} {l:TrL} {s t t':m} {k k':F} (f:Fst o l s t k) (g:Fst o l s t' k'):k=k'∧t=t':=by
 have hk:k=k':=by
  rcases vi k k' with hlt | heq | hgt
  ·have:=g.bef k hlt;have:=f.hks;omega
  ·exact heq
  ·have:=f.bef k' hgt;have:=g.hks;omega
 subst hk
 exact ⟨rfl,by rw [f.ht,g.ht]⟩
theorem fO_t {o:m} {l:TrL} {s t:m} {k:F} (f:Fst o l s t k):fO o l s=E t:=by
 have he:∃ t k,Fst o l s t k:=⟨t,k,f⟩
 unfold fO
 rw [dif_pos he]
 obtain ⟨k',g⟩:=Classical.choose_spec he
 rw [(g.uniq f).2]
theorem fO_n {o:m} {l:TrL} {s:m} (hno:NoF o l s):fO o l s=none:=by
 unfold fO
 rw [dif_neg]
 rintro ⟨t,k,f⟩
 have:=hno k f.hk
 have:=f.hks
 omega
theorem jrB (o:m) (l:TrL) (s:m):(∃ t k,Fst o l s t k)∨NoF o l s:=by
 by_cases hno:NoF o l s
 ·exact .inr hno
 ·left
  have:∃ j,j≤l.length∧s-tof o l j<frm l (j+1):=by
   apply kn
   intro hn
   exact hno fun j hj=>by
    rcases R (s-tof o l j) (frm l (j+1)) with h | h
    ·exact absurd ⟨j,hj,h⟩ hn
    ·exact h
  obtain ⟨j,hj,hjs⟩:=this
  obtain ⟨a,⟨ha,haN⟩,hmin⟩:=jsi (fun j=>s-tof o l j<frm l (j+1)∧j≤l.length) j ⟨hjs,hj⟩
  refine ⟨_,a,haN,ha,fun i hi=> ?_,rfl⟩
  rcases R (s-tof o l i) (frm l (i+1)) with h' | h'
  ·have:=hmin i ⟨h',omg_⟩;omega
  ·exact h'
theorem jwn {o:m} {l:TrL} {s t:m} (he:fO o l s=E t):∃ k,Fst o l s t k:=by
 rcases jrB o l s with ⟨t',k,f⟩ | hno
 ·rw [fO_t f] at he
  simp at he;subst he
  exact ⟨k,f⟩
 ·rw [fO_n hno] at he;simp at he
section
variable {o:m} {l:TrL} (h:TOk o l)
include h
theorem jsN {s t:m} (he:fO o l s=E t):s≤t+64800∧0≤t∧t≤8589934592:=by
 obtain ⟨k,f⟩:=jwn he
 obtain ⟨p1,p2,p3⟩:=f.piece h
 have o1:=h.of1 k f.hk
 have g1:=h.frm_le (i:=0) (j:=k) omg_ (by have:=f.hk;omega)
 have e0:frm l 0=0:=frm0
 have e1:frm l (l.length+1)=8589934593:=j5g
 have g2:=h.frm_le (i:=k+1) (j:=l.length+1) (by have:=f.hk;omega) omg_
 omega
theorem juU {s:m} (hs:8589934593+64800≤s):NoF o l s:=fun j hj=>by
 have o1:=h.of1 j hj
 have e1:frm l (l.length+1)=8589934593:=j5g
 have g2:=h.frm_le (i:=j+1) (j:=l.length+1) omg_ omg_
 omega
theorem jyk {s s' t':m} (hs:s≤s') (he:fO o l s'=E t'):∃ t,fO o l s=E t∧t≤t':=by
 obtain ⟨k',g⟩:=jwn he
 have g1:=g.hks
 have hk':=g.hk
 rcases jrB o l s with ⟨t,k,f⟩ | hno
 ·refine ⟨t,fO_t f,?_⟩
  obtain ⟨p1,p2,p3⟩:=f.piece h
  obtain ⟨q1,q2,q3⟩:=g.piece h
  have f1:=f.ht;have g2:=g.ht
  rcases vi k k' with hlt | heq | hgt
  ·have:=h.frm_le (i:=k+1) (j:=k') omg_ omg_;omega
  ·subst heq;omega
  ·have:=f.bef k' hgt;omega
 ·have:=hno k' hk';omega
theorem jkA {d c s:m} (hsec:j3I (d,c)=E s) (hs0 : -1000000000000≤s) (hs1:s≤1000000000000) (hno:NoF o l s) :
  ∀ (n i:F),i+n=l.length+1→j3T ((l.length+1:F):m) (i:m) d c (pcs o l (l.length+1))=E (.inr ())
 | 0,i,hi=>by
  rw [j40]
  simp only [j18]
  rw [j01 omg_,jd,j08]
 | n+1,i,hi=>by
  have hlen:=h.len
  have hil:i≤l.length:=omg_
  have o1:=h.of0 i hil;have o2:=h.of1 i hil
  have hb:=hno i hil
  have hlt:=h.frm_lt hil
  rw [j40]
  simp only [j18]
  rw [j00 (show (i:m)<((l.length+1:F):m) by omega),j1v omg_ (by rw [jgo];omega)]
  simp only [jc,je,jqA (show i<l.length+1 by omega),hsec,ja,pc]
  rw [j07 (x:=s-tof o l i),j07 (x:=(i:m)+1)]
  have hm:(if s-tof o l i>frm l i then s-tof o l i else frm l i)=max (frm l i) (s-tof o l i):=by split<;>omega
  rw [hm,j01 omg_,jd,j06]
  exact jkA hsec hs0 hs1 hno n (i+1) omg_
theorem jnm {d c s:m} (hsec:j3I (d,c)=E s) (hs0 : -1000000000000≤s) (hs1:s≤1000000000000) (hno:NoF o l s):j2r (o,l) (d,c)=E (0,false):=by
 have:=jkA h hsec hs0 hs1 hno (l.length+1) 0 omg_
 simp only [j2r,jp2 h,ja,jgo,show B (u l+1)=((l.length+1:F):m) from rfl]
 rw [show (0:m)=((0:F):m) from rfl,this]
 rfl
theorem jp9 {d c:m} (hd : -1000000≤d) (hd2:d≤1000000000000000) (hc:0≤c) (hc2:c≤86399) :
  j2r (o,l) (d,c)=E ((fO o l (d*86400+c)).getD 0,(fO o l (d*86400+c)).isSome):=by
 by_cases hb:d≤1000000
 ·rcases jrB o l (d*86400+c) with ⟨t,k,f⟩ | hno
  ·have e:=jwf h hd hb omg_ omg_ f.hk f.hks f.bef
   rw [←f.ht] at e
   rw [fO_t f]
   exact e
  ·rw [fO_n hno]
   exact jnm h (ji5 hd hb omg_ omg_) omg_ omg_ hno
 ·have hno:NoF o l (d*86400+c):=juU h omg_
  rw [fO_n hno]
  by_cases hb2:d≤1048576
  ·have hsec:j3I (d,c)=E (d*86400+c):=by
    simp only [j3I]
    rw [if_neg (show ¬ (-1048576:m)>d by omega),if_neg (show ¬ (1048576:m)<d by omega),j07 (x:=d*86400),j07]
   exact jnm h hsec omg_ omg_ hno
  ·have hsec:j3I (d,c)=E (1048576*86400+c):=by
    simp only [j3I]
    rw [if_neg (show ¬ (-1048576:m)>d by omega),if_pos (show (1048576:m)<d by omega),j07 (x:=1048576*86400),j07]
   exact jnm h hsec omg_ omg_ (juU h omg_)
theorem jkB {nm:G} {rs:I Rule} {d c:m} (hd : -1000000≤d) (hd2:d≤1000000) (hc:0≤c) (hc2:c≤86399) (hno:NoF o l (d*86400+c)):∀ (n j:F),j+n=l.length+1→
  j4k ((j:m)-1) nm o rs d c l=E (.inr ())
 | 0,j,hj=>by
  rw [jaD]
  simp only [j3N,show B (u l)=(l.length:m) from rfl]
  rw [j01 omg_,jd,j08]
 | n+1,j,hj=>by
  have hlen:=h.len
  have hjl:j≤l.length:=omg_
  have o1:=h.of0 j hjl;have o2:=h.of1 j hjl
  have hlt:=h.frm_lt hjl
  have hb:=hno j hjl
  have ih:=jkB (nm:=nm) (rs:=rs) hd hd2 hc hc2 hno n (j+1) omg_
  rw [show ((j+1:F):m)-1=(j:m) by omega] at ih
  have key:∀ A:S ((m×G×m×I Rule×m×m×TrL) ⊕ ((m×m) ⊕ Unit)),
    A=(cond (H (max (frm l j) (d*86400+c-tof o l j)<frm l (j+1))) (E (.inr (.inl (max (frm l j) (d*86400+c-tof o l j),0)))) (E (.inl ((j:m),nm,o,rs,d,c,l))))→
    lpK A (fun h=>j4k h.1 h.2.1 h.2.2.1 h.2.2.2.1 h.2.2.2.2.1 h.2.2.2.2.2.1 h.2.2.2.2.2.2)=E (.inr ()):=by
   intro A hA
   rw [hA,j01 omg_,jd,j06]
   exact ih
  rw [jaD]
  refine key _ ?_
  simp only [j3N,show B (u l)=(l.length:m) from rfl]
  rw [j00 (show (j:m)-1<(l.length:m) by omega)]
  simp only [show (j:m)-1+1=(j:m) by omega,j07 (x:=(j:m)),je]
  rw [j07 (x:=d*86400),j07 (x:=d*86400+c)]
  have hmx:∀ a b:m,(if a>b then a else b)=max b a:=fun a b=>omg_
  clear key
  cases j with
  | zero=>
   have ht0:tof o l 0=o:=rfl
   have hf0:frm l 0=0:=rfl
   rw [j01 (show ¬ ((0:F):m)-1≥0 by omega)]
   rw [ht0] at o1 o2 ⊢
   rw [hf0]
   simp only [jc,jd,j07 (x:=d*86400+c-o),hmx]
   by_cases hl0:0<l.length
   ·have e:frm l (0+1)=tat l 0:=j7w hl0
    rw [e]
    rw [j00 (show ((0:F):m)<(l.length:m) by omega),j1o]
    rfl
   ·have hl0':l.length=0:=omg_
    have e:frm l (0+1)=8589934593:=by have:=j5g (l:=l);rwa [hl0'] at this
    rw [e]
    rw [j01 (show ¬ ((0:F):m)<(l.length:m) by omega)]
    rfl
  | succ i=>
   have hil:i<l.length:=omg_
   have ht0:tof o l (i+1)=(l.getD i ((0:m),(0:m))).2:=rfl
   have hf0:frm l (i+1)=(l.getD i ((0:m),(0:m))).1:=j7w hil
   rw [show ((i+1:F):m)-1=(i:m) by omega,j00 (show (i:m)≥0 by omega),j1o]
   simp only [jc,je,←ht0,←hf0]
   rw [j07 (x:=d*86400+c-tof o l (i+1))]
   simp only [hmx]
   by_cases hl0:i+1<l.length
   ·have e:frm l (i+1+1)=(l.getD (i+1) ((0:m),(0:m))).1:=j7w hl0
    rw [j00 (show ((i+1:F):m)<(l.length:m) by omega),j1o]
    simp only [jc,←e]
   ·have e:frm l (i+1+1)=8589934593:=by have:=j5g (l:=l);rwa [show l.length+1=i+1+1 by omega] at this
    rw [j01 (show ¬ ((i+1:F):m)<(l.length:m) by omega),e]
    rfl
end
theorem jgr {z:j1l} {l:TrL} (h:Z4 z l) {d c:m} (hd:1≤d) (hc:0≤c) (hc2:c≤86399) :
  j4l z (d,c)=E (match fO z.2.1 l (d*86400+c) with | some t=>(t,0) | none=>(0,10)):=by
 by_cases hb:d≤99422
 ·rcases jrB z.2.1 l (d*86400+c) with ⟨t,k,f⟩ | hno
  ·have e:=jsM h (d:=d) (c:=c) omg_ hb hc hc2 f.hk f.hks f.bef
   rw [←f.ht] at e
   rw [fO_t f]
   exact e
  ·have:=jkB h.2 (nm:=z.1) (rs:=z.2.2) (show -1000000≤d by omega) omg_ hc hc2 hno (l.length+1) 0 omg_
   rw [fO_n hno]
   simp only [j4l,show j0c (z.1,(z.2.1,z.2.2))=_ from h.1,ja,jm,jd,j8i hc hc2,jk,ji8 (show -2≤d by omega) hb]
   rw [j01 (show ¬ d < -2 by omega),jd,show j4k (-1) z.1 z.2.1 z.2.2 d c l=_ from this]
   rfl
 ·rw [fO_n (juU h.2 omg_)]
  simp only [j4l,show j0c (z.1,(z.2.1,z.2.2))=_ from h.1,ja,jm,jd,j8i hc hc2,jk,jcI,juR (show ¬ (-2≤d∧d≤99422) by omega)]
  rw [j01 (show ¬ d < -2 by omega)]
  rfl
end Go.Proofs.Pw
