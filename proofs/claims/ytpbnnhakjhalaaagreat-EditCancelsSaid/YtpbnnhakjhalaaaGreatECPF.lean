/- Chapter 4: the reference's transitions, offsets and instants are those of the program. -/
import Derived.Test.YtpbnnhakjhalaaaGreatECPE
import Derived.Test.YtpbnnhakjhalaaaGreatECPA
import Derived.Test.YtpbnnhakjhalaaaGreatECFns
import Derived.Test.YtpbnnhakjhalaaaGreatECPC
import Derived.Test.YtpbnnhakjhalaaaGreatECPB
import Derived.KernelRfl
import Derived.Test.YtpbnnhakjhalaaaGreatECLD
open Go Go.Lft
namespace Go.Proofs.Pw
theorem je9 {n lo hi:Int} (h1:lo≤n) (h2:n≤hi):jbe n lo hi=some true:=by
 simp only [jbe]
 rw [j01 (show n≥lo from h1),j01 h2];rfl
theorem jpx {r:Rule} (h:ROk r):jd4 r=some true:=by
 simp only [jd4,je9 h.y0 (show r.1≤2240 by have:=h.y1;have:=h.y2;omega),je9 h.y1 h.y2,je9 h.m0 h.m1,je9 h.k0 h.k1,je9 h.d0 h.d1,je9 h.s0 h.s1,je9 h.o0 h.o1,j2,j4]
theorem jgL (x:Int×Int):∀ l:TrL,j7D x l=l.takeWhile (fun y=>decide (x.1<y.1))++x::l.dropWhile (fun y=>decide (x.1<y.1))
 | []=>rfl
 | y::ys=>by
  unfold j7D
  by_cases h:x.1<y.1
  ·rw [if_pos h,jgL x ys];simp [h]
  ·rw [if_neg h];simp [h]
theorem jux {rs:List Rule} {i y a b:Int}:∀ (rp mid:TrL),rp.length+mid.length≤100000→
  j3F rs i y (rp.length:Int) a b (rp.reverse++mid)=some (rs,i,y,((rp.dropWhile (fun z=>decide (a<z.1))).length:Int),a,b,rp.reverse++mid)
 | [],mid,_=>by
  rw [j8e]
  simp only [j2f]
  rw [j00 (by simp),j5,j0n]
  rfl
 | z::zs,mid,hl=>by
  have hL:((z::zs).reverse++mid).length=zs.length+1+mid.length:=by simp;omega
  simp only [jy] at hl
  have g2:((z::zs).reverse++mid).getD ((((zs.length+1:Nat):Int)-1).toNat) ((0:Int),(0:Int))=z:=by
   rw [show (((zs.length+1:Nat):Int)-1).toNat=zs.length by omega]
   simp
  rw [j8e]
  simp only [j2f,jy]
  simp only [j04 (x:=((zs.length+1:Nat):Int)-1) (by omega) (by omega),g2]
  rw [j01 (show ((zs.length+1:Nat):Int)>0 by omega),j1v (by omega) (by rw [hL];omega)]
  simp only [j4]
  by_cases hc:a<z.1
  ·rw [j01 (show z.1>a from hc)]
   simp only [j4,j0i]
   have ih:=jux (rs:=rs) (i:=i) (y:=y) (a:=a) (b:=b) zs (z::mid) (by simp;omega)
   have e:(z::zs).reverse++mid=zs.reverse++z::mid:=by simp
   rw [e,show ((zs.length+1:Nat):Int)-1=(zs.length:Int) by omega,ih]
   simp [hc]
  ·rw [j00 (show ¬ z.1>a from hc)]
   simp only [j5,j0n]
   simp [hc]
theorem jsk (l:TrL) (x:Int×Int) {k:Nat} (hk:k≤l.length):List.set (over (l++[x]) (k+1) (List.drop k (l++[x]))) k x=l.take k++x::l.drop k:=by
 have h1:(l++[x]).length=l.length+1:=by simp
 unfold over
 rw [h1,jk (show (l++[x]).length≤k+1+(List.drop k (l++[x])).length by simp;omega),qj]
 have e1:List.drop k (l++[x])=List.drop k l++[x]:=by rw [List.drop_append_of_le_length hk]
 rw [e1]
 have e2:List.take (l.length+1-(k+1)) (List.drop k l++[x])=List.drop k l:=by
  rw [List.take_append_of_le_length (by simp),List.take_of_length_le (by simp)]
 rw [e2]
 by_cases h:k<l.length
 ·have e3:List.take (k+1) (l++[x])=l.take k++[l[k]]:=by
   rw [List.take_append_of_le_length (by omega),List.take_succ_eq_append_getElem h]
  rw [e3,jm,List.set_append_right _ _ (by simp;omega)]
  simp [Nat.min_eq_left hk]
 ·have hk':k=l.length:=by omega
  subst hk'
  have e3:List.take (l.length+1) (l++[x])=l++[x]:=List.take_of_length_le (by simp)
  rw [e3]
  simp
theorem juy {rs:List Rule} {i:Nat} (hi:i<rs.length) {r:Rule} (hr:rs[i]=r) (h:ROk r):∀ (n j:Nat) (acc:TrL),r.1+(j:Int)+n=r.2.1+1→acc.length+n≤90000→
  j5b rs (i:Int) (r.1+(j:Int)) acc.reverse=some (rs,(i:Int),(j2U ((List.range n).map fun (q:Nat)=>occ r (r.1+(j:Int)+(q:Int))) acc).reverse)
 | 0,j,acc,hj,_=>by
  have hg:rs.getD i ((0:Int),((0:Int),((0:Int),((0:Int),((0:Int),((0:Int),(0:Int)))))))=r:=by simp [hi,hr]
  rw [j8f]
  simp only [j2g]
  rw [j1v (by omega) (by omega)]
  simp only [j4,j6,hg]
  rw [j00 (by omega),j5,j0n]
  rfl
 | n+1,j,acc,hj,hl=>by
  have hg:rs.getD i ((0:Int),((0:Int),((0:Int),((0:Int),((0:Int),((0:Int),(0:Int)))))))=r:=by simp [hi,hr]
  have h0:=h.y0;have h2:=h.y2;have hs0:=h.s0;have hs1:=h.s1
  have hv:=jdr (jbn (r.1+(j:Int)) r.2.2.1 (by omega) (by omega) h.m0 h.m1)
  have hn:=jiO (w:=r.2.2.2.2.1) (y:=r.1+(j:Int)) (by omega) (by omega) h.m0 h.m1 h.k0 h.k1
  have hd:=j5M (r.1+(j:Int)) r.2.2.1
  rw [j8f]
  simp only [j2g]
  rw [j1v (by omega) (by omega)]
  simp only [j4,j6,hg]
  rw [j01 (show r.1+(j:Int)≤r.2.1 by omega),r01_Nth_ok _ _ _ _ (by omega) (by omega) h.m0 h.m1 h.k0 h.k1 h.d0 h.d1]
  simp only [j4,j2]
  rw [j04 (x:=nth (r.1+(j:Int)) r.2.2.1 r.2.2.2.1 r.2.2.2.2.1*86400) (by omega) (by omega),j04 (x:=nth (r.1+(j:Int)) r.2.2.1 r.2.2.2.1 r.2.2.2.2.1*86400+r.2.2.2.2.2.1) (by omega) (by omega)]
  have hl4:=jux (rs:=rs) (i:=(i:Int)) (y:=r.1+(j:Int)) (a:=(occ r (r.1+(j:Int))).1) (b:=(occ r (r.1+(j:Int))).2) acc [] (by simp;omega)
  rw [qj] at hl4
  rw [show Int.ofNat (List.length acc.reverse)=(acc.length:Int) by simp]
  rw [show j3F rs (i:Int) (r.1+(j:Int)) (acc.length:Int) (nth (r.1+(j:Int)) r.2.2.1 r.2.2.2.1 r.2.2.2.2.1*86400+r.2.2.2.2.2.1) r.2.2.2.2.2.2 acc.reverse=_ from hl4]
  simp only [j2]
  generalize hx:occ r (r.1+(j:Int))=x at *
  have hdl:(acc.dropWhile (fun z=>decide (x.1<z.1))).length≤acc.length:=(List.dropWhile_sublist _).length_le
  generalize hD:acc.dropWhile (fun z=>decide (x.1<z.1))=D at *
  have hlen1:(acc.reverse++[(x.1,x.2)]).length=acc.length+1:=by simp
  rw [j01 (by simp [j0a];omega)]
  simp only [j4]
  rw [j04 (x:=(D.length:Int)+1) (by omega) (by omega),j01 (show (0:Int)≤(D.length:Int)+1 by omega),j01 (show (D.length:Int)+1≤Int.ofNat (acc.reverse++[(x.1,x.2)]).length by rw [hlen1];show (D.length:Int)+1≤((acc.length+1:Nat):Int);omega),
   j01 (show (0:Int)≤(D.length:Int) by omega),j01 (show (D.length:Int)≤Int.ofNat (acc.reverse++[(x.1,x.2)]).length by rw [hlen1];show (D.length:Int)≤((acc.length+1:Nat):Int);omega)]
  simp only [z6,j4,j6,show ((D.length:Int)+1).toNat=D.length+1 by omega]
  have hov:(over (acc.reverse++[(x.1,x.2)]) (D.length+1) (List.drop D.length (acc.reverse++[(x.1,x.2)]))).length=acc.length+1:=by
   unfold over
   simp
   omega
  rw [j1v (by omega) (by rw [hov];omega),jsk acc.reverse (x.1,x.2) (by simpa using hdl)]
  simp only [j4]
  rw [j04 (x:=r.1+(j:Int)+1) (by omega) (by omega),j0i]
  have hins:acc.reverse.take D.length++(x.1,x.2)::acc.reverse.drop D.length=(j7D x acc).reverse:=by
   have hsp:=List.takeWhile_append_dropWhile (p:=fun z:Int×Int=>decide (x.1<z.1)) (l:=acc)
   rw [jgL,hD]
   rw [hD] at hsp
   generalize acc.takeWhile (fun z=>decide (x.1<z.1))=T at hsp ⊢
   rw [←hsp]
   simp
  rw [hins]
  have ih:=juy hi hr h n (j+1) (j7D x acc) (by omega) (by rw [jbm];omega)
  rw [show r.1+(j:Int)+1=r.1+((j+1:Nat):Int) by omega]
  refine ih.trans ?_
  have hmap:(List.range n).map (fun (q:Nat)=>occ r (r.1+((j+1:Nat):Int)+(q:Int)))=(List.range n).map ((fun (q:Nat)=>occ r (r.1+(j:Int)+(q:Int))) ∘ Nat.succ):=List.map_congr_left fun q _=>by
   simp only [Function.comp]
   congr 1
   omega
  rw [List.range_succ_eq_map,kv,List.map_map,hmap]
  simp [j2U,hx]
theorem jgM:∀ (a b acc:TrL),j2U (a++b) acc=j2U b (j2U a acc)
 | [],_,_=>rfl
 | x::a,b,acc=>by simp only [List.cons_append,j2U];exact jgM a b _
theorem juz {rs:List Rule} (h:∀ r∈rs,ROk r) (hlen:rs.length≤100):∀ (n i:Nat) (acc:TrL),i+n=rs.length→acc.length≤300*i→
  j3G rs (i:Int) acc.reverse=some (j2U (occs (rs.drop i)) acc).reverse
 | 0,i,acc,hi,_=>by
  rw [j8g]
  simp only [j2h,show Int.ofNat (List.length rs)=(rs.length:Int) from rfl]
  rw [j00 (by omega),j5,j0n,jk (by omega)]
  rfl
 | n+1,i,acc,hi,hl=>by
  have hlt:i<rs.length:=by omega
  have hr:=h rs[i] (jc hlt)
  have h0:=hr.y0;have h1:=hr.y1;have h2:=hr.y2
  have hg:rs.getD i ((0:Int),((0:Int),((0:Int),((0:Int),((0:Int),((0:Int),(0:Int)))))))=rs[i]:=by simp [hlt]
  have hl2:=juy hlt rfl hr (rs[i].2.1-rs[i].1+1).toNat 0 acc (by omega) (by omega)
  rw [show rs[i].1+((0:Nat):Int)=rs[i].1 by omega] at hl2
  have ih:=juz h hlen n (i+1) (j2U (occR rs[i]) acc) (by omega) (by rw [jaw];simp [occR];omega)
  rw [j8g]
  simp only [j2h,show Int.ofNat (List.length rs)=(rs.length:Int) from rfl]
  rw [j01 (show (i:Int)<(rs.length:Int) by omega),j1v (by omega) (by omega)]
  simp only [j4,j6,hg,hl2,j2]
  rw [j04 (by omega) (by omega),j0i,jw hlt]
  refine ih.trans ?_
  show _=some (j2U (occR rs[i]++occs (rs.drop (i+1))) acc).reverse
  rw [jgM]
theorem jsl {rs:List Rule} (h:∀ r∈rs,ROk r) (hlen:rs.length≤100):j77 rs=some (j5Z (occs rs)):=by
 have e:=juz h hlen rs.length 0 [] (by omega) (by simp)
 simp only [j77]
 rw [show j3G rs 0 []=_ from e]
 rfl
theorem jsI {rs:List Rule} (h:∀ r∈rs,ROk r) (hlen:rs.length≤100) (nm:ByteArray) (o:Int):∀ (n i:Nat) (s:Int),i+n=rs.length→0≤s→s≤300*i→
  j3H s (i:Int) nm o rs=some (.inr (s+((occs (rs.drop i)).length:Int),nm,o,rs))
 | 0,i,s,hi,_,_=>by
  rw [j8h]
  simp only [j2i,show Int.ofNat (List.length rs)=(rs.length:Int) from rfl]
  rw [j00 (by omega),j5,j0n,jk (by omega)]
  simp [occs]
 | n+1,i,s,hi,hs0,hs1=>by
  have hlt:i<rs.length:=by omega
  have hr:=h rs[i] (jc hlt)
  have h0:=hr.y0;have h1:=hr.y1;have h2:=hr.y2
  have hg:rs.getD i ((0:Int),((0:Int),((0:Int),((0:Int),((0:Int),((0:Int),(0:Int)))))))=rs[i]:=by simp [hlt]
  have ih:=jsI h hlen nm o n (i+1) (s+(rs[i].2.1-rs[i].1+1)) (by omega) (by omega) (by omega)
  have hrule:jd4 (rs[i].1,(rs[i].2.1,(rs[i].2.2.1,(rs[i].2.2.2.1,(rs[i].2.2.2.2.1,(rs[i].2.2.2.2.2.1,rs[i].2.2.2.2.2.2))))))=some true:=jpx hr
  rw [j8h]
  simp only [j2i,show Int.ofNat (List.length rs)=(rs.length:Int) from rfl]
  rw [j01 (show (i:Int)<(rs.length:Int) by omega),j1v (by omega) (by omega)]
  simp only [j4,j6,hg,hrule,j2,jd,j5]
  rw [j04 (x:=rs[i].2.1-rs[i].1) (by omega) (by omega),j04 (x:=rs[i].2.1-rs[i].1+1) (by omega) (by omega),j04 (x:=s+(rs[i].2.1-rs[i].1+1)) (by omega) (by omega),j04 (x:=(i:Int)+1) (by omega) (by omega),j0i]
  refine ih.trans ?_
  rw [jw hlt]
  have:((occs (rs[i]::rs.drop (i+1))).length:Int)=(rs[i].2.1-rs[i].1+1)+((occs (rs.drop (i+1))).length:Int):=by
   have e1:(occR rs[i]).length=(rs[i].2.1-rs[i].1+1).toNat:=by simp [occR]
   show ((occR rs[i]++occs (rs.drop (i+1))).length:Int)=_
   rw [jh,e1];omega
  rw [this]
  congr 3;omega
theorem jtJ (L:TrL) (hL:L.length≤1000):∀ (n i:Nat) (now:Int) (acc:TrL),i+n=L.length → -64800≤now→now≤64800→acc.length≤i→(∀ x∈acc,0≤x.1∧x.1≤8589934592)→Good now (acc.getLast?.map (·.1)) (L.drop i)→
  j3I now (i:Int) acc L=some (.inr (acc++outT now (L.drop i)))
 | 0,i,now,acc,hi,_,_,_,_,_=>by
  rw [j8i]
  simp only [j2j,show Int.ofNat (List.length L)=(L.length:Int) from rfl]
  rw [j00 (by omega),j5,j0n,jk (by omega)]
  simp [outT]
 | n+1,i,now,acc,hi,hn0,hn1,hal,hacc,hg=>by
  have hlt:i<L.length:=by omega
  rw [jw hlt] at hg ⊢
  have hgd:L.getD i ((0:Int),(0:Int))=L[i]:=by simp [hlt]
  rw [j8i]
  simp only [j2j,show Int.ofNat (List.length L)=(L.length:Int) from rfl]
  rw [j01 (show (i:Int)<(L.length:Int) by omega),j1v (by omega) (by omega)]
  simp only [j4,j6,hgd]
  generalize L[i]=x at *
  rw [j04 (x:=(i:Int)+1) (by omega) (by omega)]
  simp only [Good] at hg
  by_cases hx:x.2=now
  ·rw [if_pos hx] at hg
   rw [jeS hx]
   simp only [j4,j0i,outT]
   rw [if_pos hx]
   exact jtJ L hL n (i+1) now acc (by omega) hn0 hn1 (by omega) hacc hg
  ·rw [if_neg hx] at hg
   obtain ⟨⟨g1,g2,g3,g4,g5,g6,g7⟩,g8⟩:=hg
   rw [j9f hx,j04 (x:=x.1-now) (by omega) (by omega),j04 (x:=x.2-now) (by omega) (by omega)]
   simp only [j5,je9 (show (-86399:Int)≤x.2-now by omega) (show x.2-now≤86399 by omega),je9 (show (0:Int)≤x.1-now by omega) (show x.1-now≤8589934592 by omega),j2,jd,show Int.ofNat (List.length acc)=(acc.length:Int) from rfl]
   have hnext:=jtJ L hL n (i+1) x.2 (acc++[(x.1-now,x.2)]) (by omega) g6 g7 (by simp;omega)
    (fun y hy=>by
     rcases jp.1 hy with hy | hy
     ·exact hacc y hy
     ·simp at hy;subst hy;exact ⟨by show (0:Int)≤x.1-now;omega,by show x.1-now≤8589934592;omega⟩) (by simpa using g8)
   have hout:outT now (x::L.drop (i+1))=(x.1-now,x.2)::outT x.2 (L.drop (i+1)):=by simp [outT,hx]
   rw [hout]
   rw [jm] at hnext
   rw [j04 (x:=(acc.length:Int)-1) (by omega) (by omega)]
   by_cases ha:acc=[]
   ·subst ha
    simp only [ko]
    rw [show decide (((0:Nat):Int)>0)=false from rfl]
    simp only [j5]
    rw [j01 (by simp [j0a])]
    simp only [j4,j0i]
    exact hnext
   ·have hpos:0<acc.length:=List.length_pos_iff.2 ha
    have hlast:acc.getLast? = some (acc.getD (acc.length-1) (0,0)):=by
     rw [List.getLast?_eq_getElem?,jo,jl (show acc.length-1<acc.length by omega)];rfl
    rw [hlast] at g5
    have g5:(acc.getD (acc.length-1) ((0:Int),(0:Int))).1+604800≤x.1-now:=g5 _ rfl
    have hb:=hacc (acc.getD (acc.length-1) (0,0)) (List.mem_of_getLast? hlast)
    rw [j1v (by omega) (by omega),j01 (show (acc.length:Int)>0 by omega),show ((acc.length:Int)-1).toNat=acc.length-1 by omega]
    simp only [j4]
    rw [j04 (by omega) (by omega),j00 (show ¬ x.1-now-(acc.getD (acc.length-1) ((0:Int),(0:Int))).1<604800 by omega),j01 (by simp [j0a];omega)]
    simp only [j4,j5,j0i]
    exact hnext
theorem jv8 {nm:ByteArray} {o:Int} {rs:List Rule} (h:∀ r∈rs,ROk r) (ho0 : -64800≤o) (ho1:o≤64800) (hlen:rs.length≤16) (hn:(occs rs).length≤640) (hg:Good o none (j5Z (occs rs))) :
  j4h (nm,(o,rs))=some (outT o (j5Z (occs rs)),0):=by
 have hl:(j5Z (occs rs)).length≤1000:=by simp [j5Z,jaw];omega
 have e0:=jsI h (by omega) nm o rs.length 0 0 (by omega) (by omega) (by omega)
 rw [List.drop_zero] at e0
 have e2:=jtJ (j5Z (occs rs)) hl (j5Z (occs rs)).length 0 o [] (by omega) ho0 ho1 (by simp) (by simp) hg
 rw [List.drop_zero] at e2
 simp only [j4h,je9 ho0 ho1,j2,jd,j5,show Int.ofNat (List.length rs)=(rs.length:Int) from rfl]
 rw [j00 (show ¬ (rs.length:Int)>16 by omega),j5,show j3H 0 0 nm o rs=_ from e0]
 simp only [j2,j2s]
 rw [j00 (by omega),j5,jsl h (by omega)]
 simp only [j2]
 rw [show j3I o 0 [] (j5Z (occs rs))=_ from e2]
 rfl
def Z4 (z:ByteArray×(Int×List Rule)) (l:TrL):Prop:=j4h z=some (l,0)∧TOk z.2.1 l
theorem MZ.r4 {o:Int} {rs:List Rule} (h:MZ o rs) (nm:ByteArray):Z4 (nm,(o,rs)) (outT o (j5Z (occs rs))):=by
 have ht:=h.tab nm
 refine ⟨jv8 h.ok (by have:=h.o0;omega) (by have:=h.o1;omega) ?_ ?_ h.good,ht.2⟩
 ·have:=h.len;omega
 ·have:=h.few;omega
section
variable {o:Int} {l:TrL} (h:TOk o l)
include h
end
section
variable {z:ByteArray×(Int×List Rule)} {l:TrL} (h:Z4 z l)
include h
end
def NoF (o:Int) (l:TrL) (s:Int):Prop:=∀ j,j≤l.length→frm l (j+1)≤s-tof o l j
noncomputable def fO (o:Int) (l:TrL) (s:Int):Option Int:=open Classical in if h:∃ t k,Fst o l s t k then some (Classical.choose h) else none
theorem Fst.uniq {o:Int} {l:TrL} {s t t':Int} {k k':Nat} (f:Fst o l s t k) (g:Fst o l s t' k'):k=k'∧t=t':=by
 have hk:k=k':=by
  rcases Nat.lt_trichotomy k k' with hlt | heq | hgt
  ·have:=g.bef k hlt;have:=f.hks;omega
  ·exact heq
  ·have:=f.bef k' hgt;have:=g.hks;omega
 subst hk
 exact ⟨rfl,by rw [f.ht,g.ht]⟩
theorem fO_t {o:Int} {l:TrL} {s t:Int} {k:Nat} (f:Fst o l s t k):fO o l s=some t:=by
 have he:∃ t k,Fst o l s t k:=⟨t,k,f⟩
 unfold fO
 rw [dif_pos he]
 obtain ⟨k',g⟩:=Classical.choose_spec he
 rw [(g.uniq f).2]
theorem fO_n {o:Int} {l:TrL} {s:Int} (hno:NoF o l s):fO o l s=none:=by
 unfold fO
 rw [dif_neg]
 rintro ⟨t,k,f⟩
 have:=hno k f.hk
 have:=f.hks
 omega
theorem jsJ (o:Int) (l:TrL) (s:Int):(∃ t k,Fst o l s t k)∨NoF o l s:=by
 by_cases hno:NoF o l s
 ·exact .inr hno
 ·left
  have:∃ j,j≤l.length∧s-tof o l j<frm l (j+1):=by
   apply qi
   intro hn
   exact hno fun j hj=>by
    rcases Int.lt_or_le (s-tof o l j) (frm l (j+1)) with h | h
    ·exact absurd ⟨j,hj,h⟩ hn
    ·exact h
  obtain ⟨j,hj,hjs⟩:=this
  obtain ⟨a,⟨ha,haN⟩,hmin⟩:=jrY (fun j=>s-tof o l j<frm l (j+1)∧j≤l.length) j ⟨hjs,hj⟩
  refine ⟨_,a,haN,ha,fun i hi=> ?_,rfl⟩
  rcases Int.lt_or_le (s-tof o l i) (frm l (i+1)) with h' | h'
  ·have:=hmin i ⟨h',by omega⟩;omega
  ·exact h'
theorem juA {o:Int} {l:TrL} {s t:Int} (he:fO o l s=some t):∃ k,Fst o l s t k:=by
 rcases jsJ o l s with ⟨t',k,f⟩ | hno
 ·rw [fO_t f] at he
  simp at he;subst he
  exact ⟨k,f⟩
 ·rw [fO_n hno] at he;simp at he
section
variable {o:Int} {l:TrL} (h:TOk o l)
include h
theorem jv9 {s t:Int} (he:fO o l s=some t):s≤t+64800∧0≤t∧t≤8589934592:=by
 obtain ⟨k,f⟩:=juA he
 obtain ⟨p1,p2,p3⟩:=f.piece h
 have o1:=h.of1 k f.hk
 have g1:=h.frm_le (i:=0) (j:=k) (by omega) (by have:=f.hk;omega)
 have e0:frm l 0=0:=frm0
 have e1:frm l (l.length+1)=8589934593:=jr3
 have g2:=h.frm_le (i:=k+1) (j:=l.length+1) (by have:=f.hk;omega) (by omega)
 omega
theorem jtK {s s' t':Int} (hs:s≤s') (he:fO o l s'=some t'):∃ t,fO o l s=some t∧t≤t':=by
 obtain ⟨k',g⟩:=juA he
 have g1:=g.hks
 have hk':=g.hk
 rcases jsJ o l s with ⟨t,k,f⟩ | hno
 ·refine ⟨t,fO_t f,?_⟩
  obtain ⟨p1,p2,p3⟩:=f.piece h
  obtain ⟨q1,q2,q3⟩:=g.piece h
  have f1:=f.ht;have g2:=g.ht
  rcases Nat.lt_trichotomy k k' with hlt | heq | hgt
  ·have:=h.frm_le (i:=k+1) (j:=k') (by omega) (by omega);omega
  ·subst heq;omega
  ·have:=f.bef k' hgt;omega
 ·have:=hno k' hk';omega
end
structure Rt (L:j2l):Prop where
 d0:1≤L.2.2.1.1
 d1:L.2.2.1.1≤100000
 c0:0≤L.2.2.1.2
 c1:L.2.2.1.2≤86399
 u0:0≤L.2.2.2.1
 u1:L.2.2.2.1≤2
 e0:1≤L.2.2.2.2.1
 e1:L.2.2.2.2.1≤400
 m0:L.2.2.2.2.2.1≠[]
theorem Rt.step {L:j2l} (h:Rt L):1≤jiQ L∧jiQ L≤2800:=by
 have:=h.e0;have:=h.e1
 unfold jiQ;split<;>omega
noncomputable def hO (o:Int) (l:TrL) (L:j2l) (k:Int):Option Int:=
 if L.2.2.2.1=0 then (fO o l (sLoc L 0)).bind fun t=>if t+3600*L.2.2.2.2.1*k≤8589934592 then some (t+3600*L.2.2.2.2.1*k) else none
 else fO o l (sLoc L k)
section
variable {o:Int} {l:TrL} (ht:TOk o l) {L:j2l} (h:Rt L)
include ht h
theorem jsm {k t:Int} (he:hO o l L (k+1)=some t):∃ v,hO o l L k=some v∧v≤t:=by
 have hs:=h.step
 have he0:=h.e0
 unfold hO at he ⊢
 by_cases h0:L.2.2.2.1=0
 ·rw [if_pos h0] at he ⊢
  cases hf:fO o l (sLoc L 0) with
  | none=>rw [hf] at he;simp at he
  | some v=>
   rw [hf] at he
   simp only [j2] at he ⊢
   have hm:3600*L.2.2.2.2.1*(k+1)=3600*L.2.2.2.2.1*k+3600*L.2.2.2.2.1:=by rw [Int.mul_add,Int.mul_one]
   split at he
   ·rw [if_pos (by omega)]
    simp at he
    exact ⟨_,rfl,by omega⟩
   ·simp at he
 ·rw [if_neg h0] at he ⊢
  have hm:(k+1)*jiQ L=k*jiQ L+jiQ L:=by rw [Int.add_mul,Int.one_mul]
  exact jtK ht (by unfold sLoc;rw [hm];omega) he
def QO (o:Int) (l:TrL) (L:j2l) (t k:Int):Prop:=∃ v,hO o l L k=some v∧v≤t
theorem QO.down {t:Int}:∀ (n:Nat) {k:Int},QO o l L t (k+n)→QO o l L t k
 | 0,k,hq=>by rwa [show k+((0:Nat):Int)=k by omega] at hq
 | n+1,k,hq=>by
  rw [show k+((n+1:Nat):Int)=k+(n:Int)+1 by omega] at hq
  obtain ⟨v,hv,hvt⟩:=hq
  obtain ⟨v',hv',hl⟩:=jsm ht h (k:=k+(n:Int)) hv
  exact QO.down n ⟨v',hv',by omega⟩
theorem QO.le {t k j:Int} (hkj:k≤j) (hq:QO o l L t j):QO o l L t k:=by
 refine QO.down ht h (j-k).toNat ?_
 rwa [show k+(((j-k).toNat:Nat):Int)=j by omega]
def ShO (o:Int) (l:TrL) (L:j2l) (t K:Int):Prop:=(K = -1∧¬ QO o l L t 0)∨(0≤K∧QO o l L t K∧¬ QO o l L t (K+1))
theorem ShO.uniq {t K K':Int} (a:ShO o l L t K) (b:ShO o l L t K'):K=K':=by
 rcases a with ⟨a1,a2⟩ | ⟨a1,a2,a3⟩<;>rcases b with ⟨b1,b2⟩ | ⟨b1,b2,b3⟩
 ·omega
 ·exact absurd (QO.le ht h b1 b2) a2
 ·exact absurd (QO.le ht h a1 a2) b2
 ·rcases Int.lt_trichotomy K K' with hlt | heq | hgt
  ·exact absurd (QO.le ht h (by omega) b2) a3
  ·exact heq
  ·exact absurd (QO.le ht h (by omega) a2) b3
theorem QO.day {t k:Int} (h0:L.2.2.2.1≠0) (hq:QO o l L t k) {j:Nat} (hj:j≤l.length):L.2.2.1.1+k*jiQ L≤(t+tof o l j)/86400+2:=by
 obtain ⟨v,hv,hvt⟩:=hq
 unfold hO at hv
 rw [if_neg h0] at hv
 have:=jv9 ht hv
 have o0:=ht.of0 j hj
 have hc0:=h.c0
 unfold sLoc at this
 omega
end
def tb (z:j2P):Int×TrL:=(z.2.1,outT z.2.1 (j5Z (occs z.2.2)))
theorem ZOk.ztab {z:j2P} (h:ZOk z):ZTab z (tb z).2:=MZ.tab (o:=z.2.1) (rs:=z.2.2) h z.1
theorem ZOk.zdif {z:j2P} (h:ZOk z):Dif z.2.1 (tb z).2:=jnQ _ _ _ (MZ.good h)
theorem ZOk.zref {z:j2P} (h:ZOk z):ZTab z (tb z).2∧Z4 z (tb z).2∧Dif z.2.1 (tb z).2:=⟨h.ztab,MZ.r4 (o:=z.2.1) (rs:=z.2.2) h z.1,h.zdif⟩
section
variable {zs:List j2P} {ps:List j1b} {cs:List CalT} {ss:List j2M} (hz:∀ z∈zs,ZOk z)
include hz
end
abbrev SL:=List (Int×Int)
def StS (p:Int):SL→Prop
 | []=>True
 | x::r=>p<x.1∧x.1<x.2∧StS x.2 r
section
variable {o:Int} {l:TrL} (h:TOk o l)
include h
end
theorem StS.weak {p q:Int} (hq:q≤p):∀ {l:SL},StS p l→StS q l
 | [],_=>trivial
 | _::_,h=>⟨by have:=h.1;omega,h.2⟩
theorem StS.mem {p:Int}:∀ {l:SL},StS p l→∀ s∈l,p<s.1∧s.1<s.2
 | [],_,s,hs=>by simp at hs
 | u::r,h,s,hs=>by
  rcases je.1 hs with rfl | hs
  ·exact ⟨h.1,h.2.1⟩
  ·have:=StS.mem h.2.2 s hs;have:=h.1;have:=h.2.1;omega
section
variable {B:SL} (hB:B.length≤10000000)
include hB
end
set_option linter.unusedSectionVars false
section
variable {l:SL} {p:Int} (h:StS p l) (hp : -1≤p) (hl:l.length≤4096) (hb:∀ u∈l,u.2≤8589934592)
include h hp hl hb
end
theorem jmH:j3R 2241=some 98981:=by kernel_rfl
theorem jmI:j3R 1970=some 0:=by kernel_rfl
section
variable {zs:List j2P} {ps:List j1b} {cs:List CalT} (hs:SOk2 zs ps cs)
include hs
end
section
variable {zs:List j2P} {ps:List j1b} {cs:List CalT} {ss:List j2M}
end
def nms3:List ByteArray:=[(ByteArray.mk #[102,105,114,115,116]),(ByteArray.mk #[115,101,99,111,110,100]),(ByteArray.mk #[116,104,105,114,100])]
theorem jtL:NmL nms3:=by
 refine ⟨by decide,fun k hk=> ?_⟩
 simp only [nms3,je,z3,or_false] at hk
 rcases hk with rfl | rfl | rfl<;>exact j7i 60 _ true (by kernel_rfl)
structure SG (nz np nc:Nat) (s:j2M):Prop where
 ck:SCk nz np nc s
 nm:s.2.1.map (·.1)=nmsL.take s.2.1.length
 ll:s.2.1.length≤3
 el:s.2.2.length≤3
theorem jsK {L:List Int} {zs:List j2P} {ps:List j1b} {cs:List CalT} (hs:SOk zs ps cs):∀ (n:Nat) (a:Int) (ss:List j2M),DOk L a→ss.length+n≤3→ss.map (·.1)=nms3.take ss.length→(∀ s∈ss,SG zs.length ps.length cs.length s)→
  ∃ ss' a',j4z (n:Int) L a zs ps cs ss=some (L,a',zs,ps,cs,ss')∧ss'.length=ss.length+n∧ss'.map (·.1)=nms3.take ss'.length∧(∀ s∈ss',SG zs.length ps.length cs.length s)∧DOk L a'
 | 0,a,ss,hd,hl,hn,hg=>by
  rw [j7z]
  simp only [j21]
  rw [j00 (by omega),j5,j0n]
  exact ⟨ss,a,rfl,rfl,hn,hg,hd⟩
 | n+1,a,ss,hd,hl,hn,hg=>by
  have hlt:ss.length<nms3.length:=by show ss.length<3;omega
  have hmod:Int.tmod (Int.ofNat ss.length) 3=(ss.length:Int):=by
   have:Int.tmod (ss.length:Int) 3=(ss.length:Int):=Int.tmod_eq_of_lt (by omega) (by omega)
   exact this
  obtain ⟨k,a3,e3,k0,k1,d3⟩:=j0D (n:=4) hd (by omega) (by omega)
  obtain ⟨ls,a4,e4,l4,lk,ln,d4⟩:=juu (s6:=((n+1:Nat):Int)) (nm:=List.getD nms3 ss.length ByteArray.empty) (ss:=ss) hs k.toNat a3 [] d3 (by simp;omega) (by simp) rfl
  obtain ⟨m,a5,e5,m0,m1,d5⟩:=j0D (n:=4) d4 (by omega) (by omega)
  obtain ⟨es,a6,e6,l6,ek,d6⟩:=juv (s6:=((n+1:Nat):Int)) (nm:=List.getD nms3 ss.length ByteArray.empty) (zs:=zs) (cs:=cs) (ss:=ss) (ls:=ls) hs m.toNat a5 [] d5 (by simp;omega) (by simp)
  rw [show ((k.toNat:Nat):Int)=k by omega] at e4
  rw [show ((m.toNat:Nat):Int)=m by omega] at e6
  have hnew:SG zs.length ps.length cs.length (List.getD nms3 ss.length ByteArray.empty,(ls,es)):=
   ⟨⟨by dsimp only;rw [ln];exact jrc.take _,lk,by dsimp only;omega,ek,by dsimp only;omega⟩,ln,l4,l6⟩
  obtain ⟨ss',a',e',h1,h2,h3,h4⟩:=jsK hs n a6 (ss++[(List.getD nms3 ss.length ByteArray.empty,(ls,es))]) d6 (by simp;omega) (by
   rw [qv,hn,jh]
   exact jle hlt) (fun s h=>by
   rcases jp.1 h with h | h
   ·exact hg s h
   ·simp at h;subst h;exact hnew)
  rw [j7z]
  simp only [j21]
  rw [j01 (show ((n+1:Nat):Int)>0 by omega),hmod,j1v (by omega) (by show (ss.length:Int)<(3:Nat);omega)]
  simp only [j4,j6,e3,j2]
  rw [show j3j ((n+1:Nat):Int) k L a3 zs ps cs (List.getD [(ByteArray.mk #[102,105,114,115,116]),(ByteArray.mk #[115,101,99,111,110,100]),(ByteArray.mk #[116,104,105,114,100])] ss.length ByteArray.empty) ss []=_ from e4]
  simp only [j2,e5,e6]
  rw [j01 (by simp [j0a];omega),j04 (by omega) (by omega),show ((n+1:Nat):Int)-1=(n:Int) by omega]
  simp only [j4,j0i]
  exact ⟨ss',a',e',by rw [h1];simp;omega,h2,h3,h4⟩
theorem jpy {L:List Int} {a n:Int} (h:DOk L a) (n0:1≤n) (n1:n≤3):∃ zs ps cs ss a',j4I L a n=some ((zs,(ps,(cs,ss))),L,a')∧SOk2 zs ps cs∧1≤ss.length∧(ss.length:Int)≤n∧ss.map (·.1)=nms3.take ss.length∧(∀ s∈ss,SG zs.length ps.length cs.length s)∧DOk L a':=by
 obtain ⟨zs,ps,cs,a1,e1,hs,d1⟩:=jrf h
 obtain ⟨x,a2,e2,x0,x1,d2⟩:=j0D (n:=n) d1 (by omega) (by omega)
 obtain ⟨ss,a3,e3,h1,h2,h3,d3⟩:=jsK hs.so (1+x).toNat a2 [] d2 (by simp;omega) (by simp) (by simp)
 rw [show (((1+x).toNat:Nat):Int)=1+x by omega] at e3
 simp at h1
 simp only [j4I,e1,e2,j2]
 rw [j04 (x:=1+x) (by omega) (by omega)]
 simp only [e3,j2]
 exact ⟨zs,ps,cs,ss,a3,rfl,hs,by omega,by omega,h2,h3,d3⟩
theorem jnX {zs:List j2P} {ps:List j1b} {cs:List CalT} {ss:List j2M} (hs:SOk2 zs ps cs) (h0:ss.length≤12) (h1:NmL (ss.map (·.1))) (h2:∀ s∈ss,SCk zs.length ps.length cs.length s):jcA (zs,(ps,(cs,ss))):=juw hs h0 h1 h2
instance (L:j2l):Decidable (Rt L):=
 decidable_of_iff (1≤L.2.2.1.1∧L.2.2.1.1≤100000∧0≤L.2.2.1.2∧L.2.2.1.2≤86399∧0≤L.2.2.2.1∧L.2.2.2.1≤2∧1≤L.2.2.2.2.1∧L.2.2.2.2.1≤400∧L.2.2.2.2.2.1≠[])
  ⟨fun ⟨a,b,c,d,e,f,g,h,i⟩=>⟨a,b,c,d,e,f,g,h,i⟩,fun ⟨a,b,c,d,e,f,g,h,i⟩=>⟨a,b,c,d,e,f,g,h,i⟩⟩
section
variable {z:j2P} {l:TrL} (h4:Z4 z l)
include h4
end
abbrev SgT:=Int×(Int×Int)
abbrev SgL:=List SgT
def Ch (f:Int→Int) (b:Int):Int→SgL→Prop
 | a,[]=>a=b
 | a,s::r=>s.1=a∧a≤s.2.1∧(∀ t,a≤t→t<s.2.1→f t=s.2.2)∧Ch f b s.2.1 r
def Cov (f:Int→Int) (b:Int):Option Int→Int→SgL→Prop
 | _,a,[]=>a=b
 | q,a,s::r=>s.1=a∧a<s.2.1∧q≠some s.2.2∧(∀ t,a≤t→t<s.2.1→f t=s.2.2)∧Cov f b (some s.2.2) s.2.1 r
theorem Ch.le {f:Int→Int} {b:Int}:∀ {l:SgL} {a:Int},Ch f b a l→a≤b
 | [],_,h=>Int.le_of_eq h
 | _::_,_,h=>Int.le_trans h.2.1 h.2.2.2.le
theorem Ch.app {f:Int→Int} {b c:Int}:∀ {l r:SgL} {a:Int},Ch f b a l→Ch f c b r→Ch f c a (l++r)
 | [],_,_,h,h'=>by have h:_=_:=h;subst h;exact h'
 | _::_,_,_,h,h'=>⟨h.1,h.2.1,h.2.2.1,h.2.2.2.app h'⟩
theorem Cov.ch {f:Int→Int} {b:Int}:∀ {l:SgL} {q:Option Int} {a:Int},Cov f b q a l→Ch f b a l
 | [],_,_,h=>h
 | _::_,_,_,h=>⟨h.1,Int.le_of_lt h.2.1,h.2.2.2.1,h.2.2.2.2.ch⟩
theorem Cov.uniq {f:Int→Int} {b:Int}:∀ {l l':SgL} {q:Option Int} {a:Int},Cov f b q a l→Cov f b q a l'→l=l'
 | [],[],_,_,_,_=>rfl
 | [],_::_,_,_,h,h'=>by have:=h'.2.1;have:=h'.2.2.2.2.ch.le;have h:_=_:=h;omega
 | _::_,[],_,_,h,h'=>by have:=h.2.1;have:=h.2.2.2.2.ch.le;have h':_=_:=h';omega
 | s::r,s'::r',q,a,h,h'=>by
  obtain ⟨h1,h2,h3,h4,h5⟩:=h
  obtain ⟨g1,g2,g3,g4,g5⟩:=h'
  have hp:s.2.2=s'.2.2:=by rw [←h4 a (by omega) h2,←g4 a (by omega) g2]
  have ht:s.2.1=s'.2.1:=by
   apply qi
   intro hne
   by_cases hlt:s.2.1<s'.2.1
   ·match r,h5 with
    | [],h5=>have:=g5.ch.le;have h5:_=_:=h5;omega
    | u::v,h5=>
     have e1:=h5.2.2.2.1 s.2.1 (by omega) h5.2.1
     have e2:=g4 s.2.1 (by omega) hlt
     exact h5.2.2.1 (by rw [←e1,e2,hp])
   ·match r',g5 with
    | [],g5=>have:=h5.ch.le;have g5:_=_:=g5;omega
    | u::v,g5=>
     have e1:=g5.2.2.2.1 s'.2.1 (by omega) g5.2.1
     have e2:=h4 s'.2.1 (by omega) (by omega)
     exact g5.2.2.1 (by rw [←e1,e2,hp])
  have hs:s=s':=Prod.ext (by rw [h1,g1]) (Prod.ext ht hp)
  subst hs
  rw [h5.uniq g5]
def lstP:Option Int→SgL→Option Int
 | q,[]=>q
 | _,s::r=>lstP (some s.2.2) r
theorem Cov.ext {f:Int→Int} {b c x p:Int}:∀ {l:SgL} {q:Option Int} {a:Int},Cov f b q a (l++[(x,(b,p))])→b≤c→(∀ t,b≤t→t<c→f t=p)→Cov f c q a (l++[(x,(c,p))])
 | [],_,_,h,hbc,hp=>⟨h.1,by have:=h.2.1;dsimp only at this ⊢;omega,h.2.2.1,fun t h1 h2=>by
  by_cases ht:t<b
  ·exact h.2.2.2.1 t h1 ht
  ·exact hp t (by omega) h2,rfl⟩
 | _::_,_,_,h,hbc,hp=>⟨h.1,h.2.1,h.2.2.1,h.2.2.2.1,h.2.2.2.2.ext hbc hp⟩
theorem Ch.mem {f:Int→Int} {b:Int}:∀ {l:SgL} {a:Int},Ch f b a l→∀ s∈l,a≤s.1∧s.1≤s.2.1∧s.2.1≤b∧∀ t,s.1≤t→t<s.2.1→f t=s.2.2
 | [],_,_,s,hs=>by simp at hs
 | u::r,a,h,s,hs=>by
  obtain ⟨h1,h2,h3,h4⟩:=h
  rcases je.1 hs with rfl | hs
  ·exact ⟨by omega,by omega,h4.le,fun t t1 t2=>h3 t (by omega) t2⟩
  ·have:=h4.mem s hs
   exact ⟨by omega,this.2.1,this.2.2.1,this.2.2.2⟩
theorem Ch.has {f:Int→Int} {b:Int}:∀ {l:SgL} {a:Int},Ch f b a l→∀ x,a≤x→x<b→∃ s∈l,s.1≤x∧x<s.2.1
 | [],_,h,x,h1,h2=>by have h:_=_:=h;omega
 | u::r,a,h,x,h1,h2=>by
  obtain ⟨g1,g2,g3,g4⟩:=h
  by_cases hx:x<u.2.1
  ·exact ⟨u,by simp,by omega,hx⟩
  ·obtain ⟨s,hs,e⟩:=g4.has x (by omega) h2
   exact ⟨s,by simp [hs],e⟩
theorem Ch.congr {f g:Int→Int} {b:Int}:∀ {l:SgL} {a:Int},Ch f b a l→(∀ t,a≤t→t<b→f t=g t)→Ch g b a l
 | [],_,h,_=>h
 | u::r,a,h,hg=>by
  obtain ⟨g1,g2,g3,g4⟩:=h
  have:=g4.le
  exact ⟨g1,g2,fun t t1 t2=>by rw [←hg t t1 (by omega)];exact g3 t t1 t2,g4.congr (fun t t1 t2=>hg t (by omega) t2)⟩
theorem Cov.pos {f:Int→Int} {b:Int}:∀ {l:SgL} {q:Option Int} {a:Int},Cov f b q a l→∀ s∈l,s.1<s.2.1
 | [],_,_,_,s,hs=>by simp at hs
 | u::r,_,a,h,s,hs=>by
  rcases je.1 hs with rfl | hs
  ·have:=h.1;have:=h.2.1;omega
  ·exact h.2.2.2.2.pos s hs
section
variable {zs:List j2P} {ps:List j1b} {cs:List CalT} (hs:SOk2 zs ps cs)
include hs
end
section
variable {zs:List j2P} {ps:List j1b} {cs:List CalT} (hs:SOk2 zs ps cs)
include hs
end
section
variable {zs:List j2P} {ps:List j1b} {cs:List CalT} (hs:SOk2 zs ps cs)
include hs
section
variable {ss:List j2M} (g0:ss.length≤12) (g1:NmL (ss.map (·.1))) (g2:∀ s∈ss,SCk zs.length ps.length cs.length s)
 {L:j2l} (hL:LCk zs.length ps.length cs.length L) (hn:j48 L.1=some true)
include g0 g1 g2 hL hn
end
end
end Go.Proofs.Pw
