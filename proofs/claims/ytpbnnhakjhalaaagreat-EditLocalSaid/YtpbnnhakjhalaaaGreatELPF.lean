/- Chapter 4: the reference's transitions, offsets and instants are those of the program. -/
import Derived.Test.YtpbnnhakjhalaaaGreatELPE
open Go Go.Lft
namespace Go.Proofs.Pw
theorem jdg {n lo hi:Int} (h1:lo≤n) (h2:n≤hi):jaL n lo hi=some true:=by
 simp only [jaL]
 rw [j01 (show n≥lo from h1),j01 h2];rfl
theorem jo0 {r:Rule} (h:ROk r):jco r=some true:=by
 simp only [jco,jdg h.y0 (show r.1≤2240 by have:=h.y1;have:=h.y2;omega),jdg h.y1 h.y2,jdg h.m0 h.m1,jdg h.k0 h.k1,jdg h.d0 h.d1,jdg h.s0 h.s1,jdg h.o0 h.o1,j3,j5]
theorem jfJ (x:Int×Int):∀ l:TrL,j7w x l=l.takeWhile (fun y=>decide (x.1<y.1))++x::l.dropWhile (fun y=>decide (x.1<y.1))
 | []=>rfl
 | y::ys=>by
  unfold j7w
  by_cases h:x.1<y.1
  ·rw [if_pos h,jfJ x ys];simp [h]
  ·rw [if_neg h];simp [h]
theorem jte {rs:List Rule} {i y a b:Int}:∀ (rp mid:TrL),rp.length+mid.length≤100000→
  j3Q rs i y (rp.length:Int) a b (rp.reverse++mid)=some (rs,i,y,((rp.dropWhile (fun z=>decide (a<z.1))).length:Int),a,b,rp.reverse++mid)
 | [],mid,_=>by
  rw [j8d]
  simp only [j2z]
  rw [j00 (by simp),j6,j0j]
  rfl
 | z::zs,mid,hl=>by
  have hL:((z::zs).reverse++mid).length=zs.length+1+mid.length:=by simp;omega
  simp only [jy] at hl
  have g2:((z::zs).reverse++mid).getD ((((zs.length+1:Nat):Int)-1).toNat) ((0:Int),(0:Int))=z:=by
   rw [show (((zs.length+1:Nat):Int)-1).toNat=zs.length by omega]
   simp
  rw [j8d]
  simp only [j2z,jy]
  simp only [j02 (x:=((zs.length+1:Nat):Int)-1) (by omega) (by omega),g2]
  rw [j01 (show ((zs.length+1:Nat):Int)>0 by omega),j1M (by omega) (by rw [hL];omega)]
  simp only [j5]
  by_cases hc:a<z.1
  ·rw [j01 (show z.1>a from hc)]
   simp only [j5,j0b]
   have ih:=jte (rs:=rs) (i:=i) (y:=y) (a:=a) (b:=b) zs (z::mid) (by simp;omega)
   have e:(z::zs).reverse++mid=zs.reverse++z::mid:=by simp
   rw [e,show ((zs.length+1:Nat):Int)-1=(zs.length:Int) by omega,ih]
   simp [hc]
  ·rw [j00 (show ¬ z.1>a from hc)]
   simp only [j6,j0j]
   simp [hc]
theorem jqW (l:TrL) (x:Int×Int) {k:Nat} (hk:k≤l.length):List.set (over (l++[x]) (k+1) (List.drop k (l++[x]))) k x=l.take k++x::l.drop k:=by
 have h1:(l++[x]).length=l.length+1:=by simp
 unfold over
 rw [h1,jg (show (l++[x]).length≤k+1+(List.drop k (l++[x])).length by simp;omega),qi]
 have e1:List.drop k (l++[x])=List.drop k l++[x]:=by rw [List.drop_append_of_le_length hk]
 rw [e1]
 have e2:List.take (l.length+1-(k+1)) (List.drop k l++[x])=List.drop k l:=by
  rw [List.take_append_of_le_length (by simp),List.take_of_length_le (by simp)]
 rw [e2]
 by_cases h:k<l.length
 ·have e3:List.take (k+1) (l++[x])=l.take k++[l[k]]:=by
   rw [List.take_append_of_le_length (by omega),List.take_succ_eq_append_getElem h]
  rw [e3,jm,List.set_append_right _ _ (by simp;omega)]
  simp [Nat.min_eq_left hk]
 ·have hk':k=l.length:=by omega
  subst hk'
  have e3:List.take (l.length+1) (l++[x])=l++[x]:=List.take_of_length_le (by simp)
  rw [e3]
  simp
theorem jtf {rs:List Rule} {i:Nat} (hi:i<rs.length) {r:Rule} (hr:rs[i]=r) (h:ROk r):∀ (n j:Nat) (acc:TrL),r.1+(j:Int)+n=r.2.1+1→acc.length+n≤90000→
  j5b rs (i:Int) (r.1+(j:Int)) acc.reverse=some (rs,(i:Int),(j32 ((List.range n).map fun (q:Nat)=>occ r (r.1+(j:Int)+(q:Int))) acc).reverse)
 | 0,j,acc,hj,_=>by
  have hg:rs.getD i ((0:Int),((0:Int),((0:Int),((0:Int),((0:Int),((0:Int),(0:Int)))))))=r:=by simp [hi,hr]
  rw [j8e]
  simp only [j2A]
  rw [j1M (by omega) (by omega)]
  simp only [j5,j7,hg]
  rw [j00 (by omega),j6,j0j]
  rfl
 | n+1,j,acc,hj,hl=>by
  have hg:rs.getD i ((0:Int),((0:Int),((0:Int),((0:Int),((0:Int),((0:Int),(0:Int)))))))=r:=by simp [hi,hr]
  have h0:=h.y0;have h2:=h.y2;have hs0:=h.s0;have hs1:=h.s1
  have hv:=jcA (jaT (r.1+(j:Int)) r.2.2.1 (by omega) (by omega) h.m0 h.m1)
  have hn:=jhC (w:=r.2.2.2.2.1) (y:=r.1+(j:Int)) (by omega) (by omega) h.m0 h.m1 h.k0 h.k1
  have hd:=j5M (r.1+(j:Int)) r.2.2.1
  rw [j8e]
  simp only [j2A]
  rw [j1M (by omega) (by omega)]
  simp only [j5,j7,hg]
  rw [j01 (show r.1+(j:Int)≤r.2.1 by omega),r01_Nth_ok _ _ _ _ (by omega) (by omega) h.m0 h.m1 h.k0 h.k1 h.d0 h.d1]
  simp only [j5,j3]
  rw [j02 (x:=nth (r.1+(j:Int)) r.2.2.1 r.2.2.2.1 r.2.2.2.2.1*86400) (by omega) (by omega),j02 (x:=nth (r.1+(j:Int)) r.2.2.1 r.2.2.2.1 r.2.2.2.2.1*86400+r.2.2.2.2.2.1) (by omega) (by omega)]
  have hl4:=jte (rs:=rs) (i:=(i:Int)) (y:=r.1+(j:Int)) (a:=(occ r (r.1+(j:Int))).1) (b:=(occ r (r.1+(j:Int))).2) acc [] (by simp;omega)
  rw [qi] at hl4
  rw [show Int.ofNat (List.length acc.reverse)=(acc.length:Int) by simp]
  rw [show j3Q rs (i:Int) (r.1+(j:Int)) (acc.length:Int) (nth (r.1+(j:Int)) r.2.2.1 r.2.2.2.1 r.2.2.2.2.1*86400+r.2.2.2.2.2.1) r.2.2.2.2.2.2 acc.reverse=_ from hl4]
  simp only [j3]
  generalize hx:occ r (r.1+(j:Int))=x at *
  have hdl:(acc.dropWhile (fun z=>decide (x.1<z.1))).length≤acc.length:=(List.dropWhile_sublist _).length_le
  generalize hD:acc.dropWhile (fun z=>decide (x.1<z.1))=D at *
  have hlen1:(acc.reverse++[(x.1,x.2)]).length=acc.length+1:=by simp
  rw [j01 (by simp [j0m];omega)]
  simp only [j5]
  rw [j02 (x:=(D.length:Int)+1) (by omega) (by omega),j01 (show (0:Int)≤(D.length:Int)+1 by omega),j01 (show (D.length:Int)+1≤Int.ofNat (acc.reverse++[(x.1,x.2)]).length by rw [hlen1];show (D.length:Int)+1≤((acc.length+1:Nat):Int);omega),
   j01 (show (0:Int)≤(D.length:Int) by omega),j01 (show (D.length:Int)≤Int.ofNat (acc.reverse++[(x.1,x.2)]).length by rw [hlen1];show (D.length:Int)≤((acc.length+1:Nat):Int);omega)]
  simp only [z8,j5,j7,show ((D.length:Int)+1).toNat=D.length+1 by omega]
  have hov:(over (acc.reverse++[(x.1,x.2)]) (D.length+1) (List.drop D.length (acc.reverse++[(x.1,x.2)]))).length=acc.length+1:=by
   unfold over
   simp
   omega
  rw [j1M (by omega) (by rw [hov];omega),jqW acc.reverse (x.1,x.2) (by simpa using hdl)]
  simp only [j5]
  rw [j02 (x:=r.1+(j:Int)+1) (by omega) (by omega),j0b]
  have hins:acc.reverse.take D.length++(x.1,x.2)::acc.reverse.drop D.length=(j7w x acc).reverse:=by
   have hsp:=List.takeWhile_append_dropWhile (p:=fun z:Int×Int=>decide (x.1<z.1)) (l:=acc)
   rw [jfJ,hD]
   rw [hD] at hsp
   generalize acc.takeWhile (fun z=>decide (x.1<z.1))=T at hsp ⊢
   rw [←hsp]
   simp
  rw [hins]
  have ih:=jtf hi hr h n (j+1) (j7w x acc) (by omega) (by rw [jaS];omega)
  rw [show r.1+(j:Int)+1=r.1+((j+1:Nat):Int) by omega]
  refine ih.trans ?_
  have hmap:(List.range n).map (fun (q:Nat)=>occ r (r.1+((j+1:Nat):Int)+(q:Int)))=(List.range n).map ((fun (q:Nat)=>occ r (r.1+(j:Int)+(q:Int))) ∘ Nat.succ):=List.map_congr_left fun q _=>by
   simp only [Function.comp]
   congr 1
   omega
  rw [List.range_succ_eq_map,ku,List.map_map,hmap]
  simp [j32,hx]
theorem jfK:∀ (a b acc:TrL),j32 (a++b) acc=j32 b (j32 a acc)
 | [],_,_=>rfl
 | x::a,b,acc=>by simp only [List.cons_append,j32];exact jfK a b _
theorem jtg {rs:List Rule} (h:∀ r∈rs,ROk r) (hlen:rs.length≤100):∀ (n i:Nat) (acc:TrL),i+n=rs.length→acc.length≤300*i→
  j3R rs (i:Int) acc.reverse=some (j32 (occs (rs.drop i)) acc).reverse
 | 0,i,acc,hi,_=>by
  rw [j8f]
  simp only [j2B,show Int.ofNat (List.length rs)=(rs.length:Int) from rfl]
  rw [j00 (by omega),j6,j0j,jg (by omega)]
  rfl
 | n+1,i,acc,hi,hl=>by
  have hlt:i<rs.length:=by omega
  have hr:=h rs[i] (jf hlt)
  have h0:=hr.y0;have h1:=hr.y1;have h2:=hr.y2
  have hg:rs.getD i ((0:Int),((0:Int),((0:Int),((0:Int),((0:Int),((0:Int),(0:Int)))))))=rs[i]:=by simp [hlt]
  have hl2:=jtf hlt rfl hr (rs[i].2.1-rs[i].1+1).toNat 0 acc (by omega) (by omega)
  rw [show rs[i].1+((0:Nat):Int)=rs[i].1 by omega] at hl2
  have ih:=jtg h hlen n (i+1) (j32 (occR rs[i]) acc) (by omega) (by rw [ja9];simp [occR];omega)
  rw [j8f]
  simp only [j2B,show Int.ofNat (List.length rs)=(rs.length:Int) from rfl]
  rw [j01 (show (i:Int)<(rs.length:Int) by omega),j1M (by omega) (by omega)]
  simp only [j5,j7,hg,hl2,j3]
  rw [j02 (by omega) (by omega),j0b,jq hlt]
  refine ih.trans ?_
  show _=some (j32 (occR rs[i]++occs (rs.drop (i+1))) acc).reverse
  rw [jfK]
theorem jqX {rs:List Rule} (h:∀ r∈rs,ROk r) (hlen:rs.length≤100):j71 rs=some (j60 (occs rs)):=by
 have e:=jtg h hlen rs.length 0 [] (by omega) (by simp)
 simp only [j71]
 rw [show j3R rs 0 []=_ from e]
 rfl
theorem jro {rs:List Rule} (h:∀ r∈rs,ROk r) (hlen:rs.length≤100) (nm:ByteArray) (o:Int):∀ (n i:Nat) (s:Int),i+n=rs.length→0≤s→s≤300*i→
  j3S s (i:Int) nm o rs=some (.inr (s+((occs (rs.drop i)).length:Int),nm,o,rs))
 | 0,i,s,hi,_,_=>by
  rw [j8g]
  simp only [j2C,show Int.ofNat (List.length rs)=(rs.length:Int) from rfl]
  rw [j00 (by omega),j6,j0j,jg (by omega)]
  simp [occs]
 | n+1,i,s,hi,hs0,hs1=>by
  have hlt:i<rs.length:=by omega
  have hr:=h rs[i] (jf hlt)
  have h0:=hr.y0;have h1:=hr.y1;have h2:=hr.y2
  have hg:rs.getD i ((0:Int),((0:Int),((0:Int),((0:Int),((0:Int),((0:Int),(0:Int)))))))=rs[i]:=by simp [hlt]
  have ih:=jro h hlen nm o n (i+1) (s+(rs[i].2.1-rs[i].1+1)) (by omega) (by omega) (by omega)
  have hrule:jco (rs[i].1,(rs[i].2.1,(rs[i].2.2.1,(rs[i].2.2.2.1,(rs[i].2.2.2.2.1,(rs[i].2.2.2.2.2.1,rs[i].2.2.2.2.2.2))))))=some true:=jo0 hr
  rw [j8g]
  simp only [j2C,show Int.ofNat (List.length rs)=(rs.length:Int) from rfl]
  rw [j01 (show (i:Int)<(rs.length:Int) by omega),j1M (by omega) (by omega)]
  simp only [j5,j7,hg,hrule,j3,jd,j6]
  rw [j02 (x:=rs[i].2.1-rs[i].1) (by omega) (by omega),j02 (x:=rs[i].2.1-rs[i].1+1) (by omega) (by omega),j02 (x:=s+(rs[i].2.1-rs[i].1+1)) (by omega) (by omega),j02 (x:=(i:Int)+1) (by omega) (by omega),j0b]
  refine ih.trans ?_
  rw [jq hlt]
  have:((occs (rs[i]::rs.drop (i+1))).length:Int)=(rs[i].2.1-rs[i].1+1)+((occs (rs.drop (i+1))).length:Int):=by
   have e1:(occR rs[i]).length=(rs[i].2.1-rs[i].1+1).toNat:=by simp [occR]
   show ((occR rs[i]++occs (rs.drop (i+1))).length:Int)=_
   rw [ji,e1];omega
  rw [this]
  congr 3;omega
theorem jsk (L:TrL) (hL:L.length≤1000):∀ (n i:Nat) (now:Int) (acc:TrL),i+n=L.length → -64800≤now→now≤64800→acc.length≤i→(∀ x∈acc,0≤x.1∧x.1≤8589934592)→Good now (acc.getLast?.map (·.1)) (L.drop i)→
  j3T now (i:Int) acc L=some (.inr (acc++outT now (L.drop i)))
 | 0,i,now,acc,hi,_,_,_,_,_=>by
  rw [j8h]
  simp only [j2D,show Int.ofNat (List.length L)=(L.length:Int) from rfl]
  rw [j00 (by omega),j6,j0j,jg (by omega)]
  simp [outT]
 | n+1,i,now,acc,hi,hn0,hn1,hal,hacc,hg=>by
  have hlt:i<L.length:=by omega
  rw [jq hlt] at hg ⊢
  have hgd:L.getD i ((0:Int),(0:Int))=L[i]:=by simp [hlt]
  rw [j8h]
  simp only [j2D,show Int.ofNat (List.length L)=(L.length:Int) from rfl]
  rw [j01 (show (i:Int)<(L.length:Int) by omega),j1M (by omega) (by omega)]
  simp only [j5,j7,hgd]
  generalize L[i]=x at *
  rw [j02 (x:=(i:Int)+1) (by omega) (by omega)]
  simp only [Good] at hg
  by_cases hx:x.2=now
  ·rw [if_pos hx] at hg
   rw [j9D hx]
   simp only [j5,j0b,outT]
   rw [if_pos hx]
   exact jsk L hL n (i+1) now acc (by omega) hn0 hn1 (by omega) hacc hg
  ·rw [if_neg hx] at hg
   obtain ⟨⟨g1,g2,g3,g4,g5,g6,g7⟩,g8⟩:=hg
   rw [j4u hx,j02 (x:=x.1-now) (by omega) (by omega),j02 (x:=x.2-now) (by omega) (by omega)]
   simp only [j6,jdg (show (-86399:Int)≤x.2-now by omega) (show x.2-now≤86399 by omega),jdg (show (0:Int)≤x.1-now by omega) (show x.1-now≤8589934592 by omega),j3,jd,show Int.ofNat (List.length acc)=(acc.length:Int) from rfl]
   have hnext:=jsk L hL n (i+1) x.2 (acc++[(x.1-now,x.2)]) (by omega) g6 g7 (by simp;omega)
    (fun y hy=>by
     rcases jp.1 hy with hy | hy
     ·exact hacc y hy
     ·simp at hy;subst hy;exact ⟨by show (0:Int)≤x.1-now;omega,by show x.1-now≤8589934592;omega⟩) (by simpa using g8)
   have hout:outT now (x::L.drop (i+1))=(x.1-now,x.2)::outT x.2 (L.drop (i+1)):=by simp [outT,hx]
   rw [hout]
   rw [jm] at hnext
   rw [j02 (x:=(acc.length:Int)-1) (by omega) (by omega)]
   by_cases ha:acc=[]
   ·subst ha
    simp only [kp]
    rw [show decide (((0:Nat):Int)>0)=false from rfl]
    simp only [j6]
    rw [j01 (by simp [j0m])]
    simp only [j5,j0b]
    exact hnext
   ·have hpos:0<acc.length:=List.length_pos_iff.2 ha
    have hlast:acc.getLast? = some (acc.getD (acc.length-1) (0,0)):=by
     rw [List.getLast?_eq_getElem?,List.getD_eq_getElem?_getD,jo (show acc.length-1<acc.length by omega)];rfl
    rw [hlast] at g5
    have g5:(acc.getD (acc.length-1) ((0:Int),(0:Int))).1+604800≤x.1-now:=g5 _ rfl
    have hb:=hacc (acc.getD (acc.length-1) (0,0)) (List.mem_of_getLast? hlast)
    rw [j1M (by omega) (by omega),j01 (show (acc.length:Int)>0 by omega),show ((acc.length:Int)-1).toNat=acc.length-1 by omega]
    simp only [j5]
    rw [j02 (by omega) (by omega),j00 (show ¬ x.1-now-(acc.getD (acc.length-1) ((0:Int),(0:Int))).1<604800 by omega),j01 (by simp [j0m];omega)]
    simp only [j5,j6,j0b]
    exact hnext
theorem jtR {nm:ByteArray} {o:Int} {rs:List Rule} (h:∀ r∈rs,ROk r) (ho0 : -64800≤o) (ho1:o≤64800) (hlen:rs.length≤16) (hn:(occs rs).length≤640) (hg:Good o none (j60 (occs rs))) :
  j72 (nm,(o,rs))=some (outT o (j60 (occs rs)),0):=by
 have hl:(j60 (occs rs)).length≤1000:=by simp [j60,ja9];omega
 have e0:=jro h (by omega) nm o rs.length 0 0 (by omega) (by omega) (by omega)
 rw [qp] at e0
 have e2:=jsk (j60 (occs rs)) hl (j60 (occs rs)).length 0 o [] (by omega) ho0 ho1 (by simp) (by simp) hg
 rw [qp] at e2
 simp only [j72,jdg ho0 ho1,j3,jd,j6,show Int.ofNat (List.length rs)=(rs.length:Int) from rfl]
 rw [j00 (show ¬ (rs.length:Int)>16 by omega),j6,show j3S 0 0 nm o rs=_ from e0]
 simp only [j3,j3x]
 rw [j00 (by omega),j6,jqX h (by omega)]
 simp only [j3]
 rw [show j3T o 0 [] (j60 (occs rs))=_ from e2]
 rfl
def Z4 (z:ByteArray×(Int×List Rule)) (l:TrL):Prop:=j72 z=some (l,0)∧TOk z.2.1 l
theorem MZ.r4 {o:Int} {rs:List Rule} (h:MZ o rs) (nm:ByteArray):Z4 (nm,(o,rs)) (outT o (j60 (occs rs))):=by
 have ht:=h.tab nm
 refine ⟨jtR h.ok (by have:=h.o0;omega) (by have:=h.o1;omega) ?_ ?_ h.good,ht.2⟩
 ·have:=h.len;omega
 ·have:=h.few;omega
section
variable {o:Int} {l:TrL} (h:TOk o l)
include h
end
section
variable {z:ByteArray×(Int×List Rule)} {l:TrL} (h:Z4 z l)
include h
end
def NoF (o:Int) (l:TrL) (s:Int):Prop:=∀ j,j≤l.length→frm l (j+1)≤s-tof o l j
noncomputable def fO (o:Int) (l:TrL) (s:Int):Option Int:=open Classical in if h:∃ t k,Fst o l s t k then some (Classical.choose h) else none
theorem Fst.uniq {o:Int} {l:TrL} {s t t':Int} {k k':Nat} (f:Fst o l s t k) (g:Fst o l s t' k'):k=k'∧t=t':=by
 have hk:k=k':=by
  rcases zb k k' with hlt | heq | hgt
  ·have:=g.bef k hlt;have:=f.hks;omega
  ·exact heq
  ·have:=f.bef k' hgt;have:=g.hks;omega
 subst hk
 exact ⟨rfl,by rw [f.ht,g.ht]⟩
theorem fO_t {o:Int} {l:TrL} {s t:Int} {k:Nat} (f:Fst o l s t k):fO o l s=some t:=by
 have he:∃ t k,Fst o l s t k:=⟨t,k,f⟩
 unfold fO
 rw [dif_pos he]
 obtain ⟨k',g⟩:=Classical.choose_spec he
 rw [(g.uniq f).2]
theorem fO_n {o:Int} {l:TrL} {s:Int} (hno:NoF o l s):fO o l s=none:=by
 unfold fO
 rw [dif_neg]
 rintro ⟨t,k,f⟩
 have:=hno k f.hk
 have:=f.hks
 omega
theorem jpO (o:Int) (l:TrL) (s:Int):(∃ t k,Fst o l s t k)∨NoF o l s:=by
 by_cases hno:NoF o l s
 ·exact .inr hno
 ·left
  have:∃ j,j≤l.length∧s-tof o l j<frm l (j+1):=by
   apply z3
   intro hn
   exact hno fun j hj=>by
    rcases Int.lt_or_le (s-tof o l j) (frm l (j+1)) with h | h
    ·exact absurd ⟨j,hj,h⟩ hn
    ·exact h
  obtain ⟨j,hj,hjs⟩:=this
  obtain ⟨a,⟨ha,haN⟩,hmin⟩:=jqw (fun j=>s-tof o l j<frm l (j+1)∧j≤l.length) j ⟨hjs,hj⟩
  refine ⟨_,a,haN,ha,fun i hi=> ?_,rfl⟩
  rcases Int.lt_or_le (s-tof o l i) (frm l (i+1)) with h' | h'
  ·have:=hmin i ⟨h',by omega⟩;omega
  ·exact h'
theorem jth {o:Int} {l:TrL} {s t:Int} (he:fO o l s=some t):∃ k,Fst o l s t k:=by
 rcases jpO o l s with ⟨t',k,f⟩ | hno
 ·rw [fO_t f] at he
  simp at he;subst he
  exact ⟨k,f⟩
 ·rw [fO_n hno] at he;simp at he
section
variable {o:Int} {l:TrL} (h:TOk o l)
include h
theorem jqY {s t:Int} (he:fO o l s=some t):s≤t+64800∧0≤t∧t≤8589934592:=by
 obtain ⟨k,f⟩:=jth he
 obtain ⟨p1,p2,p3⟩:=f.piece h
 have o1:=h.of1 k f.hk
 have g1:=h.frm_le (i:=0) (j:=k) (by omega) (by have:=f.hk;omega)
 have e0:frm l 0=0:=frm0
 have e1:frm l (l.length+1)=8589934593:=jdY
 have g2:=h.frm_le (i:=k+1) (j:=l.length+1) (by have:=f.hk;omega) (by omega)
 omega
theorem jrp {s:Int} (hs:8589934593+64800≤s):NoF o l s:=fun j hj=>by
 have o1:=h.of1 j hj
 have e1:frm l (l.length+1)=8589934593:=jdY
 have g2:=h.frm_le (i:=j+1) (j:=l.length+1) (by omega) (by omega)
 omega
theorem jsl {s s' t':Int} (hs:s≤s') (he:fO o l s'=some t'):∃ t,fO o l s=some t∧t≤t':=by
 obtain ⟨k',g⟩:=jth he
 have g1:=g.hks
 have hk':=g.hk
 rcases jpO o l s with ⟨t,k,f⟩ | hno
 ·refine ⟨t,fO_t f,?_⟩
  obtain ⟨p1,p2,p3⟩:=f.piece h
  obtain ⟨q1,q2,q3⟩:=g.piece h
  have f1:=f.ht;have g2:=g.ht
  rcases zb k k' with hlt | heq | hgt
  ·have:=h.frm_le (i:=k+1) (j:=k') (by omega) (by omega);omega
  ·subst heq;omega
  ·have:=f.bef k' hgt;omega
 ·have:=hno k' hk';omega
theorem jhF {d c s:Int} (hsec:j3l (d,c)=some s) (hs0 : -1000000000000≤s) (hs1:s≤1000000000000) (hno:NoF o l s) :
  ∀ (n i:Nat),i+n=l.length+1→j2a ((l.length+1:Nat):Int) (i:Int) d c (pcs o l (l.length+1))=some (.inr ())
 | 0,i,hi=>by
  rw [j3y]
  simp only [j1i]
  rw [j00 (by omega),j6,j0j]
 | n+1,i,hi=>by
  have hlen:=h.len
  have hil:i≤l.length:=by omega
  have o1:=h.of0 i hil;have o2:=h.of1 i hil
  have hb:=hno i hil
  have hlt:=h.frm_lt hil
  rw [j3y]
  simp only [j1i]
  rw [j01 (show (i:Int)<((l.length+1:Nat):Int) by omega),j1M (by omega) (by rw [jdZ];omega)]
  simp only [j5,j7,jmi (show i<l.length+1 by omega),hsec,j3,pc]
  rw [j02 (x:=s-tof o l i) (by omega) (by omega),j02 (x:=(i:Int)+1) (by omega) (by omega)]
  have hm:(if s-tof o l i>frm l i then s-tof o l i else frm l i)=max (frm l i) (s-tof o l i):=by split<;>omega
  rw [hm,j00 (by omega),j6,j0b]
  exact jhF hsec hs0 hs1 hno n (i+1) (by omega)
theorem jjZ {d c s:Int} (hsec:j3l (d,c)=some s) (hs0 : -1000000000000≤s) (hs1:s≤1000000000000) (hno:NoF o l s):j1v (o,l) (d,c)=some (0,false):=by
 have:=jhF h hsec hs0 hs1 hno (l.length+1) 0 (by omega)
 simp only [j1v,jle h,j3,jdZ,show Int.ofNat (List.length l+1)=((l.length+1:Nat):Int) from rfl]
 rw [show (0:Int)=((0:Nat):Int) from rfl,this]
 rfl
theorem jln {d c:Int} (hd : -1000000≤d) (hd2:d≤1000000000000000) (hc:0≤c) (hc2:c≤86399) :
  j1v (o,l) (d,c)=some ((fO o l (d*86400+c)).getD 0,(fO o l (d*86400+c)).isSome):=by
 by_cases hb:d≤1000000
 ·rcases jpO o l (d*86400+c) with ⟨t,k,f⟩ | hno
  ·have e:=jqP h hd hb (by omega) (by omega) f.hk f.hks f.bef
   rw [←f.ht] at e
   rw [fO_t f]
   exact e
  ·rw [fO_n hno]
   exact jjZ h (jfq hd hb (by omega) (by omega)) (by omega) (by omega) hno
 ·have hno:NoF o l (d*86400+c):=jrp h (by omega)
  rw [fO_n hno]
  by_cases hb2:d≤1048576
  ·have hsec:j3l (d,c)=some (d*86400+c):=by
    simp only [j3l]
    rw [if_neg (show ¬ (-1048576:Int)>d by omega),if_neg (show ¬ (1048576:Int)<d by omega),j02 (x:=d*86400) (by omega) (by omega),j02 (by omega) (by omega)]
   exact jjZ h hsec (by omega) (by omega) hno
  ·have hsec:j3l (d,c)=some (1048576*86400+c):=by
    simp only [j3l]
    rw [if_neg (show ¬ (-1048576:Int)>d by omega),if_pos (show (1048576:Int)<d by omega),j02 (x:=1048576*86400) (by omega) (by omega),j02 (by omega) (by omega)]
   exact jjZ h hsec (by omega) (by omega) (jrp h (by omega))
end
structure Rt (L:j1b):Prop where
 d0:1≤L.2.2.1.1
 d1:L.2.2.1.1≤100000
 c0:0≤L.2.2.1.2
 c1:L.2.2.1.2≤86399
 u0:0≤L.2.2.2.1
 u1:L.2.2.2.1≤2
 e0:1≤L.2.2.2.2.1
 e1:L.2.2.2.2.1≤400
 m0:L.2.2.2.2.2.1≠[]
theorem Rt.step {L:j1b} (h:Rt L):1≤j7g L∧j7g L≤2800:=by
 have:=h.e0;have:=h.e1
 unfold j7g;split<;>omega
noncomputable def hO (o:Int) (l:TrL) (L:j1b) (k:Int):Option Int:=
 if L.2.2.2.1=0 then (fO o l (sLoc L 0)).bind fun t=>if t+3600*L.2.2.2.2.1*k≤8589934592 then some (t+3600*L.2.2.2.2.1*k) else none
 else fO o l (sLoc L k)
section
variable {o:Int} {l:TrL} (ht:TOk o l) {L:j1b} (h:Rt L)
include ht h
theorem jsm {k t:Int} (hk:0≤k) (he:hO o l L k=some t):0≤t∧t≤8589934592∧k≤2386092:=by
 have hs:=h.step
 have hd0:=h.d0;have he0:=h.e0;have hc0:=h.c0
 unfold hO at he
 by_cases h0:L.2.2.2.1=0
 ·rw [if_pos h0] at he
  cases hf:fO o l (sLoc L 0) with
  | none=>rw [hf] at he;simp at he
  | some v=>
   rw [hf] at he
   simp only [j3] at he
   have hv:=jqY ht hf
   have hm:3600*k≤3600*L.2.2.2.2.1*k:=Int.mul_le_mul_of_nonneg_right (by omega) hk
   split at he
   ·simp at he;omega
   ·simp at he
 ·rw [if_neg h0] at he
  have hv:=jqY ht he
  have hm:k*1≤k*j7g L:=Int.mul_le_mul_of_nonneg_left hs.1 hk
  unfold sLoc at hv
  omega
theorem jqZ {k t:Int} (he:hO o l L (k+1)=some t):∃ v,hO o l L k=some v∧v≤t:=by
 have hs:=h.step
 have he0:=h.e0
 unfold hO at he ⊢
 by_cases h0:L.2.2.2.1=0
 ·rw [if_pos h0] at he ⊢
  cases hf:fO o l (sLoc L 0) with
  | none=>rw [hf] at he;simp at he
  | some v=>
   rw [hf] at he
   simp only [j3] at he ⊢
   have hm:3600*L.2.2.2.2.1*(k+1)=3600*L.2.2.2.2.1*k+3600*L.2.2.2.2.1:=by rw [Int.mul_add,Int.mul_one]
   split at he
   ·rw [if_pos (by omega)]
    simp at he
    exact ⟨_,rfl,by omega⟩
   ·simp at he
 ·rw [if_neg h0] at he ⊢
  have hm:(k+1)*j7g L=k*j7g L+j7g L:=by rw [Int.add_mul,Int.one_mul]
  exact jsl ht (by unfold sLoc;rw [hm];omega) he
def QO (o:Int) (l:TrL) (L:j1b) (t k:Int):Prop:=∃ v,hO o l L k=some v∧v≤t
theorem QO.down {t:Int}:∀ (n:Nat) {k:Int},QO o l L t (k+n)→QO o l L t k
 | 0,k,hq=>by rwa [show k+((0:Nat):Int)=k by omega] at hq
 | n+1,k,hq=>by
  rw [show k+((n+1:Nat):Int)=k+(n:Int)+1 by omega] at hq
  obtain ⟨v,hv,hvt⟩:=hq
  obtain ⟨v',hv',hl⟩:=jqZ ht h (k:=k+(n:Int)) hv
  exact QO.down n ⟨v',hv',by omega⟩
theorem QO.le {t k j:Int} (hkj:k≤j) (hq:QO o l L t j):QO o l L t k:=by
 refine QO.down ht h (j-k).toNat ?_
 rwa [show k+(((j-k).toNat:Nat):Int)=j by omega]
def ShO (o:Int) (l:TrL) (L:j1b) (t K:Int):Prop:=(K = -1∧¬ QO o l L t 0)∨(0≤K∧QO o l L t K∧¬ QO o l L t (K+1))
theorem ShO.uniq {t K K':Int} (a:ShO o l L t K) (b:ShO o l L t K'):K=K':=by
 rcases a with ⟨a1,a2⟩ | ⟨a1,a2,a3⟩<;>rcases b with ⟨b1,b2⟩ | ⟨b1,b2,b3⟩
 ·omega
 ·exact absurd (QO.le ht h b1 b2) a2
 ·exact absurd (QO.le ht h a1 a2) b2
 ·rcases Int.lt_trichotomy K K' with hlt | heq | hgt
  ·exact absurd (QO.le ht h (by omega) b2) a3
  ·exact heq
  ·exact absurd (QO.le ht h (by omega) a2) b3
theorem QO.day {t k:Int} (h0:L.2.2.2.1≠0) (hq:QO o l L t k) {j:Nat} (hj:j≤l.length):L.2.2.1.1+k*j7g L≤(t+tof o l j)/86400+2:=by
 obtain ⟨v,hv,hvt⟩:=hq
 unfold hO at hv
 rw [if_neg h0] at hv
 have:=jqY ht hv
 have o0:=ht.of0 j hj
 have hc0:=h.c0
 unfold sLoc at this
 omega
end
theorem jnc {L:j1b} (h:Rt L):j7H L=some (j7g L):=by
 have:=h.e0;have:=h.e1
 simp only [j7H,j7g]
 by_cases h2:L.2.2.2.1=2
 ·rw [j9D h2,j5,if_pos h2,j02 (by omega) (by omega)]
 ·rw [j4u h2,j6,if_neg h2]
def HVal (r:Option (Int×Bool)) (x:Option Int):Prop:=∃ v,r=some (v,x.isSome)∧∀ t,x=some t→v=t
theorem recH {o:Int} {l:TrL} (ht:TOk o l) {L:j1b} (h:Rt L) {k:Int} (hk:0≤k) (hk2:k≤8589934592):HVal (j1d (o,l) L k) (hO o l L k):=by
 have hs:=h.step
 have hd0:=h.d0;have hd1:=h.d1;have hc0:=h.c0;have hc1:=h.c1;have he0:=h.e0;have he1:=h.e1
 have hstep:j7H (L.1,L.2.1,(L.2.2.1.1,L.2.2.1.2),L.2.2.2.1,L.2.2.2.2.1,L.2.2.2.2.2.1,L.2.2.2.2.2.2.1,L.2.2.2.2.2.2.2.1,L.2.2.2.2.2.2.2.2)=_:=jnc h
 simp only [HVal,j1d,hstep,j3]
 rw [j00 (show ¬ k>8589934592 by omega),j6]
 by_cases h0:L.2.2.2.1=0
 ·have hF:=jln ht (d:=L.2.2.1.1) (c:=L.2.2.1.2) (by omega) (by omega) hc0 hc1
  have hs0:L.2.2.1.1*86400+L.2.2.1.2=sLoc L 0:=by unfold sLoc;omega
  have hm0:0≤3600*L.2.2.2.2.1*k:=Int.mul_nonneg (by omega) hk
  have hm1:3600*L.2.2.2.2.1*k≤3600*400*8589934592:=Int.mul_le_mul (by omega) hk2 hk (by omega)
  rw [show (L.2.2.2.1 != 0)=false by rw [h0];rfl,j6,hF,hs0]
  simp only [j3]
  unfold hO
  rw [if_pos h0]
  cases hf:fO o l (sLoc L 0) with
  | none=>exact ⟨_,rfl,fun t h=>by simp at h⟩
  | some v=>
   have hv:=jqY ht hf
   simp only [Option.getD_some,Option.isSome_some,j5,j3,j02 (x:=3600*L.2.2.2.2.1) (show -9223372036854775808≤_ by omega) (by omega),j02 (x:=3600*L.2.2.2.2.1*k) (show -9223372036854775808≤_ by omega) (by omega),j02 (x:=v+3600*L.2.2.2.2.1*k) (show -9223372036854775808≤_ by omega) (by omega)]
   by_cases hle:v+3600*L.2.2.2.2.1*k≤8589934592
   ·rw [if_pos hle,j01 hle]
    exact ⟨_,rfl,fun t h=>by simpa using h⟩
   ·rw [if_neg hle,j00 hle]
    exact ⟨_,rfl,fun t h=>by simp at h⟩
 ·have hm0:0≤k*j7g L:=Int.mul_nonneg hk (by omega)
  have hm1:k*j7g L≤8589934592*2800:=Int.mul_le_mul hk2 hs.2 (by omega) (by omega)
  rw [show (L.2.2.2.1 != 0)=true by simp [h0],j5,j02 (x:=k*j7g L) (by omega) (by omega),j02 (x:=L.2.2.1.1+k*j7g L) (by omega) (by omega),jln ht (by omega) (by omega) hc0 hc1]
  simp only [j3]
  unfold hO
  rw [if_neg h0]
  exact ⟨_,rfl,fun t h=>by have h:fO o l ((L.2.2.1.1+k*j7g L)*86400+L.2.2.1.2)=some t:=h;rw [h];rfl⟩
theorem jti {o:Int} {l:TrL} (ht:TOk o l) {L:j1b} (h:Rt L) {t N:Int} (hN:N≤8589934592) (hfirst:QO o l L t 0):∀ n:Nat,(n:Int)≤N→
  ∃ k:Int,j3I t (n:Int) o l L.1 L.2.1 L.2.2.1.1 L.2.2.1.2 L.2.2.2.1 L.2.2.2.2.1 L.2.2.2.2.2.1 L.2.2.2.2.2.2.1 L.2.2.2.2.2.2.2.1 L.2.2.2.2.2.2.2.2=
   some (t,k,o,l,L.1,L.2.1,L.2.2.1.1,L.2.2.1.2,L.2.2.2.1,L.2.2.2.2.1,L.2.2.2.2.2.1,L.2.2.2.2.2.2.1,L.2.2.2.2.2.2.2.1,L.2.2.2.2.2.2.2.2)∧0≤k∧QO o l L t k
 | 0,_=>by
  rw [j9f]
  simp only [j1n]
  rw [j00 (by omega),j6,j0j]
  exact ⟨_,rfl,by omega,hfirst⟩
 | n+1,hn=>by
  obtain ⟨k,e,k0,k1⟩:=jti ht h hN hfirst n (by omega)
  obtain ⟨v,hH,hv⟩:=recH ht h (k:=((n+1:Nat):Int)) (by omega) (by omega)
  rw [j9f]
  simp only [j1n]
  rw [j01 (by omega),j5,show j1d (o,l) (L.1,L.2.1,(L.2.2.1.1,L.2.2.1.2),L.2.2.2.1,L.2.2.2.2.1,L.2.2.2.2.2.1,L.2.2.2.2.2.2.1,L.2.2.2.2.2.2.2.1,L.2.2.2.2.2.2.2.2) ((n+1:Nat):Int)=_ from hH]
  simp only [j3]
  rw [j02 (x:=((n+1:Nat):Int)-1) (by omega) (by omega),show ((n+1:Nat):Int)-1=(n:Int) by omega]
  cases hx:hO o l L ((n+1:Nat):Int) with
  | none=>
   simp only [Option.isSome_none,j6,j0b]
   exact ⟨k,e,k0,k1⟩
  | some x=>
   have:=hv x hx
   subst this
   simp only [Option.isSome_some,j5]
   by_cases hc:v≤t
   ·rw [j01 hc,j5,j0j]
    exact ⟨_,rfl,by omega,v,hx,hc⟩
   ·rw [j00 hc,j6,j0b]
    exact ⟨k,e,k0,k1⟩
theorem jtj {o:Int} {l:TrL} (ht:TOk o l) {L:j1b} (h:Rt L) {t:Int}:∀ (n:Nat) (k:Int),k+n=2386093→0≤k→QO o l L t k→
  ∃ K:Int,j3J t k o l L.1 L.2.1 L.2.2.1.1 L.2.2.1.2 L.2.2.2.1 L.2.2.2.2.1 L.2.2.2.2.2.1 L.2.2.2.2.2.2.1 L.2.2.2.2.2.2.2.1 L.2.2.2.2.2.2.2.2=some K∧0≤K∧QO o l L t K∧¬ QO o l L t (K+1)
 | 0,k,hn,hk,hq=>by
  obtain ⟨v,hv,_⟩:=hq
  have:=jsm ht h hk hv
  omega
 | n+1,k,hn,hk,hq=>by
  obtain ⟨v,hH,hv⟩:=recH ht h (k:=k+1) (by omega) (by omega)
  rw [jdx]
  simp only [j1J]
  rw [j02 (x:=k+1) (by omega) (by omega),show j1d (o,l) (L.1,L.2.1,(L.2.2.1.1,L.2.2.1.2),L.2.2.2.1,L.2.2.2.2.1,L.2.2.2.2.2.1,L.2.2.2.2.2.2.1,L.2.2.2.2.2.2.2.1,L.2.2.2.2.2.2.2.2) (k+1)=_ from hH]
  simp only [j3]
  cases hx:hO o l L (k+1) with
  | none=>
   simp only [Option.isSome_none,kn,j5,j0j]
   exact ⟨k,rfl,hk,hq,fun ⟨y,hy,_⟩=>by rw [hx] at hy;simp at hy⟩
  | some x=>
   have:=hv x hx
   subst this
   simp only [Option.isSome_some,jd,j6]
   by_cases hc:v>t
   ·rw [j01 hc,j5,j0j]
    exact ⟨k,rfl,hk,hq,fun ⟨y,hy,hyt⟩=>by rw [hx] at hy;simp at hy;omega⟩
   ·rw [j00 hc,j6,j0b]
    exact jtj ht h n (k+1) (by omega) (by omega) ⟨v,hx,by omega⟩
theorem jr0 {o:Int} {l:TrL} {L:j1b} (h:Rt L) {t v:Int} (h0:L.2.2.2.1=0) (htt:t≤8589934592) (hf:fO o l (sLoc L 0)=some v) (hvt:v≤t) (hv0:0≤v) :
  ShO o l L t ((t-v)/(3600*L.2.2.2.2.1))∧0≤(t-v)/(3600*L.2.2.2.2.1)∧(t-v)/(3600*L.2.2.2.2.1)≤8589934592:=by
 have he0:=h.e0;have he1:=h.e1
 have q0:0≤(t-v)/(3600*L.2.2.2.2.1):=Int.ediv_nonneg (by omega) (by omega)
 have q1:3600*L.2.2.2.2.1*((t-v)/(3600*L.2.2.2.2.1))≤t-v:=Int.mul_ediv_self_le (by omega)
 have q2:t-v<3600*L.2.2.2.2.1*((t-v)/(3600*L.2.2.2.2.1))+3600*L.2.2.2.2.1:=Int.lt_mul_ediv_self_add (by omega)
 have q3:(t-v)/(3600*L.2.2.2.2.1)≤t-v:=Int.ediv_le_self _ (by omega)
 generalize (t-v)/(3600*L.2.2.2.2.1)=K at *
 refine ⟨.inr ⟨q0,⟨v+3600*L.2.2.2.2.1*K,?_,by omega⟩,?_⟩,q0,by omega⟩
 ·unfold hO
  rw [if_pos h0,hf]
  simp only [j3]
  rw [if_pos (by omega)]
 ·rintro ⟨y,hy,hyt⟩
  unfold hO at hy
  rw [if_pos h0,hf] at hy
  simp only [j3,Int.mul_add,Int.mul_one] at hy
  split at hy
  ·simp at hy;omega
  ·simp at hy
theorem jsn {o:Int} {l:TrL} {L:j1b} (h0:L.2.2.2.1=0) {v:Int} (hv:hO o l L 0=some v):fO o l (sLoc L 0)=some v:=by
 unfold hO at hv
 rw [if_pos h0] at hv
 cases hf:fO o l (sLoc L 0) with
 | none=>rw [hf] at hv;simp at hv
 | some x=>
  rw [hf] at hv
  simp only [j3,Int.mul_zero,Int.add_zero] at hv
  split at hv
  ·simpa using hv
  ·simp at hv
theorem jtS {o:Int} {l:TrL} (ht:TOk o l) {L:j1b} (h:Rt L) {t:Int} (h0t:0≤t) (htt:t≤8589934592):∃ K:Int,j24 (o,l) L t=some K∧ShO o l L t K:=by
 have hs:=h.step
 have hd0:=h.d0;have hd1:=h.d1;have he0:=h.e0;have he1:=h.e1
 obtain ⟨v0,hH,hv⟩:=recH ht h (k:=0) (by omega) (by omega)
 have hstep:j7H (L.1,L.2.1,(L.2.2.1.1,L.2.2.1.2),L.2.2.2.1,L.2.2.2.2.1,L.2.2.2.2.2.1,L.2.2.2.2.2.2.1,L.2.2.2.2.2.2.2.1,L.2.2.2.2.2.2.2.2)=_:=jnc h
 simp only [j24,show j1d (o,l) (L.1,L.2.1,(L.2.2.1.1,L.2.2.1.2),L.2.2.2.1,L.2.2.2.2.1,L.2.2.2.2.2.1,L.2.2.2.2.2.2.1,L.2.2.2.2.2.2.2.1,L.2.2.2.2.2.2.2.2) 0=_ from hH,hstep,j3]
 cases hx:hO o l L 0 with
 | none=>
  simp only [Option.isSome_none,kn,j5]
  exact ⟨-1,rfl,.inl ⟨rfl,fun ⟨y,hy,_⟩=>by rw [hx] at hy;simp at hy⟩⟩
 | some v=>
  have:=hv v hx
  subst this
  simp only [Option.isSome_some,jd,j6]
  by_cases hc:v0>t
  ·rw [j01 hc,j5]
   exact ⟨-1,rfl,.inl ⟨rfl,fun ⟨y,hy,hyt⟩=>by rw [hx] at hy;simp at hy;omega⟩⟩
  ·rw [j00 hc,j6]
   have hq:QO o l L t 0:=⟨v0,hx,by omega⟩
   have hva:=jsm ht h (k:=0) (by omega) hx
   by_cases h0:L.2.2.2.1=0
   ·obtain ⟨s1,s2,s3⟩:=jr0 (o:=o) (l:=l) h h0 htt (jsn h0 hx) (by omega) hva.1
    rw [j9D h0,j5,j02 (x:=t-v0) (by omega) (by omega),j02 (x:=3600*L.2.2.2.2.1) (by omega) (by omega),j4u (show ¬ 3600*L.2.2.2.2.1=0 by omega),qw (by omega),j02 (x:=(t-v0)/(3600*L.2.2.2.2.1)) (by omega) (by omega)]
    exact ⟨_,rfl,s1⟩
   ·obtain ⟨j,hj,j1,j2⟩:=jn1 ht h0t htt
    have o0:=ht.of0 j hj;have o1:=ht.of1 j hj
    rw [j4u h0,j6,jn4 ht hj j1 j2]
    simp only [j3]
    generalize hld:(t+tof o l j)/86400=ld
    rw [j4u (show ¬ j7g L=0 by omega),j02 (x:=ld-L.2.2.1.1) (by omega) (by omega)]
    simp only [kn,j5]
    obtain ⟨n,hn,hn2⟩:∃ n:Nat,(if w64 (Int.tdiv (ld-L.2.2.1.1) (j7g L))>0 then w64 (Int.tdiv (ld-L.2.2.1.1) (j7g L)) else 0)=(n:Int)∧(n:Int)≤8589934592:=by
     by_cases hneg:0≤ld-L.2.2.1.1
     ·rw [qw hneg]
      have q0:0≤(ld-L.2.2.1.1)/j7g L:=Int.ediv_nonneg hneg (by omega)
      have q1:(ld-L.2.2.1.1)/j7g L≤ld-L.2.2.1.1:=Int.ediv_le_self _ hneg
      rw [j02 (by omega) (by omega)]
      refine ⟨((ld-L.2.2.1.1)/j7g L).toNat,?_,?_⟩
      ·split<;>omega
      ·omega
     ·have e:Int.tdiv (ld-L.2.2.1.1) (j7g L) = -((-(ld-L.2.2.1.1))/j7g L):=by
       rw [←qw (by omega),Int.neg_tdiv,Int.neg_neg]
      have q0:0≤(-(ld-L.2.2.1.1))/j7g L:=Int.ediv_nonneg (by omega) (by omega)
      have q1:(-(ld-L.2.2.1.1))/j7g L ≤ -(ld-L.2.2.1.1):=Int.ediv_le_self _ (by omega)
      rw [e,j02 (by omega) (by omega),if_neg (by omega)]
      exact ⟨0,rfl,by omega⟩
    rw [hn]
    obtain ⟨k,e,k0,k1⟩:=jti ht h (Int.le_refl _) hq n hn2
    have hkb:=k1
    obtain ⟨y,hy,_⟩:=hkb
    have hkk:=jsm ht h k0 hy
    obtain ⟨K,e2,K0,K1,K2⟩:=jtj ht h (t:=t) (2386093-k).toNat k (by omega) k0 k1
    simp only [e,j3,e2]
    exact ⟨K,rfl,.inr ⟨K0,K1,K2⟩⟩
end Go.Proofs.Pw
