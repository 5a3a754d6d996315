/- Chapter 4: the reference's transitions, offsets and instants are those of the program. -/
import Derived.Test.YtpbnnhakjhalaaaGreatEOPE
open Go Go.Lft
namespace Go.Proofs.Pw
theorem jaz {n lo hi:Int} (h1:lo≤n) (h2:n≤hi):j7R n lo hi=some true:=by
 simp only [j7R]
 rw [j01 (show n≥lo from h1),j01 h2];rfl
theorem jwz {n lo hi:Int} (h:¬ (lo≤n∧n≤hi)):j7R n lo hi=some false:=by
 simp only [j7R]
 by_cases h1:n≥lo
 ·rw [j01 h1,j00 (fun h2=>h ⟨h1,h2⟩)];rfl
 ·rw [j00 h1];rfl
theorem jr4 {r:Rule} (h:ROk r):jdG r=some true:=by
 simp only [jdG,jaz h.y0 (show r.1≤2240 by have:=h.y1;have:=h.y2;omega),jaz h.y1 h.y2,jaz h.m0 h.m1,jaz h.k0 h.k1,jaz h.d0 h.d1,jaz h.s0 h.s1,jaz h.o0 h.o1,j3,j5]
theorem jhy (x:Int×Int):∀ l:TrL,j7T x l=l.takeWhile (fun y=>decide (x.1<y.1))++x::l.dropWhile (fun y=>decide (x.1<y.1))
 | []=>rfl
 | y::ys=>by
  unfold j7T
  by_cases h:x.1<y.1
  ·rw [if_pos h,jhy x ys];simp [h]
  ·rw [if_neg h];simp [h]
theorem jwA {rs:List Rule} {i y a b:Int}:∀ (rp mid:TrL),rp.length+mid.length≤100000→
  j3T rs i y (rp.length:Int) a b (rp.reverse++mid)=some (rs,i,y,((rp.dropWhile (fun z=>decide (a<z.1))).length:Int),a,b,rp.reverse++mid)
 | [],mid,_=>by
  rw [j8z]
  simp only [j2o]
  rw [j00 (by simp),j6,j0d]
  rfl
 | z::zs,mid,hl=>by
  have hL:((z::zs).reverse++mid).length=zs.length+1+mid.length:=by simp;omega
  simp only [jz] at hl
  have g2:((z::zs).reverse++mid).getD ((((zs.length+1:Nat):Int)-1).toNat) ((0:Int),(0:Int))=z:=by
   rw [show (((zs.length+1:Nat):Int)-1).toNat=zs.length by omega]
   simp
  rw [j8z]
  simp only [j2o,jz]
  simp only [j02 (x:=((zs.length+1:Nat):Int)-1) (by omega) (by omega),g2]
  rw [j01 (show ((zs.length+1:Nat):Int)>0 by omega),j0Y (by omega) (by rw [hL];omega)]
  simp only [j5]
  by_cases hc:a<z.1
  ·rw [j01 (show z.1>a from hc)]
   simp only [j5,j09]
   have ih:=jwA (rs:=rs) (i:=i) (y:=y) (a:=a) (b:=b) zs (z::mid) (by simp;omega)
   have e:(z::zs).reverse++mid=zs.reverse++z::mid:=by simp
   rw [e,show ((zs.length+1:Nat):Int)-1=(zs.length:Int) by omega,ih]
   simp [hc]
  ·rw [j00 (show ¬ z.1>a from hc)]
   simp only [j6,j0d]
   simp [hc]
theorem juc (l:TrL) (x:Int×Int) {k:Nat} (hk:k≤l.length):List.set (over (l++[x]) (k+1) (List.drop k (l++[x]))) k x=l.take k++x::l.drop k:=by
 have h1:(l++[x]).length=l.length+1:=by simp
 unfold over
 rw [h1,jf (show (l++[x]).length≤k+1+(List.drop k (l++[x])).length by simp;omega),qn]
 have e1:List.drop k (l++[x])=List.drop k l++[x]:=by rw [List.drop_append_of_le_length hk]
 rw [e1]
 have e2:List.take (l.length+1-(k+1)) (List.drop k l++[x])=List.drop k l:=by
  rw [List.take_append_of_le_length (by simp),List.take_of_length_le (by simp)]
 rw [e2]
 by_cases h:k<l.length
 ·have e3:List.take (k+1) (l++[x])=l.take k++[l[k]]:=by
   rw [List.take_append_of_le_length (by omega),List.take_succ_eq_append_getElem h]
  rw [e3,jp,List.set_append_right _ _ (by simp;omega)]
  simp [Nat.min_eq_left hk]
 ·have hk':k=l.length:=by omega
  subst hk'
  have e3:List.take (l.length+1) (l++[x])=l++[x]:=List.take_of_length_le (by simp)
  rw [e3]
  simp
theorem jwB {rs:List Rule} {i:Nat} (hi:i<rs.length) {r:Rule} (hr:rs[i]=r) (h:ROk r):∀ (n j:Nat) (acc:TrL),r.1+(j:Int)+n=r.2.1+1→acc.length+n≤90000→
  j5u rs (i:Int) (r.1+(j:Int)) acc.reverse=some (rs,(i:Int),(j34 ((List.range n).map fun (q:Nat)=>occ r (r.1+(j:Int)+(q:Int))) acc).reverse)
 | 0,j,acc,hj,_=>by
  have hg:rs.getD i ((0:Int),((0:Int),((0:Int),((0:Int),((0:Int),((0:Int),(0:Int)))))))=r:=by simp [hi,hr]
  rw [j8A]
  simp only [j2p]
  rw [j0Y (by omega) (by omega)]
  simp only [j5,j7,hg]
  rw [j00 (by omega),j6,j0d]
  rfl
 | n+1,j,acc,hj,hl=>by
  have hg:rs.getD i ((0:Int),((0:Int),((0:Int),((0:Int),((0:Int),((0:Int),(0:Int)))))))=r:=by simp [hi,hr]
  have h0:=h.y0;have h2:=h.y2;have hs0:=h.s0;have hs1:=h.s1
  have hv:=je7 (jbU (r.1+(j:Int)) r.2.2.1 (by omega) (by omega) h.m0 h.m1)
  have hn:=jjz (w:=r.2.2.2.2.1) (y:=r.1+(j:Int)) (by omega) (by omega) h.m0 h.m1 h.k0 h.k1
  have hd:=j62 (r.1+(j:Int)) r.2.2.1
  rw [j8A]
  simp only [j2p]
  rw [j0Y (by omega) (by omega)]
  simp only [j5,j7,hg]
  rw [j01 (show r.1+(j:Int)≤r.2.1 by omega),r01_Nth_ok _ _ _ _ (by omega) (by omega) h.m0 h.m1 h.k0 h.k1 h.d0 h.d1]
  simp only [j5,j3]
  rw [j02 (x:=nth (r.1+(j:Int)) r.2.2.1 r.2.2.2.1 r.2.2.2.2.1*86400) (by omega) (by omega),j02 (x:=nth (r.1+(j:Int)) r.2.2.1 r.2.2.2.1 r.2.2.2.2.1*86400+r.2.2.2.2.2.1) (by omega) (by omega)]
  have hl4:=jwA (rs:=rs) (i:=(i:Int)) (y:=r.1+(j:Int)) (a:=(occ r (r.1+(j:Int))).1) (b:=(occ r (r.1+(j:Int))).2) acc [] (by simp;omega)
  rw [qn] at hl4
  rw [show Int.ofNat (List.length acc.reverse)=(acc.length:Int) by simp]
  rw [show j3T rs (i:Int) (r.1+(j:Int)) (acc.length:Int) (nth (r.1+(j:Int)) r.2.2.1 r.2.2.2.1 r.2.2.2.2.1*86400+r.2.2.2.2.2.1) r.2.2.2.2.2.2 acc.reverse=_ from hl4]
  simp only [j3]
  generalize hx:occ r (r.1+(j:Int))=x at *
  have hdl:(acc.dropWhile (fun z=>decide (x.1<z.1))).length≤acc.length:=(List.dropWhile_sublist _).length_le
  generalize hD:acc.dropWhile (fun z=>decide (x.1<z.1))=D at *
  have hlen1:(acc.reverse++[(x.1,x.2)]).length=acc.length+1:=by simp
  rw [j01 (by simp [j07];omega)]
  simp only [j5]
  rw [j02 (x:=(D.length:Int)+1) (by omega) (by omega),j01 (show (0:Int)≤(D.length:Int)+1 by omega),j01 (show (D.length:Int)+1≤Int.ofNat (acc.reverse++[(x.1,x.2)]).length by rw [hlen1];show (D.length:Int)+1≤((acc.length+1:Nat):Int);omega),
   j01 (show (0:Int)≤(D.length:Int) by omega),j01 (show (D.length:Int)≤Int.ofNat (acc.reverse++[(x.1,x.2)]).length by rw [hlen1];show (D.length:Int)≤((acc.length+1:Nat):Int);omega)]
  simp only [Bool.and_self,j5,j7,show ((D.length:Int)+1).toNat=D.length+1 by omega]
  have hov:(over (acc.reverse++[(x.1,x.2)]) (D.length+1) (List.drop D.length (acc.reverse++[(x.1,x.2)]))).length=acc.length+1:=by
   unfold over
   simp
   omega
  rw [j0Y (by omega) (by rw [hov];omega),juc acc.reverse (x.1,x.2) (by simpa using hdl)]
  simp only [j5]
  rw [j02 (x:=r.1+(j:Int)+1) (by omega) (by omega),j09]
  have hins:acc.reverse.take D.length++(x.1,x.2)::acc.reverse.drop D.length=(j7T x acc).reverse:=by
   have hsp:=List.takeWhile_append_dropWhile (p:=fun z:Int×Int=>decide (x.1<z.1)) (l:=acc)
   rw [jhy,hD]
   rw [hD] at hsp
   generalize acc.takeWhile (fun z=>decide (x.1<z.1))=T at hsp ⊢
   rw [←hsp]
   simp
  rw [hins]
  have ih:=jwB hi hr h n (j+1) (j7T x acc) (by omega) (by rw [jbT];omega)
  rw [show r.1+(j:Int)+1=r.1+((j+1:Nat):Int) by omega]
  refine ih.trans ?_
  have hmap:(List.range n).map (fun (q:Nat)=>occ r (r.1+((j+1:Nat):Int)+(q:Int)))=(List.range n).map ((fun (q:Nat)=>occ r (r.1+(j:Int)+(q:Int))) ∘ Nat.succ):=List.map_congr_left fun q _=>by
   simp only [Function.comp]
   congr 1
   omega
  rw [List.range_succ_eq_map,kx,List.map_map,hmap]
  simp [j34,hx]
theorem jhz:∀ (a b acc:TrL),j34 (a++b) acc=j34 b (j34 a acc)
 | [],_,_=>rfl
 | x::a,b,acc=>by simp only [List.cons_append,j34];exact jhz a b _
theorem jwC {rs:List Rule} (h:∀ r∈rs,ROk r) (hlen:rs.length≤100):∀ (n i:Nat) (acc:TrL),i+n=rs.length→acc.length≤300*i→
  j3U rs (i:Int) acc.reverse=some (j34 (occs (rs.drop i)) acc).reverse
 | 0,i,acc,hi,_=>by
  rw [j8B]
  simp only [j2q,show Int.ofNat (List.length rs)=(rs.length:Int) from rfl]
  rw [j00 (by omega),j6,j0d,jf (by omega)]
  rfl
 | n+1,i,acc,hi,hl=>by
  have hlt:i<rs.length:=by omega
  have hr:=h rs[i] (je hlt)
  have h0:=hr.y0;have h1:=hr.y1;have h2:=hr.y2
  have hg:rs.getD i ((0:Int),((0:Int),((0:Int),((0:Int),((0:Int),((0:Int),(0:Int)))))))=rs[i]:=by simp [hlt]
  have hl2:=jwB hlt rfl hr (rs[i].2.1-rs[i].1+1).toNat 0 acc (by omega) (by omega)
  rw [show rs[i].1+((0:Nat):Int)=rs[i].1 by omega] at hl2
  have ih:=jwC h hlen n (i+1) (j34 (occR rs[i]) acc) (by omega) (by rw [jaU];simp [occR];omega)
  rw [j8B]
  simp only [j2q,show Int.ofNat (List.length rs)=(rs.length:Int) from rfl]
  rw [j01 (show (i:Int)<(rs.length:Int) by omega),j0Y (by omega) (by omega)]
  simp only [j5,j7,hg,hl2,j3]
  rw [j02 (by omega) (by omega),j09,jn hlt]
  refine ih.trans ?_
  show _=some (j34 (occR rs[i]++occs (rs.drop (i+1))) acc).reverse
  rw [jhz]
theorem jud {rs:List Rule} (h:∀ r∈rs,ROk r) (hlen:rs.length≤100):j7l rs=some (j6e (occs rs)):=by
 have e:=jwC h hlen rs.length 0 [] (by omega) (by simp)
 simp only [j7l]
 rw [show j3U rs 0 []=_ from e]
 rfl
theorem juH {rs:List Rule} (h:∀ r∈rs,ROk r) (hlen:rs.length≤100) (nm:ByteArray) (o:Int):∀ (n i:Nat) (s:Int),i+n=rs.length→0≤s→s≤300*i→
  j3V s (i:Int) nm o rs=some (.inr (s+((occs (rs.drop i)).length:Int),nm,o,rs))
 | 0,i,s,hi,_,_=>by
  rw [j8C]
  simp only [j2r,show Int.ofNat (List.length rs)=(rs.length:Int) from rfl]
  rw [j00 (by omega),j6,j0d,jf (by omega)]
  simp [occs]
 | n+1,i,s,hi,hs0,hs1=>by
  have hlt:i<rs.length:=by omega
  have hr:=h rs[i] (je hlt)
  have h0:=hr.y0;have h1:=hr.y1;have h2:=hr.y2
  have hg:rs.getD i ((0:Int),((0:Int),((0:Int),((0:Int),((0:Int),((0:Int),(0:Int)))))))=rs[i]:=by simp [hlt]
  have ih:=juH h hlen nm o n (i+1) (s+(rs[i].2.1-rs[i].1+1)) (by omega) (by omega) (by omega)
  have hrule:jdG (rs[i].1,(rs[i].2.1,(rs[i].2.2.1,(rs[i].2.2.2.1,(rs[i].2.2.2.2.1,(rs[i].2.2.2.2.2.1,rs[i].2.2.2.2.2.2))))))=some true:=jr4 hr
  rw [j8C]
  simp only [j2r,show Int.ofNat (List.length rs)=(rs.length:Int) from rfl]
  rw [j01 (show (i:Int)<(rs.length:Int) by omega),j0Y (by omega) (by omega)]
  simp only [j5,j7,hg,hrule,j3,jc,j6]
  rw [j02 (x:=rs[i].2.1-rs[i].1) (by omega) (by omega),j02 (x:=rs[i].2.1-rs[i].1+1) (by omega) (by omega),j02 (x:=s+(rs[i].2.1-rs[i].1+1)) (by omega) (by omega),j02 (x:=(i:Int)+1) (by omega) (by omega),j09]
  refine ih.trans ?_
  rw [jn hlt]
  have:((occs (rs[i]::rs.drop (i+1))).length:Int)=(rs[i].2.1-rs[i].1+1)+((occs (rs.drop (i+1))).length:Int):=by
   have e1:(occR rs[i]).length=(rs[i].2.1-rs[i].1+1).toNat:=by simp [occR]
   show ((occR rs[i]++occs (rs.drop (i+1))).length:Int)=_
   rw [jk,e1];omega
  rw [this]
  congr 3;omega
theorem jvC (L:TrL) (hL:L.length≤1000):∀ (n i:Nat) (now:Int) (acc:TrL),i+n=L.length → -64800≤now→now≤64800→acc.length≤i→(∀ x∈acc,0≤x.1∧x.1≤8589934592)→Good now (acc.getLast?.map (·.1)) (L.drop i)→
  j3W now (i:Int) acc L=some (.inr (acc++outT now (L.drop i)))
 | 0,i,now,acc,hi,_,_,_,_,_=>by
  rw [j8D]
  simp only [j2s,show Int.ofNat (List.length L)=(L.length:Int) from rfl]
  rw [j00 (by omega),j6,j0d,jf (by omega)]
  simp [outT]
 | n+1,i,now,acc,hi,hn0,hn1,hal,hacc,hg=>by
  have hlt:i<L.length:=by omega
  rw [jn hlt] at hg ⊢
  have hgd:L.getD i ((0:Int),(0:Int))=L[i]:=by simp [hlt]
  rw [j8D]
  simp only [j2s,show Int.ofNat (List.length L)=(L.length:Int) from rfl]
  rw [j01 (show (i:Int)<(L.length:Int) by omega),j0Y (by omega) (by omega)]
  simp only [j5,j7,hgd]
  generalize L[i]=x at *
  rw [j02 (x:=(i:Int)+1) (by omega) (by omega)]
  simp only [Good] at hg
  by_cases hx:x.2=now
  ·rw [if_pos hx] at hg
   rw [j6W hx]
   simp only [j5,j09,outT]
   rw [if_pos hx]
   exact jvC L hL n (i+1) now acc (by omega) hn0 hn1 (by omega) hacc hg
  ·rw [if_neg hx] at hg
   obtain ⟨⟨g1,g2,g3,g4,g5,g6,g7⟩,g8⟩:=hg
   rw [j3B hx,j02 (x:=x.1-now) (by omega) (by omega),j02 (x:=x.2-now) (by omega) (by omega)]
   simp only [j6,jaz (show (-86399:Int)≤x.2-now by omega) (show x.2-now≤86399 by omega),jaz (show (0:Int)≤x.1-now by omega) (show x.1-now≤8589934592 by omega),j3,jc,show Int.ofNat (List.length acc)=(acc.length:Int) from rfl]
   have hnext:=jvC L hL n (i+1) x.2 (acc++[(x.1-now,x.2)]) (by omega) g6 g7 (by simp;omega)
    (fun y hy=>by
     rcases jo.1 hy with hy | hy
     ·exact hacc y hy
     ·simp at hy;subst hy;exact ⟨by show (0:Int)≤x.1-now;omega,by show x.1-now≤8589934592;omega⟩) (by simpa using g8)
   have hout:outT now (x::L.drop (i+1))=(x.1-now,x.2)::outT x.2 (L.drop (i+1)):=by simp [outT,hx]
   rw [hout]
   rw [jp] at hnext
   rw [j02 (x:=(acc.length:Int)-1) (by omega) (by omega)]
   by_cases ha:acc=[]
   ·subst ha
    simp only [List.length_nil]
    rw [show decide (((0:Nat):Int)>0)=false from rfl]
    simp only [j6]
    rw [j01 (by simp [j07])]
    simp only [j5,j09]
    exact hnext
   ·have hpos:0<acc.length:=List.length_pos_iff.2 ha
    have hlast:acc.getLast? = some (acc.getD (acc.length-1) (0,0)):=by
     rw [List.getLast?_eq_getElem?,List.getD_eq_getElem?_getD,jh (show acc.length-1<acc.length by omega)];rfl
    rw [hlast] at g5
    have g5:(acc.getD (acc.length-1) ((0:Int),(0:Int))).1+604800≤x.1-now:=g5 _ rfl
    have hb:=hacc (acc.getD (acc.length-1) (0,0)) (List.mem_of_getLast? hlast)
    rw [j0Y (by omega) (by omega),j01 (show (acc.length:Int)>0 by omega),show ((acc.length:Int)-1).toNat=acc.length-1 by omega]
    simp only [j5]
    rw [j02 (by omega) (by omega),j00 (show ¬ x.1-now-(acc.getD (acc.length-1) ((0:Int),(0:Int))).1<604800 by omega),j01 (by simp [j07];omega)]
    simp only [j5,j6,j09]
    exact hnext
theorem jxg {nm:ByteArray} {o:Int} {rs:List Rule} (h:∀ r∈rs,ROk r) (ho0 : -64800≤o) (ho1:o≤64800) (hlen:rs.length≤16) (hn:(occs rs).length≤640) (hg:Good o none (j6e (occs rs))) :
  j1f (nm,(o,rs))=some (outT o (j6e (occs rs)),0):=by
 have hl:(j6e (occs rs)).length≤1000:=by simp [j6e,jaU];omega
 have e0:=juH h (by omega) nm o rs.length 0 0 (by omega) (by omega) (by omega)
 rw [kr] at e0
 have e2:=jvC (j6e (occs rs)) hl (j6e (occs rs)).length 0 o [] (by omega) ho0 ho1 (by simp) (by simp) hg
 rw [kr] at e2
 simp only [j1f,jaz ho0 ho1,j3,jc,j6,show Int.ofNat (List.length rs)=(rs.length:Int) from rfl]
 rw [j00 (show ¬ (rs.length:Int)>16 by omega),j6,show j3V 0 0 nm o rs=_ from e0]
 simp only [j3,j4Q]
 rw [j00 (by omega),j6,jud h (by omega)]
 simp only [j3]
 rw [show j3W o 0 [] (j6e (occs rs))=_ from e2]
 rfl
def Z4 (z:ByteArray×(Int×List Rule)) (l:TrL):Prop:=j1f z=some (l,0)∧TOk z.2.1 l
theorem MZ.r4 {o:Int} {rs:List Rule} (h:MZ o rs) (nm:ByteArray):Z4 (nm,(o,rs)) (outT o (j6e (occs rs))):=by
 have ht:=h.tab nm
 refine ⟨jxg h.ok (by have:=h.o0;omega) (by have:=h.o1;omega) ?_ ?_ h.good,ht.2⟩
 ·have:=h.len;omega
 ·have:=h.few;omega
section
variable {o:Int} {l:TrL} (h:TOk o l)
include h
theorem jnU {t:Int} {k:Nat} (hk:k≤l.length) (h1:frm l k≤t) (h2:t<frm l (k+1)):∀ (n i:Nat),i+n=k→j7n l t (tof o l i) (i:Int)=some (tof o l k)
 | 0,i,hi=>by
  have hi:i=k:=by omega
  subst hi
  have hlen:=h.len
  rw [jcX]
  simp only [j41,show Int.ofNat (List.length l)=(l.length:Int) from rfl]
  by_cases hlt:i<l.length
  ·have e:frm l (i+1)=tat l i:=jgD hlt
   rw [j0Y (by omega) (by omega),j01 (show (i:Int)<(l.length:Int) by omega)]
   simp only [qw,j5,j7]
   rw [j00 (show ¬ (l.getD i ((0:Int),(0:Int))).1≤t by show ¬ tat l i≤t;omega),j6,j0d]
  ·rw [j00 (show ¬ (i:Int)<(l.length:Int) by omega)]
   simp only [js,Bool.or_true,j5,j6,j0d]
 | n+1,i,hi=>by
  have hlen:=h.len
  have hlt:i<l.length:=by omega
  have e:frm l (i+1)=tat l i:=jgD hlt
  have hle:=h.frm_le (i:=i+1) (j:=k) (by omega) (by omega)
  rw [jcX]
  simp only [j41,show Int.ofNat (List.length l)=(l.length:Int) from rfl]
  rw [j0Y (by omega) (by omega),j01 (show (i:Int)<(l.length:Int) by omega)]
  simp only [qw,j5,j7]
  rw [j01 (show (l.getD i ((0:Int),(0:Int))).1≤t by show tat l i≤t;omega),j5,j02 (by omega) (by omega),j09]
  exact jnU hk h1 h2 n (i+1) (by omega)
theorem jsY {nm:ByteArray} {rs:List Rule} {t:Int} {k:Nat} (hk:k≤l.length) (h1:frm l k≤t) (h2:t<frm l (k+1)):jep (nm,(o,rs)) l t=some (tof o l k):=by
 have:=jnU h hk h1 h2 k 0 (by omega)
 simp only [jep]
 rw [show j7n l t o 0=_ from this]
 rfl
theorem jjC {nm:ByteArray} {rs:List Rule} {d c:Int} (hd : -1000000≤d) (hd2:d≤1000000) (hc:0≤c) (hc2:c≤86399) {k:Nat} (hk:k≤l.length) (hks:d*86400+c-tof o l k<frm l (k+1))
  (hb:∀ j,j<k→frm l (j+1)≤d*86400+c-tof o l j):∀ (n j:Nat),j+n=k→j3Z ((j:Int)-1) nm o rs d c l=some (.inl (max (frm l k) (d*86400+c-tof o l k),0))
 | n,j,hj=>by
  have hlen:=h.len
  have hjl:j≤l.length:=by omega
  have o1:=h.of0 j hjl;have o2:=h.of1 j hjl
  have hlt:=h.frm_lt hjl
  have key:∀ A:Option ((Int×ByteArray×Int×List Rule×Int×Int×TrL) ⊕ ((Int×Int) ⊕ Unit)),
    A=(cond (decide (max (frm l j) (d*86400+c-tof o l j)<frm l (j+1))) (some (.inr (.inl (max (frm l j) (d*86400+c-tof o l j),0)))) (some (.inl ((j:Int),nm,o,rs,d,c,l))))→
    lpK A (fun h=>j3Z h.1 h.2.1 h.2.2.1 h.2.2.2.1 h.2.2.2.2.1 h.2.2.2.2.2.1 h.2.2.2.2.2.2)=some (.inl (max (frm l k) (d*86400+c-tof o l k),0)):=by
   intro A hA
   rw [hA]
   cases n with
   | zero=>
    have hjk:j=k:=by omega
    subst hjk
    rw [j01 (by omega),j5,j0d]
   | succ n=>
    have:=hb j (by omega)
    rw [j00 (by omega),j6,j09]
    have ih:=jjC (nm:=nm) (rs:=rs) hd hd2 hc hc2 hk hks hb n (j+1) (by omega)
    rwa [show ((j+1:Nat):Int)-1=(j:Int) by omega] at ih
  rw [ja3]
  refine key _ ?_
  simp only [j3u,show Int.ofNat (List.length l)=(l.length:Int) from rfl]
  rw [j01 (show (j:Int)-1<(l.length:Int) by omega)]
  simp only [show (j:Int)-1+1=(j:Int) by omega,j02 (x:=(j:Int)) (by omega) (by omega),j7]
  rw [j02 (x:=d*86400) (by omega) (by omega),j02 (x:=d*86400+c) (by omega) (by omega)]
  have hmx:∀ a b:Int,(if a>b then a else b)=max b a:=fun a b=>by omega
  clear key
  cases j with
  | zero=>
   have ht0:tof o l 0=o:=rfl
   have hf0:frm l 0=0:=rfl
   rw [j00 (show ¬ ((0:Nat):Int)-1≥0 by omega)]
   rw [ht0] at o1 o2 ⊢
   rw [hf0]
   simp only [j5,j6,j02 (x:=d*86400+c-o) (by omega) (by omega),hmx]
   by_cases hl0:0<l.length
   ·have e:frm l (0+1)=tat l 0:=jgD hl0
    rw [e]
    rw [j01 (show ((0:Nat):Int)<(l.length:Int) by omega),j0Y (by omega) (by omega)]
    rfl
   ·have hl0':l.length=0:=by omega
    have e:frm l (0+1)=8589934593:=by have:=jao (l:=l);rwa [hl0'] at this
    rw [e]
    rw [j00 (show ¬ ((0:Nat):Int)<(l.length:Int) by omega)]
    rfl
  | succ i=>
   have hil:i<l.length:=by omega
   have ht0:tof o l (i+1)=(l.getD i ((0:Int),(0:Int))).2:=rfl
   have hf0:frm l (i+1)=(l.getD i ((0:Int),(0:Int))).1:=jgD hil
   rw [show ((i+1:Nat):Int)-1=(i:Int) by omega,j01 (show (i:Int)≥0 by omega),j0Y (by omega) (by omega)]
   simp only [j5,j7,←ht0,←hf0]
   rw [j02 (x:=d*86400+c-tof o l (i+1)) (by omega) (by omega)]
   simp only [hmx]
   by_cases hl0:i+1<l.length
   ·have e:frm l (i+1+1)=(l.getD (i+1) ((0:Int),(0:Int))).1:=jgD hl0
    rw [j01 (show ((i+1:Nat):Int)<(l.length:Int) by omega),j0Y (by omega) (by omega)]
    simp only [j5,←e]
   ·have e:frm l (i+1+1)=8589934593:=by have:=jao (l:=l);rwa [show l.length+1=i+1+1 by omega] at this
    rw [j00 (show ¬ ((i+1:Nat):Int)<(l.length:Int) by omega),e]
    rfl
end
theorem jr5 {t o:Int} (h1 : -864000≤t+o) (h2:t+o≤1000000000000):jgf t o=some ((t+o)/86400,(t+o)%86400):=by
 simp only [jgf]
 rw [j02 (x:=t+o) (by omega) (by omega),j02 (x:=t+o+864000) (by omega) (by omega),jcM (by omega),jlZ (by omega),j02 (x:=(t+o+864000)/86400) (by omega) (by omega),j02 (by omega) (by omega)]
 congr 2<;>omega
section
variable {z:ByteArray×(Int×List Rule)} {l:TrL} (h:Z4 z l)
include h
theorem jue {t:Int} {k:Nat} (h0:0≤t) (h1:t≤8589934592) (hk:k≤l.length) (hk1:frm l k≤t) (hk2:t<frm l (k+1)):j8J z t=some (tof z.2.1 l k,0):=by
 simp only [j8J,show j1f (z.1,(z.2.1,z.2.2))=_ from h.1,j3,jb,j6,jaz h0 h1,jc,jsY h.2 hk hk1 hk2]
theorem jq7 {t:Int} {k:Nat} (h0:0≤t) (h1:t≤8589934592) (hk:k≤l.length) (hk1:frm l k≤t) (hk2:t<frm l (k+1)):j39 z t=some (((t+tof z.2.1 l k)/86400,(t+tof z.2.1 l k)%86400),0):=by
 have o1:=h.2.of0 k hk;have o2:=h.2.of1 k hk
 simp only [j39,show j8J (z.1,(z.2.1,z.2.2)) t=_ from jue h h0 h1 hk hk1 hk2,j3,jb,j6,jr5 (show -864000≤t+tof z.2.1 l k by omega) (by omega)]
omit h in
theorem jkP {d:Int} (h1 : -2≤d) (h2:d≤99422):jdO d=some true:=by
 simp only [jdO,jaz h1 h2,j3]
theorem jr6 {d c:Int} (hd : -2≤d) (hd2:d≤99422) (hc:0≤c) (hc2:c≤86399) {k:Nat} (hk:k≤l.length) (hks:d*86400+c-tof z.2.1 l k<frm l (k+1))
  (hb:∀ j,j<k→frm l (j+1)≤d*86400+c-tof z.2.1 l j):j40 z (d,c)=some (max (frm l k) (d*86400+c-tof z.2.1 l k),0):=by
 have:=jjC h.2 (nm:=z.1) (rs:=z.2.2) (show -1000000≤d by omega) (by omega) hc hc2 hk hks hb k 0 (by omega)
 simp only [j40,show j1f (z.1,(z.2.1,z.2.2))=_ from h.1,j3,jb,j6,jaz hc hc2,jc,jkP hd hd2]
 rw [j00 (show ¬ d < -2 by omega),j6,show j3Z (-1) z.1 z.2.1 z.2.2 d c l=_ from this]
 rfl
end
def NoF (o:Int) (l:TrL) (s:Int):Prop:=∀ j,j≤l.length→frm l (j+1)≤s-tof o l j
noncomputable def fO (o:Int) (l:TrL) (s:Int):Option Int:=open Classical in if h:∃ t k,Fst o l s t k then some (Classical.choose h) else none
theorem Fst.uniq {o:Int} {l:TrL} {s t t':Int} {k k':Nat} (f:Fst o l s t k) (g:Fst o l s t' k'):k=k'∧t=t':=by
 have hk:k=k':=by
  rcases zh k k' with hlt | heq | hgt
  ·have:=g.bef k hlt;have:=f.hks;omega
  ·exact heq
  ·have:=f.bef k' hgt;have:=g.hks;omega
 subst hk
 exact ⟨rfl,by rw [f.ht,g.ht]⟩
theorem fO_t {o:Int} {l:TrL} {s t:Int} {k:Nat} (f:Fst o l s t k):fO o l s=some t:=by
 have he:∃ t k,Fst o l s t k:=⟨t,k,f⟩
 unfold fO
 rw [dif_pos he]
 obtain ⟨k',g⟩:=Classical.choose_spec he
 rw [(g.uniq f).2]
theorem fO_n {o:Int} {l:TrL} {s:Int} (hno:NoF o l s):fO o l s=none:=by
 unfold fO
 rw [dif_neg]
 rintro ⟨t,k,f⟩
 have:=hno k f.hk
 have:=f.hks
 omega
theorem jq8 (o:Int) (l:TrL) (s:Int):(∃ t k,Fst o l s t k)∨NoF o l s:=by
 by_cases hno:NoF o l s
 ·exact .inr hno
 ·left
  have:∃ j,j≤l.length∧s-tof o l j<frm l (j+1):=by
   apply q9
   intro hn
   exact hno fun j hj=>by
    rcases Int.lt_or_le (s-tof o l j) (frm l (j+1)) with h | h
    ·exact absurd ⟨j,hj,h⟩ hn
    ·exact h
  obtain ⟨j,hj,hjs⟩:=this
  obtain ⟨a,⟨ha,haN⟩,hmin⟩:=jtL (fun j=>s-tof o l j<frm l (j+1)∧j≤l.length) j ⟨hjs,hj⟩
  refine ⟨_,a,haN,ha,fun i hi=> ?_,rfl⟩
  rcases Int.lt_or_le (s-tof o l i) (frm l (i+1)) with h' | h'
  ·have:=hmin i ⟨h',by omega⟩;omega
  ·exact h'
theorem jwD {o:Int} {l:TrL} {s t:Int} (he:fO o l s=some t):∃ k,Fst o l s t k:=by
 rcases jq8 o l s with ⟨t',k,f⟩ | hno
 ·rw [fO_t f] at he
  simp at he;subst he
  exact ⟨k,f⟩
 ·rw [fO_n hno] at he;simp at he
section
variable {o:Int} {l:TrL} (h:TOk o l)
include h
theorem jr7 {s t:Int} (he:fO o l s=some t):s≤t+64800∧0≤t∧t≤8589934592:=by
 obtain ⟨k,f⟩:=jwD he
 obtain ⟨p1,p2,p3⟩:=f.piece h
 have o1:=h.of1 k f.hk
 have g1:=h.frm_le (i:=0) (j:=k) (by omega) (by have:=f.hk;omega)
 have e0:frm l 0=0:=frm0
 have e1:frm l (l.length+1)=8589934593:=jao
 have g2:=h.frm_le (i:=k+1) (j:=l.length+1) (by have:=f.hk;omega) (by omega)
 omega
theorem jsZ {s:Int} (hs:8589934593+64800≤s):NoF o l s:=fun j hj=>by
 have o1:=h.of1 j hj
 have e1:frm l (l.length+1)=8589934593:=jao
 have g2:=h.frm_le (i:=j+1) (j:=l.length+1) (by omega) (by omega)
 omega
theorem jvD {s s' t':Int} (hs:s≤s') (he:fO o l s'=some t'):∃ t,fO o l s=some t∧t≤t':=by
 obtain ⟨k',g⟩:=jwD he
 have g1:=g.hks
 have hk':=g.hk
 rcases jq8 o l s with ⟨t,k,f⟩ | hno
 ·refine ⟨t,fO_t f,?_⟩
  obtain ⟨p1,p2,p3⟩:=f.piece h
  obtain ⟨q1,q2,q3⟩:=g.piece h
  have f1:=f.ht;have g2:=g.ht
  rcases zh k k' with hlt | heq | hgt
  ·have:=h.frm_le (i:=k+1) (j:=k') (by omega) (by omega);omega
  ·subst heq;omega
  ·have:=f.bef k' hgt;omega
 ·have:=hno k' hk';omega
theorem jjD {d c s:Int} (hsec:j3n (d,c)=some s) (hs0 : -1000000000000≤s) (hs1:s≤1000000000000) (hno:NoF o l s) :
  ∀ (n i:Nat),i+n=l.length+1→j22 ((l.length+1:Nat):Int) (i:Int) d c (pcs o l (l.length+1))=some (.inr ())
 | 0,i,hi=>by
  rw [j3C]
  simp only [j1e]
  rw [j00 (by omega),j6,j0d]
 | n+1,i,hi=>by
  have hlen:=h.len
  have hil:i≤l.length:=by omega
  have o1:=h.of0 i hil;have o2:=h.of1 i hil
  have hb:=hno i hil
  have hlt:=h.frm_lt hil
  rw [j3C]
  simp only [j1e]
  rw [j01 (show (i:Int)<((l.length+1:Nat):Int) by omega),j0Y (by omega) (by rw [jfB];omega)]
  simp only [j5,j7,jp6 (show i<l.length+1 by omega),hsec,j3,pc]
  rw [j02 (x:=s-tof o l i) (by omega) (by omega),j02 (x:=(i:Int)+1) (by omega) (by omega)]
  have hm:(if s-tof o l i>frm l i then s-tof o l i else frm l i)=max (frm l i) (s-tof o l i):=by split<;>omega
  rw [hm,j00 (by omega),j6,j09]
  exact jjD hsec hs0 hs1 hno n (i+1) (by omega)
theorem jmg {d c s:Int} (hsec:j3n (d,c)=some s) (hs0 : -1000000000000≤s) (hs1:s≤1000000000000) (hno:NoF o l s):j1s (o,l) (d,c)=some (0,false):=by
 have:=jjD h hsec hs0 hs1 hno (l.length+1) 0 (by omega)
 simp only [j1s,jnL h,j3,jfB,show Int.ofNat (List.length l+1)=((l.length+1:Nat):Int) from rfl]
 rw [show (0:Int)=((0:Nat):Int) from rfl,this]
 rfl
theorem jnV {d c:Int} (hd : -1000000≤d) (hd2:d≤1000000000000000) (hc:0≤c) (hc2:c≤86399) :
  j1s (o,l) (d,c)=some ((fO o l (d*86400+c)).getD 0,(fO o l (d*86400+c)).isSome):=by
 by_cases hb:d≤1000000
 ·rcases jq8 o l (d*86400+c) with ⟨t,k,f⟩ | hno
  ·have e:=ju5 h hd hb (by omega) (by omega) f.hk f.hks f.bef
   rw [←f.ht] at e
   rw [fO_t f]
   exact e
  ·rw [fO_n hno]
   exact jmg h (jha hd hb (by omega) (by omega)) (by omega) (by omega) hno
 ·have hno:NoF o l (d*86400+c):=jsZ h (by omega)
  rw [fO_n hno]
  by_cases hb2:d≤1048576
  ·have hsec:j3n (d,c)=some (d*86400+c):=by
    simp only [j3n]
    rw [if_neg (show ¬ (-1048576:Int)>d by omega),if_neg (show ¬ (1048576:Int)<d by omega),j02 (x:=d*86400) (by omega) (by omega),j02 (by omega) (by omega)]
   exact jmg h hsec (by omega) (by omega) hno
  ·have hsec:j3n (d,c)=some (1048576*86400+c):=by
    simp only [j3n]
    rw [if_neg (show ¬ (-1048576:Int)>d by omega),if_pos (show (1048576:Int)<d by omega),j02 (x:=1048576*86400) (by omega) (by omega),j02 (by omega) (by omega)]
   exact jmg h hsec (by omega) (by omega) (jsZ h (by omega))
theorem jjE {nm:ByteArray} {rs:List Rule} {d c:Int} (hd : -1000000≤d) (hd2:d≤1000000) (hc:0≤c) (hc2:c≤86399) (hno:NoF o l (d*86400+c)):∀ (n j:Nat),j+n=l.length+1→
  j3Z ((j:Int)-1) nm o rs d c l=some (.inr ())
 | 0,j,hj=>by
  rw [ja3]
  simp only [j3u,show Int.ofNat (List.length l)=(l.length:Int) from rfl]
  rw [j00 (by omega),j6,j0d]
 | n+1,j,hj=>by
  have hlen:=h.len
  have hjl:j≤l.length:=by omega
  have o1:=h.of0 j hjl;have o2:=h.of1 j hjl
  have hlt:=h.frm_lt hjl
  have hb:=hno j hjl
  have ih:=jjE (nm:=nm) (rs:=rs) hd hd2 hc hc2 hno n (j+1) (by omega)
  rw [show ((j+1:Nat):Int)-1=(j:Int) by omega] at ih
  have key:∀ A:Option ((Int×ByteArray×Int×List Rule×Int×Int×TrL) ⊕ ((Int×Int) ⊕ Unit)),
    A=(cond (decide (max (frm l j) (d*86400+c-tof o l j)<frm l (j+1))) (some (.inr (.inl (max (frm l j) (d*86400+c-tof o l j),0)))) (some (.inl ((j:Int),nm,o,rs,d,c,l))))→
    lpK A (fun h=>j3Z h.1 h.2.1 h.2.2.1 h.2.2.2.1 h.2.2.2.2.1 h.2.2.2.2.2.1 h.2.2.2.2.2.2)=some (.inr ()):=by
   intro A hA
   rw [hA,j00 (by omega),j6,j09]
   exact ih
  rw [ja3]
  refine key _ ?_
  simp only [j3u,show Int.ofNat (List.length l)=(l.length:Int) from rfl]
  rw [j01 (show (j:Int)-1<(l.length:Int) by omega)]
  simp only [show (j:Int)-1+1=(j:Int) by omega,j02 (x:=(j:Int)) (by omega) (by omega),j7]
  rw [j02 (x:=d*86400) (by omega) (by omega),j02 (x:=d*86400+c) (by omega) (by omega)]
  have hmx:∀ a b:Int,(if a>b then a else b)=max b a:=fun a b=>by omega
  clear key
  cases j with
  | zero=>
   have ht0:tof o l 0=o:=rfl
   have hf0:frm l 0=0:=rfl
   rw [j00 (show ¬ ((0:Nat):Int)-1≥0 by omega)]
   rw [ht0] at o1 o2 ⊢
   rw [hf0]
   simp only [j5,j6,j02 (x:=d*86400+c-o) (by omega) (by omega),hmx]
   by_cases hl0:0<l.length
   ·have e:frm l (0+1)=tat l 0:=jgD hl0
    rw [e]
    rw [j01 (show ((0:Nat):Int)<(l.length:Int) by omega),j0Y (by omega) (by omega)]
    rfl
   ·have hl0':l.length=0:=by omega
    have e:frm l (0+1)=8589934593:=by have:=jao (l:=l);rwa [hl0'] at this
    rw [e]
    rw [j00 (show ¬ ((0:Nat):Int)<(l.length:Int) by omega)]
    rfl
  | succ i=>
   have hil:i<l.length:=by omega
   have ht0:tof o l (i+1)=(l.getD i ((0:Int),(0:Int))).2:=rfl
   have hf0:frm l (i+1)=(l.getD i ((0:Int),(0:Int))).1:=jgD hil
   rw [show ((i+1:Nat):Int)-1=(i:Int) by omega,j01 (show (i:Int)≥0 by omega),j0Y (by omega) (by omega)]
   simp only [j5,j7,←ht0,←hf0]
   rw [j02 (x:=d*86400+c-tof o l (i+1)) (by omega) (by omega)]
   simp only [hmx]
   by_cases hl0:i+1<l.length
   ·have e:frm l (i+1+1)=(l.getD (i+1) ((0:Int),(0:Int))).1:=jgD hl0
    rw [j01 (show ((i+1:Nat):Int)<(l.length:Int) by omega),j0Y (by omega) (by omega)]
    simp only [j5,←e]
   ·have e:frm l (i+1+1)=8589934593:=by have:=jao (l:=l);rwa [show l.length+1=i+1+1 by omega] at this
    rw [j00 (show ¬ ((i+1:Nat):Int)<(l.length:Int) by omega),e]
    rfl
end
theorem jfN {z:j1l} {l:TrL} (h:Z4 z l) {d c:Int} (hd:1≤d) (hc:0≤c) (hc2:c≤86399) :
  j40 z (d,c)=some (match fO z.2.1 l (d*86400+c) with | some t=>(t,0) | none=>(0,10)):=by
 by_cases hb:d≤99422
 ·rcases jq8 z.2.1 l (d*86400+c) with ⟨t,k,f⟩ | hno
  ·have e:=jr6 h (d:=d) (c:=c) (by omega) hb hc hc2 f.hk f.hks f.bef
   rw [←f.ht] at e
   rw [fO_t f]
   exact e
  ·have:=jjE h.2 (nm:=z.1) (rs:=z.2.2) (show -1000000≤d by omega) (by omega) hc hc2 hno (l.length+1) 0 (by omega)
   rw [fO_n hno]
   simp only [j40,show j1f (z.1,(z.2.1,z.2.2))=_ from h.1,j3,jb,j6,jaz hc hc2,jc,jkP (show -2≤d by omega) hb]
   rw [j00 (show ¬ d < -2 by omega),j6,show j3Z (-1) z.1 z.2.1 z.2.2 d c l=_ from this]
   rfl
 ·rw [fO_n (jsZ h.2 (by omega))]
  simp only [j40,show j1f (z.1,(z.2.1,z.2.2))=_ from h.1,j3,jb,j6,jaz hc hc2,jc,jdO,jwz (show ¬ (-2≤d∧d≤99422) by omega)]
  rw [j00 (show ¬ d < -2 by omega)]
  rfl
structure Rt (L:j0L):Prop where
 d0:1≤L.2.2.1.1
 d1:L.2.2.1.1≤100000
 c0:0≤L.2.2.1.2
 c1:L.2.2.1.2≤86399
 u0:0≤L.2.2.2.1
 u1:L.2.2.2.1≤2
 e0:1≤L.2.2.2.2.1
 e1:L.2.2.2.2.1≤400
 m0:L.2.2.2.2.2.1≠[]
theorem Rt.step {L:j0L} (h:Rt L):1≤j3m L∧j3m L≤2800:=by
 have:=h.e0;have:=h.e1
 unfold j3m;split<;>omega
noncomputable def hO (o:Int) (l:TrL) (L:j0L) (k:Int):Option Int:=
 if L.2.2.2.1=0 then (fO o l (sLoc L 0)).bind fun t=>if t+3600*L.2.2.2.2.1*k≤8589934592 then some (t+3600*L.2.2.2.2.1*k) else none
 else fO o l (sLoc L k)
section
variable {o:Int} {l:TrL} (ht:TOk o l) {L:j0L} (h:Rt L)
include ht h
theorem jvE {k t:Int} (hk:0≤k) (he:hO o l L k=some t):0≤t∧t≤8589934592∧k≤2386092:=by
 have hs:=h.step
 have hd0:=h.d0;have he0:=h.e0;have hc0:=h.c0
 unfold hO at he
 by_cases h0:L.2.2.2.1=0
 ·rw [if_pos h0] at he
  cases hf:fO o l (sLoc L 0) with
  | none=>rw [hf] at he;simp at he
  | some v=>
   rw [hf] at he
   simp only [j3] at he
   have hv:=jr7 ht hf
   have hm:3600*k≤3600*L.2.2.2.2.1*k:=Int.mul_le_mul_of_nonneg_right (by omega) hk
   split at he
   ·simp at he;omega
   ·simp at he
 ·rw [if_neg h0] at he
  have hv:=jr7 ht he
  have hm:k*1≤k*j3m L:=Int.mul_le_mul_of_nonneg_left hs.1 hk
  unfold sLoc at hv
  omega
theorem juf {k t:Int} (he:hO o l L (k+1)=some t):∃ v,hO o l L k=some v∧v≤t:=by
 have hs:=h.step
 have he0:=h.e0
 unfold hO at he ⊢
 by_cases h0:L.2.2.2.1=0
 ·rw [if_pos h0] at he ⊢
  cases hf:fO o l (sLoc L 0) with
  | none=>rw [hf] at he;simp at he
  | some v=>
   rw [hf] at he
   simp only [j3] at he ⊢
   have hm:3600*L.2.2.2.2.1*(k+1)=3600*L.2.2.2.2.1*k+3600*L.2.2.2.2.1:=by rw [Int.mul_add,Int.mul_one]
   split at he
   ·rw [if_pos (by omega)]
    simp at he
    exact ⟨_,rfl,by omega⟩
   ·simp at he
 ·rw [if_neg h0] at he ⊢
  have hm:(k+1)*j3m L=k*j3m L+j3m L:=by rw [Int.add_mul,Int.one_mul]
  exact jvD ht (by unfold sLoc;rw [hm];omega) he
def QO (o:Int) (l:TrL) (L:j0L) (t k:Int):Prop:=∃ v,hO o l L k=some v∧v≤t
theorem QO.down {t:Int}:∀ (n:Nat) {k:Int},QO o l L t (k+n)→QO o l L t k
 | 0,k,hq=>by rwa [show k+((0:Nat):Int)=k by omega] at hq
 | n+1,k,hq=>by
  rw [show k+((n+1:Nat):Int)=k+(n:Int)+1 by omega] at hq
  obtain ⟨v,hv,hvt⟩:=hq
  obtain ⟨v',hv',hl⟩:=juf ht h (k:=k+(n:Int)) hv
  exact QO.down n ⟨v',hv',by omega⟩
theorem QO.le {t k j:Int} (hkj:k≤j) (hq:QO o l L t j):QO o l L t k:=by
 refine QO.down ht h (j-k).toNat ?_
 rwa [show k+(((j-k).toNat:Nat):Int)=j by omega]
def ShO (o:Int) (l:TrL) (L:j0L) (t K:Int):Prop:=(K = -1∧¬ QO o l L t 0)∨(0≤K∧QO o l L t K∧¬ QO o l L t (K+1))
theorem ShO.uniq {t K K':Int} (a:ShO o l L t K) (b:ShO o l L t K'):K=K':=by
 rcases a with ⟨a1,a2⟩ | ⟨a1,a2,a3⟩<;>rcases b with ⟨b1,b2⟩ | ⟨b1,b2,b3⟩
 ·omega
 ·exact absurd (QO.le ht h b1 b2) a2
 ·exact absurd (QO.le ht h a1 a2) b2
 ·rcases Int.lt_trichotomy K K' with hlt | heq | hgt
  ·exact absurd (QO.le ht h (by omega) b2) a3
  ·exact heq
  ·exact absurd (QO.le ht h (by omega) a2) b3
theorem QO.day {t k:Int} (h0:L.2.2.2.1≠0) (hq:QO o l L t k) {j:Nat} (hj:j≤l.length):L.2.2.1.1+k*j3m L≤(t+tof o l j)/86400+2:=by
 obtain ⟨v,hv,hvt⟩:=hq
 unfold hO at hv
 rw [if_neg h0] at hv
 have:=jr7 ht hv
 have o0:=ht.of0 j hj
 have hc0:=h.c0
 unfold sLoc at this
 omega
end
end Go.Proofs.Pw
