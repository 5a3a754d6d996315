/- Chapter 4: the transitions of a zone. -/
import Derived.Test.YtpbnnhakjhalaaaGreatELPA
open Go Go.Lft
namespace Go.Proofs.Pw
abbrev Rule:=Int×(Int×(Int×(Int×(Int×(Int×Int)))))
theorem in_t {n lo hi:Int} (h1:lo≤n) (h2:n≤hi):j8w n lo hi=some true:=by
 simp only [j8w]
 rw [j01 (show n≥lo from h1),j01 h2];rfl
structure ROk (r:Rule):Prop where
 y0:1970≤r.1
 y1:r.1≤r.2.1
 y2:r.2.1≤2240
 m0:1≤r.2.2.1
 m1:r.2.2.1≤12
 k0:1≤r.2.2.2.1
 k1:r.2.2.2.1≤5
 d0:0≤r.2.2.2.2.1
 d1:r.2.2.2.2.1≤6
 s0:0≤r.2.2.2.2.2.1
 s1:r.2.2.2.2.2.1≤86399
 o0 : -64800≤r.2.2.2.2.2.2
 o1:r.2.2.2.2.2.2≤64800
theorem js9 {r:Rule} (h:ROk r):jch r=some 0:=by
 simp only [jch,in_t h.y0 (show r.1≤2240 by have:=h.y1;have:=h.y2;omega),in_t h.y1 h.y2,in_t h.m0 h.m1,in_t h.k0 h.k1,in_t h.d0 h.d1,in_t h.s0 h.s1,in_t h.o0 h.o1,j3,jd,j6]
theorem jhC {y m k w:Int} (_h1:1970≤y) (_h2:y≤2240) (hm1:1≤m) (hm2:m≤12) (hk1:1≤k) (hk2:k≤5):num y m 1≤nth y m k w∧nth y m k w<num y m 1+dim y m∨nth y m k w<num y m 1+35∧num y m 1≤nth y m k w:=by
 right
 have hd:=jht y m hm1 hm2
 unfold nth
 dsimp only
 split<;>omega
def occ (r:Rule) (y:Int):Int×Int:=(nth y r.2.2.1 r.2.2.2.1 r.2.2.2.2.1*86400+r.2.2.2.2.2.1,r.2.2.2.2.2.2)
def occR (r:Rule):TrL:=(List.range (r.2.1-r.1+1).toNat).map fun (i:Nat)=>occ r (r.1+(i:Int))
def occs (l:List Rule):TrL:=l.flatMap occR
theorem jpC {r:Rule} (h:ROk r) {y:Int} (h1:1970≤y) (h2:y≤2240):0≤(occ r y).1∧(occ r y).1≤10000000000:=by
 have hv:=jcA (jaT y r.2.2.1 h1 h2 h.m0 h.m1)
 have hs0:=h.s0;have hs1:=h.s1
 have:=jhC (w:=r.2.2.2.2.1) h1 h2 h.m0 h.m1 h.k0 h.k1
 have hd:=j5M y r.2.2.1
 unfold occ
 dsimp only
 omega
theorem jsa {r:Rule} (h:ROk r):Sm (occR r):=by
 intro x hx
 obtain ⟨i,hi,rfl⟩:=kv.1 hx
 have hi:=List.mem_range.1 hi
 have h0:=h.y0;have h2:=h.y2
 have:=jpC h (y:=r.1+(i:Int)) (by omega) (by omega)
 omega
theorem jsb {l:List Rule} (h:∀ r∈l,ROk r):Sm (occs l):=by
 intro x hx
 obtain ⟨r,hr,hx⟩:=List.mem_flatMap.1 hx
 exact jsa (h r hr) x hx
theorem jrf {r:Rule} (h:ROk r) (rs:List Rule) (a b:Int):∀ (n:Nat) (i:Nat) (acc:TrL),r.1+(i:Int)+n=r.2.1+1→acc.length+n≤100000→
  j2K (r.1+(i:Int)) rs a b r.1 r.2.1 r.2.2.1 r.2.2.2.1 r.2.2.2.2.1 r.2.2.2.2.2.1 r.2.2.2.2.2.2 acc=some (rs,a,b,acc++(List.range n).map fun (j:Nat)=>occ r (r.1+(i:Int)+(j:Int)))
 | 0,i,acc,hi,_=>by
  rw [j7o]
  simp only [j0P]
  rw [j00 (by omega),j6,j0j]
  simp
 | n+1,i,acc,hi,hl=>by
  have h0:=h.y0;have h2:=h.y2;have hs0:=h.s0;have hs1:=h.s1
  have hv:=jcA (jaT (r.1+(i:Int)) r.2.2.1 (by omega) (by omega) h.m0 h.m1)
  have hn:=jhC (w:=r.2.2.2.2.1) (y:=r.1+(i:Int)) (by omega) (by omega) h.m0 h.m1 h.k0 h.k1
  have hd:=j5M (r.1+(i:Int)) r.2.2.1
  rw [j7o]
  simp only [j0P]
  rw [j01 (show r.1+(i:Int)≤r.2.1 by omega),jsY _ _ _ _ (by omega) (by omega) h.m0 h.m1 h.k0 h.k1 h.d0 h.d1]
  simp only [j5,j3]
  rw [j02 (x:=nth (r.1+(i:Int)) r.2.2.1 r.2.2.2.1 r.2.2.2.2.1*86400) (by omega) (by omega),j02 (x:=nth (r.1+(i:Int)) r.2.2.1 r.2.2.2.1 r.2.2.2.2.1*86400+r.2.2.2.2.2.1) (by omega) (by omega),
   j02 (x:=r.1+(i:Int)+1) (by omega) (by omega)]
  rw [j01 (by simp [j0m];omega)]
  simp only [j5,j0b]
  have ih:=jrf h rs a b n (i+1) (acc++[occ r (r.1+(i:Int))]) (by omega) (by simp;omega)
  rw [show r.1+(i:Int)+1=r.1+((i+1:Nat):Int) by omega]
  refine ih.trans ?_
  have hmap:(List.range n).map (fun (j:Nat)=>occ r (r.1+((i+1:Nat):Int)+(j:Int)))=(List.range n).map ((fun (j:Nat)=>occ r (r.1+(i:Int)+(j:Int))) ∘ Nat.succ):=List.map_congr_left fun j _=>by
   simp only [Function.comp]
   congr 1
   omega
  rw [List.range_succ_eq_map,ku,List.map_map,hmap]
  simp
theorem jrg {rs:List Rule} (h:∀ r∈rs,ROk r) (hlen:rs.length≤100):∀ (n i:Nat) (acc:TrL),i+n=rs.length→acc.length≤300*i→
  j27 rs (rs.length:Int) (i:Int) acc=some (acc++occs (rs.drop i))
 | 0,i,acc,hi,_=>by
  rw [j7p]
  simp only [j0Q]
  rw [j00 (by omega),j6,j0j,jg (by omega)]
  simp [occs]
 | n+1,i,acc,hi,hl=>by
  have hlt:i<rs.length:=by omega
  have hr:=h rs[i] (jf hlt)
  have h0:=hr.y0;have h1:=hr.y1;have h2:=hr.y2
  have hg:rs.getD i ((0:Int),((0:Int),((0:Int),((0:Int),((0:Int),((0:Int),(0:Int)))))))=rs[i]:=by simp [hlt]
  have hl4:=jrf hr rs (rs.length:Int) (i:Int) (rs[i].2.1-rs[i].1+1).toNat 0 acc (by omega) (by omega)
  rw [show rs[i].1+((0:Nat):Int)=rs[i].1 by omega] at hl4
  have ih:=jrg h hlen n (i+1) (acc++occR rs[i]) (by omega) (by simp [occR];omega)
  rw [j7p]
  simp only [j0Q]
  rw [j01 (show (i:Int)<(rs.length:Int) by omega),j1M (by omega) (by omega)]
  simp only [j5,j7,hg,hl4,j3]
  rw [j02 (by omega) (by omega),j0b,jq hlt]
  refine ih.trans ?_
  rw [jm]
  rfl
theorem jrh {rs:List Rule} (h:∀ r∈rs,ROk r) (hlen:rs.length≤100) (nm:ByteArray) (o:Int):∀ (n i:Nat) (s:Int),i+n=rs.length→0≤s→s≤300*i→
  j26 s rs (rs.length:Int) (i:Int) nm o rs=some (.inr (s+((occs (rs.drop i)).length:Int),nm,o,rs))
 | 0,i,s,hi,_,_=>by
  rw [j7n]
  simp only [j2d]
  rw [j00 (by omega),j6,j0j,jg (by omega)]
  simp [occs]
 | n+1,i,s,hi,hs0,hs1=>by
  have hlt:i<rs.length:=by omega
  have hr:=h rs[i] (jf hlt)
  have h0:=hr.y0;have h1:=hr.y1;have h2:=hr.y2
  have hg:rs.getD i ((0:Int),((0:Int),((0:Int),((0:Int),((0:Int),((0:Int),(0:Int)))))))=rs[i]:=by simp [hlt]
  have ih:=jrh h hlen nm o n (i+1) (s+(rs[i].2.1-rs[i].1+1)) (by omega) (by omega) (by omega)
  have hrule:jch (rs[i].1,(rs[i].2.1,(rs[i].2.2.1,(rs[i].2.2.2.1,(rs[i].2.2.2.2.1,(rs[i].2.2.2.2.2.1,rs[i].2.2.2.2.2.2))))))=some 0:=js9 hr
  rw [j7n]
  simp only [j2d]
  rw [j01 (show (i:Int)<(rs.length:Int) by omega),j1M (by omega) (by omega)]
  simp only [j5,j7,hg,hrule,j3,jb,j6]
  rw [j02 (x:=rs[i].2.1-rs[i].1) (by omega) (by omega),j02 (x:=rs[i].2.1-rs[i].1+1) (by omega) (by omega),j02 (x:=s+(rs[i].2.1-rs[i].1+1)) (by omega) (by omega),j02 (x:=(i:Int)+1) (by omega) (by omega),j0b]
  refine ih.trans ?_
  rw [jq hlt]
  have:((occs (rs[i]::rs.drop (i+1))).length:Int)=(rs[i].2.1-rs[i].1+1)+((occs (rs.drop (i+1))).length:Int):=by
   have e1:(occR rs[i]).length=(rs[i].2.1-rs[i].1+1).toNat:=by simp [occR]
   show ((occR rs[i]++occs (rs.drop (i+1))).length:Int)=_
   rw [ji,e1];omega
  rw [this]
  congr 3;omega
theorem ji8 {nm:ByteArray} {o:Int} {rs:List Rule} (h:∀ r∈rs,ROk r) (ho0 : -64800≤o) (ho1:o≤64800) (hlen:rs.length≤16) (hn:(occs rs).length<20):j34 (nm,(o,rs))=some (j60 (occs rs),0):=by
 have e0:=jrh h (by omega) nm o rs.length 0 0 (by omega) (by omega) (by omega)
 have e2:=jrg h (by omega) rs.length 0 [] (by omega) (by simp)
 rw [qp] at e0 e2
 simp only [j34,in_t ho0 ho1,j3,jd,j6,show Int.ofNat (List.length rs)=(rs.length:Int) from rfl]
 rw [j00 (show ¬ (rs.length:Int)>16 by omega),j6,show j26 0 rs (rs.length:Int) 0 nm o rs=_ from e0]
 simp only [j3,j3x]
 rw [j00 (by omega),j6,show Int.ofNat (List.length rs)=(rs.length:Int) from rfl,show j27 rs (rs.length:Int) 0 []=_ from e2]
 simp only [j3,jw,jjK (jsb h) hn]
def outT (now:Int):TrL→TrL
 | []=>[]
 | x::r=>if x.2=now then outT now r else (x.1-now,x.2)::outT x.2 r
def Good (now:Int) (p:Option Int):TrL→Prop
 | []=>True
 | x::r=>if x.2=now then Good now p r else (-86400<x.2-now∧x.2-now<86400∧1000000<x.1-now∧x.1-now≤8589000000∧(∀ q,p=some q→q+604800≤x.1-now) ∧ -64800≤x.2∧x.2≤64800)∧Good x.2 (some (x.1-now)) r
theorem jjX (L:TrL) (hL:L.length≤1000):∀ (n i:Nat) (now:Int) (acc:TrL),i+n=L.length → -64800≤now→now≤64800→acc.length≤i→(∀ x∈acc,0≤x.1∧x.1≤8589934592)→Good now (acc.getLast?.map (·.1)) (L.drop i)→
  j28 now (L.length:Int) (i:Int) acc L=some (.inr (acc++outT now (L.drop i)))
 | 0,i,now,acc,hi,_,_,_,_,_=>by
  rw [j7q]
  simp only [j2e]
  rw [j00 (by omega),j6,j0j,jg (by omega)]
  simp [outT]
 | n+1,i,now,acc,hi,hn0,hn1,hal,hacc,hg=>by
  have hlt:i<L.length:=by omega
  rw [jq hlt] at hg ⊢
  have hgd:L.getD i ((0:Int),(0:Int))=L[i]:=by simp [hlt]
  rw [j7q]
  simp only [j2e]
  rw [j01 (show (i:Int)<(L.length:Int) by omega),j1M (by omega) (by omega)]
  simp only [j5,j7,hgd]
  generalize L[i]=x at *
  rw [j02 (x:=(i:Int)+1) (by omega) (by omega)]
  simp only [Good] at hg
  by_cases hx:x.2=now
  ·rw [if_pos hx] at hg
   rw [j9D hx]
   simp only [j5,j0b,outT]
   rw [if_pos hx]
   exact jjX L hL n (i+1) now acc (by omega) hn0 hn1 (by omega) hacc hg
  ·rw [if_neg hx] at hg
   obtain ⟨⟨g1,g2,g3,g4,g5,g6,g7⟩,g8⟩:=hg
   rw [j4u hx,j02 (x:=x.1-now) (by omega) (by omega),j02 (x:=x.2-now) (by omega) (by omega),j00 (show ¬ x.2-now≥86400 by omega),j00 (show ¬ x.2-now ≤ -86400 by omega)]
   simp only [j6,in_t (show (0:Int)≤x.1-now by omega) (show x.1-now≤8589934592 by omega),j3,jd,kn,Bool.true_and,show Int.ofNat (List.length acc)=(acc.length:Int) from rfl]
   rw [j02 (x:=(acc.length:Int)-1) (by omega) (by omega)]
   have hnext:=jjX L hL n (i+1) x.2 (acc++[(x.1-now,x.2)]) (by omega) g6 g7 (by simp;omega)
    (fun y hy=>by
     rcases jp.1 hy with hy | hy
     ·exact hacc y hy
     ·simp at hy;subst hy;exact ⟨by show (0:Int)≤x.1-now;omega,by show x.1-now≤8589934592;omega⟩) (by simpa using g8)
   have hout:outT now (x::L.drop (i+1))=(x.1-now,x.2)::outT x.2 (L.drop (i+1)):=by simp [outT,hx]
   rw [hout]
   rw [jm] at hnext
   by_cases ha:acc=[]
   ·subst ha
    simp only [kp]
    rw [show inR (((0:Nat):Int)-1) 0=false from rfl,show decide (((0:Nat):Int)>0)=false from rfl]
    simp only [kn,j5,j6,Bool.or_true]
    rw [j01 (by simp [j0m])]
    simp only [j5,j0b]
    exact hnext
   ·have hpos:0<acc.length:=List.length_pos_iff.2 ha
    have hlast:acc.getLast? = some (acc.getD (acc.length-1) (0,0)):=by
     rw [List.getLast?_eq_getElem?,List.getD_eq_getElem?_getD,jo (show acc.length-1<acc.length by omega)];rfl
    rw [hlast] at g5
    have g5:(acc.getD (acc.length-1) ((0:Int),(0:Int))).1+604800≤x.1-now:=g5 _ rfl
    have hb:=hacc (acc.getD (acc.length-1) (0,0)) (List.mem_of_getLast? hlast)
    rw [j1M (by omega) (by omega),j01 (show (acc.length:Int)>0 by omega),show ((acc.length:Int)-1).toNat=acc.length-1 by omega]
    simp only [Bool.true_or,j5]
    rw [j02 (by omega) (by omega),j00 (show ¬ x.1-now<(acc.getD (acc.length-1) ((0:Int),(0:Int))).1+604800 by omega),j01 (by simp [j0m];omega)]
    simp only [j5,j6,j0b]
    exact hnext
def Chn (p:Option Int):TrL→Prop
 | []=>True
 | x::r=>(1000000<x.1∧x.1≤8589000000∧(∀ q,p=some q→q+604800≤x.1) ∧ -64800≤x.2∧x.2≤64800)∧Chn (some x.1) r
theorem jmm:∀ (L:TrL) (now:Int) (p:Option Int),Good now p L→Chn p (outT now L)
 | [],_,_,_=>trivial
 | x::r,now,p,h=>by
  simp only [Good] at h
  by_cases hx:x.2=now
  ·rw [if_pos hx] at h
   simp only [outT];rw [if_pos hx]
   exact jmm r now p h
  ·rw [if_neg hx] at h
   simp only [outT];rw [if_neg hx]
   obtain ⟨⟨g1,g2,g3,g4,g5,g6,g7⟩,g8⟩:=h
   exact ⟨⟨g3,g4,g5,g6,g7⟩,jmm r x.2 _ g8⟩
theorem jmn:∀ (L:TrL) (now:Int),(outT now L).length≤L.length
 | [],_=>ju _
 | x::r,now=>by
  simp only [outT]
  split
  ·have:=jmn r now;simp;omega
  ·have:=jmn r x.2;simp;omega
theorem jpD:∀ (l:TrL) (p:Option Int),Chn p l→(∀ i,i+1<l.length→tat l i+604800≤tat l (i+1))∧(∀ i,i<l.length→1000000<tat l i∧tat l i≤8589000000)∧
  (∀ o i, -64800≤o→o≤64800→i≤l.length → -64800≤tof o l i∧tof o l i≤64800)
 | [],_,_=>⟨fun i h=>by simp at h,fun i h=>by simp at h,fun o i h1 h2 h3=>by
  have:i=0:=by simpa using h3
  subst this;exact ⟨h1,h2⟩⟩
 | x::r,p,h=>by
  obtain ⟨⟨g3,g4,g5,g6,g7⟩,g8⟩:=h
  obtain ⟨h1,h2,h3⟩:=jpD r _ g8
  refine ⟨fun i hi=> ?_,fun i hi=> ?_,fun o i ho0 ho1 hi=> ?_⟩
  ·cases i with
   | zero=>
    cases r with
    | nil=>simp at hi
    | cons y ys=>
     have:=g8.1.2.2.1 _ rfl
     exact this
   | succ i=>exact h1 i (by simp at hi ⊢;omega)
  ·cases i with
   | zero=>exact ⟨g3,g4⟩
   | succ i=>exact h2 i (by simp at hi ⊢;omega)
  ·cases i with
   | zero=>exact ⟨ho0,ho1⟩
   | succ i=>
    cases i with
    | zero=>exact ⟨g6,g7⟩
    | succ i=>exact h3 x.2 (i+1) g6 g7 (by simp at hi ⊢;omega)
theorem jsc {o:Int} {l:TrL} (h:Chn none l) (hl:l.length≤1000) (h0 : -64800≤o) (h1:o≤64800):TOk o l:=by
 obtain ⟨a,b,c⟩:=jpD l none h
 exact ⟨hl,a,fun i hi=>(b i hi).1,fun i hi=>(b i hi).2,fun i hi=>(c o i h0 h1 hi).1,fun i hi=>(c o i h0 h1 hi).2⟩
def ZTab (z:ByteArray×(Int×List Rule)) (l:TrL):Prop:=j1L z=some (l,0)∧TOk z.2.1 l
theorem jsd {nm:ByteArray} {o:Int} {rs:List Rule} (h:∀ r∈rs,ROk r) (ho0 : -64800≤o) (ho1:o≤64800) (hlen:rs.length≤16) (hn:(occs rs).length<20) (hg:Good o none (j60 (occs rs))):ZTab (nm,(o,rs)) (outT o (j60 (occs rs))):=by
 have hl:(j60 (occs rs)).length≤1000:=by simp [j60,ja9];omega
 refine ⟨?_,jsc (jmm _ _ _ hg) (by have:=jmn (j60 (occs rs)) o;omega) ho0 ho1⟩
 have:=jjX (j60 (occs rs)) hl (j60 (occs rs)).length 0 o [] (by omega) ho0 ho1 (by simp) (by simp) hg
 simp only [j1L,ji8 h ho0 ho1 hlen hn,j3,jb,j6,show Int.ofNat (List.length (j60 (occs rs)))=((j60 (occs rs)).length:Int) from rfl]
 rw [qp] at this
 rw [show j28 o ((j60 (occs rs)).length:Int) 0 [] (j60 (occs rs))=_ from this]
 rfl
theorem jtG {z:ByteArray×(Int×List Rule)} {l:TrL} (h:ZTab z l):jcm z=some ((z.2.1,l),0):=by
 simp only [jcm,show j1L (z.1,(z.2.1,z.2.2))=_ from h.1,j3]
theorem jri {y m k w:Int} (hm1:1≤m) (hm2:m≤12) (hk1:2≤k) (hk2:k≤5):num y m 1+7≤nth y m k w∧nth y m k w≤num y m 1+34:=by
 have hd:=jht y m hm1 hm2
 unfold nth
 dsimp only
 split<;>omega
theorem jpE {y m k w:Int} (hm1:1≤m) (hm2:m≤12) (hk1:1≤k) (hk2:k≤4):num y m 1≤nth y m k w∧nth y m k w≤num y m 1+27:=by
 have hd:=jht y m hm1 hm2
 unfold nth
 dsimp only
 split<;>omega
theorem jrj {a b:Int×Int} (h:a.1<b.1):j60 [a,b]=[a,b]:=by
 simp [j60,j32,j7w,show ¬ b.1<a.1 by omega]
theorem jrk {a b c d:Int×Int} (h1:a.1<c.1) (h2:c.1<b.1) (h3:b.1<d.1):j60 [a,b,c,d]=[a,c,b,d]:=by
 simp [j60,j32,j7w,show ¬ b.1<a.1 by omega,h2,show ¬ c.1<a.1 by omega,show ¬ d.1<b.1 by omega]
theorem jn6 (r1 r2:Rule) (h1:r1.1=2025) (h2:r1.2.1=2025) (h3:r2.1=2025) (h4:r2.2.1=2025):occs [r1,r2]=[occ r1 2025,occ r2 2025]:=by
 simp [occs,occR,h1,h2,h3,h4]
theorem jn7 (r1 r2:Rule) (h1:r1.1=2025) (h2:r1.2.1=2026) (h3:r2.1=2025) (h4:r2.2.1=2026):occs [r1,r2]=[occ r1 2025,occ r1 2026,occ r2 2025,occ r2 2026]:=by
 simp [occs,occR,h1,h2,h3,h4,List.range_succ]
theorem j61 {now:Int} {p:Option Int} {x:Int×Int} {r:TrL} (hx:x.2≠now) (h : -86400<x.2-now∧x.2-now<86400∧1000000<x.1-now∧x.1-now≤8589000000 ∧ -64800≤x.2∧x.2≤64800)
  (hp:∀ q,p=some q→q+604800≤x.1-now) (hr:Good x.2 (some (x.1-now)) r):Good now p (x::r):=by
 simp only [Good]
 rw [if_neg hx]
 exact ⟨⟨h.1,h.2.1,h.2.2.1,h.2.2.2.1,hp,h.2.2.2.2.1,h.2.2.2.2.2⟩,hr⟩
theorem jpF {now:Int} {p:Option Int} {x:Int×Int} {r:TrL} (hx:x.2=now) (hr:Good now p r):Good now p (x::r):=by
 simp only [Good]
 rw [if_pos hx]
 exact hr
theorem jhD {P:Int→Prop}:∀ q,(none:Option Int)=some q→P q:=fun _ h=>by simp at h
theorem jaa {P:Int→Prop} {a:Int} (h:P a):∀ q,some a=some q→P q:=fun q hq=>by simp at hq;subst hq;exact h
theorem n251:num 2025 1 1=20089:=by decide
theorem n261:num 2026 1 1=20454:=by decide
theorem n252:num 2025 2 1=20120:=by decide
theorem n253:num 2025 3 1=20148:=by decide
theorem n262:num 2026 2 1=20485:=by decide
theorem n263:num 2026 3 1=20513:=by decide
structure MZ (o:Int) (rs:List Rule):Prop where
 o0 : -43200≤o
 o1:o≤45000
 ok:∀ r∈rs,ROk r
 len:rs.length≤2
 few:(occs rs).length≤4
 good:Good o none (j60 (occs rs))
theorem MZ.tab {o:Int} {rs:List Rule} (h:MZ o rs) (nm:ByteArray):ZTab (nm,(o,rs)) (outT o (j60 (occs rs))):=
 jsd h.ok (by have:=h.o0;omega) (by have:=h.o1;omega) (by have:=h.len;omega) (by have:=h.few;omega) h.good
theorem mz0 {o:Int} (h0 : -43200≤o) (h1:o≤45000):MZ o []:=⟨h0,h1,by simp,by simp,by decide,trivial⟩
theorem ok2 {r1 r2:Rule} (h1:ROk r1) (h2:ROk r2):∀ r∈[r1,r2],ROk r:=by
 intro r hr
 simp at hr
 rcases hr with rfl | rfl
 ·exact h1
 ·exact h2
theorem mz1 {o last:Int} (h0 : -43200≤o) (h1:o≤45000) (hl:last=2025∨last=2026):MZ o [(2025,(last,(3,(5,(6,(7200,o+3600)))))),(2025,(last,(10,(5,(6,(10800,o))))))]:=by
 have a1:nth 2025 3 5 6=20177:=by decide
 have a2:nth 2025 10 5 6=20387:=by decide
 have a3:nth 2026 3 5 6=20541:=by decide
 have a4:nth 2026 10 5 6=20751:=by decide
 have hok:=ok2 (r1:=(2025,(last,(3,(5,(6,(7200,o+3600))))))) (r2:=(2025,(last,(10,(5,(6,(10800,o))))))) (by constructor<;>(dsimp only;omega)) (by constructor<;>(dsimp only;omega))
 rcases hl with rfl | rfl
 ·have e:=jn6 (2025,(2025,(3,(5,(6,(7200,o+3600)))))) (2025,(2025,(10,(5,(6,(10800,o)))))) rfl rfl rfl rfl
  refine ⟨h0,h1,hok,by simp,by rw [e];simp,?_⟩
  rw [e,jrj (by simp only [occ];omega)]
  refine j61 (by simp only [occ];omega) (by simp only [occ];omega) jhD (j61 (by simp only [occ];omega) (by simp only [occ];omega) (jaa (by simp only [occ];omega)) trivial)
 ·have e:=jn7 (2025,(2026,(3,(5,(6,(7200,o+3600)))))) (2025,(2026,(10,(5,(6,(10800,o)))))) rfl rfl rfl rfl
  refine ⟨h0,h1,hok,by simp,by rw [e];simp,?_⟩
  rw [e,jrk (by simp only [occ];omega) (by simp only [occ];omega) (by simp only [occ];omega)]
  refine j61 (by simp only [occ];omega) (by simp only [occ];omega) jhD (j61 (by simp only [occ];omega) (by simp only [occ];omega) (jaa (by simp only [occ];omega))
   (j61 (by simp only [occ];omega) (by simp only [occ];omega) (jaa (by simp only [occ];omega)) (j61 (by simp only [occ];omega) (by simp only [occ];omega) (jaa (by simp only [occ];omega)) trivial)))
theorem mz2 {o last k1 w1 s1 c m2 k2 w2 s2:Int} (h0 : -43200≤o) (h1:o≤45000) (hl:last=2025∨last=2026) (hk:1≤k1) (hk':k1≤4) (hw:0≤w1) (hw':w1≤6) (hs:0≤s1) (hs':s1≤82800) (hc:1800≤c) (hc':c≤14400)
  (hm:m2=2∨m2=3) (hj:2≤k2) (hj':k2≤5) (hx:0≤w2) (hx':w2≤6) (ht:0≤s2) (ht':s2≤82800):MZ o [(2025,(last,(1,(k1,(w1,(s1,o+c)))))),(2025,(last,(m2,(k2,(w2,(s2,o))))))]:=by
 have hok:=ok2 (r1:=(2025,(last,(1,(k1,(w1,(s1,o+c))))))) (r2:=(2025,(last,(m2,(k2,(w2,(s2,o))))))) (by constructor<;>(dsimp only;omega)) (by constructor<;>(dsimp only;omega))
 have b1:=jpE (y:=2025) (m:=1) (k:=k1) (w:=w1) (by omega) (by omega) hk hk'
 have b2:=jpE (y:=2026) (m:=1) (k:=k1) (w:=w1) (by omega) (by omega) hk hk'
 have b3:=jri (y:=2025) (m:=m2) (k:=k2) (w:=w2) (by omega) (by omega) hj hj'
 have b4:=jri (y:=2026) (m:=m2) (k:=k2) (w:=w2) (by omega) (by omega) hj hj'
 have c1:20120≤num 2025 m2 1∧num 2025 m2 1≤20148:=by rcases hm with rfl | rfl<;>simp [n252,n253]
 have c2:20485≤num 2026 m2 1∧num 2026 m2 1≤20513:=by rcases hm with rfl | rfl<;>simp [n262,n263]
 rw [n251] at b1
 rw [n261] at b2
 rcases hl with rfl | rfl
 ·have e:=jn6 (2025,(2025,(1,(k1,(w1,(s1,o+c)))))) (2025,(2025,(m2,(k2,(w2,(s2,o)))))) rfl rfl rfl rfl
  refine ⟨h0,h1,hok,by simp,by rw [e];simp,?_⟩
  rw [e,jrj (by simp only [occ];omega)]
  refine j61 (by simp only [occ];omega) (by simp only [occ];omega) jhD (j61 (by simp only [occ];omega) (by simp only [occ];omega) (jaa (by simp only [occ];omega)) trivial)
 ·have e:=jn7 (2025,(2026,(1,(k1,(w1,(s1,o+c)))))) (2025,(2026,(m2,(k2,(w2,(s2,o)))))) rfl rfl rfl rfl
  refine ⟨h0,h1,hok,by simp,by rw [e];simp,?_⟩
  rw [e,jrk (by simp only [occ];omega) (by simp only [occ];omega) (by simp only [occ];omega)]
  refine j61 (by simp only [occ];omega) (by simp only [occ];omega) jhD (j61 (by simp only [occ];omega) (by simp only [occ];omega) (jaa (by simp only [occ];omega))
   (j61 (by simp only [occ];omega) (by simp only [occ];omega) (jaa (by simp only [occ];omega)) (j61 (by simp only [occ];omega) (by simp only [occ];omega) (jaa (by simp only [occ];omega)) trivial)))
theorem mz3 {o w s x:Int} (h0 : -43200≤o) (h1:o≤45000) (hw:0≤w) (hw':w≤6) (hs:0≤s) (hs':s≤84600) (hx0 : -64800≤x) (hx1:x≤64800) (hc0 : -86400<x-o) (hc1:x-o<86400):MZ o [(2026,(2026,(1,(2,(w,(s,x))))))]:=by
 have b:=jpE (y:=2026) (m:=1) (k:=2) (w:=w) (by omega) (by omega) (by omega) (by omega)
 rw [n261] at b
 have e:occs [((2026:Int),((2026:Int),((1:Int),((2:Int),(w,(s,x))))))]=[occ (2026,(2026,(1,(2,(w,(s,x)))))) 2026]:=by simp [occs,occR]
 refine ⟨h0,h1,fun r hr=> ?_,by simp,by rw [e];simp,?_⟩
 ·simp at hr;subst hr
  constructor<;>(dsimp only;omega)
 ·rw [e]
  have hi:j60 [occ (2026,(2026,(1,(2,(w,(s,x)))))) 2026]=[occ (2026,(2026,(1,(2,(w,(s,x)))))) 2026]:=by simp [j60,j32,j7w]
  rw [hi]
  by_cases hxo:x=o
  ·exact jpF hxo trivial
  ·exact j61 hxo (by simp only [occ];omega) jhD trivial
theorem jse {L:List Int} {a:Int} (h:DOk L a) (nm:ByteArray):∃ o rs a',j3n L a nm=some ((nm,(o,rs)),L,a')∧MZ o rs∧DOk L a':=by
 obtain ⟨p,a1,e1,m1,d1⟩:=j6E h (xs:=[(0:Int),(4:Int),(-20:Int),(22:Int),(48:Int),(-47:Int)]) (by simp) (by simp)
 obtain ⟨x2,a2,e2,x20,x21,d2⟩:=j0I (n:=2) d1 (by omega) (by omega)
 obtain ⟨x3,a3,e3,x30,x31,d3⟩:=j0I (n:=3) d2 (by omega) (by omega)
 obtain ⟨y,a4,e4,y0,y1,d4⟩:=j0I (n:=2) d3 (by omega) (by omega)
 obtain ⟨q,a5,e5,q0,q1,d5⟩:=j0I (n:=4) d4 (by omega) (by omega)
 have hp : -47≤p∧p≤48:=by simp at m1;omega
 have hmul:0≤x2*x3∧x2*x3≤2:=by
  obtain rfl | rfl:x2=0∨x2=1:=by omega
  all_goals omega
 have ho0 : -43200≤900*(p+x2*x3):=by omega
 have ho1:900*(p+x2*x3)≤45000:=by omega
 have hlast:2025+y=2025∨2025+y=2026:=by omega
 simp only [j3n,e1,e2,e3,e4,e5,j3]
 rw [j02 (x:=x2*x3) (by omega) (by omega),j02 (x:=p+x2*x3) (by omega) (by omega),j02 (x:=900*(p+x2*x3)) (by omega) (by omega),j02 (x:=2025+y) (by omega) (by omega)]
 generalize 900*(p+x2*x3)=o at *
 generalize 2025+y=last at *
 by_cases hq1:q=1
 ·rw [j9D hq1,j5,j02 (x:=o+3600) (by omega) (by omega)]
  exact ⟨_,_,_,rfl,mz1 ho0 ho1 hlast,d5⟩
 ·rw [j4u hq1,j6]
  by_cases hq2:q=2
  ·rw [j9D hq2,j5]
   obtain ⟨b1,c1,f1,b10,b11,g1⟩:=j0I (n:=4) d5 (by omega) (by omega)
   obtain ⟨b2,c2,f2,b20,b21,g2⟩:=j0I (n:=7) g1 (by omega) (by omega)
   obtain ⟨b3,c3,f3,b30,b31,g3⟩:=j0I (n:=24) g2 (by omega) (by omega)
   obtain ⟨b4,c4,f4,b40,b41,g4⟩:=j0I (n:=8) g3 (by omega) (by omega)
   obtain ⟨b5,c5,f5,b50,b51,g5⟩:=j0I (n:=2) g4 (by omega) (by omega)
   obtain ⟨b6,c6,f6,m6,g6⟩:=j6E g5 (xs:=[(2:Int),(3:Int),(5:Int)]) (by simp) (by simp)
   obtain ⟨b7,c7,f7,b70,b71,g7⟩:=j0I (n:=7) g6 (by omega) (by omega)
   obtain ⟨b8,c8,f8,b80,b81,g8⟩:=j0I (n:=24) g7 (by omega) (by omega)
   have h6:2≤b6∧b6≤5:=by simp at m6;omega
   simp only [f1,f2,f3,f4,f5,f6,f7,f8,j3]
   rw [j02 (x:=1+b1) (by omega) (by omega),j02 (x:=3600*b3) (by omega) (by omega),j02 (x:=1+b4) (by omega) (by omega),j02 (x:=1800*(1+b4)) (by omega) (by omega),j02 (x:=o+1800*(1+b4)) (by omega) (by omega),
    j02 (x:=2+b5) (by omega) (by omega),j02 (x:=3600*b8) (by omega) (by omega)]
   exact ⟨_,_,_,rfl,mz2 ho0 ho1 hlast (by omega) (by omega) b20 (by omega) (by omega) (by omega) (by omega) (by omega) (by omega) h6.1 h6.2 b70 (by omega) (by omega) (by omega),g8⟩
  ·rw [j4u hq2,j6]
   by_cases hq3:q=3
   ·rw [j9D hq3,j5]
    obtain ⟨b1,c1,f1,m1,g1⟩:=j6E d5 (xs:=[(3600:Int),(-3600:Int),(82800:Int),(-82800:Int),(43200:Int)]) (by simp) (by simp)
    obtain ⟨b2,c2,f2,b20,b21,g2⟩:=j0I (n:=7) g1 (by omega) (by omega)
    obtain ⟨b3,c3,f3,b30,b31,g3⟩:=j0I (n:=48) g2 (by omega) (by omega)
    have hb1 : -82800≤b1∧b1≤82800:=by simp at m1;omega
    simp only [f1,f2,f3,j3]
    rw [j02 (x:=o+b1) (by omega) (by omega),j02 (x:=1800*b3) (by omega) (by omega)]
    by_cases hbig:o+b1>64800∨o+b1 < -64800
    ·have hb:cond (decide (o+b1>64800)) true (decide (o+b1 < -64800))=true:=by
      rcases hbig with hbig | hbig
      ·rw [j01 hbig];rfl
      ·rw [j01 hbig];cases decide (o+b1>64800)<;>rfl
     rw [hb,j5]
     exact ⟨_,_,_,rfl,mz3 ho0 ho1 b20 (by omega) (by omega) (by omega) (by omega) (by omega) (by omega) (by omega),g3⟩
    ·rw [j00 (show ¬ o+b1>64800 by omega),j00 (show ¬ o+b1 < -64800 by omega)]
     simp only [j6]
     exact ⟨_,_,_,rfl,mz3 ho0 ho1 b20 (by omega) (by omega) (by omega) (by omega) (by omega) (by omega) (by omega),g3⟩
   ·rw [j4u hq3,j6]
    exact ⟨_,_,_,rfl,mz0 ho0 ho1,d5⟩
section
variable {o:Int} {l:TrL} (h:TOk o l)
include h
end
abbrev WL:=List (Int×Int)
def WOk (p:Int):WL→Prop
 | []=>p≤604800
 | x::r=>p≤x.1∧x.1<x.2∧x.2≤604800∧WOk x.2 r
def hasB (s:Int):WL→Bool
 | []=>false
 | x::r=>cond (cond (decide (x.1≤s)) (decide (s<x.2)) false) true (hasB s r)
theorem WOk.weak {p q:Int} (hq:q≤p):∀ {w:WL},WOk p w→WOk q w
 | [],h=>by show q≤604800;have:p≤604800:=h;omega
 | _::_,h=>⟨by have:=h.1;omega,h.2⟩
theorem jpG:∀ {w:WL} {p:Int},WOk p w→∀ i,i<w.length→p≤(w.getD i (0,0)).1∧(w.getD i (0,0)).1<(w.getD i (0,0)).2∧(w.getD i (0,0)).2≤604800
 | [],_,_,i,hi=>by simp at hi
 | x::r,p,h,i,hi=>by
  obtain ⟨h1,h2,h3,h4⟩:=h
  cases i with
  | zero=>exact ⟨h1,h2,h3⟩
  | succ i=>exact jpG (h4.weak (show p≤x.2 by omega)) i (by simpa using hi)
theorem jpH:∀ {w:WL} {p:Int},WOk p w→∀ i,i+1<w.length→(w.getD i (0,0)).2≤(w.getD (i+1) (0,0)).1
 | [],_,_,i,hi=>by simp at hi
 | x::[],_,_,i,hi=>by simp at hi
 | x::y::r,p,h,i,hi=>by
  cases i with
  | zero=>exact h.2.2.2.1
  | succ i=>exact jpH h.2.2.2 i (by simpa using hi)
theorem jiJ {L:List Int}:∀ (n:Nat) (p a:Int) (acc:WL),DOk L a→0≤p→p≤604800→acc.length+n≤100→
  ∃ w a',j4d p (n:Int) L a acc=some (L,a',acc++w)∧WOk p w∧w.length≤n∧DOk L a'
 | 0,p,a,acc,hd,_,hp,_=>by
  rw [j6X]
  simp only [j21]
  rw [j00 (by omega),j6,j0j]
  exact ⟨[],a,by simp,hp,by simp,hd⟩
 | n+1,p,a,acc,hd,hp0,hp,ha=>by
  obtain ⟨x,a1,e1,x0,x1,d1⟩:=j0I (n:=30) hd (by omega) (by omega)
  obtain ⟨y,a2,e2,y0,y1,d2⟩:=j0I (n:=2) d1 (by omega) (by omega)
  obtain ⟨q,a3,e3,m3,d3⟩:=j6E d2 (xs:=[(3600:Int),(28800:Int),(43200:Int),(86400:Int),(61:Int),(1:Int)]) (by simp) (by simp)
  have hq:1≤q∧q≤86400:=by simp at m3;omega
  rw [j6X]
  simp only [j21]
  rw [j01 (by omega)]
  simp only [j5,e1,e2,e3,j3]
  rw [j02 (x:=3600*x) (by omega) (by omega),j02 (x:=p+3600*x) (by omega) (by omega),j02 (x:=60*y) (by omega) (by omega),j02 (x:=p+3600*x+60*y) (by omega) (by omega),j02 (x:=p+3600*x+60*y+q) (by omega) (by omega),j02 (x:=((n+1:Nat):Int)-1) (by omega) (by omega)]
  by_cases hbig:p+3600*x+60*y+q>604800
  ·rw [j01 hbig,j5,j0j]
   exact ⟨[],a3,by simp,hp,by simp,d3⟩
  ·rw [j00 hbig,j01 (by simp [j0m];omega)]
   simp only [j6,j5,j0b]
   obtain ⟨w,a4,e4,hw,hwl,d4⟩:=jiJ n (p+3600*x+60*y+q) a3 (acc++[(p+3600*x+60*y,p+3600*x+60*y+q)]) d3 (by omega) (by omega) (by simp;omega)
   rw [show ((n+1:Nat):Int)-1=(n:Int) by omega]
   refine ⟨(p+3600*x+60*y,p+3600*x+60*y+q)::w,a4,by rw [e4,jm];rfl,⟨by dsimp only;omega,by dsimp only;omega,by dsimp only;omega,hw⟩,by simp;omega,d4⟩
theorem jfu {L:List Int} {a:Int} (h:DOk L a):∃ w a',j3r L a=some (w,L,a')∧WOk 0 w∧w.length≤3∧DOk L a':=by
 obtain ⟨x,a1,e1,x0,x1,d1⟩:=j0I (n:=4) h (by omega) (by omega)
 obtain ⟨w,a',e2,h1,h2,h3⟩:=jiJ x.toNat 0 a1 [] d1 (by omega) (by omega) (by simp;omega)
 rw [show ((x.toNat:Nat):Int)=x by omega,jw] at e2
 simp only [j3r,e1,j3,e2]
 exact ⟨w,a',rfl,h1,by omega,h3⟩
theorem jb0 {L:List Int} {a:Int} (h:DOk L a):∃ t a',j2h L a=some (t,L,a')∧1767139199≤t∧t≤1767139200+3600*575+3599∧DOk L a':=by
 obtain ⟨x,a1,e1,x0,x1,d1⟩:=j0I (n:=576) h (by omega) (by omega)
 obtain ⟨y,a2,e2,y0,y1,d2⟩:=j0I (n:=3) d1 (by omega) (by omega)
 obtain ⟨q,a3,e3,m3,d3⟩:=j6E d2 (xs:=[(-1:Int),(1:Int),(1800:Int),(3599:Int)]) (by simp) (by simp)
 have hq : -1≤q∧q≤3599:=by simp at m3;omega
 simp only [j2h,e1,j3,j0U,e2,e3]
 rw [j02 (x:=3600*x) (by omega) (by omega),j02 (x:=1767139200+3600*x) (by omega) (by omega),j02 (x:=1767139200+3600*x+q) (by omega) (by omega)]
 cases (y==w64 (3-1)) with
 | true=>exact ⟨_,_,rfl,by omega,by omega,d3⟩
 | false=>exact ⟨_,_,rfl,by omega,by omega,d2⟩
theorem jn8 {w:WL} (h:WOk 0 w) (hl:w.length≤14):∀ (n i:Nat),i+n=w.length→j5T w w (w.length:Int) (i:Int)=some (.inr ())
 | 0,i,hi=>by
  rw [jbG]
  simp only [j3L]
  rw [j00 (by omega),j6,j0j]
 | n+1,i,hi=>by
  have ih:=jn8 h hl n (i+1) (by omega)
  have hg:=jpG h i (by omega)
  rw [jbG]
  simp only [j3L]
  rw [j01 (show (i:Int)<(w.length:Int) by omega),j1M (by omega) (by omega)]
  simp only [j5,j7]
  rw [j00 (show ¬ (w.getD i ((0:Int),(0:Int))).1<0 by omega),j00 (show ¬ (w.getD i ((0:Int),(0:Int))).1≥(w.getD i ((0:Int),(0:Int))).2 by omega),j00 (show ¬ (w.getD i ((0:Int),(0:Int))).2>604800 by omega)]
  rw [j02 (x:=(i:Int)+1) (by omega) (by omega)]
  simp only [j6]
  by_cases h0:i=0
  ·rw [j00 (by omega)]
   simp only [j6,j0b]
   exact ih
  ·obtain ⟨j,rfl⟩:∃ j,i=j+1:=⟨i-1,by omega⟩
   have hgap:=jpH h j (by omega)
   rw [j01 (by omega),j02 (x:=((j+1:Nat):Int)-1) (by omega) (by omega),j1M (by omega) (by omega),show (((j+1:Nat):Int)-1).toNat=j by omega,j00 (by omega)]
   simp only [j5,j6,j0b]
   exact ih
theorem jn9 {w:WL} (h:WOk 0 w) (hl:w.length≤14):j6K w=some 0:=by
 have:=jn8 h hl w.length 0 (by omega)
 rw [show ((0:Nat):Int)=0 from rfl] at this
 simp only [j6K,show Int.ofNat (List.length w)=(w.length:Int) from rfl]
 rw [j00 (by omega),j6,this]
 rfl
theorem jrl {w:WL} (hl:w.length≤14) (s:Int):∀ (n i:Nat),i+n=w.length→j7J s w (w.length:Int) (i:Int)=some (cond (hasB s (w.drop i)) (.inl true) (.inr ()))
 | 0,i,hi=>by
  rw [jd7]
  simp only [j4N]
  rw [j00 (by omega),j6,j0j,jg (by omega)]
  rfl
 | n+1,i,hi=>by
  have hlt:i<w.length:=by omega
  have hgd:w.getD i ((0:Int),(0:Int))=w[i]:=by simp [hlt]
  have ih:=jrl hl s n (i+1) (by omega)
  rw [jd7,jq hlt]
  simp only [j4N]
  rw [j01 (show (i:Int)<(w.length:Int) by omega),j1M (by omega) (by omega)]
  simp only [j5,j7,hgd,hasB]
  rw [j02 (x:=(i:Int)+1) (by omega) (by omega)]
  cases hb:cond (decide (w[i].1≤s)) (decide (s<w[i].2)) false with
  | true=>simp only [j5,j0j]
  | false=>simp only [j6,j0b];exact ih
theorem jsZ {w:WL} (hl:w.length≤14) (s:Int):jbg w s=some (hasB s w):=by
 have:=jrl hl s w.length 0 (by omega)
 rw [show ((0:Nat):Int)=0 from rfl,qp] at this
 simp only [jbg,show Int.ofNat (List.length w)=(w.length:Int) from rfl,this,j3]
 cases hasB s w<;>rfl
abbrev j1T:=ByteArray×(Int×List Rule)
abbrev j12:=ByteArray×(Int×(WL×(Int×(Int×Bool))))
abbrev CalT:=ByteArray×(Int×List Int)
abbrev j1b:=ByteArray×(Int×((Int×Int)×(Int×(Int×(List Int×(WL×(Int×Int)))))))
abbrev j2E:=ByteArray×(List j1b×List (Int×(Int×(Int×(Int×Int)))))
def ZOk (z:j1T):Prop:=MZ z.2.1 z.2.2
theorem jfv {L:List Int} {a n:Int} (h:DOk L a) (hn:1≤n) (hn2:n≤1000000):∃ b a',j0U L a n=some (b,L,a')∧DOk L a':=by
 obtain ⟨x,a1,e1,x0,x1,d1⟩:=j0I (n:=n) h (by omega) (by omega)
 simp only [j0U,e1,j3]
 exact ⟨_,_,rfl,d1⟩
structure SOk (zs:List j1T) (ps:List j12) (cs:List CalT):Prop where
 z0:1≤zs.length
 z1:zs.length≤2
 ok:∀ z∈zs,ZOk z
 p0:1≤ps.length
 p1:ps.length≤4
 c1:cs.length≤1
structure LOk (l:j1b):Prop where
 d0:20452≤l.2.2.1.1
 d1:l.2.2.1.1≤20457
 c0:0≤l.2.2.1.2
 c1:l.2.2.1.2≤79200
 u0:0≤l.2.2.2.1
 u1:l.2.2.2.1≤2
 e0:1≤l.2.2.2.2.1
 e1:l.2.2.2.2.1≤49
 e2:l.2.2.2.1≠0→l.2.2.2.2.1≤2
 m0:1≤l.2.2.2.2.2.1.length
 m1:l.2.2.2.2.2.1.length≤3
end Go.Proofs.Pw
