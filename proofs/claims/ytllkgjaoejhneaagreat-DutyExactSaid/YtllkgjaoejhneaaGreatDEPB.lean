/- Chapter 4: the transitions of a zone. -/
import Derived.Test.YtllkgjaoejhneaaGreatDEPA
open _root_ renaming Int->u,ByteArray->B,List->D,Nat->E,Option->G
open Option renaming some->A,none->M
open List renaming length->F,range->I
open Decidable renaming decide->H
open Go Go.Lft
namespace Go.Proofs.Pw
abbrev Rule:=u×(u×(u×(u×(u×(u×u)))))
theorem in_t {n lo hi:u} (h1:lo≤n) (h2:n≤hi):j6u n lo hi=A true:=by
 simp only [j6u]
 rw [j00 (show n≥lo from h1),j00 h2];rfl
theorem in_f {n lo hi:u} (h:¬ (lo≤n∧n≤hi)):j6u n lo hi=A false:=by
 simp only [j6u]
 by_cases h1:n≥lo
 ·rw [j00 h1,j01 (fun h2=>h ⟨h1,h2⟩)];rfl
 ·rw [j01 h1];rfl
structure ROk (r:Rule):Prop where
 y0:1970≤r.1
 y1:r.1≤r.2.1
 y2:r.2.1≤2240
 m0:1≤r.2.2.1
 m1:r.2.2.1≤12
 k0:1≤r.2.2.2.1
 k1:r.2.2.2.1≤5
 d0:0≤r.2.2.2.2.1
 d1:r.2.2.2.2.1≤6
 s0:0≤r.2.2.2.2.2.1
 s1:r.2.2.2.2.2.1≤86399
 o0 : -64800≤r.2.2.2.2.2.2
 o1:r.2.2.2.2.2.2≤64800
theorem jye {r:Rule} (h:ROk r):j93 r=A 0:=by
 simp only [j93,in_t h.y0 (show r.1≤2240 by have:=h.y1;have:=h.y2;omega),in_t h.y1 h.y2,in_t h.m0 h.m1,in_t h.k0 h.k1,in_t h.d0 h.d1,in_t h.s0 h.s1,in_t h.o0 h.o1,ja,jk,jd]
theorem jht {y m k w:u} (_h1:1970≤y) (_h2:y≤2240) (hm1:1≤m) (hm2:m≤12) (hk1:1≤k) (hk2:k≤5):num y m 1≤nth y m k w∧nth y m k w<num y m 1+dim y m∨nth y m k w<num y m 1+35∧num y m 1≤nth y m k w:=by
 right
 have hd:=jkv y m hm1 hm2
 unfold nth
 dsimp only
 split<;>omega
def occ (r:Rule) (y:u):u×Int:=(nth y r.2.2.1 r.2.2.2.1 r.2.2.2.2.1*86400+r.2.2.2.2.2.1,r.2.2.2.2.2.2)
def occR (r:Rule):TrL:=(I (r.2.1-r.1+1).toNat).map fun (i:E)=>occ r (r.1+(i:u))
def occs (l:D Rule):TrL:=l.flatMap occR
theorem juK {r:Rule} (h:ROk r) {y:u} (h1:1970≤y) (h2:y≤2240):0≤(occ r y).1∧(occ r y).1≤10000000000:=by
 have hv:=jb3 (jal y r.2.2.1 h1 h2 h.m0 h.m1)
 have hs0:=h.s0;have hs1:=h.s1
 have:=jht (w:=r.2.2.2.2.1) h1 h2 h.m0 h.m1 h.k0 h.k1
 have hd:=j3y y r.2.2.1
 unfold occ
 dsimp only
 omega
theorem jyf {r:Rule} (h:ROk r):Sm (occR r):=by
 intro x hx
 obtain ⟨i,hi,rfl⟩:=kp.1 hx
 have hi:=List.mem_range.1 hi
 have h0:=h.y0;have h2:=h.y2
 have:=juK h (y:=r.1+(i:u)) omg_ omg_
 omega
theorem jqC {l:D Rule} (h:∀ r∈l,ROk r):Sm (occs l):=by
 intro x hx
 obtain ⟨r,hr,hx⟩:=zg.1 hx
 exact jyf (h r hr) x hx
theorem jwY {r:Rule} (h:ROk r) (rs:D Rule) (a b:u):∀ (n:E) (i:E) (acc:TrL),r.1+(i:u)+n=r.2.1+1→acc.length+n≤100000→
  j55 (r.1+(i:u)) rs a b r.1 r.2.1 r.2.2.1 r.2.2.2.1 r.2.2.2.2.1 r.2.2.2.2.2.1 r.2.2.2.2.2.2 acc=A (rs,a,b,acc++(I n).map fun (j:E)=>occ r (r.1+(i:u)+(j:u)))
 | 0,i,acc,hi,_=>by
  rw [j8d]
  simp only [j1Z]
  rw [j01 omg_,jd,j08]
  simp
 | n+1,i,acc,hi,hl=>by
  have h0:=h.y0;have h2:=h.y2;have hs0:=h.s0;have hs1:=h.s1
  have hv:=jb3 (jal (r.1+(i:u)) r.2.2.1 omg_ omg_ h.m0 h.m1)
  have hn:=jht (w:=r.2.2.2.2.1) (y:=r.1+(i:u)) omg_ omg_ h.m0 h.m1 h.k0 h.k1
  have hd:=j3y (r.1+(i:u)) r.2.2.1
  rw [j8d]
  simp only [j1Z]
  rw [j00 (show r.1+(i:u)≤r.2.1 by omega),jzh _ _ _ _ omg_ omg_ h.m0 h.m1 h.k0 h.k1 h.d0 h.d1]
  simp only [jc,ja]
  rw [j07 (x:=nth (r.1+(i:u)) r.2.2.1 r.2.2.2.1 r.2.2.2.2.1*86400),j07 (x:=nth (r.1+(i:u)) r.2.2.1 r.2.2.2.1 r.2.2.2.2.1*86400+r.2.2.2.2.2.1),
   j07 (x:=r.1+(i:u)+1)]
  rw [j00 (by simp [j05];omega)]
  simp only [jc,j06]
  have ih:=jwY h rs a b n (i+1) (acc++[occ r (r.1+(i:u))]) omg_ sqo_
  rw [show r.1+(i:u)+1=r.1+((i+1:E):u) by omega]
  refine ih.trans ?_
  have hmap:(I n).map (fun (j:E)=>occ r (r.1+((i+1:E):u)+(j:u)))=(I n).map ((fun (j:E)=>occ r (r.1+(i:u)+(j:u))) ∘ Nat.succ):=List.map_congr_left fun j _=>by
   simp only [Function.comp]
   congr 1
   omega
  rw [List.range_succ_eq_map,qu,yq,hmap]
  simp
theorem juL {rs:D Rule} (h:∀ r∈rs,ROk r) (hlen:rs.length≤100):∀ (n i:E) (acc:TrL),i+n=rs.length→acc.length≤300*i→
  j3P rs (rs.length:u) (i:u) acc=A (acc++occs (rs.drop i))
 | 0,i,acc,hi,_=>by
  rw [j8e]
  simp only [j20]
  rw [j01 omg_,jd,j08,jj omg_]
  simp [occs]
 | n+1,i,acc,hi,hl=>by
  have hlt:i<rs.length:=omg_
  have hr:=h rs[i] (jx hlt)
  have h0:=hr.y0;have h1:=hr.y1;have h2:=hr.y2
  have hg:rs.getD i ((0:u),((0:u),((0:u),((0:u),((0:u),((0:u),(0:u)))))))=rs[i]:=by simp [hlt]
  have hl4:=jwY hr rs (rs.length:u) (i:u) (rs[i].2.1-rs[i].1+1).toNat 0 acc omg_ omg_
  rw [show rs[i].1+((0:E):u)=rs[i].1 by omega] at hl4
  have ih:=juL h hlen n (i+1) (acc++occR rs[i]) omg_ (by simp [occR];omega)
  rw [j8e]
  simp only [j20]
  rw [j00 (show (i:u)<(rs.length:u) by omega),j1o]
  simp only [jc,je,hg,hl4,ja]
  rw [j07,j06,jh hlt]
  refine ih.trans ?_
  rw [jr]
  rfl
theorem juM {rs:D Rule} (h:∀ r∈rs,ROk r) (hlen:rs.length≤100) (nm:B) (o:u):∀ (n i:E) (s:u),i+n=rs.length→0≤s→s≤300*i→
  j2C s rs (rs.length:u) (i:u) nm o rs=A (.inr (s+((occs (rs.drop i)).length:u),nm,o,rs))
 | 0,i,s,hi,_,_=>by
  rw [j5y]
  simp only [j1w]
  rw [j01 omg_,jd,j08,jj omg_]
  simp [occs]
 | n+1,i,s,hi,hs0,hs1=>by
  have hlt:i<rs.length:=omg_
  have hr:=h rs[i] (jx hlt)
  have h0:=hr.y0;have h1:=hr.y1;have h2:=hr.y2
  have hg:rs.getD i ((0:u),((0:u),((0:u),((0:u),((0:u),((0:u),(0:u)))))))=rs[i]:=by simp [hlt]
  have ih:=juM h hlen nm o n (i+1) (s+(rs[i].2.1-rs[i].1+1)) omg_ omg_ omg_
  have hrule:j93 (rs[i].1,(rs[i].2.1,(rs[i].2.2.1,(rs[i].2.2.2.1,(rs[i].2.2.2.2.1,(rs[i].2.2.2.2.2.1,rs[i].2.2.2.2.2.2))))))=A 0:=jye hr
  rw [j5y]
  simp only [j1w]
  rw [j00 (show (i:u)<(rs.length:u) by omega),j1o]
  simp only [jc,je,hg,hrule,ja,jm,jd]
  rw [j07 (x:=rs[i].2.1-rs[i].1),j07 (x:=rs[i].2.1-rs[i].1+1),j07 (x:=s+(rs[i].2.1-rs[i].1+1)),j07 (x:=(i:u)+1),j06]
  refine ih.trans ?_
  rw [jh hlt]
  have:((occs (rs[i]::rs.drop (i+1))).length:u)=(rs[i].2.1-rs[i].1+1)+((occs (rs.drop (i+1))).length:u):=by
   have e1:(occR rs[i]).length=(rs[i].2.1-rs[i].1+1).toNat:=by simp [occR]
   show ((occR rs[i]++occs (rs.drop (i+1))).length:u)=_
   rw [jo,e1];omega
  rw [this]
  congr 3;omega
theorem jla {nm:B} {o:u} {rs:D Rule} (h:∀ r∈rs,ROk r) (ho0 : -64800≤o) (ho1:o≤64800) (hlen:rs.length≤16) (hn:(occs rs).length<20):j1V (nm,(o,rs))=A (j35 (occs rs),0):=by
 have e0:=juM h omg_ nm o rs.length 0 0 omg_ omg_ omg_
 have e2:=juL h omg_ rs.length 0 [] omg_ smp_
 rw [jy] at e0 e2
 simp only [j1V,in_t ho0 ho1,ja,jk,jd,show Int.ofNat (F rs)=(rs.length:u) from rfl]
 rw [j01 (show ¬ (rs.length:u)>16 by omega),jd,show j2C 0 rs (rs.length:u) 0 nm o rs=_ from e0]
 simp only [ja,j48]
 rw [j01 omg_,jd,oLn_ rs,show j3P rs (rs.length:u) 0 []=_ from e2]
 simp only [ja,kg,jhr (jqC h) hn]
def outT (now:u):TrL→TrL
 | []=>[]
 | x::r=>if x.2=now then outT now r else (x.1-now,x.2)::outT x.2 r
def Good (now:u) (p:G u):TrL→Prop
 | []=>True
 | x::r=>if x.2=now then Good now p r else (-86400<x.2-now∧x.2-now<86400∧1000000<x.1-now∧x.1-now≤8589000000∧(∀ q,p=A q→q+604800≤x.1-now) ∧ -64800≤x.2∧x.2≤64800)∧Good x.2 (A (x.1-now)) r
theorem jni (L:TrL) (hL:L.length≤1000):∀ (n i:E) (now:u) (acc:TrL),i+n=L.length → -64800≤now→now≤64800→acc.length≤i→(∀ x∈acc,0≤x.1∧x.1≤8589934592)→Good now (acc.getLast?.map (·.1)) (L.drop i)→
  j2D now (L.length:u) (i:u) acc L=A (.inr (acc++outT now (L.drop i)))
 | 0,i,now,acc,hi,_,_,_,_,_=>by
  rw [j3Z]
  simp only [j15]
  rw [j01 omg_,jd,j08,jj omg_]
  simp [outT]
 | n+1,i,now,acc,hi,hn0,hn1,hal,hacc,hg=>by
  have hlt:i<L.length:=omg_
  rw [jh hlt] at hg ⊢
  have hgd:L.getD i ((0:u),(0:u))=L[i]:=by simp [hlt]
  rw [j3Z]
  simp only [j15]
  rw [j00 (show (i:u)<(L.length:u) by omega),j1o]
  simp only [jc,je,hgd]
  generalize L[i]=x at *
  rw [j07 (x:=(i:u)+1)]
  simp only [Good] at hg
  by_cases hx:x.2=now
  ·rw [if_pos hx] at hg
   rw [j5N hx]
   simp only [jc,j06,outT]
   rw [if_pos hx]
   exact jni L hL n (i+1) now acc omg_ hn0 hn1 omg_ hacc hg
  ·rw [if_neg hx] at hg
   obtain ⟨⟨g1,g2,g3,g4,g5,g6,g7⟩,g8⟩:=hg
   rw [j2q hx,j07 (x:=x.1-now),j07 (x:=x.2-now),j01 (show ¬ x.2-now≥86400 by omega),j01 (show ¬ x.2-now ≤ -86400 by omega)]
   simp only [jd,in_t (show (0:u)≤x.1-now by omega) (show x.1-now≤8589934592 by omega),ja,jk,jt,vz,show Int.ofNat (F acc)=(acc.length:u) from rfl]
   rw [j07 (x:=(acc.length:u)-1)]
   have hnext:=jni L hL n (i+1) x.2 (acc++[(x.1-now,x.2)]) omg_ g6 g7 sqo_
    (fun y hy=>by
     rcases js.1 hy with hy | hy
     ·exact hacc y hy
     ·simp at hy;subst hy;exact ⟨by show (0:u)≤x.1-now;omega,by show x.1-now≤8589934592;omega⟩) (by simpa using g8)
   have hout:outT now (x::L.drop (i+1))=(x.1-now,x.2)::outT x.2 (L.drop (i+1)):=by simp [outT,hx]
   rw [hout]
   rw [jr] at hnext
   by_cases ha:acc=[]
   ·subst ha
    simp only [qc]
    rw [show inR (((0:E):u)-1) 0=false from rfl,show H (((0:E):u)>0)=false from rfl]
    simp only [jt,jc,jd,yf]
    rw [j00 (by simp [j05])]
    simp only [jc,j06]
    exact hnext
   ·have hpos:0<acc.length:=List.length_pos_iff.2 ha
    have hlast:acc.getLast? = A (acc.getD (acc.length-1) (0,0)):=by
     rw [List.getLast?_eq_getElem?,List.getD_eq_getElem?_getD,jv (show acc.length-1<acc.length by omega)];rfl
    rw [hlast] at g5
    have g5:(acc.getD (acc.length-1) ((0:u),(0:u))).1+604800≤x.1-now:=g5 _ rfl
    have hb:=hacc (acc.getD (acc.length-1) (0,0)) (List.mem_of_getLast? hlast)
    rw [j1o,j00 (show (acc.length:u)>0 by omega),show ((acc.length:u)-1).toNat=acc.length-1 by omega]
    simp only [zu,jc]
    rw [j07,j01 (show ¬ x.1-now<(acc.getD (acc.length-1) ((0:u),(0:u))).1+604800 by omega),j00 (by simp [j05];omega)]
    simp only [jc,jd,j06]
    exact hnext
def Chn (p:G u):TrL→Prop
 | []=>True
 | x::r=>(1000000<x.1∧x.1≤8589000000∧(∀ q,p=A q→q+604800≤x.1) ∧ -64800≤x.2∧x.2≤64800)∧Chn (A x.1) r
theorem jqD:∀ (L:TrL) (now:u) (p:G u),Good now p L→Chn p (outT now L)
 | [],_,_,_=>trivial
 | x::r,now,p,h=>by
  simp only [Good] at h
  by_cases hx:x.2=now
  ·rw [if_pos hx] at h
   simp only [outT];rw [if_pos hx]
   exact jqD r now p h
  ·rw [if_neg hx] at h
   simp only [outT];rw [if_neg hx]
   obtain ⟨⟨g1,g2,g3,g4,g5,g6,g7⟩,g8⟩:=h
   exact ⟨⟨g3,g4,g5,g6,g7⟩,jqD r x.2 _ g8⟩
theorem jnj:∀ (L:TrL) (now:u),(outT now L).length≤L.length
 | [],_=>jz _
 | x::r,now=>by
  simp only [outT]
  split
  ·have:=jnj r now;simp;omega
  ·have:=jnj r x.2;simp;omega
theorem juN:∀ (l:TrL) (p:G u),Chn p l→(∀ i,i+1<l.length→tat l i+604800≤tat l (i+1))∧(∀ i,i<l.length→1000000<tat l i∧tat l i≤8589000000)∧
  (∀ o i, -64800≤o→o≤64800→i≤l.length → -64800≤tof o l i∧tof o l i≤64800)
 | [],_,_=>⟨fun i h=>by simp at h,fun i h=>by simp at h,fun o i h1 h2 h3=>by
  have:i=0:=by simpa using h3
  subst this;exact ⟨h1,h2⟩⟩
 | x::r,p,h=>by
  obtain ⟨⟨g3,g4,g5,g6,g7⟩,g8⟩:=h
  obtain ⟨h1,h2,h3⟩:=juN r _ g8
  refine ⟨fun i hi=> ?_,fun i hi=> ?_,fun o i ho0 ho1 hi=> ?_⟩
  ·cases i with
   | zero=>
    cases r with
    | nil=>simp at hi
    | cons y ys=>
     have:=g8.1.2.2.1 _ rfl
     exact this
   | succ i=>exact h1 i (by simp at hi ⊢;omega)
  ·cases i with
   | zero=>exact ⟨g3,g4⟩
   | succ i=>exact h2 i (by simp at hi ⊢;omega)
  ·cases i with
   | zero=>exact ⟨ho0,ho1⟩
   | succ i=>
    cases i with
    | zero=>exact ⟨g6,g7⟩
    | succ i=>exact h3 x.2 (i+1) g6 g7 (by simp at hi ⊢;omega)
theorem jyg {o:u} {l:TrL} (h:Chn M l) (hl:l.length≤1000) (h0 : -64800≤o) (h1:o≤64800):TOk o l:=by
 obtain ⟨a,b,c⟩:=juN l M h
 exact ⟨hl,a,fun i hi=>(b i hi).1,fun i hi=>(b i hi).2,fun i hi=>(c o i h0 h1 hi).1,fun i hi=>(c o i h0 h1 hi).2⟩
def ZTab (z:B×(u×D Rule)) (l:TrL):Prop:=j0M z=A (l,0)∧TOk z.2.1 l
theorem jyh {nm:B} {o:u} {rs:D Rule} (h:∀ r∈rs,ROk r) (ho0 : -64800≤o) (ho1:o≤64800) (hlen:rs.length≤16) (hn:(occs rs).length<20) (hg:Good o M (j35 (occs rs))):ZTab (nm,(o,rs)) (outT o (j35 (occs rs))):=by
 have hl:(j35 (occs rs)).length≤1000:=by simp [j35,j7u];omega
 refine ⟨?_,jyg (jqD _ _ _ hg) (by have:=jnj (j35 (occs rs)) o;omega) ho0 ho1⟩
 have:=jni (j35 (occs rs)) hl (j35 (occs rs)).length 0 o [] omg_ ho0 ho1 smp_ smp_ hg
 simp only [j0M,jla h ho0 ho1 hlen hn,ja,jm,jd,show Int.ofNat (F (j35 (occs rs)))=((j35 (occs rs)).length:u) from rfl]
 rw [jy] at this
 rw [show j2D o ((j35 (occs rs)).length:u) 0 [] (j35 (occs rs))=_ from this]
 rfl
theorem jAc {z:B×(u×D Rule)} {l:TrL} (h:ZTab z l):jjX z=A ((z.2.1,l),0):=by
 simp only [jjX,show j0M (z.1,(z.2.1,z.2.2))=_ from h.1,ja]
theorem jwZ {y m k w:u} (hm1:1≤m) (hm2:m≤12) (hk1:2≤k) (hk2:k≤5):num y m 1+7≤nth y m k w∧nth y m k w≤num y m 1+34:=by
 have hd:=jkv y m hm1 hm2
 unfold nth
 dsimp only
 split<;>omega
theorem juO {y m k w:u} (hm1:1≤m) (hm2:m≤12) (hk1:1≤k) (hk2:k≤4):num y m 1≤nth y m k w∧nth y m k w≤num y m 1+27:=by
 have hd:=jkv y m hm1 hm2
 unfold nth
 dsimp only
 split<;>omega
theorem jx0 {a b:u×u} (h:a.1<b.1):j35 [a,b]=[a,b]:=by
 simp [j35,j2M,j6R,show ¬ b.1<a.1 by omega]
theorem jx1 {a b c d:u×u} (h1:a.1<c.1) (h2:c.1<b.1) (h3:b.1<d.1):j35 [a,b,c,d]=[a,c,b,d]:=by
 simp [j35,j2M,j6R,show ¬ b.1<a.1 by omega,h2,show ¬ c.1<a.1 by omega,show ¬ d.1<b.1 by omega]
theorem jrs (r1 r2:Rule) (h1:r1.1=2025) (h2:r1.2.1=2025) (h3:r2.1=2025) (h4:r2.2.1=2025):occs [r1,r2]=[occ r1 2025,occ r2 2025]:=by
 simp [occs,occR,h1,h2,h3,h4]
theorem jrt (r1 r2:Rule) (h1:r1.1=2025) (h2:r1.2.1=2026) (h3:r2.1=2025) (h4:r2.2.1=2026):occs [r1,r2]=[occ r1 2025,occ r1 2026,occ r2 2025,occ r2 2026]:=by
 simp [occs,occR,h1,h2,h3,h4,List.range_succ]
theorem j6s {now:u} {p:G u} {x:u×u} {r:TrL} (hx:x.2≠now) (h : -86400<x.2-now∧x.2-now<86400∧1000000<x.1-now∧x.1-now≤8589000000 ∧ -64800≤x.2∧x.2≤64800)
  (hp:∀ q,p=A q→q+604800≤x.1-now) (hr:Good x.2 (A (x.1-now)) r):Good now p (x::r):=by
 simp only [Good]
 rw [if_neg hx]
 exact ⟨⟨h.1,h.2.1,h.2.2.1,h.2.2.2.1,hp,h.2.2.2.2.1,h.2.2.2.2.2⟩,hr⟩
theorem juP {now:u} {p:G u} {x:u×u} {r:TrL} (hx:x.2=now) (hr:Good now p r):Good now p (x::r):=by
 simp only [Good]
 rw [if_pos hx]
 exact hr
theorem jkx {P:u→Prop}:∀ q,(M:G u)=A q→P q:=fun _ h=>by simp at h
theorem jbP {P:u→Prop} {a:u} (h:P a):∀ q,A a=A q→P q:=fun q hq=>by simp at hq;subst hq;exact h
theorem n251:num 2025 1 1=20089:=by decide
theorem n261:num 2026 1 1=20454:=by decide
theorem n252:num 2025 2 1=20120:=by decide
theorem n253:num 2025 3 1=20148:=by decide
theorem n262:num 2026 2 1=20485:=by decide
theorem n263:num 2026 3 1=20513:=by decide
structure MZ (o:u) (rs:D Rule):Prop where
 o0 : -64800≤o
 o1:o≤64800
 ok:∀ r∈rs,ROk r
 len:rs.length≤2
 yr:∀ r∈rs,2025≤r.1
 few:(occs rs).length≤4
 good:Good o M (j35 (occs rs))
theorem MZ.tab {o:u} {rs:D Rule} (h:MZ o rs) (nm:B):ZTab (nm,(o,rs)) (outT o (j35 (occs rs))):=
 jyh h.ok (by have:=h.o0;omega) (by have:=h.o1;omega) (by have:=h.len;omega) (by have:=h.few;omega) h.good
theorem mz0 {o:u} (h0 : -43200≤o) (h1:o≤45000):MZ o []:=⟨omg_,omg_,smp_,smp_,smp_,by decide,trivial⟩
theorem ok2 {r1 r2:Rule} (h1:ROk r1) (h2:ROk r2):∀ r∈[r1,r2],ROk r:=by
 intro r hr
 simp at hr
 rcases hr with rfl | rfl
 ·exact h1
 ·exact h2
theorem mz1 {o last:u} (h0 : -43200≤o) (h1:o≤45000) (hl:last=2025∨last=2026):MZ o [(2025,(last,(3,(5,(6,(7200,o+3600)))))),(2025,(last,(10,(5,(6,(10800,o))))))]:=by
 have a1:nth 2025 3 5 6=20177:=by decide
 have a2:nth 2025 10 5 6=20387:=by decide
 have a3:nth 2026 3 5 6=20541:=by decide
 have a4:nth 2026 10 5 6=20751:=by decide
 have hok:=ok2 (r1:=(2025,(last,(3,(5,(6,(7200,o+3600))))))) (r2:=(2025,(last,(10,(5,(6,(10800,o))))))) (by constructor<;>(dsimp only;omega)) (by constructor<;>(dsimp only;omega))
 rcases hl with rfl | rfl
 ·have e:=jrs (2025,(2025,(3,(5,(6,(7200,o+3600)))))) (2025,(2025,(10,(5,(6,(10800,o)))))) rfl rfl rfl rfl
  refine ⟨omg_,omg_,hok,smp_,smp_,by rw [e];simp,?_⟩
  rw [e,jx0 (by simp only [occ];omega)]
  refine j6s (by simp only [occ];omega) (by simp only [occ];omega) jkx (j6s (by simp only [occ];omega) (by simp only [occ];omega) (jbP (by simp only [occ];omega)) trivial)
 ·have e:=jrt (2025,(2026,(3,(5,(6,(7200,o+3600)))))) (2025,(2026,(10,(5,(6,(10800,o)))))) rfl rfl rfl rfl
  refine ⟨omg_,omg_,hok,smp_,smp_,by rw [e];simp,?_⟩
  rw [e,jx1 (by simp only [occ];omega) (by simp only [occ];omega) (by simp only [occ];omega)]
  refine j6s (by simp only [occ];omega) (by simp only [occ];omega) jkx (j6s (by simp only [occ];omega) (by simp only [occ];omega) (jbP (by simp only [occ];omega))
   (j6s (by simp only [occ];omega) (by simp only [occ];omega) (jbP (by simp only [occ];omega)) (j6s (by simp only [occ];omega) (by simp only [occ];omega) (jbP (by simp only [occ];omega)) trivial)))
theorem mz2 {o last k1 w1 s1 c m2 k2 w2 s2:u} (h0 : -43200≤o) (h1:o≤45000) (hl:last=2025∨last=2026) (hk:1≤k1) (hk':k1≤4) (hw:0≤w1) (hw':w1≤6) (hs:0≤s1) (hs':s1≤82800) (hc:1800≤c) (hc':c≤14400)
  (hm:m2=2∨m2=3) (hj:2≤k2) (hj':k2≤5) (hx:0≤w2) (hx':w2≤6) (ht:0≤s2) (ht':s2≤82800):MZ o [(2025,(last,(1,(k1,(w1,(s1,o+c)))))),(2025,(last,(m2,(k2,(w2,(s2,o))))))]:=by
 have hok:=ok2 (r1:=(2025,(last,(1,(k1,(w1,(s1,o+c))))))) (r2:=(2025,(last,(m2,(k2,(w2,(s2,o))))))) (by constructor<;>(dsimp only;omega)) (by constructor<;>(dsimp only;omega))
 have b1:=juO (y:=2025) (m:=1) (k:=k1) (w:=w1) omg_ omg_ hk hk'
 have b2:=juO (y:=2026) (m:=1) (k:=k1) (w:=w1) omg_ omg_ hk hk'
 have b3:=jwZ (y:=2025) (m:=m2) (k:=k2) (w:=w2) omg_ omg_ hj hj'
 have b4:=jwZ (y:=2026) (m:=m2) (k:=k2) (w:=w2) omg_ omg_ hj hj'
 have c1:20120≤num 2025 m2 1∧num 2025 m2 1≤20148:=by rcases hm with rfl | rfl<;>simp [n252,n253]
 have c2:20485≤num 2026 m2 1∧num 2026 m2 1≤20513:=by rcases hm with rfl | rfl<;>simp [n262,n263]
 rw [n251] at b1
 rw [n261] at b2
 rcases hl with rfl | rfl
 ·have e:=jrs (2025,(2025,(1,(k1,(w1,(s1,o+c)))))) (2025,(2025,(m2,(k2,(w2,(s2,o)))))) rfl rfl rfl rfl
  refine ⟨omg_,omg_,hok,smp_,smp_,by rw [e];simp,?_⟩
  rw [e,jx0 (by simp only [occ];omega)]
  refine j6s (by simp only [occ];omega) (by simp only [occ];omega) jkx (j6s (by simp only [occ];omega) (by simp only [occ];omega) (jbP (by simp only [occ];omega)) trivial)
 ·have e:=jrt (2025,(2026,(1,(k1,(w1,(s1,o+c)))))) (2025,(2026,(m2,(k2,(w2,(s2,o)))))) rfl rfl rfl rfl
  refine ⟨omg_,omg_,hok,smp_,smp_,by rw [e];simp,?_⟩
  rw [e,jx1 (by simp only [occ];omega) (by simp only [occ];omega) (by simp only [occ];omega)]
  refine j6s (by simp only [occ];omega) (by simp only [occ];omega) jkx (j6s (by simp only [occ];omega) (by simp only [occ];omega) (jbP (by simp only [occ];omega))
   (j6s (by simp only [occ];omega) (by simp only [occ];omega) (jbP (by simp only [occ];omega)) (j6s (by simp only [occ];omega) (by simp only [occ];omega) (jbP (by simp only [occ];omega)) trivial)))
theorem mz3 {o w s x:u} (h0 : -43200≤o) (h1:o≤45000) (hw:0≤w) (hw':w≤6) (hs:0≤s) (hs':s≤84600) (hx0 : -64800≤x) (hx1:x≤64800) (hc0 : -86400<x-o) (hc1:x-o<86400):MZ o [(2026,(2026,(1,(2,(w,(s,x))))))]:=by
 have b:=juO (y:=2026) (m:=1) (k:=2) (w:=w) omg_ omg_ omg_ omg_
 rw [n261] at b
 have e:occs [((2026:u),((2026:u),((1:u),((2:u),(w,(s,x))))))]=[occ (2026,(2026,(1,(2,(w,(s,x)))))) 2026]:=by simp [occs,occR]
 refine ⟨omg_,omg_,fun r hr=> ?_,smp_,smp_,by rw [e];simp,?_⟩
 ·simp at hr;subst hr
  constructor<;>(dsimp only;omega)
 ·rw [e]
  have hi:j35 [occ (2026,(2026,(1,(2,(w,(s,x)))))) 2026]=[occ (2026,(2026,(1,(2,(w,(s,x)))))) 2026]:=by simp [j35,j2M,j6R]
  rw [hi]
  by_cases hxo:x=o
  ·exact juP hxo trivial
  ·exact j6s hxo (by simp only [occ];omega) jkx trivial
theorem jyi {L:D u} {a:u} (h:DOk L a) (nm:B):∃ o rs a',j8I L a nm=A ((nm,(o,rs)),L,a')∧MZ o rs∧DOk L a':=by
 obtain ⟨p,a1,e1,m1,d1⟩:=j8a h (xs:=[(0:u),(4:u),(-20:u),(22:u),(48:u),(-47:u)]) smp_ smp_
 obtain ⟨x2,a2,e2,x20,x21,d2⟩:=j0K (n:=2) d1 omg_ omg_
 obtain ⟨x3,a3,e3,x30,x31,d3⟩:=j0K (n:=3) d2 omg_ omg_
 obtain ⟨y,a4,e4,y0,y1,d4⟩:=j0K (n:=2) d3 omg_ omg_
 obtain ⟨q,a5,e5,q0,q1,d5⟩:=j0K (n:=4) d4 omg_ omg_
 have hp : -47≤p∧p≤48:=by simp at m1;omega
 have hmul:0≤x2*x3∧x2*x3≤2:=by
  obtain rfl | rfl:x2=0∨x2=1:=omg_
  all_goals omega
 have ho0 : -43200≤900*(p+x2*x3):=omg_
 have ho1:900*(p+x2*x3)≤45000:=omg_
 have hlast:2025+y=2025∨2025+y=2026:=omg_
 simp only [j8I,e1,e2,e3,e4,e5,ja]
 rw [j07 (x:=x2*x3),j07 (x:=p+x2*x3),j07 (x:=900*(p+x2*x3)),j07 (x:=2025+y)]
 generalize 900*(p+x2*x3)=o at *
 generalize 2025+y=last at *
 by_cases hq1:q=1
 ·rw [j5N hq1,jc,j07 (x:=o+3600)]
  exact ⟨_,_,_,rfl,mz1 ho0 ho1 hlast,d5⟩
 ·rw [j2q hq1,jd]
  by_cases hq2:q=2
  ·rw [j5N hq2,jc]
   obtain ⟨b1,c1,f1,b10,b11,g1⟩:=j0K (n:=4) d5 omg_ omg_
   obtain ⟨b2,c2,f2,b20,b21,g2⟩:=j0K (n:=7) g1 omg_ omg_
   obtain ⟨b3,c3,f3,b30,b31,g3⟩:=j0K (n:=24) g2 omg_ omg_
   obtain ⟨b4,c4,f4,b40,b41,g4⟩:=j0K (n:=8) g3 omg_ omg_
   obtain ⟨b5,c5,f5,b50,b51,g5⟩:=j0K (n:=2) g4 omg_ omg_
   obtain ⟨b6,c6,f6,m6,g6⟩:=j8a g5 (xs:=[(2:u),(3:u),(5:u)]) smp_ smp_
   obtain ⟨b7,c7,f7,b70,b71,g7⟩:=j0K (n:=7) g6 omg_ omg_
   obtain ⟨b8,c8,f8,b80,b81,g8⟩:=j0K (n:=24) g7 omg_ omg_
   have h6:2≤b6∧b6≤5:=by simp at m6;omega
   simp only [f1,f2,f3,f4,f5,f6,f7,f8,ja]
   rw [j07 (x:=1+b1),j07 (x:=3600*b3),j07 (x:=1+b4),j07 (x:=1800*(1+b4)),j07 (x:=o+1800*(1+b4)),
    j07 (x:=2+b5),j07 (x:=3600*b8)]
   exact ⟨_,_,_,rfl,mz2 ho0 ho1 hlast omg_ omg_ b20 omg_ omg_ omg_ omg_ omg_ omg_ h6.1 h6.2 b70 omg_ omg_ omg_,g8⟩
  ·rw [j2q hq2,jd]
   by_cases hq3:q=3
   ·rw [j5N hq3,jc]
    obtain ⟨b1,c1,f1,m1,g1⟩:=j8a d5 (xs:=[(3600:u),(-3600:u),(82800:u),(-82800:u),(43200:u)]) smp_ smp_
    obtain ⟨b2,c2,f2,b20,b21,g2⟩:=j0K (n:=7) g1 omg_ omg_
    obtain ⟨b3,c3,f3,b30,b31,g3⟩:=j0K (n:=48) g2 omg_ omg_
    have hb1 : -82800≤b1∧b1≤82800:=by simp at m1;omega
    simp only [f1,f2,f3,ja]
    rw [j07 (x:=o+b1),j07 (x:=1800*b3)]
    by_cases hbig:o+b1>64800∨o+b1 < -64800
    ·have hb:cond (H (o+b1>64800)) true (H (o+b1 < -64800))=true:=by
      rcases hbig with hbig | hbig
      ·rw [j00 hbig];rfl
      ·rw [j00 hbig];cases H (o+b1>64800)<;>rfl
     rw [hb,jc]
     exact ⟨_,_,_,rfl,mz3 ho0 ho1 b20 omg_ omg_ omg_ omg_ omg_ omg_ omg_,g3⟩
    ·rw [j01 (show ¬ o+b1>64800 by omega),j01 (show ¬ o+b1 < -64800 by omega)]
     simp only [jd]
     exact ⟨_,_,_,rfl,mz3 ho0 ho1 b20 omg_ omg_ omg_ omg_ omg_ omg_ omg_,g3⟩
   ·rw [j2q hq3,jd]
    exact ⟨_,_,_,rfl,mz0 ho0 ho1,d5⟩
theorem jqE:∀ (L:TrL) (now:u) (p:G u),Good now p L→∀ i,i<(outT now L).length → -86400<tof now (outT now L) (i+1)-tof now (outT now L) i∧tof now (outT now L) (i+1)-tof now (outT now L) i<86400
 | [],_,_,_,i,hi=>by simp [outT] at hi
 | x::r,now,p,h,i,hi=>by
  simp only [Good] at h
  by_cases hx:x.2=now
  ·rw [if_pos hx] at h
   have e:outT now (x::r)=outT now r:=by simp [outT,hx]
   rw [e] at hi ⊢
   exact jqE r now p h i hi
  ·rw [if_neg hx] at h
   have e:outT now (x::r)=(x.1-now,x.2)::outT x.2 r:=by simp [outT,hx]
   rw [e] at hi ⊢
   obtain ⟨⟨g1,g2,_⟩,g8⟩:=h
   cases i with
   | zero=>exact ⟨g1,g2⟩
   | succ i=>
    have:=jqE r x.2 _ g8 i (by simpa using hi)
    cases i with
    | zero=>exact this
    | succ i=>exact this
section
variable {o:u} {l:TrL} (h:TOk o l)
include h
theorem jfg {i j:E} {t:u} (hi:i≤l.length) (hj:j≤l.length) (a1:frm l i≤t) (a2:t<frm l (i+1)) (b1:frm l j≤t) (b2:t<frm l (j+1)):i=j:=by
 rcases vi i j with hij | hij | hij
 ·have:=h.frm_le (i:=i+1) (j:=j) omg_ omg_;omega
 ·exact hij
 ·have:=h.frm_le (i:=j+1) (j:=i) omg_ omg_;omega
end
abbrev WL:=D (u×u)
def WOk (p:u):WL→Prop
 | []=>p≤604800
 | x::r=>p≤x.1∧x.1<x.2∧x.2≤604800∧WOk x.2 r
def hasB (s:u):WL→Bool
 | []=>false
 | x::r=>cond (cond (H (x.1≤s)) (H (s<x.2)) false) true (hasB s r)
theorem WOk.top {p:u}:∀ {w:WL},WOk p w→p≤604800
 | [],h=>h
 | _::_,h=>by have:=h.1;have:=h.2.1;have:=h.2.2.1;omega
theorem WOk.weak {p q:u} (hq:q≤p):∀ {w:WL},WOk p w→WOk q w
 | [],h=>by show q≤604800;have:p≤604800:=h;omega
 | _::_,h=>⟨by have:=h.1;omega,h.2⟩
theorem jgp:∀ {w:WL} {p:u},WOk p w→∀ i,i<w.length→p≤(w.getD i (0,0)).1∧(w.getD i (0,0)).1<(w.getD i (0,0)).2∧(w.getD i (0,0)).2≤604800
 | [],_,_,i,hi=>by simp at hi
 | x::r,p,h,i,hi=>by
  obtain ⟨h1,h2,h3,h4⟩:=h
  cases i with
  | zero=>exact ⟨h1,h2,h3⟩
  | succ i=>exact jgp (h4.weak (show p≤x.2 by omega)) i (by simpa using hi)
theorem juQ:∀ {w:WL} {p:u},WOk p w→∀ i,i+1<w.length→(w.getD i (0,0)).2≤(w.getD (i+1) (0,0)).1
 | [],_,_,i,hi=>by simp at hi
 | x::[],_,_,i,hi=>by simp at hi
 | x::y::r,p,h,i,hi=>by
  cases i with
  | zero=>exact h.2.2.2.1
  | succ i=>exact juQ h.2.2.2 i (by simpa using hi)
theorem jlR {L:D u}:∀ (n:E) (p a:u) (acc:WL),DOk L a→0≤p→p≤604800→acc.length+n≤100→
  ∃ w a',j4E p (n:u) L a acc=A (L,a',acc++w)∧WOk p w∧w.length≤n∧DOk L a'
 | 0,p,a,acc,hd,_,hp,_=>by
  rw [j7R]
  simp only [j1U]
  rw [j01 omg_,jd,j08]
  exact ⟨[],a,smp_,hp,smp_,hd⟩
 | n+1,p,a,acc,hd,hp0,hp,ha=>by
  obtain ⟨x,a1,e1,x0,x1,d1⟩:=j0K (n:=30) hd omg_ omg_
  obtain ⟨y,a2,e2,y0,y1,d2⟩:=j0K (n:=2) d1 omg_ omg_
  obtain ⟨q,a3,e3,m3,d3⟩:=j8a d2 (xs:=[(3600:u),(28800:u),(43200:u),(86400:u),(61:u),(1:u)]) smp_ smp_
  have hq:1≤q∧q≤86400:=by simp at m3;omega
  rw [j7R]
  simp only [j1U]
  rw [j00 omg_]
  simp only [jc,e1,e2,e3,ja]
  rw [j07 (x:=3600*x),j07 (x:=p+3600*x),j07 (x:=60*y),j07 (x:=p+3600*x+60*y),j07 (x:=p+3600*x+60*y+q),j07 (x:=((n+1:E):u)-1)]
  by_cases hbig:p+3600*x+60*y+q>604800
  ·rw [j00 hbig,jc,j08]
   exact ⟨[],a3,smp_,hp,smp_,d3⟩
  ·rw [j01 hbig,j00 (by simp [j05];omega)]
   simp only [jd,jc,j06]
   obtain ⟨w,a4,e4,hw,hwl,d4⟩:=jlR n (p+3600*x+60*y+q) a3 (acc++[(p+3600*x+60*y,p+3600*x+60*y+q)]) d3 omg_ omg_ sqo_
   rw [show ((n+1:E):u)-1=(n:u) by omega]
   refine ⟨(p+3600*x+60*y,p+3600*x+60*y+q)::w,a4,by rw [e4,jr];rfl,⟨by dsimp only;omega,by dsimp only;omega,by dsimp only;omega,hw⟩,sqo_,d4⟩
theorem ji6 {L:D u} {a:u} (h:DOk L a):∃ w a',j3L L a=A (w,L,a')∧WOk 0 w∧w.length≤3∧DOk L a':=by
 obtain ⟨x,a1,e1,x0,x1,d1⟩:=j0K (n:=4) h omg_ omg_
 obtain ⟨w,a',e2,h1,h2,h3⟩:=jlR x.toNat 0 a1 [] d1 omg_ omg_ sqo_
 rw [show ((x.toNat:E):u)=x by omega,kg] at e2
 simp only [j3L,e1,ja,e2]
 exact ⟨w,a',rfl,h1,omg_,h3⟩
theorem ji7 {L:D u} {a:u} (h:DOk L a):∃ t a',j3M L a=A (t,L,a')∧1767139199≤t∧t≤1767139200+3600*575+3599∧DOk L a':=by
 obtain ⟨x,a1,e1,x0,x1,d1⟩:=j0K (n:=576) h omg_ omg_
 obtain ⟨y,a2,e2,y0,y1,d2⟩:=j0K (n:=3) d1 omg_ omg_
 obtain ⟨q,a3,e3,m3,d3⟩:=j8a d2 (xs:=[(-1:u),(1:u),(1800:u),(3599:u)]) smp_ smp_
 have hq : -1≤q∧q≤3599:=by simp at m3;omega
 simp only [j3M,e1,ja,j11,e2,e3]
 rw [j07 (x:=3600*x),j07 (x:=1767139200+3600*x),j07 (x:=1767139200+3600*x+q)]
 cases (y==w64 (3-1)) with
 | true=>exact ⟨_,_,rfl,omg_,omg_,d3⟩
 | false=>exact ⟨_,_,rfl,omg_,omg_,d2⟩
theorem jx2 {w:WL} (hl:w.length≤14) (s:u):∀ (n i:E),i+n=w.length→jdc s w (w.length:u) (i:u)=A (cond (hasB s (w.drop i)) (.inl true) (.inr ()))
 | 0,i,hi=>by
  rw [jfs]
  simp only [j5l]
  rw [j01 omg_,jd,j08,jj omg_]
  rfl
 | n+1,i,hi=>by
  have hlt:i<w.length:=omg_
  have hgd:w.getD i ((0:u),(0:u))=w[i]:=by simp [hlt]
  have ih:=jx2 hl s n (i+1) omg_
  rw [jfs,jh hlt]
  simp only [j5l]
  rw [j00 (show (i:u)<(w.length:u) by omega),j1o]
  simp only [jc,je,hgd,hasB]
  rw [j07 (x:=(i:u)+1)]
  cases hb:cond (H (w[i].1≤s)) (H (s<w[i].2)) false with
  | true=>simp only [jc,j08]
  | false=>simp only [jd,j06];exact ih
theorem jzi {w:WL} (hl:w.length≤14) (s:u):jj6 w s=A (hasB s w):=by
 have:=jx2 hl s w.length 0 omg_
 rw [show ((0:E):u)=0 from rfl,jy] at this
 simp only [jj6,show Int.ofNat (F w)=(w.length:u) from rfl,this,ja]
 cases hasB s w<;>rfl
end Go.Proofs.Pw
