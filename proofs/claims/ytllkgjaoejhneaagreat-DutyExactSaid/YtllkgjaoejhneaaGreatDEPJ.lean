/- Chapter 5, the reference: the times of windows are the jsi form of their instants. -/
import Derived.Test.YtllkgjaoejhneaaGreatDEPF
import Derived.Test.YtllkgjaoejhneaaGreatDEPG
import Derived.Test.YtllkgjaoejhneaaGreatDEPD
open _root_ renaming Int->D,Nat->G,ByteArray->J,List->R
open Int renaming ofNat->E,tmod->L
open Decidable renaming decide->F
open Option renaming some->H
open Go Go.Lft
namespace Go.Proofs.Pw
theorem jrI:∀ {l l':SL} {p q:D},StS p l→StS q l'→(∀ x,inS x l↔inS x l')→l=l'
 | [],[],_,_,_,_,_=>rfl
 | [],s::r,_,_,_,h',hx=>absurd ((hx s.1).2 (j0q.2 (.inl ⟨kr _,h'.2.1⟩))) j1I
 | s::r,[],_,_,h,_,hx=>absurd ((hx s.1).1 (j0q.2 (.inl ⟨kr _,h.2.1⟩))) j1I
 | s::r,s'::r',p,q,h,h',hx=>by
  obtain ⟨h1,h2,h3⟩:=h
  obtain ⟨g1,g2,g3⟩:=h'
  have e1:s.1=s'.1:=by
   have a1:=(hx s.1).1 (j0q.2 (.inl ⟨kr _,h2⟩))
   have a2:=(hx s'.1).2 (j0q.2 (.inl ⟨kr _,g2⟩))
   rcases j0q.1 a1 with a1 | a1
   ·rcases j0q.1 a2 with a2 | a2
    ·omega
    ·have:=h3.low a2;omega
   ·have:=g3.low a1
    rcases j0q.1 a2 with a2 | a2
    ·omega
    ·have:=h3.low a2;omega
  have e2:s.2=s'.2:=by
   apply kn
   intro hne
   by_cases hlt:s.2<s'.2
   ·rcases j0q.1 ((hx s.2).2 (j0q.2 (.inl ⟨omg_,hlt⟩))) with a | a
    ·omega
    ·have:=h3.low a;omega
   ·rcases j0q.1 ((hx s'.2).1 (j0q.2 (.inl ⟨omg_,omg_⟩))) with a | a
    ·omega
    ·have:=g3.low a;omega
  have hs:s=s':=Prod.ext e1 e2
  subst hs
  rw [jrI h3 g3 (fun x=> ?_)]
  constructor
  ·intro a
   have:=h3.low a
   exact (j0q.1 ((hx x).1 (j0q.2 (.inr a)))).resolve_left omg_
  ·intro a
   have:=g3.low a
   exact (j0q.1 ((hx x).2 (j0q.2 (.inr a)))).resolve_left omg_
theorem jvg:∀ {A B:SL} {lo mid:D},InO lo A→InO mid B→lo≤mid→(∀ s∈A,s.2≤mid)→InO lo (A++B)
 | [],B,lo,mid,_,hB,h,_=>hB.weak h
 | s::A,B,lo,mid,hA,hB,h,hs=>⟨hA.1,hA.2.1,jvg hA.2.2 hB (hs s smp_) (fun u hu=>hs u (by simp [hu]))⟩
theorem jww {f lo:D}:∀ {l:SL},InO lo l→(∀ s∈l,f≤s.1)→InO f l
 | [],_,_=>trivial
 | s::r,h,hf=>⟨hf s smp_,h.2⟩
theorem jrJ:∀ {A:SL} {p:D} {x:D×D},StS p A→p<x.1→(∀ s∈A,s.2<x.1)→x.1<x.2→StS p (A++[x])
 | [],_,_,_,hp,_,hx=>⟨hp,hx,trivial⟩
 | s::A,p,x,h,_,hs,hx=>⟨h.1,h.2.1,jrJ h.2.2 (hs s smp_) (fun u hu=>hs u (by simp [hu])) hx⟩
theorem jrK:∀ {A:SL} {p e:D} {y:D×D},StS p (A++[y])→y.2≤e→StS p (A++[(y.1,e)])
 | [],_,_,_,h,he=>⟨h.1,by have:=h.2.1;dsimp only;omega,trivial⟩
 | _::A,_,_,_,h,he=>⟨h.1,h.2.1,jrK h.2.2 he⟩
theorem jxc:∀ {A:SL} {p:D} {y:D×D},StS p (A++[y])→∀ s∈A,s.2<y.1
 | [],_,_,_,s,hs=>by simp at hs
 | u::A,p,y,h,s,hs=>by
  have low:∀ {A:SL} {p:D},StS p (A++[y])→p<y.1:=by
   intro A
   induction A with
   | nil=>intro p h;exact h.1
   | cons v r ih=>intro p h;have:=ih h.2.2;have:=h.1;have:=h.2.1;omega
  rcases jl.1 hs with rfl | hs
  ·exact low h.2.2
  ·exact jxc h.2.2 s hs
def jnA (l:SL) (x:D×D):SL:=cond (F (0<l.length)&&F ((l.getD (l.length-1) (0,0)).2=x.1)) (l.set (l.length-1) ((l.getD (l.length-1) (0,0)).1,x.2)) (l++[x])
theorem jqM (l:SL) (x:D×D):(jnA l x).length≤l.length+1:=by
 unfold jnA
 cases (F (0<l.length)&&F ((l.getD (l.length-1) (0,0)).2=x.1))<;>simp
theorem jxd {p:D} {l:SL} {x:D×D} (h:StS p l) (hp:p<x.1) (hx:x.1<x.2) (hl:∀ s∈l,s.2≤x.1) :
  StS p (jnA l x)∧(∀ y,inS y (jnA l x)↔inS y l∨(x.1≤y∧y<x.2))∧(∀ s∈jnA l x,s.2≤x.2):=by
 rcases vb l with rfl | ⟨A,u,rfl⟩
 ·refine ⟨⟨hp,hx,trivial⟩,fun y=> ?_,fun s hs=> ?_⟩
  ·show inS y [x]↔_
   rw [j0q]
   constructor
   ·rintro (h | h)
    ·exact .inr h
    ·exact absurd h j1I
   ·rintro (h | h)
    ·exact absurd h j1I
    ·exact .inl h
  ·have:s=x:=by simpa [jnA] using hs
   rw [this];exact kr _
 ·rw [vc] at h hl ⊢
  have hlt:=jxc h
  have hu:=hl u smp_
  have hg:(A++[u]).getD ((A++[u]).length-1) ((0:D),(0:D))=u:=by simp [List.getD]
  unfold jnA
  rw [hg]
  by_cases he:u.2=x.1
  ·rw [j00 smp_,j00 he]
   simp only [y8,jc]
   have hset:(A++[u]).set ((A++[u]).length-1) (u.1,x.2)=A++[(u.1,x.2)]:=smp_
   rw [hset]
   refine ⟨jrK h omg_,fun y=> ?_,fun s hs=> ?_⟩
   ·rw [jeT,jeT,j0q,j0q]
    have hu2:u.1<u.2:=by
     have:∀ {A:SL} {p:D},StS p (A++[u])→u.1<u.2:=by
      intro A
      induction A with
      | nil=>intro p h;exact h.2.1
      | cons v r ih=>intro p h;exact ih h.2.2
     exact this h
    constructor
    ·rintro (h | h | h)
     ·exact .inl (.inl h)
     ·dsimp only at h
      by_cases hy:y<u.2
      ·exact .inl (.inr (.inl ⟨h.1,hy⟩))
      ·exact .inr ⟨omg_,h.2⟩
     ·exact absurd h j1I
    ·rintro ((h | h | h) | h)
     ·exact .inl h
     ·exact .inr (.inl ⟨h.1,by dsimp only;omega⟩)
     ·exact absurd h j1I
     ·exact .inr (.inl ⟨by dsimp only;omega,h.2⟩)
   ·rcases js.1 hs with hs | hs
    ·have:=hl s (by simp [hs]);omega
    ·have:s=(u.1,x.2):=by simpa using hs
     rw [this];exact kr _
  ·rw [j01 he]
   simp only [Bool.and_false,jd]
   refine ⟨jrJ h hp (fun s hs=> ?_) hx,fun y=> ?_,fun s hs=> ?_⟩
   ·rcases js.1 hs with hs' | hs'
    ·have:=hlt s hs'
     have hu2:u.1<u.2:=by
      have:∀ {A:SL} {p:D},StS p (A++[u])→u.1<u.2:=by
       intro A
       induction A with
       | nil=>intro p h;exact h.2.1
       | cons v r ih=>intro p h;exact ih h.2.2
      exact this h
     omega
    ·have:s=u:=by simpa using hs'
     rw [this];omega
   ·rw [jeT (r:=[x]),j0q (l:=[])]
    constructor
    ·rintro (h | h | h)
     ·exact .inl h
     ·exact .inr h
     ·exact absurd h j1I
    ·rintro (h | h)
     ·exact .inl h
     ·exact .inr (.inl h)
   ·rcases js.1 hs with hs' | hs'
    ·have:=hl s hs';omega
    ·have:s=x:=by simpa using hs'
     rw [this];exact kr _
theorem jxe {p hi:D}:∀ (b l:SL) (lo:D),StS p l→InO lo b→p<lo→(∀ s∈l,s.2≤lo)→lo≤hi→(∀ s∈b,s.2≤hi)→
  StS p (b.foldl jnA l)∧(∀ y,inS y (b.foldl jnA l)↔inS y l∨inS y b)∧(∀ s∈b.foldl jnA l,s.2≤hi)∧(b.foldl jnA l).length≤l.length+b.length
 | [],l,lo,h,_,_,hl,hlo,_=>⟨h,fun y=>⟨.inl,fun h=>h.resolve_right j1I⟩,fun s hs=>by have:=hl s hs;omega,smp_⟩
 | x::b,l,lo,h,hb,hp,hl,hlo,hhi=>by
  obtain ⟨b1,b2,b3⟩:=hb
  obtain ⟨j1,j2,j3⟩:=jxd h (x:=x) omg_ b2 (fun s hs=>by have:=hl s hs;omega)
  have hx:=hhi x smp_
  obtain ⟨k1,k2,k3,k4⟩:=jxe b (jnA l x) x.2 j1 b3 omg_ j3 hx (fun s hs=>hhi s (by simp [hs]))
  have:=jqM l x
  refine ⟨k1,fun y=> ?_,k3,?_⟩
  ·show inS y (b.foldl jnA (jnA l x))↔_
   rw [k2 y,j2 y,j0q]
   constructor
   ·rintro ((h | h) | h)
    ·exact .inl h
    ·exact .inr (.inl h)
    ·exact .inr (.inr h)
   ·rintro (h | h | h)
    ·exact .inl (.inl h)
    ·exact .inl (.inr h)
    ·exact .inr h
  ·show (b.foldl jnA (jnA l x)).length≤_
   simp only [jp];omega
theorem jvh {b:SL} (hb:b.length≤1000000):∀ (n i:G) (l:SL),i+n=b.length→l.length+n≤10000000→jdi b (i:D) l=H ((b.drop i).foldl jnA l)
 | 0,i,l,hi,_=>by
  rw [jfw]
  simp only [j5p,show E b.length=(b.length:D) from rfl]
  rw [j01 omg_,jd,j08,jj omg_]
  rfl
 | n+1,i,l,hi,hl=>by
  have hlt:i<b.length:=omg_
  have hgd:b.getD i ((0:D),(0:D))=b[i]:=by simp [List.getD,hlt]
  have ih:=jvh hb n (i+1) (jnA l b[i]) omg_ (by have:=jqM l b[i];omega)
  rw [show ((i+1:G):D)=(i:D)+1 by omega] at ih
  rw [jfw,jh hlt]
  simp only [j5p,show E b.length=(b.length:D) from rfl,show E l.length=(l.length:D) from rfl,yk]
  rw [j00 (show (i:D)<(b.length:D) by omega),jc,j1v (i:=(i:D)) (n:=b.length) omg_ omg_,j07 (x:=(i:D)+1)]
  simp only [jc,je,hgd]
  have hsz:F (l.length+[(b[i].1,b[i].2)].length≤j05)=true:=j00 (by simp [j05];omega)
  by_cases h0:0<l.length
  ·rw [j00 (show (l.length:D)>0 by omega),j07 (x:=(l.length:D)-1),j1v (i:=(l.length:D)-1) omg_ omg_,show ((l.length:D)-1).toNat=l.length-1 by omega]
   simp only [jc]
   by_cases he:(l.getD (l.length-1) ((0:D),(0:D))).2=b[i].1
   ·have e:jnA l b[i]=l.set (l.length-1) ((l.getD (l.length-1) ((0:D),(0:D))).1,b[i].2):=by unfold jnA;rw [j00 h0,j00 he];rfl
    rw [j5N he,jc,j06,←e]
    exact ih
   ·have e:jnA l b[i]=l++[b[i]]:=by unfold jnA;rw [j01 he,Bool.and_false];rfl
    rw [j2q he,jd,hsz,jc,j06]
    rw [e] at ih ⊢
    exact ih
  ·have e:jnA l b[i]=l++[b[i]]:=by unfold jnA;rw [j01 h0];rfl
   rw [j01 (show ¬ (l.length:D)>0 by omega),jd,hsz,jc,j06]
   rw [e] at ih ⊢
   exact ih
theorem jwx {l b:SL} (hb:b.length≤1000000) (hl:l.length≤1000000):j7Y l b=H (b.foldl jnA l):=by
 have:=jvh hb b.length 0 l omg_ omg_
 rw [show ((0:G):D)=0 from rfl,jy] at this
 simp only [j7Y,this,ja]
theorem sec5 {d s:D} (hd : -1≤d) (hd2:d≤1000000) (hs:0≤s) (hs2:s≤86399):j6g (d,s)=H ((d*86400+s+259200)%604800):=by
 have e:L d 7+10=d%7+10∨d = -1:=by
  by_cases h:0≤d
  ·exact .inl (by rw [jgn h])
  ·exact .inr omg_
 simp only [j6g,jau,ja]
 rcases e with e | rfl
 ·rw [e,j07 (x:=d%7+10),jgn omg_,j07 (x:=(d%7+10)%7*86400),j07 (x:=(d%7+10)%7*86400+s)]
  congr 1;omega
 ·rw [show L (-1) 7 = -1 from rfl,j07 (x:= -1+10),show L (-1+10) 7=2 from rfl,j07 (x:=2*86400),j07 (x:=2*86400+s)]
  congr 1;omega
def pcW (f t st:D):WL→SL
 | []=>[]
 | v::r=>cond (F ((ent f t st v).1<(ent f t st v).2)) (ent f t st v::pcW f t st r) (pcW f t st r)
def pcA (w:WL) (f t:D):G→D→SL
 | 0,_=>[]
 | m+1,st=>cond (F (st<t)) (pcW f t st w++pcA w f t m (st+604800)) []
theorem jqN (f t st:D):∀ w:WL,(pcW f t st w).length≤w.length
 | []=>by simp [pcW]
 | v::r=>by
  have:=jqN f t st r
  unfold pcW
  cases F ((ent f t st v).1<(ent f t st v).2)<;>simp<;>omega
theorem jxf {w:WL} (hw:WOk 0 w) (hl:w.length≤14) {st f t:D} (hst : -1000000≤st) (hst2:st≤8600000000):∀ (n i:G) (acc:SL),i+n=w.length→acc.length+n≤1000000→
  jbz w f t st (i:D) acc=H (w,f,t,st,acc++pcW f t st (w.drop i))
 | 0,i,acc,hi,_=>by
  rw [jeA]
  simp only [j4P,show E w.length=(w.length:D) from rfl]
  rw [j01 omg_,jd,j08,jj omg_]
  simp [pcW]
 | n+1,i,acc,hi,ha=>by
  have hlt:i<w.length:=omg_
  have hgd:w.getD i ((0:D),(0:D))=w[i]:=by simp [hlt]
  have hg:=jgp hw i hlt
  rw [hgd] at hg
  rw [jeA,jh hlt]
  simp only [j4P,show E w.length=(w.length:D) from rfl]
  rw [j00 (show (i:D)<(w.length:D) by omega),j1o]
  simp only [jc,je,hgd]
  rw [j07 (x:=(i:D)+1),j07 (x:=st+w[i].1),j07 (x:=st+w[i].2)]
  have ec:(F ((if st+w[i].1>f then st+w[i].1 else f)<(if st+w[i].2<t then st+w[i].2 else t)))=F ((ent f t st w[i]).1<(ent f t st w[i]).2):=rfl
  rw [ec]
  have ih:=fun acc h=>jxf hw hl hst hst2 (f:=f) (t:=t) n (i+1) acc omg_ h
  rw [show ((i+1:G):D)=(i:D)+1 by omega] at ih
  simp only [pcW]
  cases F ((ent f t st w[i]).1<(ent f t st w[i]).2) with
  | true=>
   rw [jc,j00 (by simp [j05];omega),jc,j06,jc]
   have:=ih (acc++[ent f t st w[i]]) sqo_
   rw [jr] at this
   exact this
  | false=>
   rw [jd,j06,jd]
   exact ih acc omg_
theorem jxg {w:WL} (hw:WOk 0 w) (hl:w.length≤14) {f t:D} (ht:t≤8589934592):∀ (m:G) (st:D) (acc:SL), -1000000≤st→t≤st+604800*m→acc.length+14*m≤900000→
  jbA w f t st acc=H (acc++pcA w f t m st)
 | 0,st,acc,hst,hm,_=>by
  rw [jeB]
  simp only [j4Q]
  rw [j01 omg_,jd,j08]
  simp [pcA]
 | m+1,st,acc,hst,hm,hacc=>by
  rw [jeB]
  simp only [j4Q,pcA]
  by_cases hlt:st<t
  ·have h2:=jxf hw hl hst omg_ (f:=f) (t:=t) w.length 0 acc omg_ omg_
   rw [show ((0:G):D)=0 from rfl,jy] at h2
   have hlen:=jqN f t st w
   rw [j00 hlt,jc,h2]
   simp only [ja,jc]
   rw [j07 (x:=st+604800),j06]
   have:=jxg hw hl ht m (st+604800) (acc++pcW f t st w) omg_ omg_ sqo_ (f:=f)
   rw [jr] at this
   exact this
  ·rw [j01 hlt,jd,j08,jd,ql]
theorem jvi {f t st:D}:∀ {w:WL} {p:D},WOk p w→InO (st+p) (pcW f t st w)∧∀ s∈pcW f t st w,f≤s.1∧s.2≤t∧s.2≤st+604800
 | [],_,_=>⟨trivial,fun s hs=>by simp [pcW] at hs⟩
 | v::r,p,h=>by
  obtain ⟨h1,h2,h3,h4⟩:=h
  obtain ⟨i1,i2⟩:=jvi (f:=f) (t:=t) (st:=st) h4
  unfold pcW
  by_cases hc:(ent f t st v).1<(ent f t st v).2
  ·have e1:st+v.1≤(ent f t st v).1∧f≤(ent f t st v).1:=by unfold ent;dsimp only;split<;>omega
   have e2:(ent f t st v).2≤st+v.2∧(ent f t st v).2≤t:=by unfold ent;dsimp only;split<;>omega
   rw [j00 hc,jc]
   refine ⟨⟨omg_,hc,i1.weak omg_⟩,fun s hs=> ?_⟩
   rcases jl.1 hs with rfl | hs
   ·exact ⟨e1.2,e2.2,omg_⟩
   ·exact i2 s hs
  ·rw [j01 hc,jd]
   exact ⟨i1.weak omg_,i2⟩
theorem jxh {f t st x:D}:∀ {w:WL} {p:D},WOk p w→(inS x (pcW f t st w)↔f≤x∧x<t∧∃ v∈w,st+v.1≤x∧x<st+v.2)
 | [],_,_=>⟨fun h=>absurd h j1I,fun ⟨_,_,v,hv,_⟩=>by simp at hv⟩
 | v::r,p,h=>by
  obtain ⟨h1,h2,h3,h4⟩:=h
  have ih:=jxh (f:=f) (t:=t) (st:=st) (x:=x) h4
  have he:((ent f t st v).1≤x∧x<(ent f t st v).2)↔f≤x∧x<t∧st+v.1≤x∧x<st+v.2:=by
   unfold ent;dsimp only
   constructor
   ·rintro ⟨a1,a2⟩
    have b1:f≤x∧st+v.1≤x:=by split at a1<;>omega
    have b2:x<t∧x<st+v.2:=by split at a2<;>omega
    exact ⟨b1.1,b2.1,b1.2,b2.2⟩
   ·rintro ⟨a1,a2,a3,a4⟩
    refine ⟨?_,?_⟩<;>split<;>omega
  unfold pcW
  by_cases hc:(ent f t st v).1<(ent f t st v).2
  ·rw [j00 hc,jc,j0q,ih,he]
   constructor
   ·rintro (⟨a1,a2,a3,a4⟩ | ⟨a1,a2,u,hu,a3⟩)
    ·exact ⟨a1,a2,v,smp_,a3,a4⟩
    ·exact ⟨a1,a2,u,by simp [hu],a3⟩
   ·rintro ⟨a1,a2,u,hu,a3⟩
    rcases jl.1 hu with rfl | hu
    ·exact .inl ⟨a1,a2,a3⟩
    ·exact .inr ⟨a1,a2,u,hu,a3⟩
  ·rw [j01 hc,jd,ih]
   constructor
   ·rintro ⟨a1,a2,u,hu,a3⟩;exact ⟨a1,a2,u,by simp [hu],a3⟩
   ·rintro ⟨a1,a2,u,hu,a3⟩
    rcases jl.1 hu with rfl | hu
    ·have:=he.2 ⟨a1,a2,a3⟩;omega
    ·exact ⟨a1,a2,u,hu,a3⟩
theorem jxi {w:WL} (hw:WOk 0 w) {f t:D}:∀ (m:G) (st:D),t≤st+604800*m→
  InO st (pcA w f t m st)∧(∀ s∈pcA w f t m st,f≤s.1∧s.2≤t)∧(pcA w f t m st).length≤w.length*m∧∀ x,inS x (pcA w f t m st)↔f≤x∧x<t∧st≤x∧hasB ((x-st)%604800) w=true
 | 0,st,hm=>⟨trivial,fun s hs=>by simp [pcA] at hs,by simp [pcA],fun x=>⟨fun h=>absurd h j1I,fun h=>omg_⟩⟩
 | m+1,st,hm=>by
  obtain ⟨i1,i2,i3,i4⟩:=jxi hw (f:=f) (t:=t) m (st+604800) omg_
  obtain ⟨j1,j2⟩:=jvi (f:=f) (t:=t) (st:=st) hw
  rw [Int.add_zero] at j1
  unfold pcA
  by_cases hlt:st<t
  ·rw [j00 hlt,jc]
   refine ⟨jvg j1 i1 omg_ (fun s hs=>(j2 s hs).2.2),fun s hs=> ?_,?_,fun x=> ?_⟩
   ·rcases js.1 hs with hs | hs
    ·exact ⟨(j2 s hs).1,(j2 s hs).2.1⟩
    ·exact i2 s hs
   ·have:=jqN f t st w
    rw [jo,Nat.mul_succ];omega
   ·rw [jeT,i4 x,jxh hw]
    constructor
    ·rintro (⟨a1,a2,v,hv,a3,a4⟩ | ⟨a1,a2,a3,a4⟩)
     ·obtain ⟨i,hi,rfl⟩:=yi hv
      have hg:=jgp hw i hi
      rw [show w.getD i (0,0)=w[i] by simp [hi]] at hg
      exact ⟨a1,a2,omg_,jkD.2 ⟨w[i],hv,omg_,omg_⟩⟩
     ·refine ⟨a1,a2,omg_,?_⟩
      rw [show (x-st)%604800=(x-(st+604800))%604800 by omega];exact a4
    ·rintro ⟨a1,a2,a3,a4⟩
     by_cases hx:st+604800≤x
     ·refine .inr ⟨a1,a2,hx,?_⟩
      rw [show (x-(st+604800))%604800=(x-st)%604800 by omega];exact a4
     ·obtain ⟨v,hv,c1,c2⟩:=jkD.1 a4
      have e1:(x-st)%604800=x-st:=omg_
      rw [e1] at c1 c2
      exact .inl ⟨a1,a2,v,hv,omg_,omg_⟩
  ·rw [j01 hlt,jd]
   exact ⟨trivial,fun s hs=>by simp at hs,smp_,fun x=>⟨fun h=>absurd h j1I,fun h=>omg_⟩⟩
theorem jzK {w:WL} (hw:WOk 0 w) (hl:w.length≤14) {f t n:D} (hf:0≤f) (ht:t≤8589934592) (hft:f<t) (hn : -64800≤n) (hn2:n≤64800) {M:G} (hM:M≤60) (hlen:t-f≤604800*M) :
  ∃ P,j9f w f t n=H P∧InO f P∧(∀ s∈P,s.2≤t)∧P.length≤w.length*(M+1)∧∀ x,inS x P↔f≤x∧x<t∧hasB ((x+n+259200)%604800) w=true:=by
 have e1:j6g ((f+n+864000)/86400-10,(f+n+864000)%86400)=H ((f+n+259200)%604800):=by
  rw [sec5 omg_ omg_ omg_ omg_]
  congr 1;omega
 generalize hst:f-(f+n+259200)%604800=st
 obtain ⟨a1,a2,a3,a4⟩:=jxi hw (f:=f) (t:=t) (M+1) st omg_
 refine ⟨pcA w f t (M+1) st,?_,jww a1 (fun s hs=>(a2 s hs).1),fun s hs=>(a2 s hs).2,a3,fun x=> ?_⟩
 ·simp only [j9f]
  rw [j07 (x:=f+n),j07 (x:=f+n+864000),jdN omg_,j07 (x:=(f+n+864000)/86400),j07 (x:=(f+n+864000)/86400-10),jgn omg_,e1]
  simp only [ja]
  rw [j07 (x:=f+n-(f+n+259200)%604800),j07 (x:=f+n-(f+n+259200)%604800-n),show f+n-(f+n+259200)%604800-n=st by omega]
  rw [jxg hw hl ht (M+1) st [] omg_ omg_ sqo_]
  simp
 ·rw [a4 x]
  constructor
  ·rintro ⟨b1,b2,b3,b4⟩
   refine ⟨b1,b2,?_⟩
   rw [show (x+n+259200)%604800=(x-st)%604800 by omega];exact b4
  ·rintro ⟨b1,b2,b4⟩
   refine ⟨b1,b2,omg_,?_⟩
   rw [show (x-st)%604800=(x+n+259200)%604800 by omega];exact b4
def inP (o:D) (l:TrL) (w:WL) (a b:D) (k:G) (x:D):Prop:=a≤x∧x<b∧∃ j,j<k∧frm l j≤x∧x<frm l (j+1)∧hasB ((x+tof o l j+259200)%604800) w=true
theorem jyB {o:D} {l:TrL} (h:TOk o l) {w:WL} (hw:WOk 0 w) (hl:w.length≤14) {M:G} (hM:M≤60) {a b:D} (ha:0≤a) (hab:a≤b) (hb:b≤8589934592) (hlen:b-a≤604800*M) (nm:J) (rs:R Rule) (hll:l.length≤20) {c:G} (hc0:w.length*(M+1)≤c) (hc1:c≤854):∀ (n k:G) (acc:SL),k+n=l.length+1→
  StS (a-1) acc→(∀ s∈acc,s.2≤max a (frm l k)∧s.2≤b)→acc.length≤c*k→(∀ x,inS x acc↔inP o l w a b k x)→
  ∃ out,j9g w a b ((k:D)-1) nm o rs l acc=H out∧StS (a-1) out∧(∀ s∈out,s.2≤b)∧out.length≤c*(l.length+1)∧∀ x,inS x out↔inP o l w a b (l.length+1) x
 | 0,k,acc,hk,h1,h2,h3,h4=>by
  have hk:k=l.length+1:=omg_
  subst hk
  refine ⟨acc,?_,h1,fun s hs=>(h2 s hs).2,h3,h4⟩
  rw [jeC]
  simp only [j4R,show E l.length=(l.length:D) from rfl]
  rw [j01 omg_,jd,j08]
 | n+1,k,acc,hk,h1,h2,h3,h4=>by
  have hkl:k≤l.length:=omg_
  have hck:c*k≤854*20:=z8 hc1 omg_
  have hcs:c*(k+1)=c*k+c:=Nat.mul_succ c k
  have o0:=h.of0 k hkl;have o1:=h.of1 k hkl
  have hfl:=h.frm_lt (i:=k) hkl
  have hf0:=h.frm_le (i:=0) (j:=k) omg_ omg_
  rw [frm0] at hf0
  have hend:k=l.length→frm l (k+1)=8589934593:=fun e=>by rw [e];exact j5g
  have key:∀ A:Option ((WL×D×D×D×J×D×R Rule×TrL×SL) ⊕ SL),
    A=(if max a (frm l k)<min b (frm l (k+1)) then (j9f w (max a (frm l k)) (min b (frm l (k+1))) (tof o l k)).bind fun p=>(j7Y acc p).bind fun j=>H (.inl (w,a,b,(k:D),nm,o,rs,l,j)) else H (.inl (w,a,b,(k:D),nm,o,rs,l,acc)))→
    ∃ out,lpK A (fun h=>j9g h.1 h.2.1 h.2.2.1 h.2.2.2.1 h.2.2.2.2.1 h.2.2.2.2.2.1 h.2.2.2.2.2.2.1 h.2.2.2.2.2.2.2.1 h.2.2.2.2.2.2.2.2)=H out∧StS (a-1) out∧(∀ s∈out,s.2≤b)∧out.length≤c*(l.length+1)∧∀ x,inS x out↔inP o l w a b (l.length+1) x:=by
   intro A hA
   have e1:((k+1:G):D)-1=(k:D):=omg_
   by_cases hc:max a (frm l k)<min b (frm l (k+1))
   ·rw [if_pos hc] at hA
    obtain ⟨p,ep,p1,p2,p3,p4⟩:=jzK hw hl (f:=max a (frm l k)) (t:=min b (frm l (k+1))) omg_ omg_ hc o0 o1 hM omg_
    obtain ⟨q1,q2,q3,q4⟩:=jxe (p:=a-1) (hi:=min b (frm l (k+1))) p acc (max a (frm l k)) h1 p1 omg_ (fun s hs=>(h2 s hs).1) omg_ p2
    rw [ep,ja,jwx omg_ omg_,ja] at hA
    rw [hA,j06]
    have ih:=jyB h hw hl hM ha hab hb hlen nm rs hll hc0 hc1 n (k+1) (p.foldl jnA acc) omg_ q1 (fun s hs=>by have:=q3 s hs;omega) omg_ (fun x=> ?_)
    ·rw [e1] at ih;exact ih
    ·rw [q2 x,h4 x,p4 x]
     constructor
     ·rintro (⟨a1,a2,j,a3,a4⟩ | ⟨a1,a2,a3⟩)
      ·exact ⟨a1,a2,j,omg_,a4⟩
      ·exact ⟨omg_,omg_,k,omg_,omg_,omg_,a3⟩
     ·rintro ⟨a1,a2,j,a3,a4,a5,a6⟩
      by_cases hj:j=k
      ·subst hj;exact .inr ⟨omg_,omg_,a6⟩
      ·exact .inl ⟨a1,a2,j,omg_,a4,a5,a6⟩
   ·rw [if_neg hc] at hA
    rw [hA,j06]
    have ih:=jyB h hw hl hM ha hab hb hlen nm rs hll hc0 hc1 n (k+1) acc omg_ h1 (fun s hs=>by have:=h2 s hs;omega) omg_ (fun x=> ?_)
    ·rw [e1] at ih;exact ih
    ·rw [h4 x]
     constructor
     ·rintro ⟨a1,a2,j,a3,a4⟩
      exact ⟨a1,a2,j,omg_,a4⟩
     ·rintro ⟨a1,a2,j,a3,a4,a5,a6⟩
      by_cases hj:j=k
      ·subst hj;omega
      ·exact ⟨a1,a2,j,omg_,a4,a5,a6⟩
  rw [jeC]
  refine key _ ?_
  simp only [j4R,show E l.length=(l.length:D) from rfl]
  rw [j00 (show (k:D)-1<(l.length:D) by omega),jc,j07 (x:=(k:D)-1+1),show (k:D)-1+1=(k:D) by omega]
  have hmax:∀ u:D,(if u>a then u else a)=max a u:=fun u=>by split<;>omega
  have hmin:∀ u:D,(if u<b then u else b)=min b u:=fun u=>by split<;>omega
  rcases yn k with hk0 | hk0
  ·subst hk0
   have et:tof o l 0=o:=rfl
   have em:max a (frm l 0)=a:=by rw [frm0];omega
   rw [j01 (show ¬ ((0:G):D)-1≥0 by omega),jd,em,et]
   by_cases hl0:0<l.length
   ·have ef:(l.getD 0 ((0:D),(0:D))).1=frm l 1:=(j7w hl0).symm
    rw [j00 (show ((0:G):D)<(l.length:D) by omega),jc,j1v (i:=((0:G):D)) omg_ omg_,jc,je,ef,hmin]
    by_cases hc:a<min b (frm l 1)
    ·rw [j00 hc,if_pos hc];rfl
    ·rw [j01 hc,if_neg hc];rfl
   ·have ef:min b (frm l (0+1))=b:=by rw [hend omg_];omega
    rw [j01 (show ¬ ((0:G):D)<(l.length:D) by omega),jd,ef]
    by_cases hc:a<b
    ·rw [j00 hc,if_pos hc];rfl
    ·rw [j01 hc,if_neg hc];rfl
  ·obtain ⟨k,rfl⟩:∃ k',k=k'+1:=⟨k-1,omg_⟩
   have e1:((k+1:G):D)-1=(k:D):=omg_
   have et:(l.getD k ((0:D),(0:D))).2=tof o l (k+1):=rfl
   have ef0:(l.getD k ((0:D),(0:D))).1=frm l (k+1):=(j7w omg_).symm
   rw [e1,j00 (show (k:D)≥0 by omega),jc,j1v (i:=(k:D)) omg_ omg_]
   simp only [jc,je,et,ef0,hmax]
   by_cases hl0:k+1<l.length
   ·have ef:(l.getD (k+1) ((0:D),(0:D))).1=frm l (k+1+1):=(j7w hl0).symm
    rw [j00 (show ((k+1:G):D)<(l.length:D) by omega),jc,j1v (i:=((k+1:G):D)) omg_ omg_,jc,ef,hmin]
    by_cases hc:max a (frm l (k+1))<min b (frm l (k+1+1))
    ·rw [j00 hc,if_pos hc];rfl
    ·rw [j01 hc,if_neg hc];rfl
   ·have ef:min b (frm l (k+1+1))=b:=by rw [hend omg_];omega
    rw [j01 (show ¬ ((k+1:G):D)<(l.length:D) by omega),jd,ef]
    by_cases hc:max a (frm l (k+1))<b
    ·rw [j00 hc,if_pos hc];rfl
    ·rw [j01 hc,if_neg hc];rfl
theorem jsQ {z:J×(D×R Rule)} {l:TrL} (h4:Z4 z l) (hll:l.length≤20) {w:WL} (hck:j60 w=H 0) (hw:WOk 0 w) (hl:w.length≤14) {M:G} (hM:M≤60) {a b:D} (ha:0≤a) (hab:a≤b) (hb:b≤8589934592) (hlen:b-a≤604800*M) (hq:b-a≤34560000) :
  ∃ out,jcK z w a b=H (if out.length>4096 then ([],5) else (out,0))∧StS (a-1) out∧(∀ s∈out,s.2≤b)∧out.length≤w.length*(M+1)*(l.length+1)∧
   ∀ k,k≤l.length→∀ x,a≤x→x<b→frm l k≤x→x<frm l (k+1)→(inS x out↔hasB ((x+tof z.2.1 l k+259200)%604800) w=true):=by
 obtain ⟨out,e,o1,o2,o3,o4⟩:=jyB h4.2 hw hl hM ha hab hb hlen z.1 z.2.2 hll (jz _) (q7 (z8 hl (show M+1≤61 by omega)) (by decide)) (l.length+1) 0 [] omg_ trivial (fun s hs=>by simp at hs) smp_ (fun x=>⟨fun h=>absurd h j1I,fun ⟨_,_,j,hj,_⟩=>omg_⟩)
 rw [show ((0:G):D)-1 = -1 from rfl] at e
 refine ⟨out,?_,o1,o2,o3,fun k hk x x0 x1 k0 k1=> ?_⟩
 ·have er:j6M a b=H true:=by
   simp only [j6M]
   rw [j00 (show a≥0 from ha),j00 (show a≤8589934592 by omega),j00 (show b≥a from hab),j00 hb,j07 (x:=b-a),j00 hq]
   rfl
  simp only [jcK,show j0c (z.1,(z.2.1,z.2.2))=_ from h4.1,ja,jm,jd,hck,er,jk,e,show E out.length=(out.length:D) from rfl]
  by_cases hg:out.length>4096
  ·rw [j00 (show (out.length:D)>4096 by omega),if_pos hg];rfl
  ·rw [j01 (show ¬ (out.length:D)>4096 by omega),if_neg hg];rfl
 ·rw [o4 x]
  constructor
  ·rintro ⟨_,_,j,hj,j0,j1,j2⟩
   have:j=k:=by
    rcases vi j k with hlt | he | hlt
    ·have:=h4.2.frm_le (i:=j+1) (j:=k) omg_ omg_;omega
    ·exact he
    ·have:=h4.2.frm_le (i:=k+1) (j:=j) omg_ omg_;omega
   subst this
   exact j2
  ·exact fun hx=>⟨x0,x1,k,omg_,k0,k1,hx⟩
end Go.Proofs.Pw
