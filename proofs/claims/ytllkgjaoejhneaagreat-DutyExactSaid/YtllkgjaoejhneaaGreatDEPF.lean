/- Chapter 3: span.Merge: the jsi form of any spans. -/
import Derived.Test.YtllkgjaoejhneaaGreatDEPA
import Derived.Test.YtllkgjaoejhneaaGreatDEFns
import Derived.Test.YtllkgjaoejhneaaGreatDEPB
open _root_ renaming Int->d,Nat->I,List->N
open List renaming length->z,take_of_length_le->D,filter_append->G
open Int renaming ofNat->B
open Or renaming inl->F,inr->H
open Option renaming some->J
open Go Go.Lft
namespace Go.Proofs.Pw
abbrev SL:=N (d×d)
def inS (x:d) (l:SL):Prop:=∃ s∈l,s.1≤x∧x<s.2
def StS (p:d):SL→Prop
 | []=>True
 | x::r=>p<x.1∧x.1<x.2∧StS x.2 r
def Sml (l:SL):Prop:=∀ s∈l, -1000000000000≤s.1∧s.1≤1000000000000 ∧ -1000000000000≤s.2∧s.2≤1000000000000
theorem j1I {x:d}:¬ inS x []:=by rintro ⟨s,hs,_⟩;simp at hs
theorem j0q {x:d} {s:d×d} {l:SL}:inS x (s::l)↔(s.1≤x∧x<s.2)∨inS x l:=by
 constructor
 ·rintro ⟨u,hu,h⟩
  rcases jl.1 hu with rfl | hu
  ·exact F h
  ·exact H ⟨u,hu,h⟩
 ·rintro (h | ⟨u,hu,h⟩)
  ·exact ⟨s,smp_,h⟩
  ·exact ⟨u,by simp [hu],h⟩
theorem jeT {x:d} {l r:SL}:inS x (l++r)↔inS x l∨inS x r:=by
 constructor
 ·rintro ⟨u,hu,h⟩
  rcases js.1 hu with hu | hu
  ·exact F ⟨u,hu,h⟩
  ·exact H ⟨u,hu,h⟩
 ·rintro (⟨u,hu,h⟩ | ⟨u,hu,h⟩)
  ·exact ⟨u,by simp [hu],h⟩
  ·exact ⟨u,by simp [hu],h⟩
def nE (s:d×d):Bool:= !(decide (s.2≤s.1))
theorem jx3 {l:SL} (hl:l.length≤10000000):∀ (n i:I),i+n=l.length→(∀ s∈l.take i,nE s=true)→
  (∃ j:I,j0I (l.length:d) (i:d) l=J (.inl ((j:d),l))∧j<l.length∧(∀ s∈l.take j,nE s=true)∧nE (l.getD j (0,0))=false)∨
  (j0I (l.length:d) (i:d) l=J (.inr l)∧∀ s∈l,nE s=true)
 | 0,i,hi,h=>by
  rw [j2K]
  simp only [j0u]
  rw [j01 omg_,jd,j08]
  rw [D omg_] at h
  exact H ⟨rfl,h⟩
 | n+1,i,hi,h=>by
  rw [j2K]
  simp only [j0u,j7J]
  rw [j00 (show (i:d)<(l.length:d) by omega),j1o,j07 (x:=(i:d)+1)]
  simp only [jc,je,ja]
  have hlt:i<l.length:=omg_
  cases hc:decide ((l.getD i ((0:d),(0:d))).2≤(l.getD i ((0:d),(0:d))).1) with
  | true=>
   simp only [jc,j08]
   exact F ⟨i,rfl,hlt,h,by simp only [nE];rw [hc];rfl⟩
  | false=>
   simp only [jd,j06]
   refine jx3 hl n (i+1) omg_ fun s hs=> ?_
   rw [ya] at hs
   rcases js.1 hs with hs | hs
   ·exact h s hs
   ·have hgd:l.getD i ((0:d),(0:d))=l[i]:=by simp [hlt]
    rw [hgd] at hc
    rw [jv hlt] at hs
    simp at hs;subst hs
    simp only [nE];rw [hc];rfl
theorem jv0 {l:SL} (hl:l.length≤10000000):∀ (n i j:I) (b:SL),j+n=l.length→i≤j→b.length=l.length→b.drop j=l.drop j→b.take i=(l.take j).filter nE→
  ∃ (k:I) (b':SL),j13 (i:d) (j:d) b=J ((k:d),b')∧b'.length=l.length∧k≤l.length∧b'.take k=l.filter nE
 | 0,i,j,b,hj,hij,hb,hd,ht=>by
  rw [j2y]
  simp only [j0t,show B (z b)=(b.length:d) from rfl]
  rw [j01 omg_,jd,j08]
  rw [D (l:=l) omg_] at ht
  exact ⟨i,b,rfl,hb,omg_,ht⟩
 | n+1,i,j,b,hj,hij,hb,hd,ht=>by
  have hlt:j<l.length:=omg_
  have hbj:b.getD j ((0:d),(0:d))=l[j]:=by
   have:b[j]? = l[j]? := by
    have h:=qb (fun x=>x[0]?) hd
    simpa [List.getElem?_drop] using h
   rw [List.getD_eq_getElem?_getD,this,jv hlt];rfl
  have hd':b.drop (j+1)=l.drop (j+1):=by
   have:=qb (List.drop 1) hd
   simpa [List.drop_drop] using this
  have htk:l.take (j+1)=l.take j++[l[j]]:=by rw [ya,jv hlt];rfl
  rw [j2y]
  simp only [j0t,j7J,show B (z b)=(b.length:d) from rfl]
  rw [j00 (show (j:d)<(b.length:d) by omega),j1o,j1o,j07 (x:=(j:d)+1),j07 (x:=(i:d)+1)]
  simp only [jc,je,ja,hbj]
  cases hc:decide (l[j].2≤l[j].1) with
  | true=>
   simp only [jk,jd,j06]
   refine jv0 hl n i (j+1) b omg_ omg_ hb hd' ?_
   rw [htk,G,ht]
   simp [nE,hc]
  | false=>
   simp only [jt,jc,j06]
   refine jv0 hl n (i+1) (j+1) _ omg_ omg_ (by simpa using hb) ?_ ?_
   ·rw [List.drop_set_of_lt omg_];exact hd'
   ·have hib:i<b.length:=omg_
    rw [ya,List.take_set_of_le (jz _),List.getElem?_set_self hib,ht,htk,G]
    simp [nE,hc]
theorem jv1 {l:SL} (hl:l.length≤10000000):∃ n m,j1h l=J (n,m)∧m.take n.toNat=l.filter nE:=by
 simp only [j1h,j26,show B (z l)=(l.length:d) from rfl]
 rcases jx3 hl l.length 0 omg_ smp_ with ⟨j,e,hj,h1,h2⟩ | ⟨e,h⟩
 ·rw [show ((0:I):d)=0 from rfl] at e
  rw [e]
  simp only [ja,j7F]
  rw [j2q omg_,j07 (x:=(j:d)+1)]
  have hgd:l.getD j ((0:d),(0:d))=l[j]:=by simp [hj]
  rw [hgd] at h2
  obtain ⟨k,b,e2,hb,hk,ht⟩:=jv0 hl (l.length-(j+1)) j (j+1) l omg_ omg_ rfl rfl (by
   rw [ya,jv hj,G,List.filter_eq_self.2 h1]
   simp [h2])
  rw [show ((j:d)+1)=((j+1:I):d) from rfl,e2]
  simp only [jd,ja,show B (z b)=(b.length:d) from rfl,je]
  rw [j00 (show (0:d)≤(k:d) by omega),j00 (show (k:d)≤(b.length:d) by omega)]
  simp only [y8,jc,vz]
  rw [j00 sqo_,jc]
  refine ⟨_,_,rfl,?_⟩
  simp only [show (B k).toNat=k from rfl]
  rw [List.take_append_of_le_length sqo_,List.take_take,Nat.min_self,ht]
 ·rw [show ((0:I):d)=0 from rfl] at e
  rw [e]
  simp only [ja,j48,qh,jc]
  refine ⟨_,_,rfl,?_⟩
  simp only [show (B l.length).toNat=l.length from rfl]
  rw [D (jz _),List.filter_eq_self.2 h]
def mg1 (e:d×d):SL→SL
 | []=>[e]
 | s::r=>if s.1≤e.2 then mg1 (e.1,if s.2>e.2 then s.2 else e.2) r else e::mg1 s r
def mg:SL→SL
 | []=>[]
 | s::r=>mg1 s r
theorem jyp {L:SL} (hL:L.length≤10000000):∀ (n i:I) (A:SL) (e:d×d),i+n=L.length→A.length<i→
  j7K (L.length:d) (i:d) (A++[e]) L=J (A++mg1 e (L.drop i))
 | 0,i,A,e,hi,hA=>by
  rw [j9s]
  simp only [j3b]
  rw [j01 omg_,jd,j08,jj omg_]
  rfl
 | n+1,i,A,e,hi,hA=>by
  have hlt:i<L.length:=omg_
  have hgd:L.getD i ((0:d),(0:d))=L[i]:=by simp [hlt]
  have hle:(A++[e]).length=A.length+1:=smp_
  have hge:(A++[e]).getD A.length ((0:d),(0:d))=e:=smp_
  rw [j9s,jh hlt]
  simp only [j3b,mg1,show B (z (A++[e]))=((A.length:d)+1) from by rw [hle];rfl]
  rw [j00 (show (i:d)<(L.length:d) by omega),j1o,j00 (show (A.length:d)+1>0 by omega),j07 (x:=(A.length:d)+1-1),j07 (x:=(i:d)+1),
   j1v omg_ (by rw [hle];omega),show ((A.length:d)+1-1).toNat=A.length by omega]
  simp only [jc,je,hgd,hge]
  by_cases hc:L[i].1≤e.2
  ·rw [j00 hc,if_pos hc]
   simp only [jc,j06]
   rw [show (A++[e]).set A.length (e.1,if L[i].2>e.2 then L[i].2 else e.2)=A++[(e.1,if L[i].2>e.2 then L[i].2 else e.2)] by
    rw [vv _ _ (jz _)];simp]
   exact jyp hL n (i+1) A _ omg_ omg_
  ·rw [j01 hc,if_neg hc,j00 (by rw [hle];simp [j05];omega)]
   simp only [jd,jc,j06]
   have:=jyp hL n (i+1) (A++[e]) L[i] omg_ (by rw [hle];omega)
   rw [show A++e::mg1 L[i] (L.drop (i+1))=A++[e]++mg1 L[i] (L.drop (i+1)) by simp]
   exact this
theorem jAh {L:SL} (hL:L.length≤10000000):j7K (L.length:d) 0 [] L=J (mg L):=by
 rw [j9s]
 simp only [j3b]
 cases L with
 | nil=>rw [j01 smp_,jd,j08];rfl
 | cons s r=>
  rw [j00 (show (0:d)<((s::r).length:d) by simp only [jp];omega),j1v omg_ (by simp only [jp];omega)]
  simp only [jc,show B (z ([]:SL))=0 from rfl]
  rw [j01 (show ¬ ((0:d)>0) by omega),jd,j00 (by simp [j05]),j07 (x:=(0:d)+1)]
  simp only [jc,j06]
  have:=jyp hL r.length 1 [] s sqo_ smp_
  simpa [mg] using this
def Srt:SL→Prop
 | []=>True
 | s::r=>(∀ u∈r,s.1≤u.1)∧Srt r
theorem jv2:∀ {r:SL} {e:d×d} {p:d},p<e.1→e.1<e.2→(∀ s∈r,nE s=true)→Srt r→StS p (mg1 e r)
 | [],e,p,h1,h2,_,_=>⟨h1,h2,trivial⟩
 | s::r,e,p,h1,h2,h3,h4=>by
  simp only [mg1]
  have hs:s.1<s.2:=by have:=h3 s smp_;simp [nE] at this;omega
  split
  ·exact jv2 (by exact h1) (by dsimp only;split<;>omega) (fun u hu=>h3 u (by simp [hu])) h4.2
  ·exact ⟨h1,h2,jv2 omg_ hs (fun u hu=>h3 u (by simp [hu])) h4.2⟩
theorem jv3 {x:d}:∀ {r:SL} {e:d×d},(∀ s∈r,e.1≤s.1)→(∀ s∈r,nE s=true)→Srt r→(inS x (mg1 e r)↔(e.1≤x∧x<e.2)∨inS x r)
 | [],e,_,_,_=>by simp [mg1,inS]
 | s::r,e,h1,h3,h4=>by
  have hs:s.1<s.2:=by have:=h3 s smp_;simp [nE] at this;omega
  have he:e.1≤s.1:=h1 s smp_
  simp only [mg1]
  split
  ·rw [jv3 (e:=(e.1,if s.2>e.2 then s.2 else e.2)) (fun u hu=>h1 u (by simp [hu])) (fun u hu=>h3 u (by simp [hu])) h4.2,j0q]
   dsimp only
   constructor
   ·rintro (⟨a,b⟩ | h)
    ·split at b
     ·by_cases hx:x<e.2
      ·exact F ⟨a,hx⟩
      ·exact H (F ⟨omg_,b⟩)
     ·exact F ⟨a,b⟩
    ·exact H (H h)
   ·rintro (⟨a,b⟩ | ⟨a,b⟩ | h)
    ·exact F ⟨a,by split<;>omega⟩
    ·exact F ⟨omg_,by split<;>omega⟩
    ·exact H h
  ·rw [j0q,jv3 h4.1 (fun u hu=>h3 u (by simp [hu])) h4.2,j0q]
theorem jqJ:∀ (r:SL) (e:d×d),(mg1 e r).length≤r.length+1
 | [],e=>by simp [mg1]
 | s::r,e=>by
  simp only [mg1]
  split
  ·have:=jqJ r (e.1,if s.2>e.2 then s.2 else e.2);simp only [jp];omega
  ·have:=jqJ r s;simp only [jp];omega
theorem jv4 {lo hi:d}:∀ {r:SL} {e:d×d},(lo≤e.1∧e.2≤hi)→(∀ s∈r,lo≤s.1∧s.2≤hi)→∀ u∈mg1 e r,lo≤u.1∧u.2≤hi
 | [],e,h1,h2=>by simp only [mg1];intro u hu;simp at hu;subst hu;exact h1
 | s::r,e,h1,h2=>by
  have hs:=h2 s smp_
  simp only [mg1]
  split
  ·exact jv4 ⟨h1.1,by dsimp only;split<;>omega⟩ (fun u hu=>h2 u (by simp [hu]))
  ·intro u hu
   rcases jl.1 hu with rfl | hu
   ·exact h1
   ·exact jv4 hs (fun u hu=>h2 u (by simp [hu])) u hu
theorem jzt {L:SL} (h:L.Pairwise (fun x y=>¬ w64 (y.1-x.1)<0)) (hb:Sml L):Srt L:=by
 induction L with
 | nil=>trivial
 | cons s r ih=>
  rw [zi] at h
  refine ⟨fun u hu=> ?_,ih h.2 (fun v hv=>hb v (by simp [hv]))⟩
  have h1:=h.1 u hu
  have h2:=hb s smp_
  have h3:=hb u (by simp [hu])
  rw [j07 (x:=u.1-s.1)] at h1
  omega
theorem jws:Go.Sort.SWO (Go.Proofs.ltOf fun (x y:Go.Lft.Sml (.pair (.int .i64) (.int .i64)))=>(j6d x.1 y.1).getD 0):=by
 refine juv (fun x=>x.1.1) (fun x=> ?_) _ fun x y=>rfl
 have:=x.2
 simp only [j7p,ji,jq] at this
 exact this.1
theorem jyq {l:SL} (hl:l.length≤10000000) (hb:Sml l):∃ L,j0R l=J L∧L.Perm l∧Srt L:=by
 obtain ⟨L,e,hp,hs⟩:=jw9 (a:= .pair (.int .i64) (.int .i64)) (cf:=fun x y=>(j6d x y).getD 0) jws (xs:=l) (fun x hx=>by
  have:=hb x hx
  simp only [j7p,ji,jq]
  refine ⟨⟨?_,?_⟩,⟨?_,?_⟩⟩
  ·exact ye (by decide) this.1
  ·exact ye this.2.1 (by decide)
  ·exact ye (by decide) this.2.2.1
  ·exact ye this.2.2.2 (by decide)) (by show z l<_;omega)
 exact ⟨L,e,hp,jzt hs fun s hm=>hb s (hp.mem_iff.1 hm)⟩
theorem jrE {l:SL} (hl:l.length≤10000000) (hb:Sml l) {lo hi:d} (hlo:∀ s∈l,s.1<s.2→lo≤s.1∧s.2≤hi) :
  ∃ out,jcD l=J out∧StS (lo-1) out∧(∀ x,inS x out↔inS x l)∧out.length≤l.length∧∀ u∈out,lo≤u.1∧u.2≤hi:=by
 obtain ⟨n,m,e1,ht⟩:=jv1 hl
 have hfl:(l.filter nE).length≤l.length:=List.length_filter_le _ _
 obtain ⟨L,e2,hp,hs⟩:=jyq (l:=l.filter nE) omg_ (fun s h=>hb s (List.mem_filter.1 h).1)
 have hLl:L.length=(l.filter nE).length:=hp.length_eq
 have hLm:∀ s,s∈L↔s∈l∧nE s=true:=fun s=>hp.mem_iff.trans List.mem_filter
 have hLx:∀ x,inS x L↔inS x l:=by
  intro x
  constructor
  ·rintro ⟨s,h,h2⟩;exact ⟨s,((hLm s).1 h).1,h2⟩
  ·rintro ⟨s,h,h2⟩;exact ⟨s,(hLm s).2 ⟨h,by simp only [nE];rw [j01 omg_];rfl⟩,h2⟩
 have hne:∀ s∈L,s.1<s.2:=fun s h=>by have:=((hLm s).1 h).2;simp [nE] at this;omega
 refine ⟨mg L,?_,?_⟩
 ·simp only [jcD,j2Q]
  rw [j00 (by simp [j05];omega)]
  simp only [jc,ja,kg,e1,ht,e2,show B (z L)=(L.length:d) from rfl,jAh (L:=L) omg_]
 ·cases L with
  | nil=>
   refine ⟨trivial,fun x=>hLx x,by simp [mg],by simp [mg]⟩
  | cons s r=>
   have h0:=hlo s ((hLm s).1 smp_).1 (hne s smp_)
   have hr:∀ u∈r,nE u=true:=fun u hu=>((hLm u).1 (by simp [hu])).2
   refine ⟨jv2 omg_ (hne s smp_) hr hs.2,fun x=> ?_,?_,?_⟩
   ·rw [←hLx x,j0q]
    exact jv3 hs.1 hr hs.2
   ·have:=jqJ r s
    simp only [mg,jp] at *
    omega
   ·exact jv4 h0 fun u hu=>hlo u ((hLm u).1 (by simp [hu])).1 (hne u (by simp [hu]))
def pcf (o:d) (l:TrL) (a b:d) (k:I):I→N (d×(d×d))
 | 0=>[]
 | n+1=>if frm l (k+1)<b then (a,(frm l (k+1),tof o l k))::pcf o l (frm l (k+1)) b (k+1) n else [(a,(b,tof o l k))]
section
variable {o:d} {l:TrL} (h:TOk o l)
include h
theorem jx4 {b:d} (hb:b≤8589934592):∀ (n k:I) (a:d) (acc:N (d×(d×d))),k+n=l.length+1→k≤l.length→frm l k≤a→a<frm l (k+1)→a<b→acc.length≤k→
  j2p a b o l acc=J (acc++pcf o l a b k n)
 | 0,k,a,acc,hn,hk,_,_,_,_=>omg_
 | n+1,k,a,acc,hn,hk,h1,h2,hab,ha=>by
  have hlen:=h.len
  rw [j1E]
  simp only [j0w,show B (z l)=(l.length:d) from rfl,pcf]
  rw [j00 hab]
  simp only [jc,jnf h hk h1 h2,jkt h hk,ja]
  by_cases hkl:k<l.length
  ·have hf:frm l (k+1)=(l.getD k ((0:d),(0:d))).1:=j7w hkl
   rw [j00 (show (k:d)<(l.length:d) by omega),j1o]
   simp only [jc,je,←hf]
   rw [j00 (by simp [j05];omega),jc,j06]
   by_cases hc:frm l (k+1)<b
   ·rw [if_pos hc,if_pos hc]
    have:=jx4 hb n (k+1) (frm l (k+1)) (acc++[(a,(frm l (k+1),tof o l k))]) omg_ omg_ omg_ (h.frm_lt omg_) hc sqo_
    rw [jr] at this
    exact this
   ·rw [if_neg hc,if_neg hc]
    rw [j1E]
    simp only [j0w]
    rw [j01 omg_,jd,j08]
  ·have hkk:k=l.length:=omg_
   have hf:frm l (k+1)=8589934593:=by rw [hkk];exact j5g
   rw [if_neg (show ¬ frm l (k+1)<b by omega),j01 omg_,jd,j00 (by simp [j05];omega),jc,j06]
   rw [j1E]
   simp only [j0w]
   rw [j01 omg_,jd,j08]
omit h in
theorem jv5:∀ (n k:I) (a b:d),(pcf o l a b k n).length≤n
 | 0,k,a,b=>by simp [pcf]
 | n+1,k,a,b=>by
  simp only [pcf]
  split
  ·have:=jv5 n (k+1) (frm l (k+1)) b;simp;omega
  ·simp
theorem jv6 {b:d}:∀ (n k:I) (a:d),k+n=l.length+1→frm l k≤a→a<frm l (k+1)→a<b→
  ∀ p∈pcf o l a b k n,a≤p.1∧p.1<p.2.1∧p.2.1≤b∧∃ i,k≤i∧i≤l.length∧p.2.2=tof o l i∧frm l i≤p.1∧p.2.1≤frm l (i+1)
 | 0,k,a,hn,h1,h2,hab,p,hp=>by simp [pcf] at hp
 | n+1,k,a,hn,h1,h2,hab,p,hp=>by
  simp only [pcf] at hp
  split at hp
  ·rename_i hc
   rcases jl.1 hp with rfl | hp
   ·exact ⟨kr _,h2,by dsimp only;omega,k,jz _,omg_,rfl,h1,kr _⟩
   ·cases n with
    | zero=>simp [pcf] at hp
    | succ n=>
    obtain ⟨a1,a2,a3,i,i1,i2,i3⟩:=jv6 (n+1) (k+1) (frm l (k+1)) omg_ (kr _) (h.frm_lt omg_) hc p hp
    exact ⟨omg_,a2,a3,i,omg_,i2,i3⟩
  ·rename_i hc
   simp at hp;subst hp
   exact ⟨kr _,hab,kr _,k,jz _,omg_,rfl,h1,by dsimp only;omega⟩
theorem jv7 {b:d} (hb:b≤8589934592):∀ (n k:I) (a:d),k+n=l.length+1→k≤l.length→frm l k≤a→a<frm l (k+1)→a<b→
  ∀ x,a≤x→x<b→∃ p∈pcf o l a b k n,p.1≤x∧x<p.2.1
 | 0,k,a,hn,hk,h1,h2,hab,x,hx,hx2=>omg_
 | n+1,k,a,hn,hk,h1,h2,hab,x,hx,hx2=>by
  simp only [pcf]
  split
  ·rename_i hc
   by_cases hlt:x<frm l (k+1)
   ·exact ⟨_,v7 ..,hx,hlt⟩
   ·have hkl:k+1≤l.length:=by
     rcases qt k l.length with h' | h'
     ·exact h'
     ·have:k=l.length:=omg_
      subst this
      rw [j5g] at hc;omega
    obtain ⟨p,hp,hp2⟩:=jv7 hb n (k+1) (frm l (k+1)) omg_ hkl (kr _) (h.frm_lt hkl) hc x omg_ hx2
    exact ⟨p,by simp [hp],hp2⟩
  ·exact ⟨_,v7 ..,hx,hx2⟩
theorem jx5 {a b:d} (ha:0≤a) (hab:a≤b) (hb:b≤8589934592):∃ ps,j1F (o,l) a b=J ps∧ps.length≤l.length+1∧
  (∀ p∈ps,a≤p.1∧p.1<p.2.1∧p.2.1≤b∧∃ i,i≤l.length∧p.2.2=tof o l i∧frm l i≤p.1∧p.2.1≤frm l (i+1))∧∀ x,a≤x→x<b→∃ p∈ps,p.1≤x∧x<p.2.1:=by
 simp only [j1F]
 rcases Int.lt_or_le a b with hlt | hge
 ·obtain ⟨k,hk,h1,h2⟩:=j8U h ha omg_
  have:=jx4 h hb (l.length+1-k) k a [] omg_ hk h1 h2 hlt smp_
  rw [kg] at this
  rw [this]
  refine ⟨_,rfl,?_,fun p hp=> ?_,jv7 h hb _ k a omg_ hk h1 h2 hlt⟩
  ·have:=jv5 (o:=o) (l:=l) (l.length+1-k) k a b;omega
  ·obtain ⟨a1,a2,a3,i,_,i2⟩:=jv6 h _ k a omg_ h1 h2 hlt p hp
   exact ⟨a1,a2,a3,i,i2⟩
 ·rw [j1E]
  simp only [j0w]
  rw [j01 omg_,jd,j08]
  exact ⟨[],rfl,smp_,smp_,fun x h1 h2=>omg_⟩
end
def ent (f t st:d) (v:d×d):d×Int:=(if st+v.1>f then st+v.1 else f,if st+v.2<t then st+v.2 else t)
theorem jkD {s:d}:∀ {w:WL},hasB s w=true↔∃ v∈w,v.1≤s∧s<v.2
 | []=>by simp [hasB]
 | x::r=>by
  simp only [hasB,jl]
  cases hc:cond (decide (x.1≤s)) (decide (s<x.2)) false with
  | true=>
   simp only [jc,true_iff]
   refine ⟨x,F rfl,?_⟩
   by_cases h1:x.1≤s
   ·rw [j00 h1,jc] at hc;exact ⟨h1,qe hc⟩
   ·rw [j01 h1,jd] at hc;simp at hc
  | false=>
   simp only [jd]
   rw [jkD (w:=r)]
   constructor
   ·rintro ⟨v,hv,h⟩;exact ⟨v,H hv,h⟩
   ·rintro ⟨v,rfl | hv,h⟩
    ·rw [j00 h.1,j00 h.2] at hc;simp at hc
    ·exact ⟨v,hv,h⟩
theorem jzu {w:WL} (hw:WOk 0 w) (hl:w.length≤14) {st f t q:d} (hst : -1000000≤st) (hst2:st≤8600000000) (a b:d) (ps:N (d×(d×d))):∀ (n i:I) (acc:SL),i+n=w.length→acc.length+n≤1000000→
  j7L w st a b w (w.length:d) (i:d) f t q acc ps=J (w,st,a,b,f,t,q,acc++(w.drop i).map (ent f t st),ps)
 | 0,i,acc,hi,_=>by
  rw [jbo]
  simp only [j3q]
  rw [j01 omg_,jd,j08,jj omg_]
  simp
 | n+1,i,acc,hi,ha=>by
  have hlt:i<w.length:=omg_
  have hgd:w.getD i ((0:d),(0:d))=w[i]:=by simp [hlt]
  have hg:=jgp hw i hlt
  rw [hgd] at hg
  rw [jbo,jh hlt]
  simp only [j3q]
  rw [j00 (show (i:d)<(w.length:d) by omega),j1o]
  simp only [jc,je,hgd]
  rw [j07 (x:=(i:d)+1),j07 (x:=st+w[i].1),j07 (x:=st+w[i].2),j00 (by simp [j05];omega),jc,j06]
  have:=jzu hw hl hst hst2 a b ps n (i+1) (acc++[ent f t st w[i]]) omg_ sqo_ (f:=f) (t:=t) (q:=q)
  rw [jr] at this
  exact this
theorem jAi {w:WL} (hw:WOk 0 w) (hl:w.length≤14) {f t q:d} (hf:0≤f) (ht:t≤8589934592) (hft:f<t) (a b:d) (ps:N (d×(d×d))):∀ (m:I) (st:d) (acc:SL), -1000000≤st→t≤st+604800*m→acc.length+14*m≤900000→
  ∃ E,j7M w st a b f t q acc ps=J (w,a,b,acc++E,ps)∧E.length≤w.length*m∧(∀ s∈E,f≤s.1∧s.2≤t∧s.1≤100000000000 ∧ -100000000000≤s.2)∧
   ∀ x,inS x E↔f≤x∧x<t∧st≤x∧hasB ((x-st)%604800) w=true:=by
 intro m
 induction m with
 | zero=>
  intro st acc hst hm _
  rw [jbp]
  simp only [j3r]
  rw [j01 omg_,jd,j08]
  exact ⟨[],smp_,smp_,smp_,fun x=>⟨fun h=>absurd h j1I,fun h=>omg_⟩⟩
 | succ m ih=>
  intro st acc hst hm hacc
  rw [jbp]
  simp only [j3r,show B (z w)=(w.length:d) from rfl]
  by_cases hlt:st<t
  ·have h4:=jzu hw hl hst omg_ a b ps w.length 0 acc omg_ omg_ (f:=f) (t:=t) (q:=q)
   rw [show ((0:I):d)=0 from rfl,jy] at h4
   rw [j00 hlt,jc,h4]
   simp only [ja]
   rw [j07 (x:=st+604800),j06]
   obtain ⟨E,e,h1,h2,h3⟩:=ih (st+604800) (acc++w.map (ent f t st)) omg_ omg_ sqo_
   refine ⟨w.map (ent f t st)++E,?_,?_,?_,fun x=> ?_⟩
   ·rw [jr] at e;exact e
   ·rw [jo,qa,Nat.mul_succ];omega
   ·intro s hs
    rcases js.1 hs with hs | hs
    ·obtain ⟨v,hv,rfl⟩:=kp.1 hs
     obtain ⟨i,hi,rfl⟩:=yi hv
     have hg:=jgp hw i hi
     rw [show w.getD i (0,0)=w[i] by simp [hi]] at hg
     simp only [ent]
     refine ⟨?_,?_,?_,?_⟩<;>split<;>omega
    ·exact h2 s hs
   ·rw [jeT,h3 x]
    constructor
    ·rintro (⟨s,hs,hx1,hx2⟩ | ⟨a1,a2,a3,a4⟩)
     ·obtain ⟨v,hv,rfl⟩:=kp.1 hs
      have hv':=hv
      obtain ⟨i,hi,rfl⟩:=yi hv
      have hg:=jgp hw i hi
      rw [show w.getD i (0,0)=w[i] by simp [hi]] at hg
      simp only [ent] at hx1 hx2
      have b1:f≤x∧st+w[i].1≤x:=by split at hx1<;>omega
      have b2:x<t∧x<st+w[i].2:=by split at hx2<;>omega
      refine ⟨b1.1,b2.1,omg_,jkD.2 ⟨w[i],hv',?_,?_⟩⟩<;>omega
     ·refine ⟨a1,a2,omg_,?_⟩
      rw [show (x-st)%604800=(x-(st+604800))%604800 by omega];exact a4
    ·rintro ⟨a1,a2,a3,a4⟩
     by_cases hx:st+604800≤x
     ·refine H ⟨a1,a2,hx,?_⟩
      rw [show (x-(st+604800))%604800=(x-st)%604800 by omega];exact a4
     ·obtain ⟨v,hv,c1,c2⟩:=jkD.1 a4
      have e1:(x-st)%604800=x-st:=omg_
      rw [e1] at c1 c2
      refine F ⟨ent f t st v,kp.2 ⟨v,hv,rfl⟩,?_,?_⟩<;>simp only [ent]<;>split<;>omega
  ·rw [j01 hlt,jd,j08]
   exact ⟨[],smp_,smp_,smp_,fun x=>⟨fun h=>absurd h j1I,fun h=>omg_⟩⟩
theorem jzv {w:WL} (hw:WOk 0 w) (hl:w.length≤14) {ps:N (d×(d×d))} {M:I} (hM:M≤60) (hpl:ps.length≤30) {lo hi:d} (hlo:0≤lo) (hhi:hi≤8589934592)
  (hps:∀ p∈ps,lo≤p.1∧p.1<p.2.1∧p.2.1≤hi ∧ -64800≤p.2.2∧p.2.2≤64800∧p.2.1-p.1≤604800*M):∀ (n i:I) (acc:SL),i+n=ps.length→acc.length≤854*i→
  ∃ E,j7N w (ps.length:d) (i:d) acc ps=J (acc++E)∧E.length≤w.length*(M+1)*n∧(∀ s∈E,lo≤s.1∧s.2≤hi∧s.1≤100000000000 ∧ -100000000000≤s.2)∧
   ∀ x,inS x E↔∃ p∈ps.drop i,p.1≤x∧x<p.2.1∧hasB ((x+p.2.2+259200)%604800) w=true
 | 0,i,acc,hi,_=>by
  rw [jbq]
  simp only [j3s]
  rw [j01 omg_,jd,j08,jj omg_]
  exact ⟨[],smp_,smp_,smp_,fun x=>⟨fun h=>absurd h j1I,fun ⟨p,hp,_⟩=>by simp at hp⟩⟩
 | n+1,i,acc,hi,hacc=>by
  have hlt:i<ps.length:=omg_
  have hgd:ps.getD i ((0:d),((0:d),(0:d)))=ps[i]:=by simp [hlt]
  obtain ⟨p1,p2,p3,p4,p5,p6⟩:=hps ps[i] (jx hlt)
  have hwm:w.length*(M+1)≤854:=q7 (z8 hl (show M+1≤61 by omega)) (by decide)
  rw [jbq,jh hlt]
  simp only [j3s]
  rw [j00 (show (i:d)<(ps.length:d) by omega),j1o]
  simp only [jc,je,hgd]
  rw [j07 (x:=ps[i].1+ps[i].2.2),j07 (x:=ps[i].1+ps[i].2.2 - -259200),jgn omg_]
  rw [j07 (x:=ps[i].1+ps[i].2.2 - -259200-(ps[i].1+ps[i].2.2 - -259200)%604800)]
  rw [j07 (x:=ps[i].1+ps[i].2.2 - -259200-(ps[i].1+ps[i].2.2 - -259200)%604800 + -259200)]
  rw [j07 (x:=ps[i].1+ps[i].2.2 - -259200-(ps[i].1+ps[i].2.2 - -259200)%604800 + -259200-ps[i].2.2)]
  generalize hst:ps[i].1+ps[i].2.2 - -259200-(ps[i].1+ps[i].2.2 - -259200)%604800 + -259200-ps[i].2.2=st
  obtain ⟨E1,e1,l1,b1,m1⟩:=jAi hw hl (f:=ps[i].1) (t:=ps[i].2.1) (q:=ps[i].2.2) omg_ omg_ p2 (ps.length:d) (i:d) ps (M+1) st acc omg_ omg_ omg_
  rw [e1]
  simp only [ja]
  rw [j07 (x:=(i:d)+1),j06]
  obtain ⟨E2,e2,l2,b2,m2⟩:=jzv hw hl hM hpl hlo hhi hps n (i+1) (acc++E1) omg_ sqo_
  refine ⟨E1++E2,?_,?_,?_,fun x=> ?_⟩
  ·rw [jr] at e2;exact e2
  ·rw [jo,Nat.mul_succ];omega
  ·intro s hs
   rcases js.1 hs with hs | hs
   ·have:=b1 s hs;omega
   ·exact b2 s hs
  ·rw [jeT,m1 x,m2 x]
   have key:∀ x,ps[i].1≤x→(x-st)%604800=(x+ps[i].2.2+259200)%604800∧st≤x:=by intro x hx;omega
   constructor
   ·rintro (⟨c1,c2,c3,c4⟩ | ⟨p,hp,h⟩)
    ·exact ⟨ps[i],v7 ..,c1,c2,by rw [←(key x c1).1];exact c4⟩
    ·exact ⟨p,z6 _ hp,h⟩
   ·rintro ⟨p,hp,c1,c2,c3⟩
    rcases jl.1 hp with rfl | hp
    ·exact F ⟨c1,c2,(key x c1).2,by rw [(key x c1).1];exact c3⟩
    ·exact H ⟨p,hp,c1,c2,c3⟩
theorem jsO {o:d} {l:TrL} (h:TOk o l) (hll:l.length≤20) {w:WL} (hw:WOk 0 w) (hl:w.length≤14) {M:I} (hM:M≤60) {a b:d} (ha:0≤a) (hab:a≤b) (hb:b≤8589934592) (hlen:b-a≤604800*M) :
  ∃ out,j50 (o,l) w a b=J out∧StS (a-1) out∧(∀ u∈out,a≤u.1∧u.2≤b)∧out.length≤w.length*(M+1)*(l.length+1)∧
   ∀ k,k≤l.length→∀ x,a≤x→x<b→frm l k≤x→x<frm l (k+1)→(inS x out↔hasB ((x+tof o l k+259200)%604800) w=true):=by
 obtain ⟨ps,e,pl,pm,pc⟩:=jx5 h ha hab hb
 obtain ⟨E,e1,l1,b1,m1⟩:=jzv hw hl hM (ps:=ps) omg_ (lo:=a) (hi:=b) ha hb (fun p hp=>by
  obtain ⟨h1,h2,h3,i,i1,i2,_⟩:=pm p hp
  have:=h.of0 i i1;have:=h.of1 i i1
  exact ⟨h1,h2,h3,omg_,omg_,omg_⟩) ps.length 0 [] omg_ smp_
 rw [show ((0:I):d)=0 from rfl,kg] at e1
 have hwm:w.length*(M+1)≤854:=q7 (z8 hl (show M+1≤61 by omega)) (by decide)
 have hEl:E.length≤w.length*(M+1)*(l.length+1):=q7 l1 (Nat.mul_le_mul_left _ pl)
 have hEl2:E.length≤854*21:=q7 hEl (z8 hwm omg_)
 obtain ⟨out,e2,s1,s2,s3,s4⟩:=jrE (l:=E) omg_ (fun s hs=>by have:=b1 s hs;omega) (lo:=a) (hi:=b) (fun s hs _=>⟨(b1 s hs).1,(b1 s hs).2.1⟩)
 refine ⟨out,?_,s1,s4,omg_,fun k hk x hx1 hx2 hk1 hk2=> ?_⟩
 ·simp only [j50,e,ja,show B (z ps)=(ps.length:d) from rfl,e1,e2]
 ·rw [s2 x,m1 x,jy]
  constructor
  ·rintro ⟨p,hp,c1,c2,c3⟩
   obtain ⟨h1,h2,h3,i,i1,i2,i3,i4⟩:=pm p hp
   have:i=k:=jfg h i1 hk (t:=x) omg_ omg_ hk1 hk2
   subst this
   rw [←i2];exact c3
  ·intro hx
   obtain ⟨p,hp,c1,c2⟩:=pc x hx1 hx2
   obtain ⟨h1,h2,h3,i,i1,i2,i3,i4⟩:=pm p hp
   have:i=k:=jfg h i1 hk (t:=x) omg_ omg_ hk1 hk2
   subst this
   exact ⟨p,hp,c1,c2,by rw [i2];exact hx⟩
theorem jdR {o:d} {rs:N Rule} (hm:MZ o rs):(outT o (j35 (occs rs))).length≤4:=by
 have h1:=jnj (j35 (occs rs)) o
 have h2:(j35 (occs rs)).length=(occs rs).length:=by
  unfold j35
  rw [List.length_reverse,j7u];simp
 have:=hm.few
 omega
theorem jyr {o:d} {rs:N Rule} (hm:MZ o rs):(outT o (j35 (occs rs))).length≤20:=q7 (jdR hm) omg_
end Go.Proofs.Pw
