/- Chapter 3: span.Merge: the jl3 form of any spans. -/
import Derived.Test.YtlnljpfkgigljaaGreatPOPA
import Derived.Test.YtlnljpfkgigljaaGreatPOFns
import Derived.Test.YtlnljpfkgigljaaGreatPOPC
import Derived.KernelRfl
import Derived.Test.YtlnljpfkgigljaaGreatPOPB
import Derived.Test.YtlnljpfkgigljaaGreatPOLD
open _root_ renaming Int->D,Nat->I,List->O
open Decidable renaming decide->F
open List renaming drop_eq_getElem_cons->G,getD->R,length->U,nil_append->W,length_append->X,length_cons->À,take_add_one->Ã,singleton_append->Å,filter_eq_self->Ç,getElem_of_mem->È,getElem_mem->Ë,drop_zero->Ì,mem_cons->Í
open Option renaming some->H
open ByteArray renaming empty->J,mk->Y
open Int renaming ofNat->S,tdiv_eq_ediv_of_nonneg->Â,le_refl->Ê,mul_comm->Ï,tmod->Ð
open Bool renaming true->Z
open Nat renaming le_trans->Á,mul_le_mul->Æ
open Or renaming inl->Ä,inr->É
open Go Go.Lft
namespace Go.Proofs.Pw
abbrev SL:=O (D×D)
def inS(x:D)(l:SL):Prop:=∃s∈l,s.1<=x/\x<s.2
def StS(p:D):SL->Prop
 |[]=>True
 |x::r=>p<x.1/\x.1<x.2/\StS x.2 r
def Sml(l:SL):Prop:=∀s∈l, -1000000000000<=s.1/\s.1<=1000000000000 /\ -1000000000000<=s.2/\s.2<=1000000000000
theorem j3n{x:D}:¬inS x []:=by rintro⟨s,hs,_⟩;simp at hs
theorem j0i{x:D}{s:D×D}{l:SL}:inS x (s::l)↔(s.1<=x/\x<s.2)\/inS x l:=by
 constructor
 .rintro⟨u,hu,h⟩
  rcases List.mem_cons.1 hu with rfl|hu
  .exact Ä h
  .exact É ⟨u,hu,h⟩
 .rintro (h|⟨u,hu,h⟩)
  .exact⟨s,smp_,h⟩
  .exact⟨u,by simp[hu],h⟩
theorem jgk{x:D}{l r:SL}:inS x (l++r)↔inS x l\/inS x r:=by
 constructor
 .rintro⟨u,hu,h⟩
  rcases List.mem_append.1 hu with hu|hu
  .exact Ä ⟨u,hu,h⟩
  .exact É ⟨u,hu,h⟩
 .rintro (⟨u,hu,h⟩|⟨u,hu,h⟩)
  .exact⟨u,by simp[hu],h⟩
  .exact⟨u,by simp[hu],h⟩
def nE(s:D×D):Bool:= !(F (s.2<=s.1))
theorem jAq{l:SL}(hl:l.length<=10000000):∀(n i:I),i+n=l.length->(∀s∈l.take i,nE s=Z)->
  (∃j:I,j0R (l.length:D) (i:D) l=H (.inl ((j:D),l))/\j<l.length/\(∀s∈l.take j,nE s=Z)/\nE (l.getD j (0,0))=false)\/
  (j0R (l.length:D) (i:D) l=H (.inr l)/\∀s∈l,nE s=Z)
 |0,i,hi,h=>by
  grind[j3o,j0C,j06]
 |n+1,i,hi,h=>by
  rw[j3o];simp only[j0C,j9j];rw[j00 (show (i:D)<(l.length:D) by omega),j0L,j05 (x:=(i:D)+1)];simp only[j6,j8,j4];have hlt:i<l.length:=omg_;cases hc:F ((l.getD i (0,0)).2<=(l.getD i (0,0)).1) with
  |true=>grind[j06,nE]
  |false=>simp only[j7,j03];refine jAq hl n (i+1) omg_ λs hs=>?_;grind[Ã,nE]
theorem jwN{l:SL}(hl:l.length<=10000000):∀(n i j:I)(b:SL),j+n=l.length->i<=j->b.length=l.length->b.drop j=l.drop j->b.take i=(l.take j).filter nE->
  ∃(k:I)(b':SL),j1a (i:D) (j:D) b=H ((k:D),b')/\b'.length=l.length/\k<=l.length/\b'.take k=l.filter nE
 |0,i,j,b,hj,hij,hb,hd,ht=>by
  grind[j3b,j0x,S0]
 |n+1,i,j,b,hj,hij,hb,hd,ht=>by
  have hlt:j<l.length:=omg_
  have hbj:b.getD j (0,0)=l[j]:=by
   have:b[j]? = l[j]? := by
    have h:=congrArg (λx=>x[0]?) hd;simpa[List.getElem?_drop]using h
   simp_all
  have hd':b.drop (j+1)=l.drop (j+1):=by have:=congrArg (List.drop 1) hd;grind[List.drop_drop]
  have htk:l.take (j+1)=l.take j++[l[j]]:=by simp_all
  rw[j3b];simp(disch:=omega)only[j0x,j9j,hbj,S0];cases hc:F (l[j].2<=l[j].1) with
  |true=>simp only[Bool.not_true,j7,j03];refine jwN hl n i (j+1) b omg_ omg_ hb hd' ?_;grind[nE]
  |false=>simp only[Bool.not_false,j6,j03];refine jwN hl n (i+1) (j+1) _ omg_ omg_ (by simpa using hb) ?_ ?_;all_goals grind[List.drop_set_of_lt,Ã,List.take_set_of_le,nE]
theorem jwO{l:SL}(hl:l.length<=10000000):∃n m,j1x l=H (n,m)/\m.take n.toNat=l.filter nE:=by
 simp only[j1x,j2E,show S (U l)=(l.length:D) from rfl];rcases jAq hl l.length 0 omg_ smp_ with⟨j,e,hj,h1,h2⟩|⟨e,h⟩
 .rw[show ((0:I):D)=0 from rfl]at e;rw[e];simp only[j4,jkm];rw[j1p omg_,j05 (x:=(j:D)+1)];have hgd:l.getD j (0,0)=l[j]:=by simp[hj]
  rw[hgd]at h2
  obtain⟨k,b,e2,hb,hk,ht⟩:=jwN hl (l.length-(j+1)) j (j+1) l omg_ omg_ rfl rfl (by
   grind[Ã,Ç])
  grind
 .rw[show ((0:I):D)=0 from rfl]at e;rw[e];simp only[j4,j50,beq_self_eq_true,j6];grind[Ç,S0]
def mg1(e:D×D):SL->SL
 |[]=>[e]
 |s::r=>if s.1<=e.2 then mg1 (e.1,if s.2>e.2 then s.2 else e.2) r else e::mg1 s r
def mg:SL->SL
 |[]=>[]
 |s::r=>mg1 s r
theorem jCg{L:SL}(hL:L.length<=10000000):∀(n i:I)(A:SL)(e:D×D),i+n=L.length->A.length<i->
  jbE (L.length:D) (i:D) (A++[e]) L=H (A++mg1 e (L.drop i))
 |0,i,A,e,hi,hA=>by
  rw[jbg];simp(disch:=omega)only[j3W,List.drop_of_length_le,S0];rfl
 |n+1,i,A,e,hi,hA=>by
  have hlt:i<L.length:=omg_;have hgd:L.getD i (0,0)=L[i]:=by simp[hlt]
  have hle:(A++[e]).length=A.length+1:=smp_;have hge:(A++[e]).getD A.length (0,0)=e:=smp_;rw[jbg,G hlt];simp only[j3W,mg1,show S (U (A++[e]))=((A.length:D)+1) from by rw[hle];rfl]
  rw[j00 (show (i:D)<(L.length:D) by omega),j0L,j00 (show (A.length:D)+1>0 by omega),j05 (x:=(A.length:D)+1-1),j05 (x:=(i:D)+1),
   j0N omg_ (by rw[hle];omega),show ((A.length:D)+1-1).toNat=A.length by omega]
  simp only[j6,j8,hgd,hge];by_cases hc:L[i].1<=e.2
  .simp(disch:=omega)only[if_pos hc,show (A++[e]).set A.length (e.1,if L[i].2>e.2 then L[i].2 else e.2)=A++[(e.1,if L[i].2>e.2 then L[i].2 else e.2)] by
    simp_all,S0]
   exact jCg hL n (i+1) A _ omg_ omg_
  .simp(disch:=omega)only[if_neg hc,S0];have:=jCg hL n (i+1) (A++[e]) L[i] omg_ (by rw[hle];omega)
   simp_all
theorem jFb{L:SL}(hL:L.length<=10000000):jbE (L.length:D) 0 [] L=H (mg L):=by
 rw[jbg];simp only[j3W];cases L with
 |nil=>rw[j01 smp_,j7,j06];rfl
 |cons s r=>simp(disch:=omega)only[S0];have:=jCg hL r.length 1 [] s sqo_ smp_;simpa[mg]using this
def Srt:SL->Prop
 |[]=>True
 |s::r=>(∀u∈r,s.1<=u.1)/\Srt r
theorem jwP:∀{r:SL}{e:D×D}{p:D},p<e.1->e.1<e.2->(∀s∈r,nE s=Z)->Srt r->StS p (mg1 e r)
 |[],e,p,h1,h2,_,_=>⟨h1,h2,trivial⟩
 |s::r,e,p,h1,h2,h3,h4=>by
  simp only[mg1];have hs:s.1<s.2:=by have:=h3 s smp_;simp[nE]at this;omega
  split
  .exact jwP (by exact h1) (by dsimp only;split<;>omega) (λu hu=>h3 u (by simp[hu])) h4.2
  .exact⟨h1,h2,jwP omg_ hs (λu hu=>h3 u (by simp[hu])) h4.2⟩
theorem jwQ{x:D}:∀{r:SL}{e:D×D},(∀s∈r,e.1<=s.1)->(∀s∈r,nE s=Z)->Srt r->(inS x (mg1 e r)↔(e.1<=x/\x<e.2)\/inS x r)
 |[],e,_,_,_=>by simp[mg1,inS]
 |s::r,e,h1,h3,h4=>by
  have hs:s.1<s.2:=by have:=h3 s smp_;simp[nE]at this;omega
  have he:e.1<=s.1:=h1 s smp_;simp only[mg1];split
  .rw[jwQ (e:=(e.1,if s.2>e.2 then s.2 else e.2)) (λu hu=>h1 u (by simp[hu])) (λu hu=>h3 u (by simp[hu])) h4.2,j0i];dsimp only;constructor
   .rintro (⟨a,b⟩|h)
    .split at b
     .by_cases hx:x<e.2
      .exact Ä ⟨a,hx⟩
      .exact É (Ä ⟨omg_,b⟩)
     .exact Ä ⟨a,b⟩
    .exact É (É h)
   .rintro (⟨a,b⟩|⟨a,b⟩|h)
    .exact Ä ⟨a,by split<;>omega⟩
    .exact Ä ⟨omg_,by split<;>omega⟩
    .exact É h
  .rw[j0i,jwQ h4.1 (λu hu=>h3 u (by simp[hu])) h4.2,j0i]
theorem jrz:∀(r:SL)(e:D×D),(mg1 e r).length<=r.length+1
 |[],e=>by simp[mg1]
 |s::r,e=>by
  simp only[mg1];split
  .have:=jrz r (e.1,if s.2>e.2 then s.2 else e.2);simp only[À];omega
  .have:=jrz r s;simp only[À];omega
theorem jwR{lo hi:D}:∀{r:SL}{e:D×D},(lo<=e.1/\e.2<=hi)->(∀s∈r,lo<=s.1/\s.2<=hi)->∀u∈mg1 e r,lo<=u.1/\u.2<=hi
 |[],e,h1,h2=>by simp only[mg1];intro u hu;simp at hu;subst hu;exact h1
 |s::r,e,h1,h2=>by
  have hs:=h2 s smp_;simp only[mg1];split
  .exact jwR ⟨h1.1,by dsimp only;split<;>omega⟩ (λu hu=>h2 u (by simp[hu]))
  .intro u hu;rcases List.mem_cons.1 hu with rfl|hu
   .exact h1
   .exact jwR hs (λu hu=>h2 u (by simp[hu])) u hu
theorem jDN{L:SL}(h:L.Pairwise (λx y=>¬w64 (y.1-x.1)<0))(hb:Sml L):Srt L:=by
 induction L with
 |nil=>trivial
 |cons s r ih=>rw[List.pairwise_cons]at h;refine⟨λu hu=>?_,ih h.2 (λv hv=>hb v (by simp[hv]))⟩;have h1:=h.1 u hu;have h2:=hb s smp_;have h3:=hb u (by simp[hu]);grind[j4S]
theorem jzl:Go.Sort.SWO (Go.Proofs.ltOf λ(x y:Go.Lft.Sml (.pair (.int .i64) (.int .i64)))=>(j7Q x.1 y.1).getD 0):=by
 refine job (λx=>x.1.1) (λx=>?_) _ λx y=>rfl;grind[j3y]
theorem jCh{l:SL}(hl:l.length<=10000000)(hb:Sml l):∃L,j0Z l=H L/\L.Perm l/\Srt L:=by
 obtain⟨L,e,hp,hs⟩:=jkp (a:= .pair (.int .i64) (.int .i64)) (cf:=λx y=>(j7Q x y).getD 0) jzl (xs:=l) (λx hx=>by
  have:=hb x hx;grind[j3y]) omg_
 exact⟨L,e,hp,jDN hs λs hm=>hb s (hp.mem_iff.1 hm)⟩
theorem jf2{l:SL}(hl:l.length<=10000000)(hb:Sml l){lo hi:D}(hlo:∀s∈l,s.1<s.2->lo<=s.1/\s.2<=hi) :
  ∃out,j7R l=H out/\StS (lo-1) out/\(∀x,inS x out↔inS x l)/\out.length<=l.length/\∀u∈out,lo<=u.1/\u.2<=hi:=by
 obtain⟨n,m,e1,ht⟩:=jwO hl;have hfl:(l.filter nE).length<=l.length:=List.length_filter_le _ _;obtain⟨L,e2,hp,hs⟩:=jCh (l:=l.filter nE) omg_ (λs h=>hb s (List.mem_filter.1 h).1);have hLl:L.length=(l.filter nE).length:=hp.length_eq;have hLm:∀s,s∈L↔s∈l/\nE s=true:=λs=>hp.mem_iff.trans List.mem_filter
 have hLx:∀x,inS x L↔inS x l:=by
  intro x;constructor
  .rintro⟨s,h,h2⟩;exact⟨s,((hLm s).1 h).1,h2⟩
  .rintro⟨s,h,h2⟩;exact⟨s,(hLm s).2 ⟨h,by grind[nE]⟩,h2⟩
 have hne:∀s∈L,s.1<s.2:=λs h=>by grind[nE]
 refine⟨mg L,?_,?_⟩
 .simp(disch:=omega)only[j7R,j3E,W,e1,ht,e2,jFb (L:=L) omg_,S0]
 .cases L with
  |nil=>refine⟨trivial,λx=>hLx x,by simp[mg],by simp[mg]⟩
  |cons s r=>
   have h0:=hlo s ((hLm s).1 smp_).1 (hne s smp_);have hr:∀u∈r,nE u=true:=λu hu=>((hLm u).1 (by simp[hu])).2;refine⟨jwP omg_ (hne s smp_) hr hs.2,λx=>?_,?_,?_⟩
   .rw[<-hLx x,j0i];exact jwQ hs.1 hr hs.2
   .grind[jrz,mg]
   .exact jwR h0 λu hu=>hlo u ((hLm u).1 (by simp[hu])).1 (hne u (by simp[hu]))
def pcf(o:D)(l:TrL)(a b:D)(k:I):I->O (D×D×D)
 |0=>[]
 |n+1=>if frm l (k+1)<b then (a,frm l (k+1),tof o l k)::pcf o l (frm l (k+1)) b (k+1) n else [(a,b,tof o l k)]
section
variable{o:D}{l:TrL}(h:TOk o l)
include h
theorem jAr{b:D}(hb:b<=8589934592):∀(n k:I)(a:D)(acc:O (D×D×D)),k+n=l.length+1->k<=l.length->frm l k<=a->a<frm l (k+1)->a<b->acc.length<=k->
  j33 a b o l acc=H (acc++pcf o l a b k n)
 |0,k,a,acc,hn,hk,_,_,_,_=>omg_
 |n+1,k,a,acc,hn,hk,h1,h2,hab,ha=>by
  have hlen:=h.len;rw[j1S];simp only[j0I,show S (U l)=(l.length:D) from rfl,pcf];rw[j00 hab];simp only[j6,jot h hk h1 h2,jm0 h hk,j4];by_cases hkl:k<l.length
  .have hf:frm l (k+1)=(l.getD k (0,0)).1:=jdG hkl;rw[j00 (show (k:D)<(l.length:D) by omega),j0L];simp only[j6,j8,<-hf];simp(disch:=omega)only[S0];by_cases hc:frm l (k+1)<b
   .rw[if_pos hc,if_pos hc];have:=jAr hb n (k+1) (frm l (k+1)) (acc++[(a,frm l (k+1),tof o l k)]) omg_ omg_ omg_ (h.frm_lt omg_) hc sqo_
    simp_all
   grind[j1S,j0I,j06]
  .have hkk:k=l.length:=omg_;have hf:frm l (k+1)=8589934593:=by rw[hkk];exact j8c
   simp(disch:=omega)only[if_neg,S0];grind[j1S,j0I,j06]
omit h in
theorem jwS:∀(n k:I)(a b:D),(pcf o l a b k n).length<=n
 |0,k,a,b=>by simp[pcf]
 |n+1,k,a,b=>by
  simp only[pcf];split
  .have:=jwS n (k+1) (frm l (k+1)) b;simp;omega
  .simp
theorem jwT{b:D}:∀(n k:I)(a:D),k+n=l.length+1->frm l k<=a->a<frm l (k+1)->a<b->
  ∀p∈pcf o l a b k n,a<=p.1/\p.1<p.2.1/\p.2.1<=b/\∃i,k<=i/\i<=l.length/\p.2.2=tof o l i/\frm l i<=p.1/\p.2.1<=frm l (i+1)
 |0,k,a,hn,h1,h2,hab,p,hp=>by simp[pcf]at hp
 |n+1,k,a,hn,h1,h2,hab,p,hp=>by
  simp only[pcf]at hp;split at hp
  .rename_i hc;rcases List.mem_cons.1 hp with rfl|hp
   .grind
   .cases n with
    |zero=>simp[pcf]at hp
    |succ n=>
    obtain⟨a1,a2,a3,i,i1,i2,i3⟩:=jwT (n+1) (k+1) (frm l (k+1)) omg_ (Ê _) (h.frm_lt omg_) hc p hp;grind
  grind
theorem jwU{b:D}(hb:b<=8589934592):∀(n k:I)(a:D),k+n=l.length+1->k<=l.length->frm l k<=a->a<frm l (k+1)->a<b->
  ∀x,a<=x->x<b->∃p∈pcf o l a b k n,p.1<=x/\x<p.2.1
 |0,k,a,hn,hk,h1,h2,hab,x,hx,hx2=>omg_
 |n+1,k,a,hn,hk,h1,h2,hab,x,hx,hx2=>by
  simp only[pcf];split
  .rename_i hc;by_cases hlt:x<frm l (k+1)
   .simp_all
   .have hkl:k+1<=l.length:=by grind[j8c]
    obtain⟨p,hp,hp2⟩:=jwU hb n (k+1) (frm l (k+1)) omg_ hkl (Ê _) (h.frm_lt hkl) hc x omg_ hx2;grind
  simp_all
theorem jAs{a b:D}(ha:0<=a)(hab:a<=b)(hb:b<=8589934592):∃ps,j1T (o,l) a b=H ps/\ps.length<=l.length+1/\
  (∀p∈ps,a<=p.1/\p.1<p.2.1/\p.2.1<=b/\∃i,i<=l.length/\p.2.2=tof o l i/\frm l i<=p.1/\p.2.1<=frm l (i+1))/\∀x,a<=x->x<b->∃p∈ps,p.1<=x/\x<p.2.1:=by
 simp only[j1T];rcases Int.lt_or_le a b with hlt|hge
 .obtain⟨k,hk,h1,h2⟩:=j7b h ha omg_;have:=jAr h hb (l.length+1-k) k a [] omg_ hk h1 h2 hlt smp_;rw[W]at this;rw[this];refine⟨_,rfl,?_,λp hp=>?_,jwU h hb _ k a omg_ hk h1 h2 hlt⟩
  .grind[jwS]
  .obtain⟨a1,a2,a3,i,_,i2⟩:=jwT h _ k a omg_ h1 h2 hlt p hp;grind
 .rw[j1S];simp(disch:=omega)only[j0I,S0];grind
end
def ent(f t st:D)(v:D×D):D×Int:=(if st+v.1>f then st+v.1 else f,if st+v.2<t then st+v.2 else t)
theorem jhJ{s:D}:∀{w:WL},hasB s w=Z↔∃v∈w,v.1<=s/\s<v.2
 |[]=>by simp[hasB]
 |x::r=>by
  simp only[hasB,Í];cases hc:cond (F (x.1<=s)) (F (s<x.2)) false with
  |true=>
   simp only[j6,true_iff];refine⟨x,Ä rfl,?_⟩;by_cases h1:x.1<=s
   .rw[j00 h1,j6]at hc;exact⟨h1,of_decide_eq_true hc⟩
   .rw[j01 h1,j7]at hc;simp at hc
  |false=>
   simp only[j7];rw[jhJ (w:=r)];constructor
   .rintro⟨v,hv,h⟩;exact⟨v,É hv,h⟩
   .rintro⟨v,rfl|hv,h⟩
    .rw[j00 h.1,j00 h.2]at hc;simp at hc
    .exact⟨v,hv,h⟩
theorem jDO{w:WL}(hw:WOk 0 w)(hl:w.length<=14){st f t q:D}(hst : -1000000<=st)(hst2:st<=8600000000)(a b:D)(ps:O (D×D×D)):∀(n i:I)(acc:SL),i+n=w.length->acc.length+n<=1000000->
  j9k w st a b w (w.length:D) (i:D) f t q acc ps=H (w,st,a,b,f,t,q,acc++(w.drop i).map (ent f t st),ps)
 |0,i,acc,hi,_=>by
  grind[jd4,j4b,S0]
 |n+1,i,acc,hi,ha=>by
  have hlt:i<w.length:=omg_;have hgd:w.getD i (0,0)=w[i]:=by simp[hlt]
  have hg:=jgj hw i hlt;rw[hgd]at hg;rw[jd4];simp(disch:=omega)only[G hlt,j4b,S0];have:=jDO hw hl hst hst2 a b ps n (i+1) (acc++[ent f t st w[i]]) omg_ sqo_ (f:=f) (t:=t) (q:=q);rw[List.append_assoc]at this;exact this
theorem jFc{w:WL}(hw:WOk 0 w)(hl:w.length<=14){f t q:D}(hf:0<=f)(ht:t<=8589934592)(hft:f<t)(a b:D)(ps:O (D×D×D)):∀(m:I)(st:D)(acc:SL), -1000000<=st->t<=st+604800*m->acc.length+14*m<=900000->
  ∃E,jch w st a b f t q acc ps=H (w,a,b,acc++E,ps)/\E.length<=w.length*m/\(∀s∈E,f<=s.1/\s.2<=t/\s.1<=100000000000 /\ -100000000000<=s.2)/\
   ∀x,inS x E↔f<=x/\x<t/\st<=x/\hasB ((x-st)%604800) w=true:=by
 intro m;induction m with
 |zero=>intro st acc hst hm _;rw[jd5];simp(disch:=omega)only[j4c,S0];exact⟨[],smp_,smp_,smp_,λx=>⟨λh=>absurd h j3n,λh=>omg_⟩⟩
 |succ m ih=>
  intro st acc hst hm hacc;rw[jd5];simp(disch:=omega)only[j4c,S0];by_cases hlt:st<t
  .have h4:=jDO hw hl hst omg_ a b ps w.length 0 acc omg_ omg_ (f:=f) (t:=t) (q:=q);rw[show ((0:I):D)=0 from rfl,Ì]at h4;simp(disch:=omega)only[h4,S0];obtain⟨E,e,h1,h2,h3⟩:=ih (st+604800) (acc++w.map (ent f t st)) omg_ omg_ sqo_;refine⟨w.map (ent f t st)++E,?_,?_,?_,λx=>?_⟩
   .simp_all
   .grind
   .intro s hs;rcases List.mem_append.1 hs with hs|hs
    .obtain⟨v,hv,rfl⟩:=List.mem_map.1 hs;obtain⟨i,hi,rfl⟩:=È hv;have hg:=jgj hw i hi;grind[ent]
    .exact h2 s hs
   .rw[jgk,h3 x];constructor
    .rintro (⟨s,hs,hx1,hx2⟩|⟨a1,a2,a3,a4⟩)
     .obtain⟨v,hv,rfl⟩:=List.mem_map.1 hs;have hv':=hv;obtain⟨i,hi,rfl⟩:=È hv;have hg:=jgj hw i hi;rw[show w.getD i (0,0)=w[i] by simp[hi]]at hg;simp only[ent]at hx1 hx2;grind[jhJ]
     grind
    .rintro⟨a1,a2,a3,a4⟩
     by_cases hx:st+604800<=x
     .grind
     .obtain⟨v,hv,c1,c2⟩:=jhJ.1 a4;have e1:(x-st)%604800=x-st:=omg_;rw[e1]at c1 c2;refine Ä ⟨ent f t st v,List.mem_map.2 ⟨v,hv,rfl⟩,?_,?_⟩<;>simp only[ent]<;>split<;>omega
  .rw[j01 hlt,j7,j06];exact⟨[],smp_,smp_,smp_,λx=>⟨λh=>absurd h j3n,λh=>omg_⟩⟩
theorem jDP{w:WL}(hw:WOk 0 w)(hl:w.length<=14){ps:O (D×D×D)}{M:I}(hM:M<=60)(hpl:ps.length<=30){lo hi:D}(hlo:0<=lo)(hhi:hi<=8589934592)
  (hps:∀p∈ps,lo<=p.1/\p.1<p.2.1/\p.2.1<=hi /\ -64800<=p.2.2/\p.2.2<=64800/\p.2.1-p.1<=604800*M):∀(n i:I)(acc:SL),i+n=ps.length->acc.length<=854*i->
  ∃E,jci w (ps.length:D) (i:D) acc ps=H (acc++E)/\E.length<=w.length*(M+1)*n/\(∀s∈E,lo<=s.1/\s.2<=hi/\s.1<=100000000000 /\ -100000000000<=s.2)/\
   ∀x,inS x E↔∃p∈ps.drop i,p.1<=x/\x<p.2.1/\hasB ((x+p.2.2+259200)%604800) w=Z
 |0,i,acc,hi,_=>by
  rw[jd6]
  simp_all[j4d,S0,j3n]
 |n+1,i,acc,hi,hacc=>by
  have hlt:i<ps.length:=omg_;have hgd:ps.getD i (0,0,0)=ps[i]:=by simp[hlt]
  obtain⟨p1,p2,p3,p4,p5,p6⟩:=hps ps[i] (Ë hlt);have hwm:w.length*(M+1)<=854:=Á (Æ hl (show M+1<=61 by omega)) (by decide);rw[jd6,G hlt];simp only[j4d];simp(disch:=omega)only[jhE,S0];generalize hst:ps[i].1+ps[i].2.2 - -259200-(ps[i].1+ps[i].2.2 - -259200)%604800 + -259200-ps[i].2.2=st;obtain⟨E1,e1,l1,b1,m1⟩:=jFc hw hl (f:=ps[i].1) (t:=ps[i].2.1) (q:=ps[i].2.2) omg_ omg_ p2 (ps.length:D) (i:D) ps (M+1) st acc omg_ omg_ omg_;rw[e1];simp only[j4];rw[j05 (x:=(i:D)+1),j03];obtain⟨E2,e2,l2,b2,m2⟩:=jDP hw hl hM hpl hlo hhi hps n (i+1) (acc++E1) omg_ sqo_;refine⟨E1++E2,?_,?_,?_,λx=>?_⟩
  .simp_all
  .grind
  .intro s hs;rcases List.mem_append.1 hs with hs|hs
   .have:=b1 s hs;omega
   .exact b2 s hs
  .rw[jgk,m1 x,m2 x];have key:∀x,ps[i].1<=x->(x-st)%604800=(x+ps[i].2.2+259200)%604800/\st<=x:=by intro x hx;omega
   constructor
   .rintro (⟨c1,c2,c3,c4⟩|⟨p,hp,h⟩)
    .grind
    .exact⟨p,List.mem_cons_of_mem _ hp,h⟩
   .rintro⟨p,hp,c1,c2,c3⟩
    rcases List.mem_cons.1 hp with rfl|hp;all_goals grind
theorem jc5{o:D}{l:TrL}(h:TOk o l)(hll:l.length<=20){w:WL}(hw:WOk 0 w)(hl:w.length<=14){M:I}(hM:M<=60){a b:D}(ha:0<=a)(hab:a<=b)(hb:b<=8589934592)(hlen:b-a<=604800*M) :
  ∃out,j1F (o,l) w a b=H out/\StS (a-1) out/\(∀u∈out,a<=u.1/\u.2<=b)/\out.length<=w.length*(M+1)*(l.length+1)/\
   ∀k,k<=l.length->∀x,a<=x->x<b->frm l k<=x->x<frm l (k+1)->(inS x out↔hasB ((x+tof o l k+259200)%604800) w=Z):=by
 obtain⟨ps,e,pl,pm,pc⟩:=jAs h ha hab hb
 obtain⟨E,e1,l1,b1,m1⟩:=jDP hw hl hM (ps:=ps) omg_ (lo:=a) (hi:=b) ha hb (λp hp=>by
  obtain⟨h1,h2,h3,i,i1,i2,_⟩:=pm p hp;have:=h.of0 i i1;have:=h.of1 i i1;exact⟨h1,h2,h3,omg_,omg_,omg_⟩) ps.length 0 [] omg_ smp_
 rw[show ((0:I):D)=0 from rfl,W]at e1;have hwm:w.length*(M+1)<=854:=Á (Æ hl (show M+1<=61 by omega)) (by decide);have hEl:E.length<=w.length*(M+1)*(l.length+1):=Á l1 (Nat.mul_le_mul_left _ pl);have hEl2:E.length<=854*21:=Á hEl (Æ hwm omg_);obtain⟨out,e2,s1,s2,s3,s4⟩:=jf2 (l:=E) omg_ (λs hs=>by have:=b1 s hs;omega) (lo:=a) (hi:=b) (λs hs _=>⟨(b1 s hs).1,(b1 s hs).2.1⟩);refine⟨out,?_,s1,s4,omg_,λk hk x hx1 hx2 hk1 hk2=>?_⟩
 .simp(disch:=omega)only[j1F,e,e1,e2,S0]
 .rw[s2 x,m1 x,Ì];constructor
  .rintro⟨p,hp,c1,c2,c3⟩
   obtain⟨h1,h2,h3,i,i1,i2,i3,i4⟩:=pm p hp;have:i=k:=jem h i1 hk (t:=x) omg_ omg_ hk1 hk2;subst this;rw[<-i2];exact c3
  .intro hx;obtain⟨p,hp,c1,c2⟩:=pc x hx1 hx2;obtain⟨h1,h2,h3,i,i1,i2,i3,i4⟩:=pm p hp;have:i=k:=jem h i1 hk (t:=x) omg_ omg_ hk1 hk2;subst this;exact⟨p,hp,c1,c2,by rw[i2];exact hx⟩
theorem jbW{o:D}{rs:O Rule}(hm:MZ o rs):(outT o (j8s (occs rs))).length<=4:=by
 grind[joz,j8s,jb5,MZ.few]
theorem jwV{o:D}{rs:O Rule}(hm:MZ o rs):(outT o (j8s (occs rs))).length<=20:=Á (jbW hm) omg_
theorem StS.weak{p q:D}(hq:q<=p):∀{l:SL},StS p l->StS q l
 |[],_=>trivial
 |_::_,h=>⟨by have:=h.1;omega,h.2⟩
theorem StS.low{p x:D}:∀{l:SL},StS p l->inS x l->p<x
 |[],_,h=>absurd h j3n
 |s::r,h,hx=>by
  rcases j0i.1 hx with hx|hx
  .have:=h.1;omega
  .have:=StS.low h.2.2 hx;have:=h.1;have:=h.2.1;omega
theorem StS.mem{p:D}:∀{l:SL},StS p l->∀s∈l,p<s.1/\s.1<s.2
 |[],_,s,hs=>by simp at hs
 |u::r,h,s,hs=>by
  rcases List.mem_cons.1 hs with rfl|hs
  .exact⟨h.1,h.2.1⟩
  .have:=StS.mem h.2.2 s hs;have:=h.1;have:=h.2.1;omega
def cmF:I->SL->SL->SL
 |n+1,s::a,u::b=>(if (if u.1>s.1 then u.1 else s.1)<(if u.2<s.2 then u.2 else s.2) then [((if u.1>s.1 then u.1 else s.1),(if u.2<s.2 then u.2 else s.2))] else [])++
  (if s.2<u.2 then cmF n a (u::b) else cmF n (s::a) b)
 |_,_,_=>[]
theorem jwW:∀(n:I)(a b:SL)(p q:D),a.length+b.length<=n->StS p a->StS q b->(∀x,inS x (cmF n a b)↔inS x a/\inS x b)/\StS p (cmF n a b)/\StS q (cmF n a b)/\(cmF n a b).length<=a.length+b.length
 |0,a,b,p,q,hn,_,_=>by
  grind[List.length_eq_zero_iff,cmF]
 |n+1,[],b,p,q,_,_,_=>⟨λx=>⟨λh=>absurd h j3n,λh=>absurd h.1 j3n⟩,trivial,trivial,by simp[cmF]⟩
 |n+1,_::_,[],p,q,_,_,_=>⟨λx=>⟨λh=>absurd h j3n,λh=>absurd h.2 j3n⟩,trivial,trivial,by simp[cmF]⟩
 |n+1,s::a,u::b,p,q,hn,ha,hb=>by
  obtain⟨a1,a2,a3⟩:=ha;obtain⟨b1,b2,b3⟩:=hb;simp only[À]at hn ⊢;have hx:∃f t:D,f=(if u.1>s.1 then u.1 else s.1)/\t=(if u.2<s.2 then u.2 else s.2)/\(∀x,(f<=x/\x<t)↔(s.1<=x/\x<s.2)/\(u.1<=x/\x<u.2))/\p<f/\q<f/\t<=s.2/\t<=u.2:=by grind
  obtain⟨f,t,ef,et,hi,f1,f2,t1,t2⟩:=hx;simp only[cmF,<-ef,<-et]
  have key:∀(a' b':SL)(r:SL),(∀x,inS x r↔inS x a'/\inS x b')->StS t r->StS p r->StS q r->r.length<=a'.length+b'.length->a'.length+b'.length+1=a.length+1+(b.length+1)->
    (∀x,inS x (s::a)/\inS x (u::b)↔(f<=x/\x<t)\/(inS x a'/\inS x b'))->
    (∀x,inS x ((if f<t then [(f,t)] else [])++r)↔inS x (s::a)/\inS x (u::b))/\StS p ((if f<t then [(f,t)] else [])++r)/\StS q ((if f<t then [(f,t)] else [])++r)/\((if f<t then [(f,t)] else [])++r).length<=a.length+1+(b.length+1):=by
   intro a' b' r hr1 hr2 hr3 hr4 hl hl2 hiff;by_cases hft:f<t
   .rw[if_pos hft];refine⟨λx=>?_,⟨f1,hft,hr2⟩,⟨f2,hft,hr2⟩,sqo_⟩;grind[j0i]
   grind
  by_cases hc:s.2<u.2
  .rw[if_pos hc];obtain⟨i1,i2,i3,i4⟩:=jwW n a (u::b) s.2 q sqo_ a3 ⟨b1,b2,b3⟩;refine key a (u::b) _ i1 (i2.weak t1) (i2.weak omg_) i3 i4 sqo_ (λx=>?_);rw[j0i,hi x];constructor
   .rintro⟨h|h,h'⟩
    .rcases j0i.1 h' with h'|h'
     .exact .inl ⟨h,h'⟩
     .have:=StS.low b3 h';omega
    .exact .inr ⟨h,h'⟩
   .rintro (h|h)
    all_goals grind[j0i]
  .rw[if_neg hc];obtain⟨i1,i2,i3,i4⟩:=jwW n (s::a) b p u.2 sqo_ ⟨a1,a2,a3⟩ b3;refine key (s::a) b _ i1 (i3.weak t2) i2 (i3.weak omg_) i4 sqo_ (λx=>?_);rw[j0i (s:=u),hi x];constructor
   .rintro⟨h',h|h⟩
    .rcases j0i.1 h' with h'|h'
     .exact .inl ⟨h',h⟩
     .have:=StS.low a3 h';omega
    .exact .inr ⟨h',h⟩
   .rintro (h|h)
    all_goals grind[j0i]
theorem jCi{A B:SL}(hA:A.length<=10000000)(hB:B.length<=10000000):∀(n i k:I)(acc:SL),i<=A.length->k<=B.length->(A.length-i)+(B.length-k)=n->acc.length+n<=30000000->
  j8g A B (i:D) (k:D) acc=H (acc++cmF n (A.drop i) (B.drop k))
 |n,i,k,acc,hi,hk,hn,hacc=>by
  rw[jjg];simp only[j6p,j70,show S (U A)=(A.length:D) from rfl,show S (U B)=(B.length:D) from rfl];by_cases hend:i<A.length/\k<B.length
  .obtain⟨hi',hk'⟩:=hend;obtain⟨n,rfl⟩:∃m,n=m+1:=⟨n-1,omg_⟩;have gA:A.getD i (0,0)=A[i]:=by simp[R,hi']
   have gB:B.getD k (0,0)=B[k]:=by simp[R,hk']
   rw[j00 (show (i:D)<(A.length:D) by omega),j00 (show (k:D)<(B.length:D) by omega),j0N (show (0:D)<=(i:D) by omega) omg_,j0N (show (0:D)<=(k:D) by omega) omg_];simp only[j6,j8,gA,gB];rw[j05 (x:=(i:D)+1),j05 (x:=(k:D)+1)];rw[G hi',G hk'];simp only[cmF];generalize (if B[k].1>A[i].1 then B[k].1 else A[i].1:D)=f;generalize (if B[k].2<A[i].2 then B[k].2 else A[i].2:D)=t
   have ih1:∀acc':SL,acc'.length<=acc.length+1->j8g A B ((i:D)+1) (k:D) acc'=H (acc'++cmF n (A.drop (i+1)) (B[k]::B.drop (k+1))):=λacc' ha'=>by
    have:=jCi hA hB n (i+1) k acc' omg_ omg_ omg_ omg_
    simp_all
   have ih2:∀acc':SL,acc'.length<=acc.length+1->j8g A B (i:D) ((k:D)+1) acc'=H (acc'++cmF n (A[i]::A.drop (i+1)) (B.drop (k+1))):=λacc' ha'=>by
    have:=jCi hA hB n i (k+1) acc' omg_ omg_ omg_ omg_
    simp_all
   by_cases hft:f<t
   .simp(disch:=omega)only[if_pos hft,S0];grind[j03]
   .rw[j01 hft,if_neg hft];simp only[j7];by_cases hc:A[i].2<B[k].2;all_goals grind[S0]
  grind[j06,cmF]
theorem jm8{A B:SL}{p q:D}(ha:StS p A)(hb:StS q B)(hA:A.length<=10000000)(hB:B.length<=10000000) :
  ∃out,j7t A B=H out/\StS p out/\(∀x,inS x out↔inS x A/\inS x B)/\out.length<=A.length+B.length:=by
 have lp:=jCi hA hB (A.length+B.length) 0 0 [] omg_ omg_ omg_ sqo_;obtain⟨h1,h2,h3,h4⟩:=jwW (A.length+B.length) A B p q (Nat.le_refl _) ha hb;grind[j7t]
def wlP(e:D):D->SL->SL×D
 |t,[]=>([],t)
 |t,u::b=>if u.1<e then ((if t<u.1 then [(t,u.1)] else [])++(wlP e (if u.2>t then u.2 else t) b).1,(wlP e (if u.2>t then u.2 else t) b).2) else ([],t)
def woP(e t:D)(b:SL):SL:=(wlP e t b).1++(if (wlP e t b).2<e then [((wlP e t b).2,e)] else [])
theorem jCj{e t:D}{u:D×D}{b:SL}(h:u.1<e):woP e t (u::b)=(if t<u.1 then [(t,u.1)] else [])++woP e (if u.2>t then u.2 else t) b:=by
 grind[woP,wlP]
theorem jAt{e:D}:∀(b:SL)(t q:D),StS q b->(∀x,inS x (woP e t b)↔(t<=x/\x<e)/\¬inS x b)/\StS (t-1) (woP e t b)/\(∀s∈woP e t b,s.2<=e)/\(woP e t b).length<=b.countP (λu=>F (t<u.1)&&F (u.1<e))+1
 |[],t,q,_=>by
  rw[show woP e t []=(if t<e then [(t,e)] else []) from rfl];by_cases h:t<e
  .rw[if_pos h];exact⟨λx=>⟨λhx=>⟨by rcases j0i.1 hx with hx|hx;exact hx;exact absurd hx j3n,j3n⟩,λhx=>j0i.2 (.inl hx.1)⟩,⟨by dsimp only;omega,h,trivial⟩,smp_,smp_⟩
  .rw[if_neg h];exact⟨λx=>⟨λhx=>absurd hx j3n,λhx=>omg_⟩,trivial,smp_,smp_⟩
 |u::b,t,q,hb=>by
  obtain⟨b1,b2,b3⟩:=hb;by_cases hu:u.1<e
  .rw[jCj hu];have hm:∃t',t'=(if u.2>t then u.2 else t)/\t<=t'/\u.2<=t'/\(t'=t\/t'=u.2):=⟨_,rfl,by split<;>omega,by split<;>omega,by split<;>omega⟩;obtain⟨t',e',h1,h2,h3⟩:=hm;rw[<-e'];obtain⟨i1,i2,i3,i4⟩:=jAt b t' u.2 b3;have hbx:∀x,inS x b->u.2<x:=λx=>StS.low b3
   have hcp:b.countP (λu=>F (t'<u.1)&&F (u.1<e))<=b.countP (λu=>F (t<u.1)&&F (u.1<e)):=List.countP_mono_left λv _ h=>by
    simp only[Bool.and_eq_true,decide_eq_true_eq]at h ⊢;omega
   by_cases htu:t<u.1
   .rw[if_pos htu]
    refine⟨λx=>?_,⟨by dsimp only;omega,htu,i2.weak omg_⟩,λs hs=>?_,by
     rw[List.countP_cons_of_pos (by simp[htu,hu]),Å,À];omega⟩
    .rw[Å,j0i,i1 x,j0i];constructor
     .rintro (h|h)
      .exact⟨omg_,λh'=>by
        rcases h' with h'|h'
        .omega
        .have:=hbx x h';omega⟩
      .exact⟨omg_,λh'=>by
        rcases h' with h'|h'
        .omega
        .exact h.2 h'⟩
     .rintro⟨h,h'⟩
      by_cases hx:x<u.1
      .exact .inl ⟨h.1,hx⟩
      .by_cases hx2:x<u.2
       .exact absurd (.inl ⟨omg_,hx2⟩) h'
       .exact .inr ⟨omg_,λh2=>h' (.inr h2)⟩
    .rcases List.mem_cons.1 hs with rfl|hs
     .dsimp only;omega
     .exact i3 s hs
   .rw[if_neg htu,W]
    refine⟨λx=>?_,i2.weak omg_,i3,by
     rw[List.countP_cons_of_neg (by simp[htu])];omega⟩
    rw[i1 x,j0i];constructor
    .rintro h
     exact⟨omg_,λh'=>by
      rcases h' with h'|h'
      .omega
      .exact h.2 h'⟩
    .rintro⟨h,h'⟩
     by_cases hx2:x<u.2
     .exact absurd (.inl ⟨omg_,hx2⟩) h'
     .exact⟨omg_,λh2=>h' (.inr h2)⟩
  .have:woP e t (u::b)=if t<e then [(t,e)] else []:=by simp only[woP,wlP,if_neg hu,W]
   rw[this]
   have hno:∀x,x<e->¬inS x (u::b):=λx hx h=>by
    rcases j0i.1 h with h|h
    .omega
    .have:=StS.low b3 h;omega
   by_cases h:t<e
   .rw[if_pos h]
    exact⟨λx=>⟨λhx=>by
     rcases j0i.1 hx with hx|hx
     .exact⟨hx,hno x hx.2⟩
     .exact absurd hx j3n,λhx=>j0i.2 (.inl hx.1)⟩,⟨by dsimp only;omega,h,trivial⟩,smp_,smp_⟩
   .rw[if_neg h];exact⟨λx=>⟨λhx=>absurd hx j3n,λhx=>omg_⟩,trivial,smp_,smp_⟩
def pA(l:SL)(u:D×D):Bool:=l.any λs=>F (s.1<u.1)&&F (u.1<s.2)
theorem jsS{p q:D×D->Bool}(h:∀u,p u=Z->q u=Z->False):∀l:SL,l.countP p+l.countP q<=l.countP (λu=>p u||q u)
 |[]=>smp_
 |u::l=>by
  have ih:=jsS h l;grind
theorem jwX{q:D}:∀{b:SL}(k:I),StS q b->∃q',StS q' (b.drop k)
 |_,0,h=>⟨q,h⟩
 |[],_+1,_=>⟨q,trivial⟩
 |_::_,k+1,h=>jwX k h.2.2
section
variable{B:SL}(hB:B.length<=10000000)
include hB
theorem jDQ{A:SL}{n m s e:D}{acc:SL}:∀(d k:I),k+d=B.length->∃k':I,k<=k'/\k'<=B.length/\(∀j (h:j<B.length),k<=j->j<k'->B[j].2<=s)/\
  j9l B (k:D) A n m s e acc=H (B,(k':D),A,n,m,s,e,acc)
 |0,k,hk=>by
  grind[jd7,j4e,S0]
 |d+1,k,hk=>by
  have hk':k<B.length:=omg_;have gB:B.getD k (0,0)=B[k]:=by simp[R,hk']
  rw[jd7];simp only[j4e,show S (U B)=(B.length:D) from rfl];rw[j00 omg_,j0L];simp only[j6,j8,gB];by_cases hc:B[k].2<=s
  .simp(disch:=omega)only[S0];obtain⟨k',h1,h2,h3,h4⟩:=jDQ d (k+1) omg_;refine⟨k',omg_,h2,λj h ha hb=>?_,h4⟩;grind
  grind[j06]
theorem jDR{A:SL}{k n m s e:D}:∀(d i:I)(t:D)(acc:SL),i+d=B.length->acc.length+d<=4000000000->
  j7r B k t (i:D) A n m s e acc=H (B,k,(wlP e t (B.drop i)).2,A,n,m,s,e,acc++(wlP e t (B.drop i)).1)
 |0,i,t,acc,hi,hacc=>by
  grind[jd8,j4f,S0,wlP]
 |d+1,i,t,acc,hi,hacc=>by
  have hi':i<B.length:=omg_;have gB:B.getD i (0,0)=B[i]:=by simp[R,hi']
  rw[jd8];simp only[j4f,show S (U B)=(B.length:D) from rfl];rw[j00 omg_,j0L];simp only[j6,j8,gB];rw[G hi',j05 (x:=(i:D)+1)];by_cases hc:B[i].1<e
  .rw[j00 hc];simp only[j6,wlP,if_pos hc];have ih:∀acc':SL,acc'.length<=acc.length+1->j7r B k (if B[i].2>t then B[i].2 else t) ((i:D)+1) A n m s e acc'=_:=λacc' h'=>jDR d (i+1) (if B[i].2>t then B[i].2 else t) acc' omg_ omg_;by_cases ht:t<B[i].1
   .simp(disch:=omega)only[if_pos ht,S0]
    simp_all
   grind[S0]
  grind[j06,wlP]
theorem jDS{A:SL}(hA:A.length<=10000000){q:D}(hb:StS q B):∀(d j k:I)(p:D)(acc:SL),j+d=A.length->k<=B.length->StS p (A.drop j)->(∀i (h:i<B.length),i<k->∀x,inS x (A.drop j)->B[i].2<=x)->acc.length+d+B.countP (pA (A.drop j))<=30000000->
  ∃out,j7s B (k:D) A (A.length:D) (j:D) acc=H (acc++out)/\StS p out/\(∀x,inS x out↔inS x (A.drop j)/\¬inS x B)/\out.length<=d+B.countP (pA (A.drop j))
 |0,j,k,p,acc,hj,hk,_,_,hacc=>by
  grind[jd9,j4g,j06,j3n]
 |d+1,j,k,p,acc,hj,hk,ha,hkx,hacc=>by
  have hj':j<A.length:=omg_;have gA:A.getD j (0,0)=A[j]:=by simp[R,hj']
  rw[G hj']at ha hkx hacc ⊢;obtain⟨a1,a2,a3⟩:=ha;obtain⟨k',h1,h2,h3,h4⟩:=jDQ hB (A:=A) (n:=(A.length:D)) (m:=(j:D)) (s:=A[j].1) (e:=A[j].2) (acc:=acc) (B.length-k) k omg_;have hb':∃q',StS q' (B.drop k'):=jwX k' hb;obtain⟨q',hb'⟩:=hb'
  have hskip:∀x,A[j].1<=x->(inS x B↔inS x (B.drop k')):=by
   intro x hx;constructor
   .rintro⟨u,hu,u1,u2⟩
    obtain⟨i,hi,rfl⟩:=List.mem_iff_getElem.1 hu;by_cases hik:i<k'
    .grind[j0i]
    .exact⟨B[i],List.mem_drop_iff_getElem.2 ⟨i-k',omg_,by grind⟩,u1,u2⟩
   .rintro⟨u,hu,u1,u2⟩
    exact⟨u,List.mem_of_mem_drop hu,u1,u2⟩
  have w4:=jDR hB (A:=A) (k:=(k':D)) (n:=(A.length:D)) (m:=(j:D)) (s:=A[j].1) (e:=A[j].2) (B.length-k') k' A[j].1 acc omg_ omg_;obtain⟨s1,s2,s3,s4⟩:=jAt (e:=A[j].2) (B.drop k') A[j].1 q' hb';have hwl:(wlP A[j].2 A[j].1 (B.drop k')).1.length<=(woP A[j].2 A[j].1 (B.drop k')).length:=by simp[woP]
  have hcnt:(woP A[j].2 A[j].1 (B.drop k')).length+B.countP (pA (A.drop (j+1)))<=B.countP (pA (A[j]::A.drop (j+1)))+1:=by
   have h5:(B.drop k').countP (λu=>F (A[j].1<u.1)&&F (u.1<A[j].2))<=B.countP (λu=>F (A[j].1<u.1)&&F (u.1<A[j].2)):=(List.drop_sublist k' B).countP_le
   have h6:=jsS (p:=λu=>F (A[j].1<u.1)&&F (u.1<A[j].2)) (q:=pA (A.drop (j+1))) (λu hp hq=>by
    obtain⟨s,hs,hs'⟩:=List.any_eq_true.1 hq;have:=StS.mem a3 s hs;grind) B
   have h7:B.countP (λu=>(F (A[j].1<u.1)&&F (u.1<A[j].2))||pA (A.drop (j+1)) u)=B.countP (pA (A[j]::A.drop (j+1))):=rfl;omega
  have step:∀acc':SL,acc'=acc++woP A[j].2 A[j].1 (B.drop k')->∃out,j7s B (k':D) A (A.length:D) ((j:D)+1) acc'=H (acc++out)/\StS p out/\(∀x,inS x out↔inS x (A[j]::A.drop (j+1))/\¬inS x B)/\out.length<=d+1+B.countP (pA (A[j]::A.drop (j+1))):=by
   rintro _ rfl
   obtain⟨out,e,o1,o2,o3⟩:=jDS hA hb d (j+1) k' A[j].2 (acc++woP A[j].2 A[j].1 (B.drop k')) omg_ h2 a3 (λi hi hik x hx=>by
    have hlow:=StS.low a3 hx;grind[j0i]) (by rw[X];omega)
   refine⟨woP A[j].2 A[j].1 (B.drop k')++out,by simp_all,?_,λx=>?_,by rw[X];omega⟩
   .have glue:∀(l:SL)(r:D),StS r l->r<A[j].2->(∀s∈l,s.2<=A[j].2)->StS r (l++out):=by
     intro l;induction l with
     |nil=>intro r _ hr _;exact o1.weak omg_
     |cons s l ih=>intro r h hr hl;exact⟨h.1,h.2.1,by
      have:=hl s smp_;by_cases hs:s.2<A[j].2
      .exact ih s.2 h.2.2 hs (λu hu=>hl u (by simp[hu]))
      .have he:s.2=A[j].2:=omg_;match l,h.2.2 with
       |[],_=>simp_all
       |u::l',h'=>have:=hl u smp_;have:=h'.1;have:=h'.2.1;omega⟩
    exact glue _ _ (s2.weak omg_) omg_ s3
   grind[jgk,j0i]
  rw[jd9];simp only[j4g];rw[j00 (show (j:D)<(A.length:D) by omega),j0L];simp only[j6,j8,gA,h4,j4,w4];rw[j05 (x:=(j:D)+1)];have hlen:(acc++(wlP A[j].2 A[j].1 (B.drop k')).1).length<=2000000000:=by rw[X];omega
  by_cases ht:(wlP A[j].2 A[j].1 (B.drop k')).2<A[j].2
  .grind[j02,j03,woP]
  simp_all[j01,j03,woP]
theorem jjz{A:SL}{p q:D}(ha:StS p A)(hb:StS q B)(hA:A.length<=10000000) :
  ∃out,j4w A B=H out/\StS p out/\(∀x,inS x out↔inS x A/\¬inS x B)/\out.length<=A.length+B.length:=by
 have hc:=List.countP_le_length (p:=pA (A.drop 0)) (l:=B);obtain⟨out,e,h1,h2,h3⟩:=jDS hB hA hb A.length 0 0 p [] omg_ omg_ ha (λi h hi=>omg_) (by grind);refine⟨out,?_,h1,h2,omg_⟩;grind[j4w]
end
set_option linter.unusedSectionVars false
section
variable{l:SL}{p:D}(h:StS p l)(hp : -1<=p)(hl:l.length<=4096)(hb:∀u∈l,u.2<=8589934592)
include h hp hl hb
end
theorem jiL:j5p 2241=H 98981:=by kernel_rfl
theorem jiM:j5p 1970=H 0:=by kernel_rfl
theorem jAu{d:D}(h:j18 d=H Z):d<=100000:=by
 apply Classical.byContradiction;intro hd;simp only[j18,j91,jiM,jiL,j4]at h;rw[j01 (show¬d<0 by omega),j00 (show d>=98981 by omega)]at h;simp at h
theorem LCk.rt2{nz np nc:I}{L:j0c}(h:LCk nz np nc L):Rt L:=h.rt (jAu h.day)
section
variable{zs:O j0z}{ps:O j0d}{cs:O CalT}(hs:SOk2 zs ps cs)
include hs
theorem cget{i:D}(h0:0<=i)(h1:i<(cs.length:D)):CCk zs.length (cs.getD i.toNat (J,0,[])):=by
 have hi:i.toNat<cs.length:=omg_;rw[show cs.getD i.toNat (J,0,[])=cs[i.toNat] by simp[R,hi]];exact hs.c.ck _ (Ë hi)
end
def jbo(es:O j1V)(p t:D):Bool:=es.any λx=>x.1==0&&(x.2.1==p&&(F (x.2.2.2.1<=t)&&F (t<x.2.2.2.2)))
def topI(good:I->Bool):I->Option I
 |0=>none
 |n+1=>cond (good n) (H n) (topI good n)
def j6W(es:O j1V)(t:D)(Pf:I->D)(i:I):Bool:=F (0<=Pf i) && !jbo es (Pf i) t
section
variable{zs:O j0z}{ps:O j0d}{cs:O CalT}{ss:O j0u}
theorem jwY(hz:∀z∈zs,ZOk z)(hc:j8W (zs,ps,cs,ss)):jjf (zs,ps,cs,ss)=H (((zs,ps,cs,ss),zs.map tb),Z):=by
 have hzl:zs.length<=16:=hc.zl;simp only[jjf,show j2N (zs,ps,cs,ss)=_ from jf0 hc,j4,bne_self_eq_false,j7,jCe (ps:=ps) (cs:=cs) (ss:=ss) hz (show zs.length<=100 by omega)]
def topP(es:O j1V)(t:D)(Pf:I->D)(n:I):Int:=match topI (j6W es t Pf) n with
 |some i=>Pf i
 |none=> -1
end
def nms3:O ByteArray:=[(Y #[102,105,114,115,116]),(Y #[115,101,99,111,110,100]),(Y #[116,104,105,114,100])]
theorem jCk:NmL nms3:=by
 refine⟨by decide,λk hk=>?_⟩;simp only[nms3,Í,List.not_mem_nil,or_false]at hk;rcases hk with rfl|rfl|rfl<;>kernel_rfl
structure SG(nz np nc:I)(s:j0u):Prop where
 ck:SCk nz np nc s
 nm:s.2.1.map (·.1)=nmsL.take s.2.1.length
 ll:s.2.1.length<=3
 el:s.2.2.length<=3
theorem jAv{L:O D}{zs:O j0z}{ps:O j0d}{cs:O CalT}(hs:SOk zs ps cs):∀(n:I)(a:D)(ss:O j0u),DOk L a->ss.length+n<=3->ss.map (·.1)=nms3.take ss.length->(∀s∈ss,SG zs.length ps.length cs.length s)->
  ∃ss' a',j8T (n:D) L a zs ps cs ss=H (L,a',zs,ps,cs,ss')/\ss'.length=ss.length+n/\ss'.map (·.1)=nms3.take ss'.length/\(∀s∈ss',SG zs.length ps.length cs.length s)/\DOk L a'
 |0,a,ss,hd,hl,hn,hg=>by
  rw[jag];simp only[j2B];rw[j01 omg_,j7,j06];exact⟨ss,a,rfl,rfl,hn,hg,hd⟩
 |n+1,a,ss,hd,hl,hn,hg=>by
  have hlt:ss.length<nms3.length:=by show ss.length<3;omega
  have hmod:Ð (S ss.length) 3=(ss.length:D):=by have:Ð (ss.length:D) 3=(ss.length:D):=Int.tmod_eq_of_lt omg_ omg_;exact this
  obtain⟨k,a3,e3,k0,k1,d3⟩:=j0H (n:=4) hd omg_ omg_;obtain⟨ls,a4,e4,l4,lk,ln,d4⟩:=jDD (s6:=((n+1:I):D)) (nm:=R nms3 ss.length J) (ss:=ss) hs k.toNat a3 [] d3 sqo_ smp_ rfl;obtain⟨m,a5,e5,m0,m1,d5⟩:=j0H (n:=4) d4 omg_ omg_;obtain⟨es,a6,e6,l6,ek,d6⟩:=jDE (s6:=((n+1:I):D)) (nm:=R nms3 ss.length J) (zs:=zs) (cs:=cs) (ss:=ss) (ls:=ls) hs m.toNat a5 [] d5 sqo_ smp_;rw[show ((k.toNat:I):D)=k by omega]at e4;rw[show ((m.toNat:I):D)=m by omega]at e6
  have hnew:SG zs.length ps.length cs.length (R nms3 ss.length J,ls,es):=
   ⟨⟨by dsimp only;rw[ln];exact jwF.take _,lk,by dsimp only;omega,ek,by dsimp only;omega⟩,ln,l4,l6⟩
  obtain⟨ss',a',e',h1,h2,h3,h4⟩:=jAv hs n a6 (ss++[(R nms3 ss.length J,ls,es)]) d6 sqo_ (by
   rw[List.map_append,hn,X];exact joB hlt) (λs h=>by
   rcases List.mem_append.1 h with h|h
   .exact hg s h
   .simp at h;subst h;exact hnew)
  rw[jag];simp only[j2B];rw[j00 (show ((n+1:I):D)>0 by omega),hmod,j0N omg_ (by show (ss.length:D)<(3:I);omega)];simp only[j6,j8,e3,j4];rw[show j6v ((n+1:I):D) k L a3 zs ps cs (R [(Y #[102,105,114,115,116]),(Y #[115,101,99,111,110,100]),(Y #[116,104,105,114,100])] ss.length J) ss []=_ from e4];simp only[j4,e5,e6];rw[j00 (by simp[j02];omega),j05,show ((n+1:I):D)-1=(n:D) by omega];simp only[j6,j03];exact⟨ss',a',e',by rw[h1];simp;omega,h2,h3,h4⟩
theorem juw{L:O D}{a n:D}(h:DOk L a)(n0:1<=n)(n1:n<=3):∃zs ps cs ss a',j6N L a n=H ((zs,ps,cs,ss),L,a')/\SOk2 zs ps cs/\1<=ss.length/\(ss.length:D)<=n/\ss.map (·.1)=nms3.take ss.length/\(∀s∈ss,SG zs.length ps.length cs.length s)/\DOk L a':=by
 obtain⟨zs,ps,cs,a1,e1,hs,d1⟩:=jwH h;obtain⟨x,a2,e2,x0,x1,d2⟩:=j0H (n:=n) d1 omg_ omg_;obtain⟨ss,a3,e3,h1,h2,h3,d3⟩:=jAv hs.so (1+x).toNat a2 [] d2 sqo_ smp_ smp_;rw[show (((1+x).toNat:I):D)=1+x by omega]at e3;simp at h1;simp only[j6N,e1,e2,j4];rw[j05 (x:=1+x)];simp only[e3,j4];exact⟨zs,ps,cs,ss,a3,rfl,hs,omg_,omg_,h2,h3,d3⟩
theorem jwZ{zs:O j0z}{ps:O j0d}{cs:O CalT}{ss:O j0u}(hs:SOk2 zs ps cs)(h0:ss.length<=12)(h1:NmL (ss.map (·.1)))(h2:∀s∈ss,SCk zs.length ps.length cs.length s):j8W (zs,ps,cs,ss):=jDF hs h0 h1 h2
instance(L:j0c):Decidable (Rt L):=
 decidable_of_iff (1<=L.2.2.1.1/\L.2.2.1.1<=100000/\0<=L.2.2.1.2/\L.2.2.1.2<=86399/\0<=L.2.2.2.1/\L.2.2.2.1<=2/\1<=L.2.2.2.2.1/\L.2.2.2.2.1<=400/\L.2.2.2.2.2.1≠[])
  ⟨λ⟨a,b,c,d,e,f,g,h,i⟩=>⟨a,b,c,d,e,f,g,h,i⟩,λ⟨a,b,c,d,e,f,g,h,i⟩=>⟨a,b,c,d,e,f,g,h,i⟩⟩
section
variable{z:j0z}{l:TrL}(h4:Z4 z l)
include h4
theorem jm9(L:j0c):jcD z L=H (if Rt L then 0 else 8):=by
 have hc:j7E (z.1,z.2.1,z.2.2)=H 0:=by simp only[j7E,show j0s (z.1,z.2.1,z.2.2)=_ from h4.1,j4]
 simp only[jcD,hc,j4,bne_self_eq_false,j7]
 have key:(cond (cond (cond (cond (cond (cond (cond (cond (F (L.2.2.1.1<1)) Z (F (L.2.2.1.1>100000))) Z (F (L.2.2.1.2<0))) Z (F (L.2.2.1.2>=86400))) Z (F (L.2.2.2.1<0))) Z (F (L.2.2.2.1>2))) Z (F (L.2.2.2.2.1<1))) Z (F (L.2.2.2.2.1>400))) Z (S L.2.2.2.2.2.1.length==0)) = !F (Rt L):=by
  have hlen:(S L.2.2.2.2.2.1.length==0)=F (L.2.2.2.2.2.1=[]):=by
   cases L.2.2.2.2.2.1 with
   |nil=>rfl
   |cons x r=>simp;omega
  rw[hlen];rw[Bool.eq_iff_iff];simp only[Bool.not_eq_true',decide_eq_false_iff_not];constructor
  .intro hh h;have a1:=h.d0;have a2:=h.d1;have a3:=h.c0;have a4:=h.c1;have a5:=h.u0;have a6:=h.u1;have a7:=h.e0;have a8:=h.e1;rw[j01 (show¬L.2.2.1.1<1 by omega),j01 (show¬L.2.2.1.1>100000 by omega),j01 (show¬L.2.2.1.2<0 by omega),j01 (show¬L.2.2.1.2>=86400 by omega),j01 (show¬L.2.2.2.1<0 by omega),j01 (show¬L.2.2.2.1>2 by omega),j01 (show¬L.2.2.2.2.1<1 by omega),j01 (show¬L.2.2.2.2.1>400 by omega),j01 h.m0]at hh;simp at hh
  .intro hn;by_cases a1:L.2.2.1.1<1
   .rw[j00 a1];rfl
   rw[j01 a1];by_cases a2:L.2.2.1.1>100000
   .rw[j00 a2];rfl
   rw[j01 a2];by_cases a3:L.2.2.1.2<0
   .rw[j00 a3];rfl
   rw[j01 a3];by_cases a4:L.2.2.1.2>=86400
   .rw[j00 a4];rfl
   rw[j01 a4];by_cases a5:L.2.2.2.1<0
   .rw[j00 a5];rfl
   rw[j01 a5];by_cases a6:L.2.2.2.1>2
   .rw[j00 a6];rfl
   rw[j01 a6];by_cases a7:L.2.2.2.2.1<1
   .rw[j00 a7];rfl
   rw[j01 a7];by_cases a8:L.2.2.2.2.1>400
   .rw[j00 a8];rfl
   rw[j01 a8];by_cases a9:L.2.2.2.2.2.1=[]
   .rw[j00 a9];rfl
   exact absurd ⟨omg_,omg_,omg_,omg_,omg_,omg_,omg_,omg_,a9⟩ hn
 rw[key];by_cases h:Rt L
 .rw[j00 h,if_pos h];rfl
 .rw[j01 h,if_neg h];rfl
end
theorem jAw{z:j0z}{l:TrL}(hz:Z4 z l){L:j0c}(h:Rt L){t N:D}(hN:N<=8589934592):∀n:I,(n:D)<=N->
  ∃K:D,j96 t ((n:D)-1) z.1 z.2.1 z.2.2 L.1 L.2.1 L.2.2.1.1 L.2.2.1.2 L.2.2.2.1 L.2.2.2.2.1 L.2.2.2.2.2.1 L.2.2.2.2.2.2.1 L.2.2.2.2.2.2.2.1 L.2.2.2.2.2.2.2.2=H K/\
   (K = -1\/0<=K/\QO z.2.1 l L t K)/\K<n/\∀j:D,K<j->0<=j->j<n->¬QO z.2.1 l L t j
 |0,_=>by
  rw[jfS];simp(disch:=omega)only[j5X,S0];exact⟨_,rfl,.inl omg_,omg_,λj h1 h2 h3=>omg_⟩
 |n+1,hn=>by
  obtain⟨K,e,k0,k1,k2⟩:=jAw hz h (t:=t) hN n omg_;obtain⟨v,hH,hv⟩:=r10H hz h (k:=(n:D)) omg_ omg_;rw[jfS,show ((n+1:I):D)-1=(n:D) by omega];simp(disch:=omega)only[j5X,show j7F (z.1,z.2.1,z.2.2) (L.1,L.2.1,(L.2.2.1.1,L.2.2.1.2),L.2.2.2.1,L.2.2.2.2.1,L.2.2.2.2.2.1,L.2.2.2.2.2.2.1,L.2.2.2.2.2.2.2.1,L.2.2.2.2.2.2.2.2) (n:D)=_ from hH,S0]
  have down:¬QO z.2.1 l L t (n:D)->(lpK (H (Sum.inl (t,(n:D)-1,z.1,z.2.1,z.2.2,L.1,L.2.1,L.2.2.1.1,L.2.2.1.2,L.2.2.2.1,L.2.2.2.2.1,L.2.2.2.2.2.1,L.2.2.2.2.2.2.1,L.2.2.2.2.2.2.2.1,L.2.2.2.2.2.2.2.2)):Option ((D×D×ByteArray×D×O Rule×ByteArray×D×D×D×D×D×O D×WL×D×D) ⊕ D)) (λh=>j96 h.1 h.2.1 h.2.2.1 h.2.2.2.1 h.2.2.2.2.1 h.2.2.2.2.2.1 h.2.2.2.2.2.2.1 h.2.2.2.2.2.2.2.1 h.2.2.2.2.2.2.2.2.1 h.2.2.2.2.2.2.2.2.2.1 h.2.2.2.2.2.2.2.2.2.2.1 h.2.2.2.2.2.2.2.2.2.2.2.1 h.2.2.2.2.2.2.2.2.2.2.2.2.1 h.2.2.2.2.2.2.2.2.2.2.2.2.2.1 h.2.2.2.2.2.2.2.2.2.2.2.2.2.2))=H K/\∀j:D,K<j->0<=j->j<((n+1:I):D)->¬QO z.2.1 l L t j:=by
   intro hq;refine⟨by rw[j03];exact e,λj h1 h2 h3=>?_⟩;by_cases hjn:j<n
   .exact k2 j h1 h2 hjn
   .rw[show j=(n:D) by omega];exact hq
  cases hx:hO z.2.1 l L (n:D) with
  |none=>
   simp only[Option.isSome_none,j7];obtain⟨d1,d2⟩:=down λ⟨y,hy,_⟩=>by rw[hx]at hy;simp at hy
   exact⟨K,d1,k0,omg_,d2⟩
  |some x=>
   have:=hv x hx;subst this;simp only[Option.isSome_some,j6];by_cases hc:v<=t
   .rw[j00 hc,j6,j06];exact⟨_,rfl,.inr ⟨omg_,v,hx,hc⟩,omg_,λj h1 h2 h3=>omg_⟩
   .rw[j01 hc,j7];obtain⟨d1,d2⟩:=down λ⟨y,hy,hyt⟩=>by rw[hx]at hy;simp at hy;omega
    exact⟨K,d1,k0,omg_,d2⟩
theorem jDT{z:j0z}{l:TrL}(hz:Z4 z l){L:j0c}(h:Rt L){t:D}(h0t:0<=t)(htt:t<=8589934592):∃K:D,jcF z L t=H K/\ShO z.2.1 l L t K:=by
 have hs:=h.step;have hd0:=h.d0;have hd1:=h.d1;have he0:=h.e0;have he1:=h.e1;have hc0:=h.c0;have hc1:=h.c1;simp only[jcF];by_cases h0:L.2.2.2.1=0
 .have hF:=jhI hz (d:=L.2.2.1.1) (c:=L.2.2.1.2) omg_ hc0 hc1;have hs0:L.2.2.1.1*86400+L.2.2.1.2=sLoc L 0:=by unfold sLoc;omega
  rw[j3m h0,j6,show j5e (z.1,z.2.1,z.2.2) (L.2.2.1.1,L.2.2.1.2)=_ from hF,hs0];simp only[j4]
  have nq:(∀v,fO z.2.1 l (sLoc L 0)=H v->t<v)->¬QO z.2.1 l L t 0:=by
   rintro hn ⟨y,hy,hyt⟩
   have:=hn y (jwL h0 hy);omega
  cases hf:fO z.2.1 l (sLoc L 0) with
  |none=>exact⟨-1,rfl,.inl ⟨rfl,nq λv hv=>by rw[hf]at hv;simp at hv⟩⟩
  |some v=>
   have hva:=juv hz.2 hf;simp only[beq_self_eq_true,j6];by_cases hc:v<=t
   .obtain⟨s1,s2,s3⟩:=jsQ (o:=z.2.1) (l:=l) h h0 htt hf hc hva.2.1;simp(disch:=omega)only[Â,S0];exact⟨_,rfl,s1⟩
   .rw[j01 hc];exact⟨-1,rfl,.inl ⟨rfl,nq λv' hv=>by rw[hf]at hv;simp at hv;omega⟩⟩
 .obtain⟨j,hj,j1,j2⟩:=j7b hz.2 h0t htt;have o0:=hz.2.of0 j hj;have o1:=hz.2.of1 j hj;have eT:=jsN hz (t:=t) h0t htt hj j1 j2;rw[j1p h0,j7,show j4N (z.1,z.2.1,z.2.2) t=_ from eT];simp only[j4];have hday:∀k:D,QO z.2.1 l L t k->L.2.2.1.1+k*j32 L<=(t+tof z.2.1 l j)/86400+2:=λk hq=>QO.day hz.2 h h0 hq hj;generalize hld:(t+tof z.2.1 l j)/86400=ld at hday;rw[j05 (x:=ld+2),j05 (x:=ld+2-L.2.2.1.1)]
  have fin:∀st:D,st=j32 L->∃K:D,((j96 t (w64 (Int.tdiv (if (0:D)>ld+2-L.2.2.1.1 then (0:D) else ld+2-L.2.2.1.1) st)) z.1 z.2.1 z.2.2 L.1 L.2.1 L.2.2.1.1 L.2.2.1.2 L.2.2.2.1 L.2.2.2.2.1 L.2.2.2.2.2.1 L.2.2.2.2.2.2.1 L.2.2.2.2.2.2.2.1 L.2.2.2.2.2.2.2.2).bind λq0=>H q0)=H K/\ShO z.2.1 l L t K:=by
   rintro st rfl
   obtain⟨m,hm,hm0,hm1⟩:∃m:D,(if (0:D)>ld+2-L.2.2.1.1 then (0:D) else ld+2-L.2.2.1.1)=m/\0<=m/\m<=1000000:=⟨_,rfl,by split<;>omega,by split<;>omega⟩;have hml:ld+2-L.2.2.1.1<=m:=by rw[<-hm];split<;>omega
   rw[hm,Â hm0];have q0:0<=m/j32 L:=Int.ediv_nonneg hm0 omg_;have q1:m/j32 L<=m:=Int.ediv_le_self _ hm0;have q2:m<j32 L*(m/j32 L)+j32 L:=Int.lt_mul_ediv_self_add omg_;rw[j05];generalize m/j32 L=km at *;obtain⟨K,e,k0,k1,k2⟩:=jAw hz h (t:=t) (Ê _) (km+1).toNat omg_;rw[show (((km+1).toNat:I):D)-1=km by omega]at e;rw[e];refine⟨K,rfl,?_⟩
   have top:¬QO z.2.1 l L t (K+1):=by
    by_cases hK:K+1<=km
    .exact k2 (K+1) omg_ (by rcases k0 with k0|k0<;>omega) omg_
    .intro hq;have hd:=hday _ hq;have hkk:K=km:=omg_;rw[hkk,Int.add_mul,Int.one_mul]at hd;have:j32 L*km=km*j32 L:=Ï _ _;omega
   rcases k0 with k0|k0
   .subst k0;exact .inl ⟨rfl,top⟩
   .exact .inr ⟨k0.1,k0.2,top⟩
  by_cases h2:L.2.2.2.1=2
  .have hsd:j32 L=7*L.2.2.2.2.1:=by unfold j32;rw[if_pos h2]
   simp(disch:=omega)only[S0];exact fin _ (by rw[hsd,Ï])
  .have hsd:j32 L=L.2.2.2.2.1:=by unfold j32;rw[if_neg h2]
   simp(disch:=omega)only[S0];exact fin _ hsd.symm
end Go.Proofs.Pw
