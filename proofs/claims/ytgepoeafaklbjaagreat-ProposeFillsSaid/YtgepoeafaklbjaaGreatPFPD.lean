/- Chapter 3: span.Merge: the jkA form of any spans. -/
import Derived.Test.YtgepoeafaklbjaaGreatPFPA
import Derived.Test.YtgepoeafaklbjaaGreatPFFns
import Derived.Test.YtgepoeafaklbjaaGreatPFPC
import Derived.KernelRfl
import Derived.Test.YtgepoeafaklbjaaGreatPFPB
import Derived.Test.YtgepoeafaklbjaaGreatPFLD
open _root_ renaming Int->D,Nat->I,List->S
open Decidable renaming decide->F
open List renaming drop_eq_getElem_cons->G,length->O,getD->U,getElem_of_mem->W,nil_append->X,length_append->Y,length_cons->Á,getElem_mem->Â,take_add_one->Å,singleton_append->Ç,filter_eq_self->É,drop_zero->Í,mem_cons->Î
open Option renaming some->H
open Int renaming ofNat->J,tdiv_eq_ediv_of_nonneg->Ä,le_refl->Ë,mul_comm->Ñ,tmod->Ó
open ByteArray renaming empty->R,mk->Z
open Bool renaming true->À,not_false->Ì
open Nat renaming le_trans->Ã,mul_le_mul->È,lt_or_ge->Ð,le_refl->Ò
open Or renaming inl->Æ,inr->Ê
open Go Go.Lft
namespace Go.Proofs.Pw
abbrev SL:=S (D×D)
def inS(x:D)(l:SL):Prop:=∃s∈l,s.1<=x/\x<s.2
def StS(p:D):SL->Prop
 |[]=>True
 |x::r=>p<x.1/\x.1<x.2/\StS x.2 r
def Sml(l:SL):Prop:=∀s∈l, -1000000000000<=s.1/\s.1<=1000000000000 /\ -1000000000000<=s.2/\s.2<=1000000000000
theorem j33{x:D}:¬inS x []:=by rintro⟨s,hs,_⟩;simp at hs
theorem j0a{x:D}{s:D×D}{l:SL}:inS x (s::l)↔(s.1<=x/\x<s.2)\/inS x l:=by
 constructor
 .rintro⟨u,hu,h⟩
  rcases List.mem_cons.1 hu with rfl|hu
  .exact Æ h
  .exact Ê ⟨u,hu,h⟩
 .rintro (h|⟨u,hu,h⟩)
  .exact⟨s,smp_,h⟩
  .exact⟨u,by simp[hu],h⟩
theorem jfU{x:D}{l r:SL}:inS x (l++r)↔inS x l\/inS x r:=by
 constructor
 .rintro⟨u,hu,h⟩
  rcases List.mem_append.1 hu with hu|hu
  .exact Æ ⟨u,hu,h⟩
  .exact Ê ⟨u,hu,h⟩
 .rintro (⟨u,hu,h⟩|⟨u,hu,h⟩)
  .exact⟨u,by simp[hu],h⟩
  .exact⟨u,by simp[hu],h⟩
def nE(s:D×D):Bool:= !(F (s.2<=s.1))
theorem jzr{l:SL}(hl:l.length<=10000000):∀(n i:I),i+n=l.length->(∀s∈l.take i,nE s=À)->
  (∃j:I,j0N (l.length:D) (i:D) l=H (.inl ((j:D),l))/\j<l.length/\(∀s∈l.take j,nE s=À)/\nE (l.getD j (0,0))=false)\/
  (j0N (l.length:D) (i:D) l=H (.inr l)/\∀s∈l,nE s=À)
 |0,i,hi,h=>by
  grind[j3j,j0z,j06]
 |n+1,i,hi,h=>by
  rw[j3j];simp only[j0z,j95];rw[j00 (show (i:D)<(l.length:D) by omega),j0O,j05 (x:=(i:D)+1)];simp only[j6,j8,j4];have hlt:i<l.length:=omg_;cases hc:F ((l.getD i (0,0)).2<=(l.getD i (0,0)).1) with
  |true=>grind[j06,nE]
  |false=>simp only[j7,j03];refine jzr hl n (i+1) omg_ λs hs=>?_;grind[Å,nE]
theorem jw3{l:SL}(hl:l.length<=10000000):∀(n i j:I)(b:SL),j+n=l.length->i<=j->b.length=l.length->b.drop j=l.drop j->b.take i=(l.take j).filter nE->
  ∃(k:I)(b':SL),j19 (i:D) (j:D) b=H ((k:D),b')/\b'.length=l.length/\k<=l.length/\b'.take k=l.filter nE
 |0,i,j,b,hj,hij,hb,hd,ht=>by
  grind[j3a,j0v,S0]
 |n+1,i,j,b,hj,hij,hb,hd,ht=>by
  have hlt:j<l.length:=omg_
  have hbj:b.getD j (0,0)=l[j]:=by
   have:b[j]? = l[j]? := by
    have h:=congrArg (λx=>x[0]?) hd;simpa[List.getElem?_drop]using h
   simp_all
  have hd':b.drop (j+1)=l.drop (j+1):=by have:=congrArg (List.drop 1) hd;grind[List.drop_drop]
  have htk:l.take (j+1)=l.take j++[l[j]]:=by simp_all
  rw[j3a];simp(disch:=omega)only[j0v,j95,hbj,S0];cases hc:F (l[j].2<=l[j].1) with
  |true=>simp only[Bool.not_true,j7,j03];refine jw3 hl n i (j+1) b omg_ omg_ hb hd' ?_;grind[nE]
  |false=>simp only[Ì,j6,j03];refine jw3 hl n (i+1) (j+1) _ omg_ omg_ (by simpa using hb) ?_ ?_;all_goals grind[List.drop_set_of_lt,Å,List.take_set_of_le,nE]
theorem jw4{l:SL}(hl:l.length<=10000000):∃n m,j1u l=H (n,m)/\m.take n.toNat=l.filter nE:=by
 simp only[j1u,j2A,show J (O l)=(l.length:D) from rfl];rcases jzr hl l.length 0 omg_ smp_ with⟨j,e,hj,h1,h2⟩|⟨e,h⟩
 .rw[show ((0:I):D)=0 from rfl]at e;rw[e];simp only[j4,jjS];rw[j1G omg_,j05 (x:=(j:D)+1)];have hgd:l.getD j (0,0)=l[j]:=by simp[hj]
  rw[hgd]at h2
  obtain⟨k,b,e2,hb,hk,ht⟩:=jw3 hl (l.length-(j+1)) j (j+1) l omg_ omg_ rfl rfl (by
   grind[Å,É])
  grind
 .rw[show ((0:I):D)=0 from rfl]at e;rw[e];simp only[j4,j4j,beq_self_eq_true,j6];grind[É,S0]
def mg1(e:D×D):SL->SL
 |[]=>[e]
 |s::r=>if s.1<=e.2 then mg1 (e.1,if s.2>e.2 then s.2 else e.2) r else e::mg1 s r
def mg:SL->SL
 |[]=>[]
 |s::r=>mg1 s r
theorem jB4{L:SL}(hL:L.length<=10000000):∀(n i:I)(A:SL)(e:D×D),i+n=L.length->A.length<i->
  jbi (L.length:D) (i:D) (A++[e]) L=H (A++mg1 e (L.drop i))
 |0,i,A,e,hi,hA=>by
  rw[jaV];simp(disch:=omega)only[j3P,List.drop_of_length_le,S0];rfl
 |n+1,i,A,e,hi,hA=>by
  have hlt:i<L.length:=omg_;have hgd:L.getD i (0,0)=L[i]:=by simp[hlt]
  have hle:(A++[e]).length=A.length+1:=smp_;have hge:(A++[e]).getD A.length (0,0)=e:=smp_;rw[jaV,G hlt];simp only[j3P,mg1,show J (O (A++[e]))=((A.length:D)+1) from by rw[hle];rfl]
  rw[j00 (show (i:D)<(L.length:D) by omega),j0O,j00 (show (A.length:D)+1>0 by omega),j05 (x:=(A.length:D)+1-1),j05 (x:=(i:D)+1),
   j0X omg_ (by rw[hle];omega),show ((A.length:D)+1-1).toNat=A.length by omega]
  simp only[j6,j8,hgd,hge];by_cases hc:L[i].1<=e.2
  .simp(disch:=omega)only[if_pos hc,show (A++[e]).set A.length (e.1,if L[i].2>e.2 then L[i].2 else e.2)=A++[(e.1,if L[i].2>e.2 then L[i].2 else e.2)] by
    simp_all,S0]
   exact jB4 hL n (i+1) A _ omg_ omg_
  .simp(disch:=omega)only[if_neg hc,S0];have:=jB4 hL n (i+1) (A++[e]) L[i] omg_ (by rw[hle];omega)
   simp_all
theorem jDO{L:SL}(hL:L.length<=10000000):jbi (L.length:D) 0 [] L=H (mg L):=by
 rw[jaV];simp only[j3P];cases L with
 |nil=>rw[j01 smp_,j7,j06];rfl
 |cons s r=>simp(disch:=omega)only[S0];have:=jB4 hL r.length 1 [] s sqo_ smp_;simpa[mg]using this
def Srt:SL->Prop
 |[]=>True
 |s::r=>(∀u∈r,s.1<=u.1)/\Srt r
theorem jw5:∀{r:SL}{e:D×D}{p:D},p<e.1->e.1<e.2->(∀s∈r,nE s=À)->Srt r->StS p (mg1 e r)
 |[],e,p,h1,h2,_,_=>⟨h1,h2,trivial⟩
 |s::r,e,p,h1,h2,h3,h4=>by
  simp only[mg1];have hs:s.1<s.2:=by have:=h3 s smp_;simp[nE]at this;omega
  split
  .exact jw5 (by exact h1) (by dsimp only;split<;>omega) (λu hu=>h3 u (by simp[hu])) h4.2
  .exact⟨h1,h2,jw5 omg_ hs (λu hu=>h3 u (by simp[hu])) h4.2⟩
theorem jw6{x:D}:∀{r:SL}{e:D×D},(∀s∈r,e.1<=s.1)->(∀s∈r,nE s=À)->Srt r->(inS x (mg1 e r)↔(e.1<=x/\x<e.2)\/inS x r)
 |[],e,_,_,_=>by simp[mg1,inS]
 |s::r,e,h1,h3,h4=>by
  have hs:s.1<s.2:=by have:=h3 s smp_;simp[nE]at this;omega
  have he:e.1<=s.1:=h1 s smp_;simp only[mg1];split
  .rw[jw6 (e:=(e.1,if s.2>e.2 then s.2 else e.2)) (λu hu=>h1 u (by simp[hu])) (λu hu=>h3 u (by simp[hu])) h4.2,j0a];dsimp only;constructor
   .rintro (⟨a,b⟩|h)
    .split at b
     .by_cases hx:x<e.2
      .exact Æ ⟨a,hx⟩
      .exact Ê (Æ ⟨omg_,b⟩)
     .exact Æ ⟨a,b⟩
    .exact Ê (Ê h)
   .rintro (⟨a,b⟩|⟨a,b⟩|h)
    .exact Æ ⟨a,by split<;>omega⟩
    .exact Æ ⟨omg_,by split<;>omega⟩
    .exact Ê h
  .rw[j0a,jw6 h4.1 (λu hu=>h3 u (by simp[hu])) h4.2,j0a]
theorem jr2:∀(r:SL)(e:D×D),(mg1 e r).length<=r.length+1
 |[],e=>by simp[mg1]
 |s::r,e=>by
  simp only[mg1];split
  .have:=jr2 r (e.1,if s.2>e.2 then s.2 else e.2);simp only[Á];omega
  .have:=jr2 r s;simp only[Á];omega
theorem jw7{lo hi:D}:∀{r:SL}{e:D×D},(lo<=e.1/\e.2<=hi)->(∀s∈r,lo<=s.1/\s.2<=hi)->∀u∈mg1 e r,lo<=u.1/\u.2<=hi
 |[],e,h1,h2=>by simp only[mg1];intro u hu;simp at hu;subst hu;exact h1
 |s::r,e,h1,h2=>by
  have hs:=h2 s smp_;simp only[mg1];split
  .exact jw7 ⟨h1.1,by dsimp only;split<;>omega⟩ (λu hu=>h2 u (by simp[hu]))
  .intro u hu;rcases List.mem_cons.1 hu with rfl|hu
   .exact h1
   .exact jw7 hs (λu hu=>h2 u (by simp[hu])) u hu
theorem jCy{L:SL}(h:L.Pairwise (λx y=>¬w64 (y.1-x.1)<0))(hb:Sml L):Srt L:=by
 induction L with
 |nil=>trivial
 |cons s r ih=>rw[List.pairwise_cons]at h;refine⟨λu hu=>?_,ih h.2 (λv hv=>hb v (by simp[hv]))⟩;have h1:=h.1 u hu;have h2:=hb s smp_;have h3:=hb u (by simp[hu]);grind[j4N]
theorem jys:Go.Sort.SWO (Go.Proofs.ltOf λ(x y:Go.Lft.Sml (.pair (.int .i64) (.int .i64)))=>(j7G x.1 y.1).getD 0):=by
 refine jnB (λx=>x.1.1) (λx=>?_) _ λx y=>rfl;grind[j3s]
theorem jB5{l:SL}(hl:l.length<=10000000)(hb:Sml l):∃L,j0Y l=H L/\L.Perm l/\Srt L:=by
 obtain⟨L,e,hp,hs⟩:=jjV (a:= .pair (.int .i64) (.int .i64)) (cf:=λx y=>(j7G x y).getD 0) jys (xs:=l) (λx hx=>by
  have:=hb x hx;grind[j3s]) omg_
 exact⟨L,e,hp,jCy hs λs hm=>hb s (hp.mem_iff.1 hm)⟩
theorem jeB{l:SL}(hl:l.length<=10000000)(hb:Sml l){lo hi:D}(hlo:∀s∈l,s.1<s.2->lo<=s.1/\s.2<=hi) :
  ∃out,j7H l=H out/\StS (lo-1) out/\(∀x,inS x out↔inS x l)/\out.length<=l.length/\∀u∈out,lo<=u.1/\u.2<=hi:=by
 obtain⟨n,m,e1,ht⟩:=jw4 hl;have hfl:(l.filter nE).length<=l.length:=List.length_filter_le _ _;obtain⟨L,e2,hp,hs⟩:=jB5 (l:=l.filter nE) omg_ (λs h=>hb s (List.mem_filter.1 h).1);have hLl:L.length=(l.filter nE).length:=hp.length_eq;have hLm:∀s,s∈L↔s∈l/\nE s=true:=λs=>hp.mem_iff.trans List.mem_filter
 have hLx:∀x,inS x L↔inS x l:=by
  intro x;constructor
  .rintro⟨s,h,h2⟩;exact⟨s,((hLm s).1 h).1,h2⟩
  .rintro⟨s,h,h2⟩;exact⟨s,(hLm s).2 ⟨h,by grind[nE]⟩,h2⟩
 have hne:∀s∈L,s.1<s.2:=λs h=>by grind[nE]
 refine⟨mg L,?_,?_⟩
 .simp(disch:=omega)only[j7H,j3x,X,e1,ht,e2,jDO (L:=L) omg_,S0]
 .cases L with
  |nil=>refine⟨trivial,λx=>hLx x,by simp[mg],by simp[mg]⟩
  |cons s r=>
   have h0:=hlo s ((hLm s).1 smp_).1 (hne s smp_);have hr:∀u∈r,nE u=true:=λu hu=>((hLm u).1 (by simp[hu])).2;refine⟨jw5 omg_ (hne s smp_) hr hs.2,λx=>?_,?_,?_⟩
   .rw[<-hLx x,j0a];exact jw6 hs.1 hr hs.2
   .grind[jr2,mg]
   .exact jw7 h0 λu hu=>hlo u ((hLm u).1 (by simp[hu])).1 (hne u (by simp[hu]))
def pcf(o:D)(l:TrL)(a b:D)(k:I):I->S (D×D×D)
 |0=>[]
 |n+1=>if frm l (k+1)<b then (a,frm l (k+1),tof o l k)::pcf o l (frm l (k+1)) b (k+1) n else [(a,b,tof o l k)]
section
variable{o:D}{l:TrL}(h:TOk o l)
include h
theorem jzs{b:D}(hb:b<=8589934592):∀(n k:I)(a:D)(acc:S (D×D×D)),k+n=l.length+1->k<=l.length->frm l k<=a->a<frm l (k+1)->a<b->acc.length<=k->
  j2W a b o l acc=H (acc++pcf o l a b k n)
 |0,k,a,acc,hn,hk,_,_,_,_=>omg_
 |n+1,k,a,acc,hn,hk,h1,h2,hab,ha=>by
  have hlen:=h.len;rw[j1S];simp only[j0F,show J (O l)=(l.length:D) from rfl,pcf];rw[j00 hab];simp only[j6,jnT h hk h1 h2,jlu h hk,j4];by_cases hkl:k<l.length
  .have hf:frm l (k+1)=(l.getD k (0,0)).1:=jdi hkl;rw[j00 (show (k:D)<(l.length:D) by omega),j0O];simp only[j6,j8,<-hf];simp(disch:=omega)only[S0];by_cases hc:frm l (k+1)<b
   .rw[if_pos hc,if_pos hc];have:=jzs hb n (k+1) (frm l (k+1)) (acc++[(a,frm l (k+1),tof o l k)]) omg_ omg_ omg_ (h.frm_lt omg_) hc sqo_
    simp_all
   grind[j1S,j0F,j06]
  .have hkk:k=l.length:=omg_;have hf:frm l (k+1)=8589934593:=by rw[hkk];exact j81
   simp(disch:=omega)only[if_neg,S0];grind[j1S,j0F,j06]
omit h in
theorem jw8:∀(n k:I)(a b:D),(pcf o l a b k n).length<=n
 |0,k,a,b=>by simp[pcf]
 |n+1,k,a,b=>by
  simp only[pcf];split
  .have:=jw8 n (k+1) (frm l (k+1)) b;simp;omega
  .simp
theorem jw9{b:D}:∀(n k:I)(a:D),k+n=l.length+1->frm l k<=a->a<frm l (k+1)->a<b->
  ∀p∈pcf o l a b k n,a<=p.1/\p.1<p.2.1/\p.2.1<=b/\∃i,k<=i/\i<=l.length/\p.2.2=tof o l i/\frm l i<=p.1/\p.2.1<=frm l (i+1)
 |0,k,a,hn,h1,h2,hab,p,hp=>by simp[pcf]at hp
 |n+1,k,a,hn,h1,h2,hab,p,hp=>by
  simp only[pcf]at hp;split at hp
  .rename_i hc;rcases List.mem_cons.1 hp with rfl|hp
   .grind
   .cases n with
    |zero=>simp[pcf]at hp
    |succ n=>
    obtain⟨a1,a2,a3,i,i1,i2,i3⟩:=jw9 (n+1) (k+1) (frm l (k+1)) omg_ (Ë _) (h.frm_lt omg_) hc p hp;grind
  grind
theorem jwa{b:D}(hb:b<=8589934592):∀(n k:I)(a:D),k+n=l.length+1->k<=l.length->frm l k<=a->a<frm l (k+1)->a<b->
  ∀x,a<=x->x<b->∃p∈pcf o l a b k n,p.1<=x/\x<p.2.1
 |0,k,a,hn,hk,h1,h2,hab,x,hx,hx2=>omg_
 |n+1,k,a,hn,hk,h1,h2,hab,x,hx,hx2=>by
  simp only[pcf];split
  .rename_i hc;by_cases hlt:x<frm l (k+1)
   .simp_all
   .have hkl:k+1<=l.length:=by grind[j81]
    obtain⟨p,hp,hp2⟩:=jwa hb n (k+1) (frm l (k+1)) omg_ hkl (Ë _) (h.frm_lt hkl) hc x omg_ hx2;grind
  simp_all
theorem jzt{a b:D}(ha:0<=a)(hab:a<=b)(hb:b<=8589934592):∃ps,j1T (o,l) a b=H ps/\ps.length<=l.length+1/\
  (∀p∈ps,a<=p.1/\p.1<p.2.1/\p.2.1<=b/\∃i,i<=l.length/\p.2.2=tof o l i/\frm l i<=p.1/\p.2.1<=frm l (i+1))/\∀x,a<=x->x<b->∃p∈ps,p.1<=x/\x<p.2.1:=by
 simp only[j1T];rcases Int.lt_or_le a b with hlt|hge
 .obtain⟨k,hk,h1,h2⟩:=jaq h ha omg_;have:=jzs h hb (l.length+1-k) k a [] omg_ hk h1 h2 hlt smp_;rw[X]at this;rw[this];refine⟨_,rfl,?_,λp hp=>?_,jwa h hb _ k a omg_ hk h1 h2 hlt⟩
  .grind[jw8]
  .obtain⟨a1,a2,a3,i,_,i2⟩:=jw9 h _ k a omg_ h1 h2 hlt p hp;grind
 .rw[j1S];simp(disch:=omega)only[j0F,S0];grind
end
def ent(f t st:D)(v:D×D):D×Int:=(if st+v.1>f then st+v.1 else f,if st+v.2<t then st+v.2 else t)
theorem jlC{s:D}:∀{w:WL},hasB s w=À↔∃v∈w,v.1<=s/\s<v.2
 |[]=>by simp[hasB]
 |x::r=>by
  simp only[hasB,Î];cases hc:cond (F (x.1<=s)) (F (s<x.2)) false with
  |true=>
   simp only[j6,true_iff];refine⟨x,Æ rfl,?_⟩;by_cases h1:x.1<=s
   .rw[j00 h1,j6]at hc;exact⟨h1,of_decide_eq_true hc⟩
   .rw[j01 h1,j7]at hc;simp at hc
  |false=>
   simp only[j7];rw[jlC (w:=r)];constructor
   .rintro⟨v,hv,h⟩;exact⟨v,Ê hv,h⟩
   .rintro⟨v,rfl|hv,h⟩
    .rw[j00 h.1,j00 h.2]at hc;simp at hc
    .exact⟨v,hv,h⟩
theorem jCz{w:WL}(hw:WOk 0 w)(hl:w.length<=14){st f t q:D}(hst : -1000000<=st)(hst2:st<=8600000000)(a b:D)(ps:S (D×D×D)):∀(n i:I)(acc:SL),i+n=w.length->acc.length+n<=1000000->
  j96 w st a b w (w.length:D) (i:D) f t q acc ps=H (w,st,a,b,f,t,q,acc++(w.drop i).map (ent f t st),ps)
 |0,i,acc,hi,_=>by
  grind[jcD,j45,S0]
 |n+1,i,acc,hi,ha=>by
  have hlt:i<w.length:=omg_;have hgd:w.getD i (0,0)=w[i]:=by simp[hlt]
  have hg:=jfT hw i hlt;rw[hgd]at hg;rw[jcD];simp(disch:=omega)only[G hlt,j45,S0];have:=jCz hw hl hst hst2 a b ps n (i+1) (acc++[ent f t st w[i]]) omg_ sqo_ (f:=f) (t:=t) (q:=q);rw[List.append_assoc]at this;exact this
theorem jDP{w:WL}(hw:WOk 0 w)(hl:w.length<=14){f t q:D}(hf:0<=f)(ht:t<=8589934592)(hft:f<t)(a b:D)(ps:S (D×D×D)):∀(m:I)(st:D)(acc:SL), -1000000<=st->t<=st+604800*m->acc.length+14*m<=900000->
  ∃E,jbP w st a b f t q acc ps=H (w,a,b,acc++E,ps)/\E.length<=w.length*m/\(∀s∈E,f<=s.1/\s.2<=t/\s.1<=100000000000 /\ -100000000000<=s.2)/\
   ∀x,inS x E↔f<=x/\x<t/\st<=x/\hasB ((x-st)%604800) w=true:=by
 intro m;induction m with
 |zero=>intro st acc hst hm _;rw[jcE];simp(disch:=omega)only[j46,S0];exact⟨[],smp_,smp_,smp_,λx=>⟨λh=>absurd h j33,λh=>omg_⟩⟩
 |succ m ih=>
  intro st acc hst hm hacc;rw[jcE];simp(disch:=omega)only[j46,S0];by_cases hlt:st<t
  .have h4:=jCz hw hl hst omg_ a b ps w.length 0 acc omg_ omg_ (f:=f) (t:=t) (q:=q);rw[show ((0:I):D)=0 from rfl,Í]at h4;simp(disch:=omega)only[h4,S0];obtain⟨E,e,h1,h2,h3⟩:=ih (st+604800) (acc++w.map (ent f t st)) omg_ omg_ sqo_;refine⟨w.map (ent f t st)++E,?_,?_,?_,λx=>?_⟩
   .simp_all
   .grind
   .intro s hs;rcases List.mem_append.1 hs with hs|hs
    .obtain⟨v,hv,rfl⟩:=List.mem_map.1 hs;obtain⟨i,hi,rfl⟩:=W hv;have hg:=jfT hw i hi;grind[ent]
    .exact h2 s hs
   .rw[jfU,h3 x];constructor
    .rintro (⟨s,hs,hx1,hx2⟩|⟨a1,a2,a3,a4⟩)
     .obtain⟨v,hv,rfl⟩:=List.mem_map.1 hs;have hv':=hv;obtain⟨i,hi,rfl⟩:=W hv;have hg:=jfT hw i hi;rw[show w.getD i (0,0)=w[i] by simp[hi]]at hg;simp only[ent]at hx1 hx2;grind[jlC]
     grind
    .rintro⟨a1,a2,a3,a4⟩
     by_cases hx:st+604800<=x
     .grind
     .obtain⟨v,hv,c1,c2⟩:=jlC.1 a4;have e1:(x-st)%604800=x-st:=omg_;rw[e1]at c1 c2;refine Æ ⟨ent f t st v,List.mem_map.2 ⟨v,hv,rfl⟩,?_,?_⟩<;>simp only[ent]<;>split<;>omega
  .rw[j01 hlt,j7,j06];exact⟨[],smp_,smp_,smp_,λx=>⟨λh=>absurd h j33,λh=>omg_⟩⟩
theorem jCA{w:WL}(hw:WOk 0 w)(hl:w.length<=14){ps:S (D×D×D)}{M:I}(hM:M<=60)(hpl:ps.length<=30){lo hi:D}(hlo:0<=lo)(hhi:hi<=8589934592)
  (hps:∀p∈ps,lo<=p.1/\p.1<p.2.1/\p.2.1<=hi /\ -64800<=p.2.2/\p.2.2<=64800/\p.2.1-p.1<=604800*M):∀(n i:I)(acc:SL),i+n=ps.length->acc.length<=854*i->
  ∃E,jbQ w (ps.length:D) (i:D) acc ps=H (acc++E)/\E.length<=w.length*(M+1)*n/\(∀s∈E,lo<=s.1/\s.2<=hi/\s.1<=100000000000 /\ -100000000000<=s.2)/\
   ∀x,inS x E↔∃p∈ps.drop i,p.1<=x/\x<p.2.1/\hasB ((x+p.2.2+259200)%604800) w=À
 |0,i,acc,hi,_=>by
  rw[jcF]
  simp_all[j47,S0,j33]
 |n+1,i,acc,hi,hacc=>by
  have hlt:i<ps.length:=omg_;have hgd:ps.getD i (0,0,0)=ps[i]:=by simp[hlt]
  obtain⟨p1,p2,p3,p4,p5,p6⟩:=hps ps[i] (Â hlt);have hwm:w.length*(M+1)<=854:=Ã (È hl (show M+1<=61 by omega)) (by decide);rw[jcF,G hlt];simp only[j47];simp(disch:=omega)only[jfR,S0];generalize hst:ps[i].1+ps[i].2.2 - -259200-(ps[i].1+ps[i].2.2 - -259200)%604800 + -259200-ps[i].2.2=st;obtain⟨E1,e1,l1,b1,m1⟩:=jDP hw hl (f:=ps[i].1) (t:=ps[i].2.1) (q:=ps[i].2.2) omg_ omg_ p2 (ps.length:D) (i:D) ps (M+1) st acc omg_ omg_ omg_;rw[e1];simp only[j4];rw[j05 (x:=(i:D)+1),j03];obtain⟨E2,e2,l2,b2,m2⟩:=jCA hw hl hM hpl hlo hhi hps n (i+1) (acc++E1) omg_ sqo_;refine⟨E1++E2,?_,?_,?_,λx=>?_⟩
  .simp_all
  .grind
  .intro s hs;rcases List.mem_append.1 hs with hs|hs
   .have:=b1 s hs;omega
   .exact b2 s hs
  .rw[jfU,m1 x,m2 x];have key:∀x,ps[i].1<=x->(x-st)%604800=(x+ps[i].2.2+259200)%604800/\st<=x:=by intro x hx;omega
   constructor
   .rintro (⟨c1,c2,c3,c4⟩|⟨p,hp,h⟩)
    .grind
    .exact⟨p,List.mem_cons_of_mem _ hp,h⟩
   .rintro⟨p,hp,c1,c2,c3⟩
    rcases List.mem_cons.1 hp with rfl|hp;all_goals grind
theorem jmQ{o:D}{l:TrL}(h:TOk o l)(hll:l.length<=20){w:WL}(hw:WOk 0 w)(hl:w.length<=14){M:I}(hM:M<=60){a b:D}(ha:0<=a)(hab:a<=b)(hb:b<=8589934592)(hlen:b-a<=604800*M) :
  ∃out,j30 (o,l) w a b=H out/\StS (a-1) out/\(∀u∈out,a<=u.1/\u.2<=b)/\out.length<=w.length*(M+1)*(l.length+1)/\
   ∀k,k<=l.length->∀x,a<=x->x<b->frm l k<=x->x<frm l (k+1)->(inS x out↔hasB ((x+tof o l k+259200)%604800) w=À):=by
 obtain⟨ps,e,pl,pm,pc⟩:=jzt h ha hab hb
 obtain⟨E,e1,l1,b1,m1⟩:=jCA hw hl hM (ps:=ps) omg_ (lo:=a) (hi:=b) ha hb (λp hp=>by
  obtain⟨h1,h2,h3,i,i1,i2,_⟩:=pm p hp;have:=h.of0 i i1;have:=h.of1 i i1;exact⟨h1,h2,h3,omg_,omg_,omg_⟩) ps.length 0 [] omg_ smp_
 rw[show ((0:I):D)=0 from rfl,X]at e1;have hwm:w.length*(M+1)<=854:=Ã (È hl (show M+1<=61 by omega)) (by decide);have hEl:E.length<=w.length*(M+1)*(l.length+1):=Ã l1 (Nat.mul_le_mul_left _ pl);have hEl2:E.length<=854*21:=Ã hEl (È hwm omg_);obtain⟨out,e2,s1,s2,s3,s4⟩:=jeB (l:=E) omg_ (λs hs=>by have:=b1 s hs;omega) (lo:=a) (hi:=b) (λs hs _=>⟨(b1 s hs).1,(b1 s hs).2.1⟩);refine⟨out,?_,s1,s4,omg_,λk hk x hx1 hx2 hk1 hk2=>?_⟩
 .simp(disch:=omega)only[j30,e,e1,e2,S0]
 .rw[s2 x,m1 x,Í];constructor
  .rintro⟨p,hp,c1,c2,c3⟩
   obtain⟨h1,h2,h3,i,i1,i2,i3,i4⟩:=pm p hp;have:i=k:=jgg h i1 hk (t:=x) omg_ omg_ hk1 hk2;subst this;rw[<-i2];exact c3
  .intro hx;obtain⟨p,hp,c1,c2⟩:=pc x hx1 hx2;obtain⟨h1,h2,h3,i,i1,i2,i3,i4⟩:=pm p hp;have:i=k:=jgg h i1 hk (t:=x) omg_ omg_ hk1 hk2;subst this;exact⟨p,hp,c1,c2,by rw[i2];exact hx⟩
theorem jd8{o:D}{rs:S Rule}(hm:MZ o rs):(outT o (j8g (occs rs))).length<=4:=by
 grind[jnZ,j8g,jaO,MZ.few]
theorem jB6{o:D}{rs:S Rule}(hm:MZ o rs):(outT o (j8g (occs rs))).length<=20:=Ã (jd8 hm) omg_
theorem StS.weak{p q:D}(hq:q<=p):∀{l:SL},StS p l->StS q l
 |[],_=>trivial
 |_::_,h=>⟨by have:=h.1;omega,h.2⟩
theorem StS.low{p x:D}:∀{l:SL},StS p l->inS x l->p<x
 |[],_,h=>absurd h j33
 |s::r,h,hx=>by
  rcases j0a.1 hx with hx|hx
  .have:=h.1;omega
  .have:=StS.low h.2.2 hx;have:=h.1;have:=h.2.1;omega
theorem StS.mem{p:D}:∀{l:SL},StS p l->∀s∈l,p<s.1/\s.1<s.2
 |[],_,s,hs=>by simp at hs
 |u::r,h,s,hs=>by
  rcases List.mem_cons.1 hs with rfl|hs
  .exact⟨h.1,h.2.1⟩
  .have:=StS.mem h.2.2 s hs;have:=h.1;have:=h.2.1;omega
def cmF:I->SL->SL->SL
 |n+1,s::a,u::b=>(if (if u.1>s.1 then u.1 else s.1)<(if u.2<s.2 then u.2 else s.2) then [((if u.1>s.1 then u.1 else s.1),(if u.2<s.2 then u.2 else s.2))] else [])++
  (if s.2<u.2 then cmF n a (u::b) else cmF n (s::a) b)
 |_,_,_=>[]
theorem jwb:∀(n:I)(a b:SL)(p q:D),a.length+b.length<=n->StS p a->StS q b->(∀x,inS x (cmF n a b)↔inS x a/\inS x b)/\StS p (cmF n a b)/\StS q (cmF n a b)/\(cmF n a b).length<=a.length+b.length
 |0,a,b,p,q,hn,_,_=>by
  grind[List.length_eq_zero_iff,cmF]
 |n+1,[],b,p,q,_,_,_=>⟨λx=>⟨λh=>absurd h j33,λh=>absurd h.1 j33⟩,trivial,trivial,by simp[cmF]⟩
 |n+1,_::_,[],p,q,_,_,_=>⟨λx=>⟨λh=>absurd h j33,λh=>absurd h.2 j33⟩,trivial,trivial,by simp[cmF]⟩
 |n+1,s::a,u::b,p,q,hn,ha,hb=>by
  obtain⟨a1,a2,a3⟩:=ha;obtain⟨b1,b2,b3⟩:=hb;simp only[Á]at hn ⊢;have hx:∃f t:D,f=(if u.1>s.1 then u.1 else s.1)/\t=(if u.2<s.2 then u.2 else s.2)/\(∀x,(f<=x/\x<t)↔(s.1<=x/\x<s.2)/\(u.1<=x/\x<u.2))/\p<f/\q<f/\t<=s.2/\t<=u.2:=by grind
  obtain⟨f,t,ef,et,hi,f1,f2,t1,t2⟩:=hx;simp only[cmF,<-ef,<-et]
  have key:∀(a' b':SL)(r:SL),(∀x,inS x r↔inS x a'/\inS x b')->StS t r->StS p r->StS q r->r.length<=a'.length+b'.length->a'.length+b'.length+1=a.length+1+(b.length+1)->
    (∀x,inS x (s::a)/\inS x (u::b)↔(f<=x/\x<t)\/(inS x a'/\inS x b'))->
    (∀x,inS x ((if f<t then [(f,t)] else [])++r)↔inS x (s::a)/\inS x (u::b))/\StS p ((if f<t then [(f,t)] else [])++r)/\StS q ((if f<t then [(f,t)] else [])++r)/\((if f<t then [(f,t)] else [])++r).length<=a.length+1+(b.length+1):=by
   intro a' b' r hr1 hr2 hr3 hr4 hl hl2 hiff;by_cases hft:f<t
   .rw[if_pos hft];refine⟨λx=>?_,⟨f1,hft,hr2⟩,⟨f2,hft,hr2⟩,sqo_⟩;grind[j0a]
   grind
  by_cases hc:s.2<u.2
  .rw[if_pos hc];obtain⟨i1,i2,i3,i4⟩:=jwb n a (u::b) s.2 q sqo_ a3 ⟨b1,b2,b3⟩;refine key a (u::b) _ i1 (i2.weak t1) (i2.weak omg_) i3 i4 sqo_ (λx=>?_);rw[j0a,hi x];constructor
   .rintro⟨h|h,h'⟩
    .rcases j0a.1 h' with h'|h'
     .exact .inl ⟨h,h'⟩
     .have:=StS.low b3 h';omega
    .exact .inr ⟨h,h'⟩
   .rintro (h|h)
    all_goals grind[j0a]
  .rw[if_neg hc];obtain⟨i1,i2,i3,i4⟩:=jwb n (s::a) b p u.2 sqo_ ⟨a1,a2,a3⟩ b3;refine key (s::a) b _ i1 (i3.weak t2) i2 (i3.weak omg_) i4 sqo_ (λx=>?_);rw[j0a (s:=u),hi x];constructor
   .rintro⟨h',h|h⟩
    .rcases j0a.1 h' with h'|h'
     .exact .inl ⟨h',h⟩
     .have:=StS.low a3 h';omega
    .exact .inr ⟨h',h⟩
   .rintro (h|h)
    all_goals grind[j0a]
theorem jB7{A B:SL}(hA:A.length<=10000000)(hB:B.length<=10000000):∀(n i k:I)(acc:SL),i<=A.length->k<=B.length->(A.length-i)+(B.length-k)=n->acc.length+n<=30000000->
  j84 A B (i:D) (k:D) acc=H (acc++cmF n (A.drop i) (B.drop k))
 |n,i,k,acc,hi,hk,hn,hacc=>by
  rw[jiM];simp only[j6g,j6T,show J (O A)=(A.length:D) from rfl,show J (O B)=(B.length:D) from rfl];by_cases hend:i<A.length/\k<B.length
  .obtain⟨hi',hk'⟩:=hend;obtain⟨n,rfl⟩:∃m,n=m+1:=⟨n-1,omg_⟩;have gA:A.getD i (0,0)=A[i]:=by simp[U,hi']
   have gB:B.getD k (0,0)=B[k]:=by simp[U,hk']
   rw[j00 (show (i:D)<(A.length:D) by omega),j00 (show (k:D)<(B.length:D) by omega),j0X (show (0:D)<=(i:D) by omega) omg_,j0X (show (0:D)<=(k:D) by omega) omg_];simp only[j6,j8,gA,gB];rw[j05 (x:=(i:D)+1),j05 (x:=(k:D)+1)];rw[G hi',G hk'];simp only[cmF];generalize (if B[k].1>A[i].1 then B[k].1 else A[i].1:D)=f;generalize (if B[k].2<A[i].2 then B[k].2 else A[i].2:D)=t
   have ih1:∀acc':SL,acc'.length<=acc.length+1->j84 A B ((i:D)+1) (k:D) acc'=H (acc'++cmF n (A.drop (i+1)) (B[k]::B.drop (k+1))):=λacc' ha'=>by
    have:=jB7 hA hB n (i+1) k acc' omg_ omg_ omg_ omg_
    simp_all
   have ih2:∀acc':SL,acc'.length<=acc.length+1->j84 A B (i:D) ((k:D)+1) acc'=H (acc'++cmF n (A[i]::A.drop (i+1)) (B.drop (k+1))):=λacc' ha'=>by
    have:=jB7 hA hB n i (k+1) acc' omg_ omg_ omg_ omg_
    simp_all
   by_cases hft:f<t
   .simp(disch:=omega)only[if_pos hft,S0];grind[j03]
   .rw[j01 hft,if_neg hft];simp only[j7];by_cases hc:A[i].2<B[k].2;all_goals grind[S0]
  grind[j06,cmF]
theorem jpF{A B:SL}{p q:D}(ha:StS p A)(hb:StS q B)(hA:A.length<=10000000)(hB:B.length<=10000000) :
  ∃out,j8F A B=H out/\StS p out/\(∀x,inS x out↔inS x A/\inS x B)/\out.length<=A.length+B.length:=by
 have lp:=jB7 hA hB (A.length+B.length) 0 0 [] omg_ omg_ omg_ sqo_;obtain⟨h1,h2,h3,h4⟩:=jwb (A.length+B.length) A B p q (Ò _) ha hb;grind[j8F]
def wlP(e:D):D->SL->SL×D
 |t,[]=>([],t)
 |t,u::b=>if u.1<e then ((if t<u.1 then [(t,u.1)] else [])++(wlP e (if u.2>t then u.2 else t) b).1,(wlP e (if u.2>t then u.2 else t) b).2) else ([],t)
def woP(e t:D)(b:SL):SL:=(wlP e t b).1++(if (wlP e t b).2<e then [((wlP e t b).2,e)] else [])
theorem jB8{e t:D}{u:D×D}{b:SL}(h:u.1<e):woP e t (u::b)=(if t<u.1 then [(t,u.1)] else [])++woP e (if u.2>t then u.2 else t) b:=by
 grind[woP,wlP]
theorem jzu{e:D}:∀(b:SL)(t q:D),StS q b->(∀x,inS x (woP e t b)↔(t<=x/\x<e)/\¬inS x b)/\StS (t-1) (woP e t b)/\(∀s∈woP e t b,s.2<=e)/\(woP e t b).length<=b.countP (λu=>F (t<u.1)&&F (u.1<e))+1
 |[],t,q,_=>by
  rw[show woP e t []=(if t<e then [(t,e)] else []) from rfl];by_cases h:t<e
  .rw[if_pos h];exact⟨λx=>⟨λhx=>⟨by rcases j0a.1 hx with hx|hx;exact hx;exact absurd hx j33,j33⟩,λhx=>j0a.2 (.inl hx.1)⟩,⟨by dsimp only;omega,h,trivial⟩,smp_,smp_⟩
  .rw[if_neg h];exact⟨λx=>⟨λhx=>absurd hx j33,λhx=>omg_⟩,trivial,smp_,smp_⟩
 |u::b,t,q,hb=>by
  obtain⟨b1,b2,b3⟩:=hb;by_cases hu:u.1<e
  .rw[jB8 hu];have hm:∃t',t'=(if u.2>t then u.2 else t)/\t<=t'/\u.2<=t'/\(t'=t\/t'=u.2):=⟨_,rfl,by split<;>omega,by split<;>omega,by split<;>omega⟩;obtain⟨t',e',h1,h2,h3⟩:=hm;rw[<-e'];obtain⟨i1,i2,i3,i4⟩:=jzu b t' u.2 b3;have hbx:∀x,inS x b->u.2<x:=λx=>StS.low b3
   have hcp:b.countP (λu=>F (t'<u.1)&&F (u.1<e))<=b.countP (λu=>F (t<u.1)&&F (u.1<e)):=List.countP_mono_left λv _ h=>by
    simp only[Bool.and_eq_true,decide_eq_true_eq]at h ⊢;omega
   by_cases htu:t<u.1
   .rw[if_pos htu]
    refine⟨λx=>?_,⟨by dsimp only;omega,htu,i2.weak omg_⟩,λs hs=>?_,by
     rw[List.countP_cons_of_pos (by simp[htu,hu]),Ç,Á];omega⟩
    .rw[Ç,j0a,i1 x,j0a];constructor
     .rintro (h|h)
      .exact⟨omg_,λh'=>by
        rcases h' with h'|h'
        .omega
        .have:=hbx x h';omega⟩
      .exact⟨omg_,λh'=>by
        rcases h' with h'|h'
        .omega
        .exact h.2 h'⟩
     .rintro⟨h,h'⟩
      by_cases hx:x<u.1
      .exact .inl ⟨h.1,hx⟩
      .by_cases hx2:x<u.2
       .exact absurd (.inl ⟨omg_,hx2⟩) h'
       .exact .inr ⟨omg_,λh2=>h' (.inr h2)⟩
    .rcases List.mem_cons.1 hs with rfl|hs
     .dsimp only;omega
     .exact i3 s hs
   .rw[if_neg htu,X]
    refine⟨λx=>?_,i2.weak omg_,i3,by
     rw[List.countP_cons_of_neg (by simp[htu])];omega⟩
    rw[i1 x,j0a];constructor
    .rintro h
     exact⟨omg_,λh'=>by
      rcases h' with h'|h'
      .omega
      .exact h.2 h'⟩
    .rintro⟨h,h'⟩
     by_cases hx2:x<u.2
     .exact absurd (.inl ⟨omg_,hx2⟩) h'
     .exact⟨omg_,λh2=>h' (.inr h2)⟩
  .have:woP e t (u::b)=if t<e then [(t,e)] else []:=by simp only[woP,wlP,if_neg hu,X]
   rw[this]
   have hno:∀x,x<e->¬inS x (u::b):=λx hx h=>by
    rcases j0a.1 h with h|h
    .omega
    .have:=StS.low b3 h;omega
   by_cases h:t<e
   .rw[if_pos h]
    exact⟨λx=>⟨λhx=>by
     rcases j0a.1 hx with hx|hx
     .exact⟨hx,hno x hx.2⟩
     .exact absurd hx j33,λhx=>j0a.2 (.inl hx.1)⟩,⟨by dsimp only;omega,h,trivial⟩,smp_,smp_⟩
   .rw[if_neg h];exact⟨λx=>⟨λhx=>absurd hx j33,λhx=>omg_⟩,trivial,smp_,smp_⟩
def pA(l:SL)(u:D×D):Bool:=l.any λs=>F (s.1<u.1)&&F (u.1<s.2)
theorem jsg{p q:D×D->Bool}(h:∀u,p u=À->q u=À->False):∀l:SL,l.countP p+l.countP q<=l.countP (λu=>p u||q u)
 |[]=>smp_
 |u::l=>by
  have ih:=jsg h l;grind
theorem jwc{q:D}:∀{b:SL}(k:I),StS q b->∃q',StS q' (b.drop k)
 |_,0,h=>⟨q,h⟩
 |[],_+1,_=>⟨q,trivial⟩
 |_::_,k+1,h=>jwc k h.2.2
section
variable{B:SL}(hB:B.length<=10000000)
include hB
theorem jCB{A:SL}{n m s e:D}{acc:SL}:∀(d k:I),k+d=B.length->∃k':I,k<=k'/\k'<=B.length/\(∀j (h:j<B.length),k<=j->j<k'->B[j].2<=s)/\
  j97 B (k:D) A n m s e acc=H (B,(k':D),A,n,m,s,e,acc)
 |0,k,hk=>by
  grind[jcG,j48,S0]
 |d+1,k,hk=>by
  have hk':k<B.length:=omg_;have gB:B.getD k (0,0)=B[k]:=by simp[U,hk']
  rw[jcG];simp only[j48,show J (O B)=(B.length:D) from rfl];rw[j00 omg_,j0O];simp only[j6,j8,gB];by_cases hc:B[k].2<=s
  .simp(disch:=omega)only[S0];obtain⟨k',h1,h2,h3,h4⟩:=jCB d (k+1) omg_;refine⟨k',omg_,h2,λj h ha hb=>?_,h4⟩;grind
  grind[j06]
theorem jCC{A:SL}{k n m s e:D}:∀(d i:I)(t:D)(acc:SL),i+d=B.length->acc.length+d<=4000000000->
  j7k B k t (i:D) A n m s e acc=H (B,k,(wlP e t (B.drop i)).2,A,n,m,s,e,acc++(wlP e t (B.drop i)).1)
 |0,i,t,acc,hi,hacc=>by
  grind[jcH,j49,S0,wlP]
 |d+1,i,t,acc,hi,hacc=>by
  have hi':i<B.length:=omg_;have gB:B.getD i (0,0)=B[i]:=by simp[U,hi']
  rw[jcH];simp only[j49,show J (O B)=(B.length:D) from rfl];rw[j00 omg_,j0O];simp only[j6,j8,gB];rw[G hi',j05 (x:=(i:D)+1)];by_cases hc:B[i].1<e
  .rw[j00 hc];simp only[j6,wlP,if_pos hc];have ih:∀acc':SL,acc'.length<=acc.length+1->j7k B k (if B[i].2>t then B[i].2 else t) ((i:D)+1) A n m s e acc'=_:=λacc' h'=>jCC d (i+1) (if B[i].2>t then B[i].2 else t) acc' omg_ omg_;by_cases ht:t<B[i].1
   .simp(disch:=omega)only[if_pos ht,S0]
    simp_all
   grind[S0]
  grind[j06,wlP]
theorem jCD{A:SL}(hA:A.length<=10000000){q:D}(hb:StS q B):∀(d j k:I)(p:D)(acc:SL),j+d=A.length->k<=B.length->StS p (A.drop j)->(∀i (h:i<B.length),i<k->∀x,inS x (A.drop j)->B[i].2<=x)->acc.length+d+B.countP (pA (A.drop j))<=30000000->
  ∃out,j7l B (k:D) A (A.length:D) (j:D) acc=H (acc++out)/\StS p out/\(∀x,inS x out↔inS x (A.drop j)/\¬inS x B)/\out.length<=d+B.countP (pA (A.drop j))
 |0,j,k,p,acc,hj,hk,_,_,hacc=>by
  grind[jcI,j4a,j06,j33]
 |d+1,j,k,p,acc,hj,hk,ha,hkx,hacc=>by
  have hj':j<A.length:=omg_;have gA:A.getD j (0,0)=A[j]:=by simp[U,hj']
  rw[G hj']at ha hkx hacc ⊢;obtain⟨a1,a2,a3⟩:=ha;obtain⟨k',h1,h2,h3,h4⟩:=jCB hB (A:=A) (n:=(A.length:D)) (m:=(j:D)) (s:=A[j].1) (e:=A[j].2) (acc:=acc) (B.length-k) k omg_;have hb':∃q',StS q' (B.drop k'):=jwc k' hb;obtain⟨q',hb'⟩:=hb'
  have hskip:∀x,A[j].1<=x->(inS x B↔inS x (B.drop k')):=by
   intro x hx;constructor
   .rintro⟨u,hu,u1,u2⟩
    obtain⟨i,hi,rfl⟩:=List.mem_iff_getElem.1 hu;by_cases hik:i<k'
    .grind[j0a]
    .exact⟨B[i],List.mem_drop_iff_getElem.2 ⟨i-k',omg_,by grind⟩,u1,u2⟩
   .rintro⟨u,hu,u1,u2⟩
    exact⟨u,List.mem_of_mem_drop hu,u1,u2⟩
  have w4:=jCC hB (A:=A) (k:=(k':D)) (n:=(A.length:D)) (m:=(j:D)) (s:=A[j].1) (e:=A[j].2) (B.length-k') k' A[j].1 acc omg_ omg_;obtain⟨s1,s2,s3,s4⟩:=jzu (e:=A[j].2) (B.drop k') A[j].1 q' hb';have hwl:(wlP A[j].2 A[j].1 (B.drop k')).1.length<=(woP A[j].2 A[j].1 (B.drop k')).length:=by simp[woP]
  have hcnt:(woP A[j].2 A[j].1 (B.drop k')).length+B.countP (pA (A.drop (j+1)))<=B.countP (pA (A[j]::A.drop (j+1)))+1:=by
   have h5:(B.drop k').countP (λu=>F (A[j].1<u.1)&&F (u.1<A[j].2))<=B.countP (λu=>F (A[j].1<u.1)&&F (u.1<A[j].2)):=(List.drop_sublist k' B).countP_le
   have h6:=jsg (p:=λu=>F (A[j].1<u.1)&&F (u.1<A[j].2)) (q:=pA (A.drop (j+1))) (λu hp hq=>by
    obtain⟨s,hs,hs'⟩:=List.any_eq_true.1 hq;have:=StS.mem a3 s hs;grind) B
   have h7:B.countP (λu=>(F (A[j].1<u.1)&&F (u.1<A[j].2))||pA (A.drop (j+1)) u)=B.countP (pA (A[j]::A.drop (j+1))):=rfl;omega
  have step:∀acc':SL,acc'=acc++woP A[j].2 A[j].1 (B.drop k')->∃out,j7l B (k':D) A (A.length:D) ((j:D)+1) acc'=H (acc++out)/\StS p out/\(∀x,inS x out↔inS x (A[j]::A.drop (j+1))/\¬inS x B)/\out.length<=d+1+B.countP (pA (A[j]::A.drop (j+1))):=by
   rintro _ rfl
   obtain⟨out,e,o1,o2,o3⟩:=jCD hA hb d (j+1) k' A[j].2 (acc++woP A[j].2 A[j].1 (B.drop k')) omg_ h2 a3 (λi hi hik x hx=>by
    have hlow:=StS.low a3 hx;grind[j0a]) (by rw[Y];omega)
   refine⟨woP A[j].2 A[j].1 (B.drop k')++out,by simp_all,?_,λx=>?_,by rw[Y];omega⟩
   .have glue:∀(l:SL)(r:D),StS r l->r<A[j].2->(∀s∈l,s.2<=A[j].2)->StS r (l++out):=by
     intro l;induction l with
     |nil=>intro r _ hr _;exact o1.weak omg_
     |cons s l ih=>intro r h hr hl;exact⟨h.1,h.2.1,by
      have:=hl s smp_;by_cases hs:s.2<A[j].2
      .exact ih s.2 h.2.2 hs (λu hu=>hl u (by simp[hu]))
      .have he:s.2=A[j].2:=omg_;match l,h.2.2 with
       |[],_=>simp_all
       |u::l',h'=>have:=hl u smp_;have:=h'.1;have:=h'.2.1;omega⟩
    exact glue _ _ (s2.weak omg_) omg_ s3
   grind[jfU,j0a]
  rw[jcI];simp only[j4a];rw[j00 (show (j:D)<(A.length:D) by omega),j0O];simp only[j6,j8,gA,h4,j4,w4];rw[j05 (x:=(j:D)+1)];have hlen:(acc++(wlP A[j].2 A[j].1 (B.drop k')).1).length<=2000000000:=by rw[Y];omega
  by_cases ht:(wlP A[j].2 A[j].1 (B.drop k')).2<A[j].2
  .grind[j02,j03,woP]
  simp_all[j01,j03,woP]
theorem jj8{A:SL}{p q:D}(ha:StS p A)(hb:StS q B)(hA:A.length<=10000000) :
  ∃out,j4q A B=H out/\StS p out/\(∀x,inS x out↔inS x A/\¬inS x B)/\out.length<=A.length+B.length:=by
 have hc:=List.countP_le_length (p:=pA (A.drop 0)) (l:=B);obtain⟨out,e,h1,h2,h3⟩:=jCD hB hA hb A.length 0 0 p [] omg_ omg_ ha (λi h hi=>omg_) (by grind);refine⟨out,?_,h1,h2,omg_⟩;grind[j4q]
end
set_option linter.unusedSectionVars false
theorem jj9:∀{l:SL}{p:D},StS p l->∀i,i<l.length->p<(l.getD i (0,0)).1/\(l.getD i (0,0)).1<(l.getD i (0,0)).2
 |[],_,_,i,hi=>by simp at hi
 |x::r,p,h,0,_=>⟨h.1,h.2.1⟩
 |x::r,p,h,i+1,hi=>by
  have:=jj9 h.2.2 i (by simpa using hi);have h1:=h.1;have h2:=h.2.1;refine⟨?_,this.2⟩;have e:((x::r).getD (i+1) (0,0)).1=(r.getD i (0,0)).1:=rfl;rw[e];omega
theorem jlD:∀{l:SL}{p:D},StS p l->∀i j,i<j->j<l.length->(l.getD i (0,0)).2<(l.getD j (0,0)).1
 |[],_,_,i,j,_,hj=>by simp at hj
 |x::r,p,h,0,j+1,_,hj=>(jj9 h.2.2 j (by simpa using hj)).1
 |x::r,p,h,i+1,j+1,hij,hj=>jlD h.2.2 i j omg_ (by simpa using hj)
 |x::r,p,h,_,0,hij,_=>omg_
section
variable{l:SL}{p:D}(h:StS p l)(hp : -1<=p)(hl:l.length<=4096)(hb:∀u∈l,u.2<=8589934592)
include h hp hl hb
theorem jCE(i:I)(hi:i<l.length):(l.getD i (0,0)).2<=8589934592:=by
 rw[show l.getD i (0,0)=l[i] by simp[hi]];exact hb _ (Â hi)
theorem jCF:∀(n i:I),i+n=l.length->jfC l (i:D)=H (.inr ())
 |0,i,hi=>by
  rw[jfD];simp(disch:=omega)only[j5X,S0]
 |n+1,i,hi=>by
  have ih:=jCF n (i+1) omg_;have hg:=jj9 h i omg_;have hu:=jCE h hp hl hb i omg_;rw[jfD];simp only[j5X,show J (O l)=(l.length:D) from rfl];rw[j00 (show (i:D)<(l.length:D) by omega),j0O];simp only[j6,j8];rw[j01 (show¬(l.getD i (0,0)).1<0 by omega),j01 (show¬(l.getD i (0,0)).1>=(l.getD i (0,0)).2 by omega),j01 (show¬(l.getD i (0,0)).2>8589934592 by omega)];rw[j05 (x:=(i:D)+1)];simp only[j7];by_cases h0:i=0
  .simp(disch:=omega)only[S0];exact ih
  .obtain⟨j,rfl⟩:∃j,i=j+1:=⟨i-1,omg_⟩;have hgap:=jlD h j (j+1) omg_ omg_;rw[j00 omg_,j05 (x:=((j+1:I):D)-1),j0O,show (((j+1:I):D)-1).toNat=j by omega,j01 omg_];simp only[j6,j7,j03];exact ih
theorem jwd:ji0 l=H true:=by
 have:=jCF h hp hl hb l.length 0 omg_;rw[show ((0:I):D)=0 from rfl]at this;simp only[ji0,show J (O l)=(l.length:D) from rfl];rw[j01 omg_,j7,this];rfl
theorem jwe(x:D):∀(n a b:I),b-a<=n->a<=b->b<=l.length->(∀i,i<a->(l.getD i (0,0)).2<=x)->(∀i,b<=i->i<l.length->x<(l.getD i (0,0)).2)->
  ∃k:I,jiS l x (a:D) (b:D)=H (l,x,(k:D))/\k<=l.length/\(∀i,i<k->(l.getD i (0,0)).2<=x)/\(∀i,k<=i->i<l.length->x<(l.getD i (0,0)).2)
 |0,a,b,hn,hab,hbl,h1,h2=>by
  rw[ji1];simp(disch:=omega)only[j7z,S0];exact⟨a,rfl,omg_,h1,λi hi=>h2 i omg_⟩
 |n+1,a,b,hn,hab,hbl,h1,h2=>by
  rw[ji1];simp only[j7z];by_cases hlt:a<b
  .rw[j00 (show (a:D)<(b:D) by omega),j05 (x:=(a:D)+(b:D)),jcm omg_,j05 (x:=((a:D)+(b:D))/2),
    show ((a:D)+(b:D))/2=(((a+b)/2:I):D) by omega,j0O,j05 (x:=(((a+b)/2:I):D)+1)]
   simp only[j6,j8];by_cases hc:(l.getD ((a+b)/2) (0,0)).2<=x
   .rw[j00 hc,j6,j03];refine jwe x n ((a+b)/2+1) b omg_ omg_ hbl (λi hi=>?_) h2;rcases Ð i ((a+b)/2) with h'|h'
    .have g1:=jlD h i ((a+b)/2) h' omg_;have g2:=jj9 h ((a+b)/2) omg_;omega
    .have:i=(a+b)/2:=omg_;rw[this];exact hc
   .rw[j01 hc,j7,j03];refine jwe x n a ((a+b)/2) omg_ omg_ omg_ h1 (λi hi hi2=>?_);rcases Ð ((a+b)/2) i with h'|h'
    .have g1:=jlD h ((a+b)/2) i h' omg_;have g2:=jj9 h i omg_;omega
    .have:i=(a+b)/2:=omg_;rw[this];omega
  .rw[j01 omg_,j7,j06];exact⟨a,rfl,omg_,h1,λi hi=>h2 i omg_⟩
theorem jB9(x:D):∃b,jiT l x=H b/\(b=À↔inS x l):=by
 obtain⟨k,e,hk,h1,h2⟩:=jwe h hp hl hb x l.length 0 l.length omg_ omg_ omg_ (λi hi=>omg_) (λi hi hi2=>omg_);rw[show ((0:I):D)=0 from rfl]at e;simp only[jiT,jwd h hp hl hb,j4,j6,jqu,show J (O l)=(l.length:D) from rfl,e];by_cases hkl:k<l.length
 .rw[j00 (show (k:D)<(l.length:D) by omega),j0O];simp only[Bool.true_or,j6,j8,j4];refine⟨_,rfl,?_⟩;rw[decide_eq_true_iff];have hgd:l.getD k (0,0)=l[k]:=by simp[hkl]
  constructor
  .intro hx;exact⟨l[k],Â hkl,by rw[<-hgd];exact hx,by rw[<-hgd];exact h2 k (Ò _) hkl⟩
  .rintro⟨s,hs,c1,c2⟩
   obtain⟨i,hi,rfl⟩:=W hs;have hgi:l.getD i (0,0)=l[i]:=by simp[hi]
   rw[<-hgi]at c1 c2;rcases Nat.lt_trichotomy i k with h'|h'|h'
   .have:=h1 i h';omega
   .subst h';exact c1
   .have g1:=jlD h k i h' hi;have g2:=jj9 h k hkl;omega
 .rw[j01 (show¬(k:D)<(l.length:D) by omega)];simp only[Ì,Bool.or_true,j6,j7,j4];refine⟨false,rfl,?_⟩;simp only[Bool.false_eq_true,false_iff]
  rintro⟨s,hs,c1,c2⟩
  obtain⟨i,hi,rfl⟩:=W hs;have hgi:l.getD i (0,0)=l[i]:=by simp[hi]
  have:=h1 i omg_;rw[hgi]at this;omega
end
theorem jik:j5i 2241=H 98981:=by kernel_rfl
theorem jil:j5i 1970=H 0:=by kernel_rfl
theorem jzv{d:D}(h:j16 d=H À):d<=100000:=by
 apply Classical.byContradiction;intro hd;simp only[j16,j8P,jil,jik,j4]at h;rw[j01 (show¬d<0 by omega),j00 (show d>=98981 by omega)]at h;simp at h
theorem LCk.rt2{nz np nc:I}{L:j0b}(h:LCk nz np nc L):Rt L:=h.rt (jzv h.day)
section
variable{zs:S j0D}{ps:S j0h}{cs:S CalT}(hs:SOk2 zs ps cs)
include hs
theorem cget{i:D}(h0:0<=i)(h1:i<(cs.length:D)):CCk zs.length (cs.getD i.toNat (R,0,[])):=by
 have hi:i.toNat<cs.length:=omg_;rw[show cs.getD i.toNat (R,0,[])=cs[i.toNat] by simp[U,hi]];exact hs.c.ck _ (Â hi)
end
def jb4(es:S j1D)(p t:D):Bool:=es.any λx=>x.1==0&&(x.2.1==p&&(F (x.2.2.2.1<=t)&&F (t<x.2.2.2.2)))
def topI(good:I->Bool):I->Option I
 |0=>none
 |n+1=>cond (good n) (H n) (topI good n)
def j6P(es:S j1D)(t:D)(Pf:I->D)(i:I):Bool:=F (0<=Pf i) && !jb4 es (Pf i) t
section
variable{zs:S j0D}{ps:S j0h}{cs:S CalT}{ss:S j0r}
theorem jwf(hz:∀z∈zs,ZOk z)(hc:j6O (zs,ps,cs,ss)):jiL (zs,ps,cs,ss)=H (((zs,ps,cs,ss),zs.map tb),À):=by
 have hzl:zs.length<=16:=hc.zl;simp only[jiL,show j1R (zs,ps,cs,ss)=_ from jez hc,j4,bne_self_eq_false,j7,jB2 (ps:=ps) (cs:=cs) (ss:=ss) hz (show zs.length<=100 by omega)]
def topP(es:S j1D)(t:D)(Pf:I->D)(n:I):Int:=match topI (j6P es t Pf) n with
 |some i=>Pf i
 |none=> -1
end
def nms3:S ByteArray:=[(Z #[102,105,114,115,116]),(Z #[115,101,99,111,110,100]),(Z #[116,104,105,114,100])]
theorem jBa:NmL nms3:=by
 refine⟨by decide,λk hk=>?_⟩;simp only[nms3,Î,List.not_mem_nil,or_false]at hk;rcases hk with rfl|rfl|rfl<;>kernel_rfl
structure SG(nz np nc:I)(s:j0r):Prop where
 ck:SCk nz np nc s
 nm:s.2.1.map (·.1)=nmsL.take s.2.1.length
 ll:s.2.1.length<=3
 el:s.2.2.length<=3
theorem jzw{L:S D}{zs:S j0D}{ps:S j0h}{cs:S CalT}(hs:SOk zs ps cs):∀(n:I)(a:D)(ss:S j0r),DOk L a->ss.length+n<=3->ss.map (·.1)=nms3.take ss.length->(∀s∈ss,SG zs.length ps.length cs.length s)->
  ∃ss' a',j8I (n:D) L a zs ps cs ss=H (L,a',zs,ps,cs,ss')/\ss'.length=ss.length+n/\ss'.map (·.1)=nms3.take ss'.length/\(∀s∈ss',SG zs.length ps.length cs.length s)/\DOk L a'
 |0,a,ss,hd,hl,hn,hg=>by
  rw[ja0];simp only[j2x];rw[j01 omg_,j7,j06];exact⟨ss,a,rfl,rfl,hn,hg,hd⟩
 |n+1,a,ss,hd,hl,hn,hg=>by
  have hlt:ss.length<nms3.length:=by show ss.length<3;omega
  have hmod:Ó (J ss.length) 3=(ss.length:D):=by have:Ó (ss.length:D) 3=(ss.length:D):=Int.tmod_eq_of_lt omg_ omg_;exact this
  obtain⟨k,a3,e3,k0,k1,d3⟩:=j0E (n:=4) hd omg_ omg_;obtain⟨ls,a4,e4,l4,lk,ln,d4⟩:=jCo (s6:=((n+1:I):D)) (nm:=U nms3 ss.length R) (ss:=ss) hs k.toNat a3 [] d3 sqo_ smp_ rfl;obtain⟨m,a5,e5,m0,m1,d5⟩:=j0E (n:=4) d4 omg_ omg_;obtain⟨es,a6,e6,l6,ek,d6⟩:=jCp (s6:=((n+1:I):D)) (nm:=U nms3 ss.length R) (zs:=zs) (cs:=cs) (ss:=ss) (ls:=ls) hs m.toNat a5 [] d5 sqo_ smp_;rw[show ((k.toNat:I):D)=k by omega]at e4;rw[show ((m.toNat:I):D)=m by omega]at e6
  have hnew:SG zs.length ps.length cs.length (U nms3 ss.length R,ls,es):=
   ⟨⟨by dsimp only;rw[ln];exact jvV.take _,lk,by dsimp only;omega,ek,by dsimp only;omega⟩,ln,l4,l6⟩
  obtain⟨ss',a',e',h1,h2,h3,h4⟩:=jzw hs n a6 (ss++[(U nms3 ss.length R,ls,es)]) d6 sqo_ (by
   rw[List.map_append,hn,Y];exact jo1 hlt) (λs h=>by
   rcases List.mem_append.1 h with h|h
   .exact hg s h
   .simp at h;subst h;exact hnew)
  rw[ja0];simp only[j2x];rw[j00 (show ((n+1:I):D)>0 by omega),hmod,j0X omg_ (by show (ss.length:D)<(3:I);omega)];simp only[j6,j8,e3,j4];rw[show j6m ((n+1:I):D) k L a3 zs ps cs (U [(Z #[102,105,114,115,116]),(Z #[115,101,99,111,110,100]),(Z #[116,104,105,114,100])] ss.length R) ss []=_ from e4];simp only[j4,e5,e6];rw[j00 (by simp[j02];omega),j05,show ((n+1:I):D)-1=(n:D) by omega];simp only[j6,j03];exact⟨ss',a',e',by rw[h1];simp;omega,h2,h3,h4⟩
theorem jtK{L:S D}{a n:D}(h:DOk L a)(n0:1<=n)(n1:n<=3):∃zs ps cs ss a',j6F L a n=H ((zs,ps,cs,ss),L,a')/\SOk2 zs ps cs/\1<=ss.length/\(ss.length:D)<=n/\ss.map (·.1)=nms3.take ss.length/\(∀s∈ss,SG zs.length ps.length cs.length s)/\DOk L a':=by
 obtain⟨zs,ps,cs,a1,e1,hs,d1⟩:=jvX h;obtain⟨x,a2,e2,x0,x1,d2⟩:=j0E (n:=n) d1 omg_ omg_;obtain⟨ss,a3,e3,h1,h2,h3,d3⟩:=jzw hs.so (1+x).toNat a2 [] d2 sqo_ smp_ smp_;rw[show (((1+x).toNat:I):D)=1+x by omega]at e3;simp at h1;simp only[j6F,e1,e2,j4];rw[j05 (x:=1+x)];simp only[e3,j4];exact⟨zs,ps,cs,ss,a3,rfl,hs,omg_,omg_,h2,h3,d3⟩
theorem jwg{zs:S j0D}{ps:S j0h}{cs:S CalT}{ss:S j0r}(hs:SOk2 zs ps cs)(h0:ss.length<=12)(h1:NmL (ss.map (·.1)))(h2:∀s∈ss,SCk zs.length ps.length cs.length s):j6O (zs,ps,cs,ss):=jCq hs h0 h1 h2
instance(L:j0b):Decidable (Rt L):=
 decidable_of_iff (1<=L.2.2.1.1/\L.2.2.1.1<=100000/\0<=L.2.2.1.2/\L.2.2.1.2<=86399/\0<=L.2.2.2.1/\L.2.2.2.1<=2/\1<=L.2.2.2.2.1/\L.2.2.2.2.1<=400/\L.2.2.2.2.2.1≠[])
  ⟨λ⟨a,b,c,d,e,f,g,h,i⟩=>⟨a,b,c,d,e,f,g,h,i⟩,λ⟨a,b,c,d,e,f,g,h,i⟩=>⟨a,b,c,d,e,f,g,h,i⟩⟩
section
variable{z:j0D}{l:TrL}(h4:Z4 z l)
include h4
theorem jlE(L:j0b):jcb z L=H (if Rt L then 0 else 8):=by
 have hc:j7v (z.1,z.2.1,z.2.2)=H 0:=by simp only[j7v,show j0q (z.1,z.2.1,z.2.2)=_ from h4.1,j4]
 simp only[jcb,hc,j4,bne_self_eq_false,j7]
 have key:(cond (cond (cond (cond (cond (cond (cond (cond (F (L.2.2.1.1<1)) À (F (L.2.2.1.1>100000))) À (F (L.2.2.1.2<0))) À (F (L.2.2.1.2>=86400))) À (F (L.2.2.2.1<0))) À (F (L.2.2.2.1>2))) À (F (L.2.2.2.2.1<1))) À (F (L.2.2.2.2.1>400))) À (J L.2.2.2.2.2.1.length==0)) = !F (Rt L):=by
  have hlen:(J L.2.2.2.2.2.1.length==0)=F (L.2.2.2.2.2.1=[]):=by
   cases L.2.2.2.2.2.1 with
   |nil=>rfl
   |cons x r=>simp;omega
  rw[hlen];rw[Bool.eq_iff_iff];simp only[Bool.not_eq_true',decide_eq_false_iff_not];constructor
  .intro hh h;have a1:=h.d0;have a2:=h.d1;have a3:=h.c0;have a4:=h.c1;have a5:=h.u0;have a6:=h.u1;have a7:=h.e0;have a8:=h.e1;rw[j01 (show¬L.2.2.1.1<1 by omega),j01 (show¬L.2.2.1.1>100000 by omega),j01 (show¬L.2.2.1.2<0 by omega),j01 (show¬L.2.2.1.2>=86400 by omega),j01 (show¬L.2.2.2.1<0 by omega),j01 (show¬L.2.2.2.1>2 by omega),j01 (show¬L.2.2.2.2.1<1 by omega),j01 (show¬L.2.2.2.2.1>400 by omega),j01 h.m0]at hh;simp at hh
  .intro hn;by_cases a1:L.2.2.1.1<1
   .rw[j00 a1];rfl
   rw[j01 a1];by_cases a2:L.2.2.1.1>100000
   .rw[j00 a2];rfl
   rw[j01 a2];by_cases a3:L.2.2.1.2<0
   .rw[j00 a3];rfl
   rw[j01 a3];by_cases a4:L.2.2.1.2>=86400
   .rw[j00 a4];rfl
   rw[j01 a4];by_cases a5:L.2.2.2.1<0
   .rw[j00 a5];rfl
   rw[j01 a5];by_cases a6:L.2.2.2.1>2
   .rw[j00 a6];rfl
   rw[j01 a6];by_cases a7:L.2.2.2.2.1<1
   .rw[j00 a7];rfl
   rw[j01 a7];by_cases a8:L.2.2.2.2.1>400
   .rw[j00 a8];rfl
   rw[j01 a8];by_cases a9:L.2.2.2.2.2.1=[]
   .rw[j00 a9];rfl
   exact absurd ⟨omg_,omg_,omg_,omg_,omg_,omg_,omg_,omg_,a9⟩ hn
 rw[key];by_cases h:Rt L
 .rw[j00 h,if_pos h];rfl
 .rw[j01 h,if_neg h];rfl
end
theorem jzx{z:j0D}{l:TrL}(hz:Z4 z l){L:j0b}(h:Rt L){t N:D}(hN:N<=8589934592):∀n:I,(n:D)<=N->
  ∃K:D,j8T t ((n:D)-1) z.1 z.2.1 z.2.2 L.1 L.2.1 L.2.2.1.1 L.2.2.1.2 L.2.2.2.1 L.2.2.2.2.1 L.2.2.2.2.2.1 L.2.2.2.2.2.2.1 L.2.2.2.2.2.2.2.1 L.2.2.2.2.2.2.2.2=H K/\
   (K = -1\/0<=K/\QO z.2.1 l L t K)/\K<n/\∀j:D,K<j->0<=j->j<n->¬QO z.2.1 l L t j
 |0,_=>by
  rw[jft];simp(disch:=omega)only[j5R,S0];exact⟨_,rfl,.inl omg_,omg_,λj h1 h2 h3=>omg_⟩
 |n+1,hn=>by
  obtain⟨K,e,k0,k1,k2⟩:=jzx hz h (t:=t) hN n omg_;obtain⟨v,hH,hv⟩:=r10H hz h (k:=(n:D)) omg_ omg_;rw[jft,show ((n+1:I):D)-1=(n:D) by omega];simp(disch:=omega)only[j5R,show j7w (z.1,z.2.1,z.2.2) (L.1,L.2.1,(L.2.2.1.1,L.2.2.1.2),L.2.2.2.1,L.2.2.2.2.1,L.2.2.2.2.2.1,L.2.2.2.2.2.2.1,L.2.2.2.2.2.2.2.1,L.2.2.2.2.2.2.2.2) (n:D)=_ from hH,S0]
  have down:¬QO z.2.1 l L t (n:D)->(lpK (H (Sum.inl (t,(n:D)-1,z.1,z.2.1,z.2.2,L.1,L.2.1,L.2.2.1.1,L.2.2.1.2,L.2.2.2.1,L.2.2.2.2.1,L.2.2.2.2.2.1,L.2.2.2.2.2.2.1,L.2.2.2.2.2.2.2.1,L.2.2.2.2.2.2.2.2)):Option ((D×D×ByteArray×D×S Rule×ByteArray×D×D×D×D×D×S D×WL×D×D) ⊕ D)) (λh=>j8T h.1 h.2.1 h.2.2.1 h.2.2.2.1 h.2.2.2.2.1 h.2.2.2.2.2.1 h.2.2.2.2.2.2.1 h.2.2.2.2.2.2.2.1 h.2.2.2.2.2.2.2.2.1 h.2.2.2.2.2.2.2.2.2.1 h.2.2.2.2.2.2.2.2.2.2.1 h.2.2.2.2.2.2.2.2.2.2.2.1 h.2.2.2.2.2.2.2.2.2.2.2.2.1 h.2.2.2.2.2.2.2.2.2.2.2.2.2.1 h.2.2.2.2.2.2.2.2.2.2.2.2.2.2))=H K/\∀j:D,K<j->0<=j->j<((n+1:I):D)->¬QO z.2.1 l L t j:=by
   intro hq;refine⟨by rw[j03];exact e,λj h1 h2 h3=>?_⟩;by_cases hjn:j<n
   .exact k2 j h1 h2 hjn
   .rw[show j=(n:D) by omega];exact hq
  cases hx:hO z.2.1 l L (n:D) with
  |none=>
   simp only[Option.isSome_none,j7];obtain⟨d1,d2⟩:=down λ⟨y,hy,_⟩=>by rw[hx]at hy;simp at hy
   exact⟨K,d1,k0,omg_,d2⟩
  |some x=>
   have:=hv x hx;subst this;simp only[Option.isSome_some,j6];by_cases hc:v<=t
   .rw[j00 hc,j6,j06];exact⟨_,rfl,.inr ⟨omg_,v,hx,hc⟩,omg_,λj h1 h2 h3=>omg_⟩
   .rw[j01 hc,j7];obtain⟨d1,d2⟩:=down λ⟨y,hy,hyt⟩=>by rw[hx]at hy;simp at hy;omega
    exact⟨K,d1,k0,omg_,d2⟩
theorem jCG{z:j0D}{l:TrL}(hz:Z4 z l){L:j0b}(h:Rt L){t:D}(h0t:0<=t)(htt:t<=8589934592):∃K:D,jcd z L t=H K/\ShO z.2.1 l L t K:=by
 have hs:=h.step;have hd0:=h.d0;have hd1:=h.d1;have he0:=h.e0;have he1:=h.e1;have hc0:=h.c0;have hc1:=h.c1;simp only[jcd];by_cases h0:L.2.2.2.1=0
 .have hF:=jhe hz (d:=L.2.2.1.1) (c:=L.2.2.1.2) omg_ hc0 hc1;have hs0:L.2.2.1.1*86400+L.2.2.1.2=sLoc L 0:=by unfold sLoc;omega
  rw[j43 h0,j6,show j59 (z.1,z.2.1,z.2.2) (L.2.2.1.1,L.2.2.1.2)=_ from hF,hs0];simp only[j4]
  have nq:(∀v,fO z.2.1 l (sLoc L 0)=H v->t<v)->¬QO z.2.1 l L t 0:=by
   rintro hn ⟨y,hy,hyt⟩
   have:=hn y (jw1 h0 hy);omega
  cases hf:fO z.2.1 l (sLoc L 0) with
  |none=>exact⟨-1,rfl,.inl ⟨rfl,nq λv hv=>by rw[hf]at hv;simp at hv⟩⟩
  |some v=>
   have hva:=jtJ hz.2 hf;simp only[beq_self_eq_true,j6];by_cases hc:v<=t
   .obtain⟨s1,s2,s3⟩:=jse (o:=z.2.1) (l:=l) h h0 htt hf hc hva.2.1;simp(disch:=omega)only[Ä,S0];exact⟨_,rfl,s1⟩
   .rw[j01 hc];exact⟨-1,rfl,.inl ⟨rfl,nq λv' hv=>by rw[hf]at hv;simp at hv;omega⟩⟩
 .obtain⟨j,hj,j1,j2⟩:=jaq hz.2 h0t htt;have o0:=hz.2.of0 j hj;have o1:=hz.2.of1 j hj;have eT:=jsb hz (t:=t) h0t htt hj j1 j2;rw[j1G h0,j7,show j4I (z.1,z.2.1,z.2.2) t=_ from eT];simp only[j4];have hday:∀k:D,QO z.2.1 l L t k->L.2.2.1.1+k*j2V L<=(t+tof z.2.1 l j)/86400+2:=λk hq=>QO.day hz.2 h h0 hq hj;generalize hld:(t+tof z.2.1 l j)/86400=ld at hday;rw[j05 (x:=ld+2),j05 (x:=ld+2-L.2.2.1.1)]
  have fin:∀st:D,st=j2V L->∃K:D,((j8T t (w64 (Int.tdiv (if (0:D)>ld+2-L.2.2.1.1 then (0:D) else ld+2-L.2.2.1.1) st)) z.1 z.2.1 z.2.2 L.1 L.2.1 L.2.2.1.1 L.2.2.1.2 L.2.2.2.1 L.2.2.2.2.1 L.2.2.2.2.2.1 L.2.2.2.2.2.2.1 L.2.2.2.2.2.2.2.1 L.2.2.2.2.2.2.2.2).bind λq0=>H q0)=H K/\ShO z.2.1 l L t K:=by
   rintro st rfl
   obtain⟨m,hm,hm0,hm1⟩:∃m:D,(if (0:D)>ld+2-L.2.2.1.1 then (0:D) else ld+2-L.2.2.1.1)=m/\0<=m/\m<=1000000:=⟨_,rfl,by split<;>omega,by split<;>omega⟩;have hml:ld+2-L.2.2.1.1<=m:=by rw[<-hm];split<;>omega
   rw[hm,Ä hm0];have q0:0<=m/j2V L:=Int.ediv_nonneg hm0 omg_;have q1:m/j2V L<=m:=Int.ediv_le_self _ hm0;have q2:m<j2V L*(m/j2V L)+j2V L:=Int.lt_mul_ediv_self_add omg_;rw[j05];generalize m/j2V L=km at *;obtain⟨K,e,k0,k1,k2⟩:=jzx hz h (t:=t) (Ë _) (km+1).toNat omg_;rw[show (((km+1).toNat:I):D)-1=km by omega]at e;rw[e];refine⟨K,rfl,?_⟩
   have top:¬QO z.2.1 l L t (K+1):=by
    by_cases hK:K+1<=km
    .exact k2 (K+1) omg_ (by rcases k0 with k0|k0<;>omega) omg_
    .intro hq;have hd:=hday _ hq;have hkk:K=km:=omg_;rw[hkk,Int.add_mul,Int.one_mul]at hd;have:j2V L*km=km*j2V L:=Ñ _ _;omega
   rcases k0 with k0|k0
   .subst k0;exact .inl ⟨rfl,top⟩
   .exact .inr ⟨k0.1,k0.2,top⟩
  by_cases h2:L.2.2.2.1=2
  .have hsd:j2V L=7*L.2.2.2.2.1:=by unfold j2V;rw[if_pos h2]
   simp(disch:=omega)only[S0];exact fin _ (by rw[hsd,Ñ])
  .have hsd:j2V L=L.2.2.2.2.1:=by unfold j2V;rw[if_neg h2]
   simp(disch:=omega)only[S0];exact fin _ hsd.symm
end Go.Proofs.Pw
