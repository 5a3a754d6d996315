/- limits.worked, limits.weeks: the seconds of a week that are worked. -/
import Derived.Test.YtlnljpfkgigljaaGreatPOPD
import Derived.Test.YtlnljpfkgigljaaGreatPOPH
import Derived.Test.YtlnljpfkgigljaaGreatPOPE
import Derived.Test.YtlnljpfkgigljaaGreatPOPG
import Derived.Test.YtlnljpfkgigljaaGreatPOPK
open _root_ renaming Int->d,List->H,Nat->À,Option->Ø
open Int renaming ofNat->o,le_of_lt->Ë,toNat->Í,le_refl->Î
open List renaming drop_eq_getElem_cons->G,drop_of_length_le->I,drop_zero->R,length_singleton->U,length_append->Y,getD_cons_zero->Z,getElem_mem->Â,nil_append->Ã,getD->Ä,append_assoc->Å,length_cons->Æ,mem_cons->Ç,length->É,getD_cons_succ->Ê,take_add_one->Ì,length_nil->Ï,length_map->Ð,take->Ù
open Option renaming some->J
open Bool renaming not_true->Á,not_false->È,false->Ó,true->Õ
open Go Go.Lft
namespace Go.Proofs.Pw
def wk1(t:d)(s:d×d):Int:=max 0 (min s.2 t-max s.1 (t-604800))
def wkd(t:d):SL->d
 |[]=>0
 |s::r=>wk1 t s+wkd t r
def ind(t:d)(s:d×d):Int:=if s.1<=t/\t<s.2 then 1 else 0
def chi(t:d):SL->d
 |[]=>0
 |s::r=>ind t s+chi t r
theorem jzR{t:d}{s:d×d}(h:s.1<s.2):wk1 (t+1) s=wk1 t s+ind t s-ind (t-604800) s:=by
 unfold wk1 ind;split<;>split<;>omega
theorem jBj{t:d}{s:d×d}:0<=wk1 t s:=by unfold wk1;omega
theorem jtj{t:d}:∀{l:SL},0<=wkd t l
 |[]=>by simp[wkd]
 |s::r=>by
  have:=jtj (t:=t) (l:=r);have:=jBj (t:=t) (s:=s);simp only[wkd];omega
theorem jtk{t:d}:∀{l:SL}{p:d},StS p l->wkd (t+1) l=wkd t l+chi t l-chi (t-604800) l
 |[],_,_=>by simp[wkd,chi]
 |s::r,p,h=>by
  have ih:=jtk (t:=t) (l:=r) h.2.2;have:=jzR (t:=t) h.2.1;simp only[wkd,chi];omega
theorem jy5{t:d}:∀{l:SL}{p:d},StS p l->t<=p->chi t l=0
 |[],_,_,_=>by simp[chi]
 |s::r,p,h,ht=>by
  have h1:=h.1;have h2:=h.2.1;have ih:=jy5 (t:=t) (l:=r) h.2.2 omg_;simp only[chi,ind];rw[ih,if_neg omg_];rfl
theorem jy6{t:d}:∀{l:SL}{p:d},StS p l->0<=chi t l/\chi t l<=1
 |[],_,_=>by simp[chi]
 |s::r,p,h=>by
  have ih:=jy6 (t:=t) (l:=r) h.2.2;simp only[chi,ind];split
  .rename_i hq;rw[jy5 (t:=t) (l:=r) h.2.2 omg_];omega
  .omega
theorem joI{a t:d}(hat:a<=t):∀{l:SL},(∀s∈l,¬(a<s.1/\s.1<=t)/\¬(a<s.2/\s.2<=t))->chi t l=chi a l
 |[],_=>by simp[chi]
 |s::r,h=>by
  have ih:=joI hat (l:=r) (λu hu=>h u (by simp[hu]));have:=h s smp_;simp only[chi,ind];rw[ih];congr 1;by_cases h1:s.1<=a/\a<s.2
  .rw[if_pos h1,if_pos omg_]
  .rw[if_neg h1,if_neg omg_]
theorem jtl{t:d}:∀{l:SL}{p:d},StS p l->wkd t l<=max 0 (t-max (p+1) (t-604800))
 |[],_,_=>by simp only[wkd];omega
 |s::r,p,h=>by
  have h1:=h.1;have h2:=h.2.1;have ih:=jtl (t:=t) (l:=r) h.2.2;simp only[wkd,wk1];omega
def NoB(l:SL)(a b:d):Prop:=∀s∈l,(¬(a<s.1/\s.1<b)/\¬(a<s.2/\s.2<b))/\¬(a<s.1+604800/\s.1+604800<b)/\¬(a<s.2+604800/\s.2+604800<b)
theorem jy7{l:SL}{p:d}(h:StS p l){a b:d}(hB:NoB l a b):∀j:À,a+j<=b->wkd (a+j) l=wkd a l+j*(chi a l-chi (a-604800) l)
 |0,_=>smp_
 |j+1,hj=>by
  have ih:=jy7 h hB j omg_;have e1:=joI (a:=a) (t:=a+j) omg_ (l:=l) (λs hs=>by have:=(hB s hs).1;omega);have e2:=joI (a:=a-604800) (t:=a+j-604800) omg_ (l:=l) (λs hs=>by have:=(hB s hs).2;omega);have:=jtk (t:=a+j) h;rw[show a+((j+1:À):d)=a+(j:d)+1 by omega,this,ih,e1,e2,show ((j+1:À):d)=(j:d)+1 by omega,Int.add_mul,Int.one_mul];omega
theorem jCN{l:SL}{p:d}(h:StS p l){a b:d}(hab:a<=b)(hB:NoB l a b) :
  (∀t,a<=t->t<=b->wkd t l=wkd a l+(t-a))\/(∀t,a<=t->t<=b->wkd t l=wkd a l)\/(∀t,a<=t->t<=b->wkd t l=wkd a l-(t-a)):=by
 have c1:=jy6 (t:=a) h;have c2:=jy6 (t:=a-604800) h
 have key:∀t,a<=t->t<=b->wkd t l=wkd a l+(t-a)*(chi a l-chi (a-604800) l):=λt h1 h2=>by
  have:=jy7 h hB (t-a).toNat omg_;rw[show a+((t-a).toNat:d)=t by omega,show ((t-a).toNat:d)=t-a by omega]at this;exact this
 have hd:chi a l-chi (a-604800) l=1\/chi a l-chi (a-604800) l=0\/chi a l-chi (a-604800) l = -1:=omg_;rcases hd with hd|hd|hd
 .refine .inl λt h1 h2=>?_;rw[key t h1 h2,hd,Int.mul_one]
 .refine .inr (.inl λt h1 h2=>?_);rw[key t h1 h2,hd];simp
 .refine .inr (.inr λt h1 h2=>?_);rw[key t h1 h2,hd];omega
theorem jEz{l:SL}(hl:l.length<=1000000){t:d}(ht0 : -1000000000000<=t)(ht1:t<=1000000000000)(hb:Sml l):∀(n i:À)(acc:d),i+n=l.length->0<=acc->acc+wkd t (l.drop i)<=604800->
  jbi t acc l (l.length:d) (i:d)=J (acc+wkd t (l.drop i))
 |0,i,acc,hi,_,_=>by
  rw[jcs];simp(disch:=omega)only[j3N,I,S0];simp[wkd]
 |n+1,i,acc,hi,h0,hle=>by
  have hlt:i<l.length:=omg_;have hgd:l.getD i (0,0)=l[i]:=by simp[Ä,hlt]
  rw[G hlt]at hle ⊢;have hs:=hb _ (Â hlt);have hw:=jBj (t:=t) (s:=l[i]);have hr:=jtj (t:=t) (l:=l.drop (i+1));simp only[wkd]at hle ⊢;have ih:=jEz hl ht0 ht1 hb n (i+1) (acc+wk1 t l[i]) omg_ omg_ omg_;rw[jcs];simp only[j3N];rw[j00 (show (i:d)<(l.length:d) by omega),j0L];simp only[j6,j8,hgd]
  have e:(if w64 ((if t<l[i].2 then t else l[i].2)-(if w64 (t-604800)>l[i].1 then w64 (t-604800) else l[i].1))>0 then w64 ((if t<l[i].2 then t else l[i].2)-(if w64 (t-604800)>l[i].1 then w64 (t-604800) else l[i].1)) else 0:d)=wk1 t l[i]:=by
   rw[j05 (x:=t-604800)];have e1:(if t<l[i].2 then t else l[i].2:d)=min l[i].2 t:=by split<;>omega
   have e2:(if t-604800>l[i].1 then t-604800 else l[i].1:d)=max l[i].1 (t-604800):=by split<;>omega
   rw[e1,e2,j05];unfold wk1;split<;>omega
  rw[e,j05 (x:=acc+wk1 t l[i]),j05 (x:=(i:d)+1),j03];rw[show ((i+1:À):d)=(i:d)+1 by omega]at ih;rw[ih];congr 1;omega
theorem jql{l:SL}(hl:l.length<=1000000){t:d}(ht0 : -1000000000000<=t)(ht1:t<=1000000000000)(hb:Sml l){p:d}(h:StS p l):j9x l t=J (wkd t l):=by
 have hle:=jtl (t:=t) h;have:=jEz hl ht0 ht1 hb l.length 0 0 omg_ omg_ (by simp only[R];omega);simp(disch:=omega)only[j9x,S0];rw[show ((0:À):d)=0 from rfl,R,Int.zero_add]at this;rw[this];rfl
def bor:SL->H d
 |[]=>[]
 |s::r=>s.1::s.2::(s.1+604800)::(s.2+604800)::bor r
theorem jy8:∀l:SL,(bor l).length=4*l.length
 |[]=>rfl
 |s::r=>by simp only[bor,Æ,jy8 r];omega
theorem jy9{x:d}:∀{l:SL},x∈bor l↔∃s∈l,x=s.1\/x=s.2\/x=s.1+604800\/x=s.2+604800
 |[]=>by simp[bor]
 |s::r=>by
  simp only[bor,Ç,jy9 (l:=r),exists_eq_or_imp];constructor
  .rintro (h|h|h|h|h)
   .exact .inl (.inl h)
   .exact .inl (.inr (.inl h))
   .exact .inl (.inr (.inr (.inl h)))
   .exact .inl (.inr (.inr (.inr h)))
   .exact .inr h
  .rintro ((h|h|h|h)|h)
   .exact .inl h
   .exact .inr (.inl h)
   .exact .inr (.inr (.inl h))
   .exact .inr (.inr (.inr (.inl h)))
   .exact .inr (.inr (.inr (.inr h)))
theorem jEA{s0:SL}{m f t:d}{l:SL}(hl:l.length<=1000000)(hb:Sml l):∀(n i:À)(acc:H d),i+n=l.length->acc.length<=4*i->
  j9y s0 m f t l (l.length:d) (i:d) acc=J (s0,m,f,t,acc++bor (l.drop i))
 |0,i,acc,hi,_=>by
  rw[jdi];simp(disch:=omega)only[j4j,I,S0];simp[bor]
 |n+1,i,acc,hi,ha=>by
  have hlt:i<l.length:=omg_;have hgd:l.getD i (0,0)=l[i]:=by simp[Ä,hlt]
  have hs:=hb _ (Â hlt);have ih:=jEA (s0:=s0) (m:=m) (f:=f) (t:=t) hl hb n (i+1) (acc++[l[i].1,l[i].2,l[i].1+604800,l[i].2+604800]) omg_ sqo_;rw[jdi];simp(disch:=omega)only[G hlt,j4j,bor,S0];rw[show ((i+1:À):d)=(i:d)+1 by omega]at ih;rw[ih];simp
structure WkO(l:SL)(m a b:d)(n:À)(O:H d):Prop where
 ok:∀e∈O,a<e/\e<=b/\wkd e l=m+1/\wkd (e-1) l=m
 pw:O.Pairwise (· < ·)
 all:O≠[]\/m<wkd a l\/∀t,a<=t->t<=b->wkd t l<=m
 len:2*O.length<=n+(if wkd a l<=m then 1 else 0)
theorem jzS{l:SL}(hl:l.length<=1000000)(hb:∀s∈l,0<=s.1/\s.2<=8589934592){p:d}(hS:StS p l){m b:d}(hm0:0<=m)(hm:m<=604800)(hb1:b<=8589934592){N:H d}(hN:N.length<=1000000)(hlast:∀(h:N≠[]),N.getLast h=b) :
  ∀(n j:À)(a:d)(out:H d),j+n=N.length->out.length<=j->0<=a->(n=0->a=b)->(∀x∈N.drop j,a<x/\x<=b)->(N.drop j).Pairwise (· < ·)->(∀x∈bor l,a<x->x<b->x∈N.drop j)->
  ∃O,j9z l m a (N.length:d) (j:d) out N=J (out++O)/\WkO l m a b n O
 |0,j,a,out,hj,_,_,hab,_,_,_=>by
  refine⟨[],?_,⟨smp_,smp_,?_,smp_⟩⟩
  .rw[jdj];simp only[j4k];rw[j01 omg_,j7,j06,List.append_nil]
  .have:=hab rfl;by_cases h:m<wkd a l
   .exact .inr (.inl h)
   .exact .inr (.inr λt h1 h2=>by rw[show t=a by omega];omega)
 |n+1,j,a,out,hj,hol,ha0,_,hx,hpw,hbor=>by
  have hjl:j<N.length:=omg_;have hgd:N.getD j (0:d)=N[j]:=by simp[Ä,hjl]
  rw[G hjl]at hx hpw hbor;have hx0:=hx N[j] List.mem_cons_self
  have hsml:Sml l:=λs hs=>by
   have h1:=hb s hs;have h2:=(hS.mem s hs).2;omega
  have hNB:NoB l a N[j]:=by
   have key:∀x∈bor l,¬(a<x/\x<N[j]):=λx hxb h=>by
    have hm:=hbor x hxb h.1 omg_;rcases List.mem_cons.1 hm with e|hm
    .omega
    .have:=(List.pairwise_cons.1 hpw).1 x hm;omega
   intro s hs;have k:=λx h=>key x (jy9.2 ⟨s,hs,h⟩);exact⟨⟨k _ (.inl rfl),k _ (.inr (.inl rfl))⟩,k _ (.inr (.inr (.inl rfl))),k _ (.inr (.inr (.inr rfl)))⟩
  have hseg:=jCN hS (Ë hx0.1) hNB;have wa:=jql hl (t:=a) omg_ omg_ hsml hS;have wb:=jql hl (t:=N[j]) omg_ omg_ hsml hS;have la:=jtl (t:=a) hS;have na:=jtj (t:=a) (l:=l);have lb:=jtl (t:=N[j]) hS;have nb:=jtj (t:=N[j]) (l:=l)
  have hn0:n=0->N[j]=b:=λh=>by
   have hne:N≠[]:=λe=>by rw[e]at hjl;simp at hjl
   rw[<-hlast hne,List.getLast_eq_getElem];congr 1;omega
  have hpw':=(List.pairwise_cons.1 hpw).2;have hx':∀x∈N.drop (j+1),N[j]<x/\x<=b:=λx h=>⟨(List.pairwise_cons.1 hpw).1 x h,(hx x (List.mem_cons_of_mem _ h)).2⟩
  have hbor':∀x∈bor l,N[j]<x->x<b->x∈N.drop (j+1):=λx h h1 h2=>by
   rcases List.mem_cons.1 (hbor x h omg_ h2) with e|e
   .omega
   .exact e
  rw[jdj];simp only[j4k];rw[j00 (show (j:d)<(N.length:d) by omega),j0L];simp only[j6,j8,hgd,wa,wb,j4];rw[j05 (x:=(j:d)+1)];by_cases hA:wkd a l<=m
  .rw[j00 hA,j6];by_cases hB:wkd N[j] l>m
   .obtain⟨O,e,hO⟩:=jzS hl hb hS hm0 hm hb1 hN hlast n (j+1) N[j] (out++[a+m-wkd a l+1]) omg_ sqo_ omg_ hn0 hx' hpw' hbor';rw[j00 hB,j6,j05 (x:=a+m),j05 (x:=a+m-wkd a l),j05 (x:=a+m-wkd a l+1),j00 (by simp[j02];omega),j6,j03];rw[show ((j+1:À):d)=(j:d)+1 by omega]at e
    have hup:∀t,a<=t->t<=N[j]->wkd t l=wkd a l+(t-a):=by
     have e0:N[j]<=N[j]:=Î _;rcases hseg with h|h|h
     .exact h
     .have:=h N[j] omg_ e0;omega
     .have:=h N[j] omg_ e0;omega
    have hbN:=hup N[j] omg_ (Î _);refine⟨(a+m-wkd a l+1)::O,by rw[e];simp,?_,?_,.inl smp_,?_⟩
    .intro x hxm;rcases List.mem_cons.1 hxm with rfl|hxm
     .refine⟨omg_,omg_,?_,?_⟩
      .rw[hup _ omg_ omg_];omega
      .rw[hup _ omg_ omg_];omega
     .have:=hO.ok x hxm;exact⟨omg_,this.2⟩
    .refine List.pairwise_cons.2 ⟨λx hxm=>?_,hO.pw⟩;have:=(hO.ok x hxm).1;omega
    .have:=hO.len;rw[if_neg omg_]at this;rw[if_pos hA,Æ];omega
   .obtain⟨O,e,hO⟩:=jzS hl hb hS hm0 hm hb1 hN hlast n (j+1) N[j] out omg_ omg_ omg_ hn0 hx' hpw' hbor';rw[j01 hB,j7,j03];rw[show ((j+1:À):d)=(j:d)+1 by omega]at e;refine⟨O,e,λx hxm=>?_,hO.pw,?_,?_⟩
    .have:=hO.ok x hxm;exact⟨omg_,this.2⟩
    .rcases hO.all with h|h|h
     .exact .inl h
     .omega
     .refine .inr (.inr λt h1 h2=>?_);by_cases ht:t<=N[j]
      .have g:=hseg;have e0:N[j]<=N[j]:=Î _;rcases g with g|g|g
       .have g1:=g t h1 ht;have g2:=g N[j] omg_ e0;omega
       .have g1:=g t h1 ht;omega
       .have g1:=g t h1 ht;omega
      .exact h t omg_ h2
    .have:=hO.len;rw[if_pos hA];split at this<;>omega
  .obtain⟨O,e,hO⟩:=jzS hl hb hS hm0 hm hb1 hN hlast n (j+1) N[j] out omg_ omg_ omg_ hn0 hx' hpw' hbor';rw[j01 hA,j7,j7,j03];rw[show ((j+1:À):d)=(j:d)+1 by omega]at e;refine⟨O,e,λx hxm=>?_,hO.pw,.inr (.inl omg_),?_⟩
   .have:=hO.ok x hxm;exact⟨omg_,this.2⟩
   .have:=hO.len;rw[if_neg hA];split at this<;>omega
theorem jzT{l:SL}(hl:l.length<=100000)(hb:∀s∈l,0<=s.1/\s.2<=8589934592){p:d}(hS:StS p l){m a b:d}(hm0:0<=m)(hm:m<=604800)(ha:0<=a)(hab:a<b)(hb1:b<=8589934592) :
  ∃O,jdk l m a b=J O/\WkO l m a b (4*l.length+1) O:=by
 have hsml:Sml l:=λs hs=>by
  have h1:=hb s hs;have h2:=(hS.mem s hs).2;omega
 have e1:=jEA (s0:=l) (m:=m) (f:=a) (t:=b) omg_ hsml l.length 0 [] omg_ smp_;rw[R,Ã]at e1;have hbl:=jy8 l;obtain⟨C,e2,hC,lC,mC⟩:=jxw (l:=bor l) omg_ (f:=a) (t:=b)
 have hpw:(C++[b]).Pairwise (· < ·):=List.pairwise_append.2 ⟨hC,smp_,λx hx y hy=>by
  rw[List.mem_singleton.1 hy];exact((mC x).1 hx).2.2⟩
 obtain⟨O,e3,hO⟩:=jzS omg_ hb hS hm0 hm hb1 (N:=C++[b]) sqo_ (λh=>smp_) (C++[b]).length 0 a [] omg_ smp_ ha (λh=>by simp at h) (λx hx=>by
  rw[R]at hx;rcases List.mem_append.1 hx with hx|hx
  .have:=(mC x).1 hx;omega
  .rw[List.mem_singleton.1 hx];omega) (by rw[R];exact hpw) (λx hx h1 h2=>by
  rw[R];exact List.mem_append.2 (.inl ((mC x).2 ⟨hx,h1,h2⟩)))
 refine⟨O,?_,hO.ok,hO.pw,hO.all,?_⟩
 .simp only[jdk,show o (É l)=(l.length:d) from rfl];rw[show j9y l m a b l (l.length:d) 0 []=_ from e1];simp only[j4];rw[e2];simp only[j4,show o (É (C++[b]))=((C++[b]).length:d) from rfl];rw[show j9z l m a ((C++[b]).length:d) 0 [] (C++[b])=_ from e3];rfl
 .have:=hO.len;simp only[Y,Æ,Ï]at this;split at this<;>split<;>omega
def rst(jl3:d):d->SL->H d
 |_,[]=>[]
 |p,s::r=>if s.1-p<jl3 then s.1::rst jl3 s.2 r else rst jl3 s.2 r
theorem jya(jl3:d):∀(l:SL)(p:d),(rst jl3 p l).length<=l.length
 |[],_=>by simp[rst]
 |s::r,p=>by
  have:=jya jl3 r s.2;simp only[rst];split<;>simp only[Æ]<;>omega
theorem jCO{l:SL}(hl:l.length<=1000000)(hb:Sml l){k:d}:∀(n i:À)(acc:H d),i+1+n=l.length->acc.length<=i->∀(h:i<l.length),
  jct l k ((i:d)+1) acc=J (acc++rst k l[i].2 (l.drop (i+1)))
 |0,i,acc,hi,_,h=>by
  rw[j9A];simp(disch:=omega)only[j34,I,S0];simp[rst]
 |n+1,i,acc,hi,ha,h=>by
  have hlt:i+1<l.length:=omg_;have hg0:l.getD i (0,0)=l[i]:=by simp[Ä,h]
  have hg1:l.getD (i+1) (0,0)=l[i+1]:=by simp[Ä,hlt]
  have b0:=hb _ (Â h);have b1:=hb _ (Â hlt);rw[j9A,G hlt];simp only[j34,rst,show o (É l)=(l.length:d) from rfl];rw[j00 (show (i:d)+1<(l.length:d) by omega),j0N (show (0:d)<=(i:d)+1 by omega) omg_,j05 (x:=(i:d)+1-1),show (i:d)+1-1=(i:d) by omega,j0N (show (0:d)<=(i:d) by omega) omg_];simp only[j6,j8,show ((i:d)+1).toNat=i+1 by omega,hg0,hg1];rw[j05 (x:=l[i+1].1-l[i].2),j05 (x:=(i:d)+1+1)];by_cases hq:l[i+1].1-l[i].2<k
  .have ih:=jCO hl hb (k:=k) n (i+1) (acc++[l[i+1].1]) omg_ sqo_ hlt;rw[show ((i+1:À):d)+1=(i:d)+1+1 by omega]at ih;simp(disch:=omega)only[if_pos hq,ih,S0];simp
  .have ih:=jCO hl hb (k:=k) n (i+1) acc omg_ omg_ hlt;rw[show ((i+1:À):d)+1=(i:d)+1+1 by omega]at ih;rw[j01 hq,if_neg hq,j7,j03,ih]
def rsts(k:d):SL->H d
 |[]=>[]
 |s::r=>rst k s.2 r
theorem jzU{l:SL}(hl:l.length<=1000000)(hb:Sml l)(k:d):jdl l k=J (rsts k l):=by
 simp only[jdl];cases l with
 |nil=>rw[j9A];simp(disch:=omega)only[j34,S0];rfl
 |cons s r=>have:=jCO hl hb (k:=k) r.length 0 [] sqo_ smp_ smp_;rw[show ((0:À):d)+1=1 by omega]at this;rw[this];rfl
theorem jEB{l:SL}(hl:l.length<=1000000):∀(n i:À)(acc:H d),i+n=l.length->acc.length<=i->
  j8C l (l.length:d) (i:d) acc=J (acc++(l.drop i).map (·.1))
 |0,i,acc,hi,_=>by
  rw[jcu];simp(disch:=omega)only[j3O,I,S0];simp
 |n+1,i,acc,hi,ha=>by
  have hlt:i<l.length:=omg_;have hgd:l.getD i (0,0)=l[i]:=by simp[Ä,hlt]
  have ih:=jEB hl n (i+1) (acc++[l[i].1]) omg_ sqo_;rw[jcu];simp(disch:=omega)only[G hlt,j3O,S0];rw[show ((i+1:À):d)=(i:d)+1 by omega]at ih;rw[ih];simp only[List.map_cons,Å,List.singleton_append]
theorem jyb{l:SL}(hl:l.length<=1000000):jbK l=J (l.map (·.1)):=by
 have:=jEB hl l.length 0 [] omg_ smp_;rw[R,Ã]at this;simp(disch:=omega)only[jbK,S0];rw[show j8C l (l.length:d) 0 []=_ from this];rfl
theorem jyc{f:d->d}{a b:d}{S:SgL}(hS:Cov f b none a S)(ha:0<=a)(hb:b<=8589934592)(hl:S.length<=1000000)(v:d) :
  ∃out,j3x S v=J out/\StS (a-1) out/\(∀x,inS x out↔a<=x/\x<b/\f x=v)/\2*out.length<=S.length+1/\∀u∈out,a<=u.1/\u.2<=b:=by
 have hsl:2*(spP v S).length<=S.length+1:=by have:=(jt2 (v:=v) hS).1;unfold spP;rw[Ð];exact this
 have tl:=jzA (v:=v) (S:=S) omg_ S.length 0 [] omg_ smp_;rw[Ã,R]at tl
 have hbd:∀u∈spP v S,a<=u.1/\u.2<=b/\u.1<u.2:=λu hu=>by
  obtain⟨s,hm,rfl⟩:=List.mem_map.1 hu;have hm:=(List.mem_filter.1 hm).1;have hc:=hS.ch.mem _ hm;exact⟨hc.1,hc.2.2.1,hS.pos _ hm⟩
 obtain⟨out,e3,h1,h2,h3,h4⟩:=jf2 (l:=spP v S) omg_ (λu hu=>by have:=hbd u hu;omega) (lo:=a) (hi:=b) (λu hu _=>⟨(hbd u hu).1,(hbd u hu).2.1⟩);refine⟨out,?_,h1,λx=>(h2 x).trans (jAT hS),omg_,h4⟩;simp only[j3x,show o S.length=(S.length:d) from rfl];rw[show j5P v S (S.length:d) 0 []=_ from tl];simp only[j4,e3]
section
variable{zs:H j0z}{ps:H j0d}{cs:H CalT}(hs:SOk2 zs ps cs)
include hs
theorem jtm{s:j0u}(hk:SCk zs.length ps.length cs.length s)(hll:s.2.1.length<=3)(hel:s.2.2.length<=6){ss:H j0u}{a b:d}(ha:0<=a)(hab:a<b)(hb:b<=8589934592)(hlen:b-a<=2592000) :
  ∃out,j2f ((zs,ps,cs,ss),zs.map tb) s a b=J out/\Cov (whoS zs cs s) b none a out/\out.length<=2499:=by
 obtain⟨S,e,h,_⟩:=jxx hs hk hll hel (ss:=ss) ha hab hb omg_;obtain⟨E,e1,e2⟩:=jxA hs hk ha (Ë hab) hb (M:=5) (K:=371) omg_ omg_ rfl;have:=jrD h e2;exact⟨S,e,h,omg_⟩
theorem jEC{ss:H j0u}(hsc:∀s∈ss,SCk zs.length ps.length cs.length s/\s.2.1.length<=3/\s.2.2.length<=6)(hl:ss.length<=100){rr:H j0u}{p a b:d}(ha:0<=a)(hab:a<b)(hb:b<=8589934592)(hlen:b-a<=2592000):∀(n i:À)(acc:SL),i+n=ss.length->acc.length<=1250*i->
  ∃L,j8B p a b ss (ss.length:d) (i:d) zs ps cs rr (zs.map tb) acc=J (.inr (acc++L))/\L.length<=1250*n/\(∀u∈L,a<=u.1/\u.2<=b/\u.1<u.2)/\∀x,inS x L↔∃s∈ss.drop i,a<=x/\x<b/\whoS zs cs s x=p
 |0,i,acc,hi,hai=>by
  rw[jcq];simp only[j3M];rw[j01 omg_,j7,j06,I omg_];exact⟨[],smp_,smp_,smp_,λx=>by simp[inS]⟩
 |n+1,i,acc,hi,hai=>by
  have hi':i<ss.length:=omg_;have hgd:ss.getD i (ByteArray.empty,[],[])=ss[i]:=by simp[Ä,hi']
  obtain⟨k1,k2,k3⟩:=hsc _ (Â hi');obtain⟨S,e,hS,lS⟩:=jtm hs k1 k2 k3 (ss:=rr) ha hab hb hlen;obtain⟨T,e2,t1,t2,t3,t4⟩:=jyc hS ha hb omg_ p;obtain⟨L,e3,l1,l2,l3⟩:=jEC hsc hl (rr:=rr) (p:=p) ha hab hb hlen n (i+1) (acc++T) omg_ (by rw[Y];omega);rw[jcq,G hi'];simp only[j3M];rw[j00 (show (i:d)<(ss.length:d) by omega),j0N (show (0:d)<=(i:d) by omega) omg_];simp only[j6,j8,hgd];rw[show j2f ((zs,ps,cs,rr),zs.map tb) (ss[i].1,ss[i].2.1,ss[i].2.2) a b=_ from e];simp only[j4,show o S.length=(S.length:d) from rfl];rw[j01 (show¬(S.length:d)>16384 by omega),j7,e2];simp only[j4];rw[j00 (show acc.length+T.length<=j02 by simp[j02];omega),j6,j05 (x:=(i:d)+1),j03];rw[show ((i+1:À):d)=(i:d)+1 by omega]at e3;refine⟨T++L,by rw[e3,Å],by rw[Y];omega,λu hu=>?_,λx=>?_⟩
  .rcases List.mem_append.1 hu with hu|hu
   .exact⟨(t4 u hu).1,(t4 u hu).2,(t1.mem u hu).2⟩
   .exact l2 u hu
  .rw[jgk,t2 x,l3 x];simp only[Ç,exists_eq_or_imp]
def onD(zs:H j0z)(cs:H CalT)(ss:H j0u)(p x:d):Prop:=∃s∈ss,whoS zs cs s x=p
theorem juK{ss:H j0u}(hsc:∀s∈ss,SCk zs.length ps.length cs.length s/\s.2.1.length<=3/\s.2.2.length<=6)(hl:ss.length<=3){rr:H j0u}{p a b:d}(ha:0<=a)(hab:a<b)(hb:b<=8589934592)(hlen:b-a<=2592000)(hrr:rr=ss) :
  ∃D,j9s ((zs,ps,cs,rr),zs.map tb) p a b=J (D,0)/\StS (a-1) D/\(∀x,inS x D↔a<=x/\x<b/\onD zs cs ss p x)/\D.length<=1250*ss.length/\∀u∈D,a<=u.1/\u.2<=b:=by
 subst hrr;obtain⟨L,e,l1,l2,l3⟩:=jEC hs hsc omg_ (rr:=rr) (p:=p) ha hab hb hlen rr.length 0 [] omg_ smp_;rw[Ã]at e;obtain⟨D,e3,h1,h2,h3,h4⟩:=jf2 (l:=L) omg_ (λu hu=>by have:=l2 u hu;omega) (lo:=a) (hi:=b) (λu hu _=>⟨(l2 u hu).1,(l2 u hu).2.1⟩);refine⟨D,?_,h1,λx=>?_,omg_,h4⟩
 .simp only[j9s,show o rr.length=(rr.length:d) from rfl];rw[show j8B p a b rr (rr.length:d) 0 zs ps cs rr (zs.map tb) []=_ from e];simp only[j4,j50,e3,show o D.length=(D.length:d) from rfl];rw[j01 (show¬(D.length:d)>4096 by omega),j7]
 .rw[h2 x,l3 x,R];constructor
  .rintro⟨s,g1,g2,g3,g4⟩;exact⟨g2,g3,s,g1,g4⟩
  .rintro⟨g2,g3,s,g1,g4⟩;exact⟨s,g1,g2,g3,g4⟩
theorem jyd{ss:H j0u}(hc:j8W (zs,ps,cs,ss)){p:À}(hp:p<ps.length){a b:d}(ha:0<=a)(hab:a<=b)(hb:b<=8589934592)(hlen:b-a<=34560000) :
  jcp (zs,ps,cs,ss) (p:d) a b=J (((zs,ps,cs,ss),zs.map tb),0):=by
 simp only[jcp,jwY hs.so.ok hc,j4,Á,j7,show o ps.length=(ps.length:d) from rfl,jap];rw[j01 (show¬(p:d)<0 by omega),j01 (show¬(p:d)>=(ps.length:d) by omega),j05 (x:=b-a),j00 (show a>=0 by omega),j00 (show a<=8589934592 by omega),j00 (show b>=a by omega),j00 (show b<=8589934592 by omega),j00 (show b-a<=34560000 by omega)];rfl
end
theorem eqV(x y:SgT):(x.1==y.1&&(x.2.1==y.2.1&&x.2.2==y.2.2))=decide (x=y):=by
 grind
def ltV(x y:SgT):Prop:=x.2.2<y.2.2\/x.2.2=y.2.2/\(x.1<y.1\/x.1=y.1/\x.2.1<y.2.1)
instance(x y:SgT):Decidable (ltV x y):=by unfold ltV;infer_instance
def leV(x y:SgT):Prop:=x.2.2<y.2.2\/x.2.2=y.2.2/\(x.1<y.1\/x.1=y.1/\x.2.1<=y.2.1)
theorem jED{x y:SgT}(h:leV x y)(hn:y≠x):ltV x y:=by
 grind[leV,ltV]
def ddV:SgT->SgL->SgL
 |_,[]=>[]
 |p,x::r=>if x=p then ddV p r else x::ddV x r
theorem jrW:∀(l:SgL)(p:SgT),∀x,x∈p::ddV p l↔x∈p::l
 |[],_,_=>Iff.rfl
 |y::r,p,x=>by
  unfold ddV;split
  .rename_i h;subst h;rw[jrW r y x];simp
  .have:=jrW r y x;rw[Ç,this,Ç,Ç,Ç]
theorem jrX:∀(l:SgL)(p:SgT),(p::l).Pairwise leV->(p::ddV p l).Pairwise ltV
 |[],_,_=>by simp[ddV]
 |y::r,p,h=>by
  have h1:=List.pairwise_cons.1 h;unfold ddV;split
  .rename_i h;subst h;exact jrX r y h1.2
  .rename_i hne;have ih:=jrX r y h1.2;refine List.pairwise_cons.2 ⟨λz hz=>?_,ih⟩;have hy:=jED (h1.1 y smp_) hne;rcases List.mem_cons.1 hz with rfl|hz
   .exact hy
   .have:=(List.pairwise_cons.1 ih).1 z hz;unfold ltV at this hy ⊢;omega
theorem jye{l:SgL}(hl:l.length<=1000000){k0:À}:∀(n s k:À)(b:SgL),k0+s+n=l.length->1<=s->k<=k0+s-1->b.length=l.length->b.drop k=l.drop k->
  ∃(m:À)(b':SgL),j0M (k:d) (k0:d) (s:d) b=J ((m:d),b')/\b'.length=l.length/\m<=l.length/\b'.take m=b.take k++ddV (l.getD (k0+s-1) (0,0,0)) (l.drop (k0+s))
 |0,s,k,b,hn,hs,hk,hb,hd=>by
  rw[j2c];simp only[j0k,j8,show o (b.length-k0)=((b.length-k0:À):d) from rfl];rw[j01 omg_,j7,j06,I omg_];exact⟨k,b,rfl,hb,omg_,by simp[ddV]⟩
 |n+1,s,k,b,hn,hs,hk,hb,hd=>by
  have hlt:k0+s<l.length:=omg_
  have bget:∀j,k<=j->b[j]? = l[j]? := λj hj=>by
   have h:=congrArg (λx=>x[j-k]?) hd;grind
  have g1:b.getD (k0+s) (0,0,0)=l[k0+s]:=by grind
  have g2:b.getD (k0+(s-1)) (0,0,0)=l.getD (k0+s-1) (0,0,0):=by grind
  have e1:l.getD (k0+(s+1)-1) (0,0,0)=l[k0+s]:=by
   simp_all
  rw[j2c];simp only[j0k,j8,show o (b.length-k0)=((b.length-k0:À):d) from rfl,show o k0=(k0:d) from rfl];rw[j00 (show (s:d)<((b.length-k0:À):d) by omega),j0N (show (0:d)<=(s:d) by omega) omg_,j05 (x:=(s:d)-1),j0N (show (0:d)<=(s:d)-1 by omega) omg_,j0N (show (0:d)<=(k:d) by omega) omg_,j05 (x:=(k:d)+1),j05 (x:=(s:d)+1),show ((s:d)-1).toNat=s-1 by omega,G hlt];simp only[j6,g1,g2,ddV,eqV];by_cases hc:l[k0+s]=l.getD (k0+s-1) (0,0,0)
  .rw[j00 hc,if_pos hc,Á,j7,j03];have ih:=jye hl (k0:=k0) n (s+1) k b omg_ omg_ omg_ hb hd;rw[e1,hc,show k0+(s+1)=k0+s+1 by omega]at ih;exact ih
  .rw[j01 hc,if_neg hc,È,j6,j03]
   have ih:=jye hl (k0:=k0) n (s+1) (k+1) (b.set k l[k0+s]) omg_ omg_ omg_ (by simpa using hb) (by
    rw[List.drop_set_of_lt omg_];have:=congrArg (List.drop 1) hd;grind[List.drop_drop])
   rw[e1,show k0+(s+1)=k0+s+1 by omega]at ih;obtain⟨m,b',r1,r2,r3,r4⟩:=ih;refine⟨m,b',r1,r2,r3,?_⟩;grind[Ì,List.take_set_of_le]
def cpV:SgL->SgL
 |[]=>[]
 |a::r=>a::ddV a r
theorem jBk{l:SgL}(hl:l.length<=1000000):∀(n k:À),k+n=l.length->1<=k->cpV l=l.take k++ddV (l.getD (k-1) (0,0,0)) (l.drop k)->
  (∃(m:À)(b:SgL),j0b (k:d) l=J (.inl ((m:d),b))/\b.take m=cpV l)\/(j0b (k:d) l=J (.inr l)/\cpV l=l)
 |0,k,hn,hk,hT=>by
  grind[j2d,j0l,j06,ddV]
 |n+1,k,hn,hk,hT=>by
  have hlt:k<l.length:=omg_;have g1:l.getD k (0,0,0)=l[k]:=by simp[hlt]
  rw[G hlt]at hT;simp only[ddV]at hT;rw[j2d];simp only[j0l,show o l.length=(l.length:d) from rfl];rw[j00 (show (k:d)<(l.length:d) by omega),j0N (show (0:d)<=(k:d) by omega) omg_,j05 (x:=(k:d)-1),j0N (show (0:d)<=(k:d)-1 by omega) omg_,j05 (x:=(k:d)+1),show ((k:d)-1).toNat=k-1 by omega,j00 (show (0:d)<=(k:d) by omega),j00 (show (k:d)<=(l.length:d) by omega)];simp only[j6,j8,g1,Bool.and_self,show o k=(k:d) from rfl,eqV];by_cases hc:l[k]=l.getD (k-1) (0,0,0)
  .rw[if_pos hc]at hT;obtain⟨m,b,r1,r2,r3,r4⟩:=jye hl (k0:=k) n 1 k l omg_ omg_ omg_ rfl rfl;rw[show k+1-1=k by omega,g1,hc,<-hT]at r4;rw[j00 hc,j6,show j0M (k:d) (k:d) 1 l=_ from r1];simp(disch:=omega)only[Bool.true_and,S0];grind[j06]
  .rw[if_neg hc]at hT;rw[j01 hc,j7,j03];refine jBk hl n (k+1) omg_ omg_ ?_;grind[Ì]
theorem jrY{l:SgL}(hl:l.length<=1000000):∃n m,j0E l=J (n,m)/\m.take n.toNat=cpV l:=by
 simp(disch:=omega)only[j0E,S0];by_cases h2:l.length<2
 .rw[j00 omg_,j6];refine⟨_,_,rfl,?_⟩;rw[j8,List.take_of_length_le (Nat.le_refl _)];match l,h2 with
  |[],_=>rfl
  |[a],_=>rfl
  |_::_::_,h2=>simp at h2;omega
 .rw[j01 omg_,j7]
  have hT:cpV l=l.take 1++ddV (l.getD (1-1) (0,0,0)) (l.drop 1):=by
   match l,h2 with
   |[],h2=>simp at h2
   |a::r,_=>rfl
  rcases jBk hl (l.length-1) 1 omg_ omg_ hT with⟨m,b,e,h⟩|⟨e,h⟩
  .rw[show j0b 1 l=_ from e];refine⟨_,_,rfl,?_⟩;simpa using h
  .rw[show j0b 1 l=_ from e];refine⟨_,_,rfl,?_⟩;rw[h];simp
theorem jCP{l:SgL}(x:SgT):x∈cpV l↔x∈l:=by
 cases l with
 |nil=>exact Iff.rfl
 |cons a r=>exact jrW r a x
theorem jCQ{l:SgL}(h:l.Pairwise leV):(cpV l).Pairwise ltV:=by
 cases l with
 |nil=>exact .nil
 |cons a r=>exact jrX r a h
theorem jrZ:∀(l:SgL)(p:SgT),(ddV p l).length<=l.length
 |[],_=>Nat.le_refl _
 |y::r,p=>by
  unfold ddV;split
  .have:=jrZ r p;simp;omega
  .have:=jrZ r y;simp;omega
theorem jCR(l:SgL):(cpV l).length<=l.length:=by
 cases l<;>grind[jrZ,cpV]
theorem jEE(x y:SgT):(j4x x y).getD 0=cond (x.2.2 != y.2.2) (w64 (x.2.2-y.2.2)) (cond (x.1 != y.1) (w64 (x.1-y.1)) (w64 (x.2.1-y.2.1))):=by
 grind[j4x]
def SmV(x:SgT):Prop:=(-1000000000000<=x.1/\x.1<=1000000000000)/\(-1000000000000<=x.2.1/\x.2.1<=1000000000000)/\(-1000000000000<=x.2.2/\x.2.2<=1000000000000)
theorem jBl{x y:SgT}(hx:(-1152921504606846976<=x.1/\x.1<=1152921504606846976)/\(-1152921504606846976<=x.2.1/\x.2.1<=1152921504606846976)/\(-1152921504606846976<=x.2.2/\x.2.2<=1152921504606846976))
  (hy:(-1152921504606846976<=y.1/\y.1<=1152921504606846976)/\(-1152921504606846976<=y.2.1/\y.2.1<=1152921504606846976)/\(-1152921504606846976<=y.2.2/\y.2.2<=1152921504606846976)):(j4x x y).getD 0<0↔ltV x y:=by
 grind[jEE,ltV,j4S]
theorem jzV:Go.Sort.SWO (Go.Proofs.ltOf λ(x y:Go.Lft.Sml (.pair (.int .i64) (.pair (.int .i64) (.int .i64))))=>(j4x x.1 y.1).getD 0):=by
 have key:∀x:Go.Lft.Sml (.pair (.int .i64) (.pair (.int .i64) (.int .i64))),(-1152921504606846976<=(x.1.1:d)/\(x.1.1:d)<=1152921504606846976)/\(-1152921504606846976<=(x.1.2.1:d)/\(x.1.2.1:d)<=1152921504606846976)/\(-1152921504606846976<=(x.1.2.2:d)/\(x.1.2.2:d)<=1152921504606846976):=λx=>by
  grind[j3y]
 have e:∀x y:Go.Lft.Sml (.pair (.int .i64) (.pair (.int .i64) (.int .i64))),Go.Proofs.ltOf (λ(x y:Go.Lft.Sml (.pair (.int .i64) (.pair (.int .i64) (.int .i64))))=>(j4x x.1 y.1).getD 0) x y=decide (ltV x.1 y.1):=λx y=>by
  grind[ltOf,jBl]
 refine⟨λx=>?_,λx y z=>?_,λx y z=>?_⟩;all_goals grind[ltV]
theorem jzW{l:SgL}(hl:l.length<=1000000000)(hb:∀x∈l,SmV x):∃L,j0m l=J L/\L.Perm l/\L.Pairwise leV:=by
 obtain⟨L,e,hp,hs⟩:=jkp (a:= .pair (.int .i64) (.pair (.int .i64) (.int .i64))) (cf:=λx y=>(j4x x y).getD 0) jzV (xs:=l) (λx hx=>by
  grind[SmV,j3y]) omg_
 refine⟨L,e,hp,hs.imp_of_mem λ{x y} hx hy h=>?_⟩;have h1:=hb x (hp.mem_iff.1 hx);have h2:=hb y (hp.mem_iff.1 hy);unfold SmV at h1 h2;have:¬ltV y x:=λq=>h ((jBl (x:=y) (y:=x) omg_ omg_).2 q);grind[ltV,leV]
end Go.Proofs.Pw
open Go Go.Lft
set_option maxHeartbeats 1000000
namespace Go.Proofs.Pw
abbrev ClT:=d×d×d×d×d
abbrev ClL:=H ClT
def clP(p:d)(cl:ClL):H Int:=(cl.filter λz=>z.1==p).map (·.2.2.2.1)
theorem jzX(p:d)(z:ClT)(r:ClL):clP p (z::r)=cond (z.1==p) (z.2.2.2.1::clP p r) (clP p r):=by
 unfold clP;cases h:(z.1==p)<;>simp[h]
theorem jCS{p:d}{A B C:H d}{cl:ClL}(hl:cl.length<=1000000):∀(n j:À)(acc:H d),j+n=cl.length->acc.length<=j->
  j4l p (cl.length:d) (j:d) cl A B C acc=J (p,A,B,C,acc++clP p (cl.drop j))
 |0,j,acc,hj,_=>by
  rw[j9B];simp only[j2g];rw[j01 omg_,j7,j06,I omg_];simp[clP]
 |n+1,j,acc,hj,ha=>by
  have hj':j<cl.length:=omg_;have hgd:cl.getD j (0,0,0,0,0)=cl[j]:=by simp[Ä,hj']
  rw[j9B,G hj',jzX];simp only[j2g];rw[j00 (show (j:d)<(cl.length:d) by omega),j0L];simp only[j6,j8,hgd];rw[j05 (x:=(j:d)+1)];cases hq:(cl[j].1==p) with
  |true=>have ih:=jCS (p:=p) (A:=A) (B:=B) (C:=C) hl n (j+1) (acc++[cl[j].2.2.2.1]) omg_ sqo_;rw[show ((j+1:À):d)=(j:d)+1 by omega]at ih;rw[j6,j6,j00 (by simp[j02];omega),j6,j03,ih,Å];rfl
  |false=>have ih:=jCS (p:=p) (A:=A) (B:=B) (C:=C) hl n (j+1) acc omg_ omg_;rw[show ((j+1:À):d)=(j:d)+1 by omega]at ih;rw[j7,j7,j03,ih]
def vK(k p:d)(L:H d):SgL:=L.map λt=>(k,p,t)
theorem jEF{p k:d}{F:H (H d)}{i:d}{L:H d}(hl:L.length<=1000000):∀(n j:À)(acc:SgL),j+n=L.length->acc.length<=10000000+j->
  j27 p k F i L (L.length:d) (j:d) acc=J (p,F,i,acc++vK k p (L.drop j))
 |0,j,acc,hj,_=>by
  rw[j9C];simp only[j2h];rw[j01 omg_,j7,j06,I omg_];simp[vK]
 |n+1,j,acc,hj,ha=>by
  have hj':j<L.length:=omg_;have hgd:L.getD j (0:d)=L[j]:=by simp[Ä,hj']
  have ih:=jEF (p:=p) (k:=k) (F:=F) (i:=i) hl n (j+1) (acc++[(k,p,L[j])]) omg_ sqo_;rw[show ((j+1:À):d)=(j:d)+1 by omega]at ih;rw[j9C,G hj'];simp only[j2h];rw[j00 (show (j:d)<(L.length:d) by omega),j0L];simp only[j6,j8,hgd];rw[j05 (x:=(j:d)+1),j00 (by simp[j02];omega),j6,j03,ih,Å];rfl
def vAll(p:d)(A B C E:H d):SgL:=vK 0 p A++(vK 1 p B++(vK 2 p C++vK 3 p E))
theorem jFh{p:d}{A B C E:H d}(hA:A.length<=1000000)(hB:B.length<=1000000)(hC:C.length<=1000000)(hE:E.length<=1000000) :
  j5y p [A,B,C,E] 0 []=J (vAll p A B C E):=by
 have q:=λ(k:d)(L:H d)(hL:L.length<=1000000)(acc:SgL)(hacc:acc.length<=10000000)=>jEF (p:=p) (k:=k) (F:=[A,B,C,E]) (i:=k) hL L.length 0 acc omg_ omg_;have lv:∀k (L:H d),(vK k p L).length=L.length:=λk L=>by simp[vK]
 have q0:=q 0 A hA [] smp_;have q1:=q 1 B hB (vK 0 p A) (by rw[lv];omega);have q2:=q 2 C hC (vK 0 p A++vK 1 p B) (by rw[Y,lv,lv];omega);have q3:=q 3 E hE (vK 0 p A++vK 1 p B++vK 2 p C) (by rw[Y,Y,lv,lv,lv];omega);simp only[R,Ã]at q0 q1 q2 q3;rw[j2S];simp only[j0U];rw[j00 (show (0:d)<4 by omega),j0N (show (0:d)<=0 by omega) omg_];simp only[j6,Int.toNat_zero,Z,show o A.length=(A.length:d) from rfl];rw[show j27 p 0 [A,B,C,E] 0 A (A.length:d) 0 []=_ from q0];simp only[j4];rw[j05 (x:=(0:d)+1),j03,show (0:d)+1=1 by omega,j2S];simp only[j0U];rw[j00 (show (1:d)<4 by omega),j0N (show (0:d)<=1 by omega) omg_];simp only[j6,show (1:d).toNat=1 from rfl,Ê,Z,show o B.length=(B.length:d) from rfl];rw[show j27 p 1 [A,B,C,E] 1 B (B.length:d) 0 (vK 0 p A)=_ from q1];simp only[j4];rw[j05 (x:=(1:d)+1),j03,show (1:d)+1=2 by omega,j2S];simp only[j0U];rw[j00 (show (2:d)<4 by omega),j0N (show (0:d)<=2 by omega) omg_];simp only[j6,show (2:d).toNat=2 from rfl,Ê,Z,show o C.length=(C.length:d) from rfl];rw[show j27 p 2 [A,B,C,E] 2 C (C.length:d) 0 (vK 0 p A++vK 1 p B)=_ from q2];simp only[j4];rw[j05 (x:=(2:d)+1),j03,show (2:d)+1=3 by omega,j2S];simp only[j0U];rw[j00 (show (3:d)<4 by omega),j0N (show (0:d)<=3 by omega) omg_]
 simp only[j6,show (3:d).toNat=3 from rfl,Ê,Z,show o E.length=(E.length:d) from rfl];rw[show j27 p 3 [A,B,C,E] 3 E (E.length:d) 0 (vK 0 p A++vK 1 p B++vK 2 p C)=_ from q3];simp only[j4];rw[j05 (x:=(3:d)+1),j03,show (3:d)+1=4 by omega,j2S];simp only[j0U];rw[j01 omg_,j7,j06];simp only[vAll,Å]
noncomputable def tlV(p:d)(cl:ClL)(A B C:H d):Ø (SgL×d):=
 (j4l p (o (É cl)) (0:d) cl A B C ([]:(H d))).bind λq0=>
 (j5y q0.1 [q0.2.1,q0.2.2.1,q0.2.2.2.1,q0.2.2.2.2] (0:d) ([]:SgL)).bind λq2=>
 (j0m q2).bind λr139=>
 (j0E r139).bind λr141=>
 cond (decide (o (É (Ù (Í r141.1) r141.2))>(16384:d))) (
 J (([]:SgL),(5:d))) (
 J (Ù (Í r141.1) r141.2,(0:d)))
theorem jFi{p:d}(hp:0<=p/\p<=1000){cl:ClL}{A B C:H d}(hl:A.length+B.length+C.length+(clP p cl).length<=16384)(hcl:cl.length<=1000000)
  (hb:∀t,t∈A\/t∈B\/t∈C\/t∈clP p cl -> -1000000000000<=t/\t<=1000000000000) :
  ∃V,tlV p cl A B C=J (V,0)/\V.Pairwise ltV/\(∀x,x∈V↔x∈vAll p A B C (clP p cl))/\V.length<=A.length+B.length+C.length+(clP p cl).length:=by
 have e0:=jCS (p:=p) (A:=A) (B:=B) (C:=C) hcl cl.length 0 [] omg_ smp_;rw[Ã,R]at e0;have e2:=jFh (p:=p) (A:=A) (B:=B) (C:=C) (E:=clP p cl) omg_ omg_ omg_ omg_;have lv:∀k (L:H d),(vK k p L).length=L.length:=λk L=>by simp[vK]
 have hvl:(vAll p A B C (clP p cl)).length=A.length+B.length+C.length+(clP p cl).length:=by simp only[vAll,Y,lv];omega
 have hsm:∀x∈vAll p A B C (clP p cl),SmV x:=λx hx=>by
  have key:∀k (L:H d),0<=k->k<=3->x∈vK k p L->(∀t∈L, -1000000000000<=t/\t<=1000000000000)->SmV x:=λk L k0 k1 h hL=>by
   obtain⟨t,ht,rfl⟩:=List.mem_map.1 h;have:=hL t ht;unfold SmV;dsimp only;omega
  simp only[vAll,List.mem_append]at hx;rcases hx with h|h|h|h
  .exact key 0 A omg_ omg_ h λt ht=>hb t (.inl ht)
  .exact key 1 B omg_ omg_ h λt ht=>hb t (.inr (.inl ht))
  .exact key 2 C omg_ omg_ h λt ht=>hb t (.inr (.inr (.inl ht)))
  .exact key 3 _ omg_ omg_ h λt ht=>hb t (.inr (.inr (.inr ht)))
 obtain⟨L,e3,p3,s3⟩:=jzW (l:=vAll p A B C (clP p cl)) omg_ hsm;have hLl:=p3.length_eq;obtain⟨n,m,e4,h4⟩:=jrY (l:=L) omg_;have hcl4:=jCR L;refine⟨cpV L,?_,jCQ s3,λx=>(jCP x).trans p3.mem_iff,omg_⟩;unfold tlV;rw[show j4l p (o (É cl)) 0 cl A B C []=_ from e0];simp only[j4];rw[e2];simp only[j4,e3,e4,h4,show o (cpV L).length=((cpV L).length:d) from rfl];rw[j01 (show¬((cpV L).length:d)>16384 by omega),j7]
def fA(m:d)(D:SL)(a b:d)(A:H d):Prop:=m=0/\A=[]\/m≠0/\WkO D m a b (4*D.length+1) A
def fB(r:d)(D:SL)(B:H d):Prop:=r=0/\B=[]\/r≠0/\B=rsts r D
def fC(c:Bool)(z:d×TrL)(w:WL)(D:SL)(a b:d)(C:H d):Prop:=c=Õ/\C=[]\/c=Ó/\∃W Q,j1F z w a b=J W/\StS (a-1) W/\(∀u∈W,a<=u.1/\u.2<=b)/\
 j7t D W=J Q/\StS (a-1) Q/\(∀x,inS x Q↔inS x D/\inS x W)/\Q.length<=D.length+420/\C=Q.map (·.1)
theorem jyf{n:d}(h:j3t n=J Õ):0<=n/\n<=604800:=by
 simp only[j3t,j6Y]at h;by_cases h1:n<0
 .exfalso;revert h;rw[j01 (show¬(0:d)<=n by omega)]<;>simp
 .by_cases h2:n>604800
  .exfalso;revert h;rw[j01 (show¬n<=(604800:d) by omega)]<;>simp
  .omega
section
variable{zs:H j0z}{ps:H j0d}{cs:H CalT}(hs:SOk2 zs ps cs)
include hs
theorem jCT{ss:H j0u}(hc:j8W (zs,ps,cs,ss)){p:À}(hp:p<ps.length){a b:d}(ha:0<=a)(hab:a<b)(hb:b<=8589934592)(hlen:b-a<=2592000){D:SL}
  (eD:j9s ((zs,ps,cs,ss),zs.map tb) (p:d) a b=J (D,0))(hD:StS (a-1) D)(lD:D.length<=3600)(bD:∀u∈D,a<=u.1/\u.2<=b)
  {cl:ClL}(eC:j4X (zs,ps,cs,ss) a b=J (cl,0)) :
  ∃A B C,j3i (zs,ps,cs,ss) (p:d) a b=tlV (p:d) cl A B C/\fA ps[p].2.2.2.1 D a b A/\fB ps[p].2.2.2.2.1 D B/\fC ps[p].2.2.2.2.2 (tb (zAt zs ps[p].2.1)) ps[p].2.2.1 D a b C:=by
 have hpc:=hc.pc ps[p] (Â hp);have hz:ZOk (zAt zs ps[p].2.1):=zget hs.so.ok hpc.z0 hpc.z1;have hgd:ps.getD p (ByteArray.empty,0,[],0,0,Ó)=ps[p]:=by simp[Ä,hp]
 have hm:=jyf hpc.m;have hr:=jyf hpc.r
 have hsml:Sml D:=λs hq=>by
  have h1:=bD s hq;have h2:=(hD.mem s hq).2;omega
 obtain⟨A,eA,hA⟩:=jzT (l:=D) omg_ (λs hq=>by have:=bD s hq;omega) hD hm.1 hm.2 ha hab hb;have eB:=jzU (l:=D) omg_ hsml ps[p].2.2.2.2.1;have hll:(tb (zAt zs ps[p].2.1)).2.length<=4:=jbW hz;obtain⟨W,eW,w1,w2,w3,_⟩:=jc5 hz.ztab.2 (Nat.le_trans hll omg_) hpc.w hpc.wl (M:=5) omg_ ha (Ë hab) hb omg_;have wlen:W.length<=420:=by have:ps[p].2.2.1.length*(5+1)*((tb (zAt zs ps[p].2.1)).2.length+1)<=14*(5+1)*(4+1):=Nat.mul_le_mul (Nat.mul_le_mul_right _ hpc.wl) omg_;omega
 obtain⟨Q,eQ,q1,q2,q3⟩:=jm8 hD w1 omg_ omg_;have eG:=jyb (l:=Q) omg_;simp only[j3i,j5U,j87,j88];rw[show jcp (zs,ps,cs,ss) (p:d) a b=_ from jyd hs hc hp ha (Ë hab) hb omg_];simp only[j4,bne_self_eq_false,j7];rw[eD];simp only[j4,bne_self_eq_false,j7];rw[show j4X (zs,ps,cs,ss) a b=_ from eC];simp only[j4,bne_self_eq_false,j7];rw[j0L];simp only[j6,j8,hgd];have tq:j7x ((zs,ps,cs,ss),zs.map tb) ps[p].2.1=_:=tabx hpc.z0 hpc.z1;have hfC1:ps[p].2.2.2.2.2=Ó->fC ps[p].2.2.2.2.2 (tb (zAt zs ps[p].2.1)) ps[p].2.2.1 D a b (Q.map (·.1)):=λh=> .inr ⟨h,W,Q,eW,w1,w2,eQ,q1,q2,omg_,rfl⟩;have hfC0:ps[p].2.2.2.2.2=Õ->fC ps[p].2.2.2.2.2 (tb (zAt zs ps[p].2.1)) ps[p].2.2.1 D a b []:=λh=> .inl ⟨h,rfl⟩;have eW':j1F ((tb (zAt zs ps[p].2.1)).1,(tb (zAt zs ps[p].2.1)).2) ps[p].2.2.1 a b=J W:=eW;by_cases hm0:ps[p].2.2.2.1=0
 .rw[show (ps[p].2.2.2.1 != (0:d))=Ó by rw[hm0];rfl];simp only[j7];by_cases hr0:ps[p].2.2.2.2.1=0
  .rw[show (ps[p].2.2.2.2.1 != (0:d))=Ó by rw[hr0];rfl];simp only[j7];cases hcn:ps[p].2.2.2.2.2 with
   |false=>simp only[È,j6,tq,j4,eW',eQ];rw[j01 (show¬o Q.length>4096 by show¬(Q.length:d)>4096;omega)];simp only[j7,eG,j4];exact⟨[],[],Q.map (·.1),rfl,.inl ⟨hm0,rfl⟩,.inl ⟨hr0,rfl⟩,hcn▸hfC1 hcn⟩
   |true=>simp only[Á,j7];exact⟨[],[],[],rfl,.inl ⟨hm0,rfl⟩,.inl ⟨hr0,rfl⟩,hcn▸hfC0 hcn⟩
  .rw[show (ps[p].2.2.2.2.1 != (0:d))=Õ from bne_iff_ne.2 hr0];simp only[j6,eB,j4];cases hcn:ps[p].2.2.2.2.2 with
   |false=>simp only[È,j6,tq,j4,eW',eQ];rw[j01 (show¬o Q.length>4096 by show¬(Q.length:d)>4096;omega)];simp only[j7,eG,j4];exact⟨[],_,Q.map (·.1),rfl,.inl ⟨hm0,rfl⟩,.inr ⟨hr0,rfl⟩,hcn▸hfC1 hcn⟩
   |true=>simp only[Á,j7];exact⟨[],_,[],rfl,.inl ⟨hm0,rfl⟩,.inr ⟨hr0,rfl⟩,hcn▸hfC0 hcn⟩
 .rw[show (ps[p].2.2.2.1 != (0:d))=Õ from bne_iff_ne.2 hm0];simp only[j6,eA,j4];by_cases hr0:ps[p].2.2.2.2.1=0
  .rw[show (ps[p].2.2.2.2.1 != (0:d))=Ó by rw[hr0];rfl];simp only[j7];cases hcn:ps[p].2.2.2.2.2 with
   |false=>simp only[È,j6,tq,j4,eW',eQ];rw[j01 (show¬o Q.length>4096 by show¬(Q.length:d)>4096;omega)];simp only[j7,eG,j4];exact⟨A,[],Q.map (·.1),rfl,.inr ⟨hm0,hA⟩,.inl ⟨hr0,rfl⟩,hcn▸hfC1 hcn⟩
   |true=>simp only[Á,j7];exact⟨A,[],[],rfl,.inr ⟨hm0,hA⟩,.inl ⟨hr0,rfl⟩,hcn▸hfC0 hcn⟩
  .rw[show (ps[p].2.2.2.2.1 != (0:d))=Õ from bne_iff_ne.2 hr0];simp only[j6,eB,j4];cases hcn:ps[p].2.2.2.2.2 with
   |false=>simp only[È,j6,tq,j4,eW',eQ];rw[j01 (show¬o Q.length>4096 by show¬(Q.length:d)>4096;omega)];simp only[j7,eG,j4];exact⟨A,_,Q.map (·.1),rfl,.inr ⟨hm0,hA⟩,.inr ⟨hr0,rfl⟩,hcn▸hfC1 hcn⟩
   |true=>simp only[Á,j7];exact⟨A,_,[],rfl,.inr ⟨hm0,hA⟩,.inr ⟨hr0,rfl⟩,hcn▸hfC0 hcn⟩
end
theorem js0{k:d}:∀{l:SL}{p x:d},x∈rst k p l->∃s∈l,s.1=x
 |s::r,p,x,h=>by
  simp only[rst]at h;split at h
  .rcases List.mem_cons.1 h with rfl|h
   .exact⟨s,smp_,rfl⟩
   .obtain⟨u,hu,e⟩:=js0 h;exact⟨u,by simp[hu],e⟩
  .obtain⟨u,hu,e⟩:=js0 h;exact⟨u,by simp[hu],e⟩
theorem jzY{k:d}{l:SL}{x:d}(h:x∈rsts k l):∃s∈l,s.1=x:=by
 match l,h with
 |s::r,h=>obtain⟨u,hu,e⟩:=js0 h;exact⟨u,by simp[hu],e⟩
theorem jzZ{k:d}{l:SL}:(rsts k l).length<=l.length:=by
 match l with
 |[]=>simp[rsts]
 |s::r=>have:=jya k r s.2;simp only[rsts,Æ];omega
section
variable{zs:H j0z}{ps:H j0d}{cs:H CalT}(hs:SOk2 zs ps cs)
include hs
end
section
variable{zs:H j0z}{ps:H j0d}{cs:H CalT}(hs:SOk2 zs ps cs)
include hs
theorem jyg{s:j0u}(hc:j8W (zs,ps,cs,[s]))(hll:s.2.1.length<=3)(hel:s.2.2.length<=6){a b:d}(ha:0<=a)(hab:a<b)(hb:b<=8589934592)(hlen:b-a<=2592000) :
  j4X (zs,ps,cs,[s]) a b=J ([],0):=by
 obtain⟨S,e,_,lS⟩:=jtm hs (hc.sc s smp_) hll hel (ss:=[s]) ha hab hb hlen;have e1:j6t a b [s] 1 0 zs ps cs [s] (zs.map tb) []=J (.inr [S]):=by rw[jac];simp only[j2x,U];rw[j00 (show (0:d)<1 by omega),j0N (show (0:d)<=0 by omega) (show (0:d)<((1:À):d) by omega)];simp only[j6,show Í 0=0 from rfl,Z];rw[show j2f ((zs,ps,cs,[s]),zs.map tb) (s.1,s.2.1,s.2.2) a b=_ from e];simp only[j4,show o S.length=(S.length:d) from rfl];rw[j01 (show¬(S.length:d)>16384 by omega),j7,j00 (show ([]:H SgL).length+1<=j02 by simp[j02]),j6,j05 (x:=(0:d)+1),j03,jac];simp only[j2x];rw[j01 (show¬(0:d)+1<1 by omega),j7,j06];rfl
 have e5:j8R 0 1 1 0 [S] []=J (1,0,[S],[]):=by rw[jfj];simp only[j41,U];rw[j01 (show¬(1:d)<o 1 by decide),j7,j06]
 have e3:j6u 1 0 [S] []=J []:=by rw[jad];simp only[j2y];rw[j00 (show (0:d)<1 by omega),j05 (x:=(0:d)+1),j6,show (0:d)+1=1 by omega,e5];simp only[j4];rw[j05 (x:=(0:d)+1),j03,jad];simp only[j2y];rw[j01 (show¬(0:d)+1<1 by omega),j7,j06]
 have e4:j1H []=J []:=by kernel_rfl
 simp only[j4X,jwY hs.so.ok hc,j4,Á,j7,jap];rw[j05 (x:=b-a),j00 (show a>=0 by omega),j00 (show a<=8589934592 by omega),j00 (show b>=a by omega),j00 (show b<=8589934592 by omega),j00 (show b-a<=34560000 by omega)];simp only[j6,Á,j7,U];rw[show j6t a b [s] (o 1) 0 zs ps cs [s] (zs.map tb) []=_ from e1];simp only[j4,j50,U];rw[show j6u (o 1) 0 [S] []=_ from e3];simp only[j4,Ï];rw[j01 (show¬o 0>16384 by decide),j7,e4];rfl
theorem jtn{s:j0u}(hc:j8W (zs,ps,cs,[s]))(hll:s.2.1.length<=3)(hel:s.2.2.length<=6){p:À}(hp:p<ps.length){a b:d}(ha:0<=a)(hab:a<b)(hb:b<=8589934592)(hlen:b-a<=2592000) :
  ∃V,j3i (zs,ps,cs,[s]) (p:d) a b=J (V,0)/\V.length<=16384:=by
 have hp1:=hs.so.p1;obtain⟨D,eD,d1,d2,d3,d4⟩:=juK hs (ss:=[s]) (p:=(p:d)) (λu h=>by simp only[List.mem_singleton]at h;subst h;exact⟨hc.sc u smp_,hll,hel⟩) smp_ ha hab hb hlen rfl;rw[U]at d3;obtain⟨A,B,C,eV,hA,hB,hC⟩:=jCT hs hc hp ha hab hb hlen eD d1 omg_ d4 (jyg hs hc hll hel ha hab hb hlen)
 have lA:A.length<=5001/\∀t∈A,a<t/\t<=b:=by
  rcases hA with⟨_,rfl⟩|⟨_,h⟩
  .simp
  .have:=h.len;refine⟨by split at this<;>omega,λt ht=>⟨(h.ok t ht).1,(h.ok t ht).2.1⟩⟩
 have lB:B.length<=1250/\∀t∈B,a<=t/\t<=b:=by
  rcases hB with⟨_,rfl⟩|⟨_,rfl⟩
  .simp
  .have:=jzZ (k:=ps[p].2.2.2.2.1) (l:=D);refine⟨omg_,λt ht=>?_⟩;obtain⟨u,hsm,rfl⟩:=jzY ht;have h1:=d4 u hsm;have h2:=(d1.mem u hsm).2;omega
 have lC:C.length<=1670/\∀t∈C,a<=t/\t<=b:=by
  rcases hC with⟨_,rfl⟩|⟨_,W,Q,_,_,_,_,q1,q2,q3,rfl⟩
  .simp
  .refine⟨by rw[Ð];omega,λt ht=>?_⟩;obtain⟨u,hsm,rfl⟩:=List.mem_map.1 ht;have h2:=(q1.mem u hsm);have:=(d2 u.1).1 ((q2 u.1).1 ⟨u,hsm,omg_,omg_⟩).1;omega
 obtain⟨V,e,_,_,v3⟩:=jFi (p:=(p:d)) omg_ (cl:=[]) (A:=A) (B:=B) (C:=C) (by simp[clP];omega) smp_ (λt ht=>by
  rcases ht with h|h|h|h
  .have:=lA.2 t h;omega
  .have:=lB.2 t h;omega
  .have:=lC.2 t h;omega
  .simp[clP]at h)
 refine⟨V,eV.trans e,?_⟩;simp[clP]at v3;omega
end
theorem jyh{α β:Type}{f:α->Ø β}{X:Bool}{A B:Ø (α ⊕ β)}(h1:∃r,lpK A f=J r)(h2:∃r,lpK B f=J r):∃r,lpK (cond X A B) f=J r:=by
 cases X
 .exact h2
 .exact h1
theorem jEG{α:Type}{X:Bool}{A B:Ø α}(h1:∃r,A=J r)(h2:∃r,B=J r):∃r,cond X A B=J r:=by
 cases X
 .exact h2
 .exact h1
theorem jEH{es:H j1V}(hl:es.length<=1000){p a b:d}:∀(n i:À),i+n=es.length->∃r,j1k es p a b (es.length:d) (i:d)=J r
 |0,i,hi=>by
  rw[j3p];simp only[j0D];rw[j01 omg_,j7,j06];exact⟨_,rfl⟩
 |n+1,i,hi=>by
  obtain⟨r,ih⟩:=jEH hl (p:=p) (a:=a) (b:=b) n (i+1) omg_;rw[show ((i+1:À):d)=(i:d)+1 by omega]at ih;rw[j3p];simp only[j0D,jco,j4];rw[j00 (show (i:d)<(es.length:d) by omega),j0L,j05 (x:=(i:d)+1),j6,j6];exact jyh ⟨_,j06 _ _⟩ ⟨_,(j03 _ _).trans ih⟩
theorem jCU{s:j0u}(hl:s.2.2.length<=1000)(p a b:d):∃r,jaR s p a b=J r:=by
 obtain⟨r,e⟩:=jEH hl (p:=p) (a:=a) (b:=b) s.2.2.length 0 omg_;simp only[jaR,j25,j2F];rw[show j1k s.2.2 p a b (o s.2.2.length) 0=_ from e];cases r<;>exact⟨_,rfl⟩
theorem jEI{V:SgL}(hl:V.length<=100000){x y z:d}:∀(n i:À),i+n=V.length->∃r,j0S V (V.length:d) (i:d) x y z=J r
 |0,i,hi=>by
  rw[j2n];simp only[j0o];rw[j01 omg_,j7,j06];exact⟨_,rfl⟩
 |n+1,i,hi=>by
  obtain⟨r,ih⟩:=jEI hl (x:=x) (y:=y) (z:=z) n (i+1) omg_;rw[show ((i+1:À):d)=(i:d)+1 by omega]at ih;rw[j2n];simp only[j0o];rw[j00 (show (i:d)<(V.length:d) by omega),j0L,j05 (x:=(i:d)+1),j6,j6];exact jyh ⟨_,j06 _ _⟩ ⟨_,(j03 _ _).trans ih⟩
theorem jEJ{V:SgL}(hl:V.length<=100000)(x:SgT):∃r,j8h x V=J r:=by
 obtain⟨r,e⟩:=jEI hl (x:=x.1) (y:=x.2.1) (z:=x.2.2) V.length 0 omg_;simp only[j8h,j1z,j1K];rw[show j0S V (o V.length) 0 x.1 x.2.1 x.2.2=_ from e];cases r<;>exact⟨_,rfl⟩
theorem jEK{V W:SgL}(hl:V.length<=100000)(hw:W.length<=100000):∀(n i:À),i+n=V.length->∃r,j0J V W (V.length:d) (i:d)=J r
 |0,i,hi=>by
  rw[j1Q];simp only[j0f];rw[j01 omg_,j7,j06];exact⟨_,rfl⟩
 |n+1,i,hi=>by
  obtain⟨r,ih⟩:=jEK hl hw n (i+1) omg_;rw[show ((i+1:À):d)=(i:d)+1 by omega]at ih;rw[j1Q];simp only[j0f];obtain⟨c,ec⟩:=jEJ hw (V.getD ((i:d).toNat) (0,0,0));rw[j00 (show (i:d)<(V.length:d) by omega),j0L,j05 (x:=(i:d)+1),j6,j6];rw[show j8h ((V.getD ((i:d).toNat) (0,0,0)).1,(V.getD ((i:d).toNat) (0,0,0)).2.1,(V.getD ((i:d).toNat) (0,0,0)).2.2) W=_ from ec];simp only[j4];exact jyh ⟨_,j06 _ _⟩ ⟨_,(j03 _ _).trans ih⟩
theorem jA0{V W:SgL}(hl:V.length<=100000)(hw:W.length<=100000):∃r,j0K V W=J r:=by
 obtain⟨r,e⟩:=jEK hl hw V.length 0 omg_;simp only[j0K,j1q];rw[show j0J V W (o V.length) 0=_ from e];cases r<;>exact⟨_,rfl⟩
section
variable{zs:H j0z}{ps:H j0d}{cs:H CalT}(hs:SOk2 zs ps cs)
include hs
theorem jFj{p:À}(hp:p<ps.length){a b:d}(ha:1766016000<=a)(hab:a<b)(hb:b<=1771200000):ECk ps.length ((1:d),(p:d),(0:d),a,b):=by
 have _:=hs;refine⟨?_,?_,?_,?_,?_,?_,?_,?_,?_⟩
 case refine_9=>show j18 (Int.tdiv b 86400)=J Õ;rw[Int.tdiv_eq_ediv_of_nonneg (show 0<=b by omega)];exact jsL omg_ omg_
 all_goals dsimp only<;>omega
theorem jqm{nm:ByteArray}{ls:H j0c}{es:H j1V}(hc:j8W (zs,ps,cs,[(nm,ls,es)]))(hel:es.length<=20){p:À}(hp:p<ps.length){a b:d}(ha:1766016000<=a)(hab:a<b)(hb:b<=1771200000) :
  j8W (zs,ps,cs,[(nm,ls,es++[((1:d),(p:d),(0:d),a,b)])])/\
   j7V (zs,ps,cs,[(nm,ls,es)]) 0 (p:d) a b=J ((zs,ps,cs,[(nm,ls,es++[((1:d),(p:d),(0:d),a,b)])]),0):=by
 have hc':=jCx hs hc (x:=((1:d),(p:d),(0:d),a,b)) (jFj hs hp ha hab hb) hel;refine⟨hc',?_⟩;simp only[j7V];rw[show je9 (zs,ps,cs,[(nm,ls,es)]) 0 ((1:d),(p:d),(0:d),a,b)=_ from jxr hc hc'];rfl
theorem jEL{nm:ByteArray}{ls:H j0c}{es:H j1V}(hc:j8W (zs,ps,cs,[(nm,ls,es)]))(hll:ls.length<=3)(hel:es.length<=5){p:À}(hp:p<ps.length){a b:d}(ha:1766016000<=a)(hab:a<b)(hb:b<=1771200000)(hlen:b-a<=86400) :
  ∃m,j3j (zs,ps,cs,[(nm,ls,es)]) 0 (p:d) a b=J m:=by
 obtain⟨hc',e1⟩:=jqm hs hc omg_ hp ha hab hb;obtain⟨r,e2⟩:=jCU (s:=(nm,ls,es)) (show es.length<=1000 by omega) (p:d) a b;simp only[j3j];rw[j01 (show¬(p:d)<0 by omega),j7,show j7V (zs,ps,cs,[(nm,ls,es)]) 0 (p:d) a b=_ from e1];simp only[j4,U];rw[j0N (show (0:d)<=0 by omega) (show (0:d)<((1:À):d) by omega)];simp only[Bool.true_or,j6,bne_self_eq_false,j7,show Í 0=0 from rfl,Z];rw[show jaR (nm,ls,es) (p:d) a b=_ from e2];simp only[j4];refine jEG ⟨_,rfl⟩ ?_;rw[j05 (x:=a-604800),j05 (x:=b+604800)];generalize hA:(if a-604800>(0:d) then a-604800 else (0:d):d)=A;generalize hB:(if b+604800<(8589934592:d) then b+604800 else (8589934592:d):d)=B;have hAB:0<=A/\A<B/\B<=8589934592/\B-A<=2592000:=by rw[<-hA,<-hB];split<;>split<;>omega
 obtain⟨V,e3,l3⟩:=jtn hs hc hll (Nat.le_trans hel omg_) hp hAB.1 hAB.2.1 hAB.2.2.1 hAB.2.2.2;obtain⟨W,e4,l4⟩:=jtn hs hc' hll (by simp only[Y,U];omega) hp hAB.1 hAB.2.1 hAB.2.2.1 hAB.2.2.2;obtain⟨c,e5⟩:=jA0 (V:=W) (W:=V) omg_ omg_;rw[show j3i (zs,ps,cs,[(nm,ls,es)]) (p:d) A B=_ from e3];simp only[j4];rw[e4];simp only[j4,bne_self_eq_false,j7,e5];exact⟨_,rfl⟩
end
end Go.Proofs.Pw
