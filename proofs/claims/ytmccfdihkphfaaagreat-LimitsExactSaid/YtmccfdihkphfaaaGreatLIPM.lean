/- The reference's way to the jlV form: borders are swept, openings and endings are counted. -/
import Derived.Test.YtmccfdihkphfaaaGreatLIPJ
import Derived.Test.YtmccfdihkphfaaaGreatLIPL
import Derived.Test.YtmccfdihkphfaaaGreatLIPE
open _root_ renaming Int->d,List->H,Nat->Â,ByteArray->Ì,Option->Ú
open List renaming drop_eq_getElem_cons->A,drop_of_length_le->E,getD->I,getElem_mem->J,drop_zero->K,mem_cons_of_mem->Y,getElem_of_mem->Z,length_append->Á,length_singleton->Ã,mem_append->Å,nil_append->Æ,drop->Ç,perm_ext_iff_of_nodup->É,append_assoc->Í,cons_append->Ð,length->Ò,append_nil->Ó,take->Ü
open Option renaming some->F,none->Ë
open Int renaming ofNat->G,ofNat_eq_natCast->Ä,le_refl->Ï
open ByteArray renaming empty->U,toList->Ñ,mk->Ý
open Decidable renaming decide->À
open Bool renaming true->È,false->Ô,not_true->Õ,and_self->Ö
open Go Go.Lft
namespace Go.Proofs.Pw
def sw(f:d->d):Ú d->H d->SL
 |_,[]=>[]
 |none,x::B=>if f x=0 then sw f Ë B else sw f (F x) B
 |some s,x::B=>if f x=0 then (s,x)::sw f Ë B else sw f (F s) B
def Stp(f:d->d):d->H d->Prop
 |c,[]=>f c=0/\∀t,c<=t->f t=0
 |c,x::B=>c<x/\(∀t,c<=t->t<x->f t=f c)/\Stp f x B
theorem jER{f:d->d}:∀(B:H d)(c:d),Stp f c B->
  (f c=0->StS c (sw f Ë B)/\(∀t,c<=t->(inS t (sw f Ë B)↔f t≠0))/\∀u∈sw f Ë B,c<u.1/\u.2∈B)/\
  (f c≠0->∀s,s<=c->(∀p,p<s->StS p (sw f (F s) B))/\(∀t,s<=t->(inS t (sw f (F s) B)↔t<c\/f t≠0))/\∀u∈sw f (F s) B,s<=u.1/\u.2∈B)
 |[],c,h=>by
  refine⟨λ_=>⟨trivial,λt ht=>⟨λh'=>absurd h' j2V,λh'=>absurd (h.2 t ht) h'⟩,λu hu=>by simp[sw]at hu⟩,λh0=>absurd h.1 h0⟩
 |x::B,c,⟨h1,h2,h3⟩=>by
  obtain⟨g1,g2⟩:=jER B x h3;constructor
  .intro h0;by_cases hx:f x=0
   .obtain⟨a1,a2,a3⟩:=g1 hx;have e:sw f Ë (x::B)=sw f Ë B:=by simp[sw,hx]
    rw[e];refine⟨StS.weak omg_ a1,λt ht=>?_,λu hu=>⟨by grind,Y _ (a3 u hu).2⟩⟩;by_cases htx:t<x
    .rw[h2 t ht htx,h0];exact⟨λh=>by have:=a1.low h;omega,λh=>absurd rfl h⟩
    simp_all
   .obtain⟨a1,a2,a3⟩:=g2 hx x (Ï _);have e:sw f Ë (x::B)=sw f (F x) B:=by simp[sw,hx]
    rw[e];refine⟨a1 c h1,λt ht=>?_,λu hu=>⟨by grind,Y _ (a3 u hu).2⟩⟩;by_cases htx:t<x
    .rw[h2 t ht htx,h0];exact⟨λh=>by have:=(a1 (x-1) omg_).low h;omega,λh=>absurd rfl h⟩
    simp_all
  .intro h0 s hs;by_cases hx:f x=0
   .obtain⟨a1,a2,a3⟩:=g1 hx;have e:sw f (F s) (x::B)=(s,x)::sw f Ë B:=by simp[sw,hx]
    rw[e];refine⟨λp hp=>⟨hp,by show s<x;omega,a1⟩,λt ht=>?_,λu hu=>?_⟩;all_goals grind[j0i]
   grind[sw]
def opn(x:d):SL->d
 |[]=>0
 |s::r=>(if s.1=x then 1 else 0)+opn x r
def sht(x:d):SL->d
 |[]=>0
 |s::r=>(if s.2=x then 1 else 0)+sht x r
theorem jpx(x:d):∀l:SL,0<=opn x l/\opn x l<=l.length
 |[]=>by simp[opn]
 |s::r=>by
  have:=jpx x r;grind[opn]
theorem jpy(x:d):∀l:SL,0<=sht x l/\sht x l<=l.length
 |[]=>by simp[sht]
 |s::r=>by
  have:=jpy x r;grind[sht]
theorem ju7(x:d)(u:d×d):∀l:SL,opn x (l++[u])=opn x l+(if u.1=x then 1 else 0)
 |[]=>by simp[opn]
 |s::r=>by
  have:=ju7 x u r;simp only[Ð,opn,this];omega
theorem ju8(x:d)(u:d×d):∀l:SL,sht x (l++[u])=sht x l+(if u.2=x then 1 else 0)
 |[]=>by simp[sht]
 |s::r=>by
  have:=ju8 x u r;simp only[Ð,sht,this];omega
theorem jpz(t:d):∀l:SL,0<=chi t l/\chi t l<=l.length
 |[]=>by simp[chi]
 |s::r=>by
  have:=jpz t r;grind[chi,ind]
theorem ju9(t:d):∀l:SL,inS t l↔chi t l≠0
 |[]=>by simp[chi,j2V]
 |s::r=>by
  have:=ju9 t r;have h:=jpz t r;rw[j0i,this];simp only[chi,ind];split<;>omega
theorem jpA{c x:d}(hcx:c<x):∀{l:SL},(∀s∈l,s.1<s.2/\¬(c<s.1/\s.1<x)/\¬(c<s.2/\s.2<x))->chi x l=chi c l+opn x l-sht x l
 |[],_=>by simp[chi,opn,sht]
 |s::r,h=>by
  have ih:=jpA hcx (l:=r) (λu hu=>h u (Y _ hu));have:=h s smp_;simp only[chi,opn,sht,ind,ih];split<;>split<;>split<;>split<;>omega
theorem jES{m:SL}{k k' v:d}:j3i 0 (j6V m k v) k'=if k'=k then v else j3i 0 m k':=by
 induction m<;>grind[j3i,j6V]
structure DInv(l:SL)(B:H d)(o s:SL):Prop where
 mem:∀x,x∈B↔∃u∈l,x=u.1\/x=u.2
 len:B.length=2*l.length
 o:∀x,j3i 0 o x=opn x l
 s:∀x,j3i 0 s x=sht x l
theorem DInv.snoc{l:SL}{B:H d}{o s:SL}(h:DInv l B o s)(u:d×d):DInv (l++[u]) (B++[u.1,u.2]) (j6V o u.1 (opn u.1 l+1)) (j6V s u.2 (sht u.2 l+1)):=by
 refine⟨λx=>?_,by grind[len],λx=>?_,λx=>?_⟩
 .rw[Å,h.mem]
  simp_all
 .rw[jES,ju7,h.o];by_cases e:x=u.1;all_goals grind
 .rw[jES,ju8,h.s];by_cases e:x=u.2;all_goals grind
theorem jET{l:SL}(hl:l.length<=1000000){o s:SL}(ho:∀x,j3i 0 o x=opn x l)(hs:∀x,j3i 0 s x=sht x l){B:H d}(hB:B.length<=10000000):∀(n i:Â)(c:d)(q:Ú d)(acc:SL),i+n=B.length->acc.length<=i->
  Stp (λt=>chi t l) c (B.drop i)->(∀x,(h:i<B.length)->x=B[i]->chi x l=chi c l+opn x l-sht x l)->(∀j,i<=j->(h:j+1<B.length)->chi B[j+1] l=chi B[j] l+opn B[j+1] l-sht B[j+1] l)->(q=Ë↔chi c l=0)->
  j8P (chi c l) (i:d) B o s (acc++(match q with|none=>[]|some x=>[(x,0)]))=F (acc++sw (λt=>chi t l) q (B.drop i))
 |0,i,c,q,acc,hi,_,hS,_,_,hq=>by
  rw[jfY];rw[E omg_]at hS ⊢;simp only[j6h,j6g,show G B.length=(B.length:d) from rfl];rw[j01 omg_,j7,j0e];obtain rfl:=hq.2 hS.1;simp[sw]
 |n+1,i,c,q,acc,hi,ha,hS,h1,h2,hq=>by
  have hlt:i<B.length:=omg_;have hgd:B.getD i (0:d)=B[i]:=by simp[I,hlt]
  rw[A hlt]at hS ⊢;obtain⟨g1,g2,g3⟩:=hS;have hj:=h1 B[i] hlt rfl;have r1:=jpz c l;have r2:=jpz B[i] l;have r3:=jpx B[i] l;have r4:=jpy B[i] l;have ih:∀(q':Ú d)(acc':SL),acc'.length<=i+1->(q'=Ë↔chi B[i] l=0)->j8P (chi B[i] l) ((i+1:Â):d) B o s (acc'++(match q' with|none=>[]|some x=>[(x,0)]))=F (acc'++sw (λt=>chi t l) q' (B.drop (i+1))):=λq' acc' h3 h4=>jET hl ho hs hB n (i+1) B[i] q' acc' omg_ h3 g3 (λx h e=>by grind) (λj hj h=>h2 j omg_ h) h4;rw[jfY];simp only[j6h,j6g,show G B.length=(B.length:d) from rfl];rw[j00 (show (i:d)<(B.length:d) by omega),j0B (show (0:d)<=(i:d) by omega) omg_,j07 (x:=(i:d)+1)];simp only[j6,j8,hgd,ho,hs];rw[j07 (x:=opn B[i] l-sht B[i] l),j07 (x:=chi c l+(opn B[i] l-sht B[i] l)),show chi c l+(opn B[i] l-sht B[i] l)=chi B[i] l by omega];by_cases hc:chi c l=0
  .grind[j04,sw,j03]
  .cases q with
   |none=>grind
   |some x0=>
   rw[j3Z hc,j7];simp only[j7];rw[j00 (show chi c l>0 by omega),j6];by_cases hx:chi B[i] l=0
   .rw[j8T hx,j6];simp only[Á,Ã,Ä];rw[j07 (x:=((acc.length+1:Â):d)-1),j2j,show (((acc.length+1:Â):d)-1).toNat=acc.length by omega];simp only[j6];have e1:(acc++[(x0,(0:d))]).getD acc.length (0,0)=(x0,0):=by simp[I]
    have e2:(acc++[(x0,(0:d))]).set acc.length (x0,B[i])=acc++[(x0,B[i])]:=by grind
    rw[e1,j04];dsimp only;rw[e2];have:=ih Ë (acc++[(x0,B[i])]) sqo_ ⟨λ_=>hx,λ_=>rfl⟩;grind[sw]
   grind[j04,sw]
theorem jyv{p a b i:d}{zs:H j0K}{ps:H j0k}{cs:H CalT}{ss:H j0R}{S:SgL}(hl:S.length<=16384):∀(n j:Â)(l:SL)(B:H d)(o s:SL),j+n=S.length->l.length<=100000+j->DInv l B o s->
  ∃B' o' s',jcr p a b i (j:d) zs ps cs ss B o s S=F (p,a,b,i,zs,ps,cs,ss,B',o',s')/\DInv (l++tmP p (S.drop j)) B' o' s'
 |0,j,l,B,o,s,hj,_,h=>by
  rw[jfW];simp(disch:=omega)only[j6e,E,S0];grind[tmP]
 |n+1,j,l,B,o,s,hj,ha,h=>by
  have hlt:j<S.length:=omg_;have hgd:S.getD j (0,0,0)=S[j]:=by simp[I,hlt]
  have hBl:=h.len;have r1:=jpx S[j].1 l;have r2:=jpy S[j].2.1 l;rw[jfW,A hlt];simp only[j6e,show G S.length=(S.length:d) from rfl];rw[j00 (show (j:d)<(S.length:d) by omega),j0B (show (0:d)<=(j:d) by omega) omg_,j07 (x:=(j:d)+1)];simp only[j6,j8,hgd,h.o,h.s];by_cases hv:S[j].2.2=p
  .have e:tmP p (S[j]::S.drop (j+1))=(S[j].1,S[j].2.1)::tmP p (S.drop (j+1)):=by grind[tmP]
   simp(disch:=omega)only[e,S0];obtain⟨B',o',s',e',h'⟩:=jyv (p:=p) (a:=a) (b:=b) (i:=i) (zs:=zs) (ps:=ps) (cs:=cs) (ss:=ss) hl n (j+1) (l++[(S[j].1,S[j].2.1)]) _ _ _ omg_ sqo_ (h.snoc (S[j].1,S[j].2.1));grind
  .have e:tmP p (S[j]::S.drop (j+1))=tmP p (S.drop (j+1)):=by grind[tmP]
   rw[j3Z hv,j7,j04,e];exact jyv hl n (j+1) l B o s omg_ omg_ h
theorem jBl{l:SL}:∀(R:H d)(c:d),(c::R).Pairwise (· < ·)->(∀u∈l,(u.1<=c\/u.1∈R)/\(u.2<=c\/u.2∈R))->Stp (λt=>chi t l) c R
 |[],c,_,h=>by
  have h0:∀t,c<=t->chi t l=0:=λt ht=>by
   refine Classical.byContradiction λhn=>?_;obtain⟨u,hu,h1,h2⟩:=(ju9 t l).2 hn;grind
  exact⟨h0 c (Ï _),h0⟩
 |x::R,c,hp,h=>by
  obtain⟨h1,h2⟩:=List.pairwise_cons.1 hp;have hcx:=h1 x smp_;have hR:=(List.pairwise_cons.1 h2).1
  have hx:∀y,y<=c\/y∈x::R->y<=c\/x<=y:=λy hy=>by
   grind
  refine⟨hcx,λt t1 t2=>ju4 t1 (λu hu=>?_),jBl R x h2 (λu hu=>?_)⟩;all_goals grind
theorem jua{l:SL}{B:H d}{o s:SL}(h:DInv l B o s)(hl:l.length<=100000){a b:d}(hb:∀u∈l,a<=u.1/\u.1<u.2/\u.2<=b) :
  ∃R,(jco B).bind (λr=>j8P 0 0 r o s [])=F R/\StS (a-1) R/\∀x,inS x R↔inS x l:=by
 have hBl:=h.len;obtain⟨s1,s2,s3⟩:=jjI B.length B omg_;rw[jpl omg_];generalize hC:so3 B.length B=C at s1 s2 s3;have hm:∀x,x∈C↔∃u∈l,x=u.1\/x=u.2:=λx=>(s2 x).trans (h.mem x)
 have hlo:∀x∈C,a-1<x:=λx hx=>by
  grind
 have hp:((a-1)::C).Pairwise (· < ·):=List.pairwise_cons.2 ⟨hlo,s1⟩;have hin:∀u∈l,u.1∈C/\u.2∈C:=λu hu=>⟨(hm _).2 ⟨u,hu,.inl rfl⟩,(hm _).2 ⟨u,hu,.inr rfl⟩⟩;have hS:=jBl (l:=l) C (a-1) hp (λu hu=>⟨.inr (hin u hu).1,.inr (hin u hu).2⟩);have h0:chi (a-1) l=0:=by refine Classical.byContradiction λhn=>?_;obtain⟨u,hu,h1,h2⟩:=(ju9 (a-1) l).2 hn;grind
 have hg:=List.pairwise_iff_getElem.1 s1
 have hix:∀j,(hj:j+1<C.length)->∀y∈C,¬(C[j]<y/\y<C[j+1]):=λj hj y hy hh=>by
  obtain⟨k,hk,rfl⟩:=Z hy;by_cases h1:k<=j;all_goals grind
 have e:=jET (l:=l) omg_ h.o h.s (B:=C) omg_ C.length 0 (a-1) Ë [] omg_ smp_ (by simp_all)
  (λx hx e=>by
   subst e;refine jpA (hlo _ (J hx)) (λu hu=>⟨(hb u hu).2.1,?_⟩)
   have hmin:∀y∈C,C[0]<=y:=λy hy=>by
    obtain⟨k,hk,rfl⟩:=Z hy;by_cases h1:k=0;all_goals grind
   grind)
  (λj _ hj=>jpA (hg j (j+1) omg_ hj omg_) (λu hu=>⟨(hb u hu).2.1,hix j hj _ (hin u hu).1,hix j hj _ (hin u hu).2⟩))
  ⟨λ_=>h0,λ_=>rfl⟩
 obtain⟨q1,q2,q3⟩:=(jER C (a-1) hS).1 h0;simp only[Æ,Ó,K,h0]at e;refine⟨_,e,q1,λx=>?_⟩;by_cases hx:a-1<=x
 .rw[q2 x hx,ju9]
 .refine⟨λhh=>?_,λ⟨u,hu,h1,_⟩=>?_⟩
  .have:=StS.low q1 hh;omega
  grind
section
variable{zs:H j0K}{ps:H j0k}{cs:H CalT}{ss:H j0R}
theorem jEU{f:d->d}{a b p:d}{S:SgL}(h:Cov f b Ë a S):∀u∈tmP p S,a<=u.1/\u.1<u.2/\u.2<=b:=λs hs=>by
 obtain⟨x,hx,rfl⟩:=List.mem_map.1 hs;have hx:=(List.mem_filter.1 hx).1;have h1:=h.ch.mem x hx;have h2:=h.pos x hx;omega
theorem jBm(hv:CV (zs,ps,cs,ss))(hc:CG (zs,ps,cs,ss))(hl:ss.length<=6){p a b:d}(ha:0<=a)(hab:a<=b)(hb:b<=8589934592)(hlen:b-a<=34560000):∀(n i:Â)(l:SL)(B:H d)(o s:SL),i+n=ss.length->l.length<=16384*i->DInv l B o s->
  (∀u∈l,a<=u.1/\u.1<u.2/\u.2<=b)->
  (j5S p a b ss (ss.length:d) (i:d) zs ps cs ss (zs.map tb) l=F (.inl 5)/\j8O p a b (i:d) zs ps cs ss B o s=F (.inl 5))\/
  ∃l' B' o' s',j5S p a b ss (ss.length:d) (i:d) zs ps cs ss (zs.map tb) l=F (.inr l')/\j8O p a b (i:d) zs ps cs ss B o s=F (.inr (B',o',s'))/\DInv l' B' o' s'/\l'.length<=16384*ss.length/\∀u∈l',a<=u.1/\u.1<u.2/\u.2<=b
 |0,i,l,B,o,s,hi,hll,hD,hu=>by
  rw[jd0,jfX];simp(disch:=omega)only[j4n,j6f,S0];grind
 |n+1,i,l,B,o,s,hi,hll,hD,hu=>by
  have hi':i<ss.length:=omg_;have hgd:ss.getD i (U,[],[])=ss[i]:=by simp[I,hi']
  obtain⟨S,e,hS,e'⟩:=jEI hv hc hi' ha hab hb hlen;rw[jd0,jfX];simp only[j4n,j6f,show G ss.length=(ss.length:d) from rfl];rw[j00 (show (i:d)<(ss.length:d) by omega),j0B (show (0:d)<=(i:d) by omega) omg_];simp only[j6,j8,hgd];rw[show j4m ((zs,ps,cs,ss),zs.map tb) (ss[i].1,ss[i].2.1,ss[i].2.2) a b=_ from e,e'];simp only[j4,show G S.length=(S.length:d) from rfl];by_cases h4:(S.length:d)>16384
  .rw[j00 h4];exact .inl ⟨rfl,rfl⟩
  .have hS4:S.length<=16384:=omg_;have hlp:=jyg p S;obtain⟨B',o',s',e2,hD'⟩:=jyv (p:=p) (a:=a) (b:=b) (i:=(i:d)) (zs:=zs) (ps:=ps) (cs:=cs) (ss:=ss) hS4 S.length 0 l B o s omg_ omg_ hD;rw[K]at hD'
   have h:=jBm hv hc hl (p:=p) ha hab hb hlen n (i+1) (l++tmP p S) B' o' s' omg_ (by rw[Á];omega) hD' (λu hu'=>by
    grind[jEU])
   simp(disch:=omega)only[jFv hS hS4 ha hb p,show jcr p a b (i:d) 0 zs ps cs ss B o s S=_ from e2,S0];exact h
theorem jBn(hv:CV (zs,ps,cs,ss))(p a b:d):∃v e,j5z (zs,ps,cs,ss) p a b=F (v,e)/\jbI (zs,ps,cs,ss) p a b=F e/\
  (e=0->v=((zs,ps,cs,ss),zs.map tb)/\CG (zs,ps,cs,ss)/\(0<=p/\p<(ps.length:d))/\0<=a/\a<=b/\b<=8589934592/\b-a<=34560000):=by
 obtain⟨e,e1,e2,e3,v,ok,eO,f1⟩:=jEv hv;by_cases he:e=0
 case neg=>have hb:=f1 he;subst hb;refine⟨v,8,?_,?_,λh=>by simp at h⟩;all_goals grind[j5z,jbI]
 subst he;have hc:=e3 rfl;obtain⟨w,w1,w2⟩:=jEr a b;have w1':jaW a b=F w:=w1;by_cases hi:p<0\/p>=(ps.length:d)
 .refine⟨((zs,ps,cs,ss),zs.map tb),3,?_,?_,λh=>by simp at h⟩;all_goals grind[j5z,CG.of,jbI]
 refine⟨((zs,ps,cs,ss),zs.map tb),cond w 0 1,?_,?_,λh=>?_⟩
 .grind[j5z,CG.of]
 all_goals grind[jbI]
theorem jEV(hv:CV (zs,ps,cs,ss))(hl:ss.length<=6)(p a b:d):∃D e v e1,j8M (zs,ps,cs,ss) p a b=F (D,e)/\j9L (zs,ps,cs,ss) p a b=F (D,e)/\D.length<=4096/\j5z (zs,ps,cs,ss) p a b=F (v,e1)/\
  (e1≠0/\e=e1\/e1=0/\v=((zs,ps,cs,ss),zs.map tb)/\CG (zs,ps,cs,ss)/\(0<=p/\p<(ps.length:d))/\(0<=a/\a<=b/\b<=8589934592/\b-a<=34560000)/\j7a v p a b=F (D,e)/\(e≠0\/e=0/\StS (a-1) D/\∀u∈D,a<=u.1/\u.2<=b)):=by
 obtain⟨v,e1,o1,o2,o3⟩:=jBn hv p a b;by_cases he:e1=0
 case neg=>
  have hne:(e1 != 0)=true:=by simpa using he
  refine⟨[],e1,v,e1,?_,?_,smp_,o1,.inl ⟨he,rfl⟩⟩;all_goals grind[j8M,j9L]
 obtain⟨rfl,hc,hp,ha,hab,hb,hlen⟩:=o3 he;subst he
 have key:∃D e,j7a ((zs,ps,cs,ss),zs.map tb) p a b=F (D,e)/\j9L (zs,ps,cs,ss) p a b=F (D,e)/\D.length<=4096/\(e≠0\/e=0/\StS (a-1) D/\∀u∈D,a<=u.1/\u.2<=b):=by
  simp only[j7a,j9L,o2,j4,bne_self_eq_false,j7,show G ss.length=(ss.length:d) from rfl];rcases jBm hv hc hl (p:=p) ha hab hb hlen ss.length 0 [] [] [] [] omg_ smp_ ⟨smp_,rfl,λ_=>rfl,λ_=>rfl⟩ smp_ with⟨g1,g2⟩|⟨l,B,o,s,g1,g2,hD,hll,hu⟩
  .rw[show j5S p a b ss (ss.length:d) 0 zs ps cs ss (zs.map tb) []=_ from g1,show j8O p a b 0 zs ps cs ss [] [] []=_ from g2];exact⟨[],5,rfl,rfl,smp_,.inl omg_⟩
  .rw[show j5S p a b ss (ss.length:d) 0 zs ps cs ss (zs.map tb) []=_ from g1,show j8O p a b 0 zs ps cs ss [] [] []=_ from g2];simp only[j4,j8D];obtain⟨R,r1,r2,r3⟩:=jua hD omg_ hu;obtain⟨out,m1,m2,m3,m4,m5⟩:=jhA (l:=l) omg_ (λs hs=>by grind) (lo:=a) (hi:=b) (λs hs _=>by grind);have he:R=out:=jjH r2 m2 (λx=>(r3 x).trans (m3 x).symm);subst he;rw[m1];have r1':=r1;cases hso:jco B with
   |none=>simp_all
   |some C=>
   rw[hso]at r1;simp only[j4]at r1;simp only[j4,r1,show G R.length=(R.length:d) from rfl];by_cases h4:(R.length:d)>4096
   .rw[j00 h4];grind
   .rw[j01 h4];grind
 grind[j8M]
end
structure PC0(nz:Â)(p:j0k):Prop where
 z0:0<=p.2.1
 z1:p.2.1<(nz:d)
 w:WOk 0 p.2.2.1
 wl:p.2.2.1.length<=14
 m:j2e p.2.2.2.1=F È
 r:j2e p.2.2.2.2.1=F È
section
variable{zs:H j0K}{ps:H j0k}{cs:H CalT}{ss:H j0R}
theorem jFB{p:j0k}(h:j1q (zs,ps,cs,ss) p=F 0):PC0 zs.length p:=by
 obtain⟨b1,p1⟩:∃b,j1n p.2.1 (zs.length:d)=F b:=⟨_,rfl⟩;obtain⟨c,c1,_,c3⟩:=jjJ p.2.2.1;simp only[j1q,show G zs.length=(zs.length:d) from rfl,p1,c1,j4]at h;cases b1 with
 |false=>simp at h
 |true=>
 simp only[Õ,j7]at h;by_cases hc:c=0
 case neg=>rw[show (c != 0)=È by simpa using hc]at h;simp at h
 subst hc;simp only[bne_self_eq_false,j7]at h;cases hm:j2e p.2.2.2.1 with
 |none=>rw[hm]at h;simp at h
 |some b=>
 rw[hm]at h;simp only[j4]at h;cases b with
 |false=>simp at h
 |true=>
 simp only[Õ,j7]at h;cases hr:j2e p.2.2.2.2.1 with
 |none=>rw[hr]at h;simp at h
 |some b=>
 rw[hr]at h;simp only[j4]at h;cases b with
 |false=>simp at h
 |true=>
 obtain⟨z0,z1⟩:=jn6 p1;exact⟨z0,z1,(c3 rfl).1,(c3 rfl).2,hm,hr⟩
theorem jBo(hl:ps.length<=100){u:H j0K×H j0k×H CalT×H j0R}:∀(n i:Â)(m:H (Ì×Bool)),i+n=ps.length->j5Q ps (ps.length:d) (i:d) zs ps cs ss m=F (.inr u)->∀x∈ps.drop i,PC0 zs.length x
 |0,i,m,hi,_=>by
  rw[E omg_];intro z h;simp at h
 |n+1,i,m,hi,h=>by
  have hlt:i<ps.length:=omg_;have hgd:ps.getD i (U,0,[],0,0,Ô)=ps[i]:=by simp[I,hlt]
  obtain⟨e,m',hn⟩:=jn7 ps[i].1 m;rw[j9y]at h;simp only[j30]at h;rw[j00 (show (i:d)<(ps.length:d) by omega),j2j,j07 (x:=(i:d)+1)]at h;simp only[j6,j8,hgd,j4,hn]at h;cases hb:(Ñ ps[i].1==Ñ (Ý #[110,111,98,111,100,121])) with
  |true=>rw[hb,j6]at h;rw[show ((2:Nat)==0)=Ô from rfl,show ((2:Nat) != 0)=È from rfl]at h;simp[j0e]at h
  |false=>
   rw[hb,j7]at h;by_cases he:e=0
   .subst he;simp only[beq_self_eq_true,j6]at h;cases hc:j1q (zs,ps,cs,ss) ps[i]with
    |none=>rw[show j1q (zs,ps,cs,ss) (ps[i].1,ps[i].2.1,ps[i].2.2.1,ps[i].2.2.2.1,ps[i].2.2.2.2.1,ps[i].2.2.2.2.2)=_ from hc]at h;simp[lpK]at h
    |some c=>
     rw[show j1q (zs,ps,cs,ss) (ps[i].1,ps[i].2.1,ps[i].2.2.1,ps[i].2.2.2.1,ps[i].2.2.2.2.1,ps[i].2.2.2.2.2)=_ from hc]at h;simp only[j4]at h;by_cases h0:c=0
     .subst h0;simp only[bne_self_eq_false,j7,j04]at h;rw[A hlt];intro z hm;rcases List.mem_cons.1 hm with rfl|hm
      .exact jFB hc
      .exact jBo hl n (i+1) m' omg_ h z hm
     .rw[show (c != 0)=È by simpa using h0]at h;simp[j0e]at h
   .rw[j3Z he,show (e != 0)=È by simpa using he]at h;simp[j0e]at h
theorem jub(hv:CV (zs,ps,cs,ss))(hc:CG (zs,ps,cs,ss)):∀p∈ps,PC0 zs.length p:=by
 have hpl:ps.length<=32:=hc.g.pl;have h:=hc.chk;obtain⟨r,r1,_,_⟩:=jzO (zs:=zs) (ps:=ps) (cs:=cs) (ss:=ss) (λz hz=>(hv.z z hz).f) (by have:zs.length<=16:=hc.g.zl;omega) zs.length 0 [] omg_ rfl;simp only[j48,show G ps.length=(ps.length:d) from rfl]at h;cases hq:j5Q ps (ps.length:d) 0 zs ps cs ss []with
 |none=>
  rw[hq]at h;revert h;cases (cond (cond (cond (À (G zs.length>16)) È (À ((ps.length:d)>32))) È (À (G cs.length>8))) È (À (G ss.length>12))) with
  |true=>intro h;simp at h
  |false=>
   cases j1X zs with
   |none=>intro h;simp at h
   |some v=>
    simp only[j7,j4];by_cases hv0:v=0
    .rw[hv0];intro h;simp at h
    .rw[show (v != 0)=È by simpa using hv0];intro h;simp at h;exact absurd h hv0
 |some q=>
  cases q with
  |inr u=>have:=jBo (zs:=zs) (ps:=ps) (cs:=cs) (ss:=ss) omg_ ps.length 0 [] omg_ hq;rwa[K]at this
  |inl e=>
   exfalso;obtain⟨c,c1,_⟩:=jkB (zs:=zs) (ps:=ps) (cs:=cs) (ss:=ss) (by have:zs.length<=16:=hc.g.zl;omega) omg_;rw[hq]at c1;have hne:e≠0:=jxV (u:=(zs,ps,cs,ss)) (e:=c) (by rw[<-c1]);rw[hq]at h;revert h;cases (cond (cond (cond (À (G zs.length>16)) È (À ((ps.length:d)>32))) È (À (G cs.length>8))) È (À (G ss.length>12))) with
   |true=>intro h;simp at h
   |false=>
    cases j1X zs with
    |none=>intro h;simp at h
    |some v=>
     simp only[j7,j4];by_cases hv0:v=0
     .rw[hv0];simp only[bne_self_eq_false,j7,j8C,j5]
      exactλh=>hne h
     .rw[show (v != 0)=È by simpa using hv0];intro h;simp at h;exact absurd h hv0
end
theorem r5eq{z:j0K}(hz:ZOk z){w:WL}(hw:WOk 0 w)(hl:w.length<=3){a b:d}(ha:0<=a)(hab:a<=b)(hb:b<=8589934592)(hlen:b-a<=34560000) :
  ∃W,j4f (tb z) w a b=F W/\j7x z w a b=F (W,0)/\StS (a-1) W/\(∀u∈W,a<=u.1/\u.2<=b)/\W.length<=885:=by
 have hll:(tb z).2.length<=4:=je8 hz;obtain⟨out,e1,s1,s2,s3,s4⟩:=jo5 hz.ztab.2 (Nat.le_trans hll omg_) hw (show w.length<=14 by omega) (M:=58) omg_ ha hab hb omg_;obtain⟨out2,f1,t1,t2,_,t4⟩:=jo6 hz.zref.2.1 (Nat.le_trans hll omg_) (r5ck hw (show w.length<=14 by omega)) hw (show w.length<=14 by omega) (M:=58) omg_ ha hab hb omg_ omg_
 have:out2=out:=jjH t1 s1 λx=>by
  by_cases hx:a<=x/\x<b
  .obtain⟨k,hk,k1,k2⟩:=jav hz.ztab.2 (t:=x) omg_ omg_;rw[s4 k hk x hx.1 hx.2 k1 k2,t4 k hk x hx.1 hx.2 k1 k2]
  .constructor
   .intro h;have:=t1.low h;obtain⟨u,hu,u1,u2⟩:=h;have:=t2 u hu;omega
   .intro h;have:=s1.low h;obtain⟨u,hu,u1,u2⟩:=h;have:=(s2 u hu).2;omega
 subst this;have wlen:out2.length<=885:=by have:w.length*(58+1)*((tb z).2.length+1)<=3*(58+1)*(4+1):=Nat.mul_le_mul (Nat.mul_le_mul_right _ hl) omg_;omega
 rw[if_neg omg_]at f1;exact⟨out2,e1,f1,s1,s2,wlen⟩
theorem jyw{l:SL}(hl:l.length<=1000000){t:d}(ht0 : -1000000000000<=t)(ht1:t<=1000000000000)(hb:Sml l):∀(n i:Â)(acc:d),i+n=l.length->0<=acc->acc+wkd t (l.drop i)<=604800->
  jfu l t acc (i:d)=F (acc+wkd t (l.drop i))
 |0,i,acc,hi,_,_=>by
  rw[jfZ];simp(disch:=omega)only[j6i,E,S0];simp[wkd]
 |n+1,i,acc,hi,h0,hle=>by
  have hlt:i<l.length:=omg_;have hgd:l.getD i (0,0)=l[i]:=by simp[I,hlt]
  rw[A hlt]at hle ⊢;have hs:=hb _ (J hlt);have hw:=jyq (t:=t) (s:=l[i]);have hr:=joa (t:=t) (l:=l.drop (i+1));simp only[wkd]at hle ⊢;have ih:=jyw hl ht0 ht1 hb n (i+1) (acc+wk1 t l[i]) omg_ omg_ omg_;rw[jfZ];simp only[j6i,show G l.length=(l.length:d) from rfl];rw[j00 (show (i:d)<(l.length:d) by omega),j2j];simp only[j6,j8,hgd];grind[wk1,j24,min,max,j04]
theorem jiC{l:SL}(hl:l.length<=1000000){t:d}(ht0 : -1000000000000<=t)(ht1:t<=1000000000000)(hb:Sml l){p:d}(h:StS p l):jcG l t=F (wkd t l):=by
 have hle:=jro (t:=t) h;have:=jyw hl ht0 ht1 hb l.length 0 0 omg_ omg_ (by grind);grind[jcG]
def wks(l:SL)(m:d):d->H d->H d
 |_,[]=>[]
 |a,x::N=>if wkd a l<=m/\m<wkd x l then (a+m-wkd a l+1)::wks l m x N else wks l m x N
theorem jyx(l:SL)(m:d):∀(N:H d)(a:d),(wks l m a N).length<=N.length
 |[],_=>by simp[wks]
 |x::N,a=>by
  have:=jyx l m N x;simp only[wks];split<;>simp only[List.length_cons]<;>omega
theorem jyy{l:SL}{m:d}(hm0:0<=m)(hm:m<=604800){lo hi:d}:∀(N:H d)(a:d),lo<=a->a<=hi->(∀x∈N,lo<=x/\x<=hi)->∀e∈wks l m a N,lo<=e/\e<=hi+604801
 |[],_,_,_,_,e,he=>by simp[wks]at he
 |x::N,a,h0,h1,h2,e,he=>by
  have:=joa (t:=a) (l:=l);have hx:=h2 x smp_;simp only[wks]at he;split at he
  .rcases List.mem_cons.1 he with rfl|he
   .omega
   .exact jyy hm0 hm N x hx.1 hx.2 (λy hy=>h2 y (Y _ hy)) e he
  .exact jyy hm0 hm N x hx.1 hx.2 (λy hy=>h2 y (Y _ hy)) e he
section
variable{l:SL}(hl:l.length<=1000000)(hb:Sml l){p:d}(hS:StS p l){m:d}(hm0:0<=m)(hm:m<=604800){N:H d}(hN:N.length<=1000000)(hx:∀x∈N,0<=x/\x<=8589934592)
include hl hb hS hm0 hm hN hx
theorem jA7:∀(n j:Â)(a:d)(out:H d),j+n=N.length->out.length<=j->0<=a->a<=8589934592->
  jd3 l m a (N.length:d) (j:d) out N=F (out++wks l m a (N.drop j))
 |0,j,a,out,hj,_,_,_=>by
  rw[jdT];simp(disch:=omega)only[E,j58,S0];simp[wks]
 |n+1,j,a,out,hj,hol,ha0,ha1=>by
  have hjl:j<N.length:=omg_;have hgd:N.getD j (0:d)=N[j]:=by simp[I,hjl]
  have hx0:=hx _ (J hjl);have wa:=jjM hl (t:=a) omg_ omg_ hb hS;have wb:=jjM hl (t:=N[j]) omg_ omg_ hb hS;have la:=jro (t:=a) hS;have na:=joa (t:=a) (l:=l);rw[jdT,A hjl];simp only[j58,wks];rw[j00 (show (j:d)<(N.length:d) by omega),j2j];simp only[j6,j8,hgd,wa,wb,j4];rw[j07 (x:=(j:d)+1)];by_cases hA:wkd a l<=m
  .rw[j00 hA,j6];by_cases hB:wkd N[j] l>m
   .have ih:=jA7 n (j+1) N[j] (out++[a+m-wkd a l+1]) omg_ sqo_ hx0.1 hx0.2;grind[j24,j03,j04]
   .have ih:=jA7 n (j+1) N[j] out omg_ omg_ hx0.1 hx0.2;grind[j04]
  .have ih:=jA7 n (j+1) N[j] out omg_ omg_ hx0.1 hx0.2;grind[j04]
theorem jA8:∀(n j:Â)(out:H d)(h:j<N.length),j+1+n=N.length->out.length<=j->
  jgO l m (j:d) N out=F (out++wks l m N[j] (N.drop (j+1)))
 |0,j,out,h,hj,_=>by
  rw[jgP];simp(disch:=omega)only[E,j6Q,S0];simp[wks]
 |n+1,j,out,h,hj,hol=>by
  have hjl:j+1<N.length:=omg_;have hg0:N.getD j (0:d)=N[j]:=by simp[I,h]
  have hg1:N.getD (j+1) (0:d)=N[j+1]:=by simp[I,hjl]
  have hx0:=hx _ (J h);have hx1:=hx _ (J hjl);have wa:=jiC hl (t:=N[j]) omg_ omg_ hb hS;have wb:=jiC hl (t:=N[j+1]) omg_ omg_ hb hS;have la:=jro (t:=N[j]) hS;have na:=joa (t:=N[j]) (l:=l);rw[jgP,A hjl];simp only[j6Q,wks,show G N.length=(N.length:d) from rfl];rw[j07 (x:=(j:d)+1),j00 (show (j:d)+1<(N.length:d) by omega),j0B (show (0:d)<=(j:d) by omega) omg_,j0B (show (0:d)<=(j:d)+1 by omega) omg_];simp only[j6,j8,show ((j:d)+1).toNat=j+1 by omega,hg0,hg1,wa,wb,j4];by_cases hA:wkd N[j] l<=m
  .rw[j00 hA,j6];by_cases hB:wkd N[j+1] l>m
   .have ih:=jA8 n (j+1) (out++[N[j]+m-wkd N[j] l+1]) hjl omg_ sqo_;grind[j24,j03,j04]
   .have ih:=jA8 n (j+1) out hjl omg_ omg_;grind[j04]
  .have ih:=jA8 n (j+1) out hjl omg_ omg_;grind[j04]
end
theorem jEW{l:SL}{m f t:d}(hl:l.length<=1000000)(hb:Sml l):∀(n i:Â)(acc:H d),i+n=l.length->acc.length<=4*i+2->
  jgM l m f t (i:d) acc=F (l,m,f,t,acc++bor (l.drop i))
 |0,i,acc,hi,_=>by
  rw[jgN];simp(disch:=omega)only[j6P,E,S0];simp[bor]
 |n+1,i,acc,hi,ha=>by
  have hlt:i<l.length:=omg_;have hgd:l.getD i (0,0)=l[i]:=by simp[I,hlt]
  have hs:=hb _ (J hlt);have ih:=jEW (m:=m) (f:=f) (t:=t) hl hb n (i+1) (acc++[l[i].1,l[i].2,l[i].1+604800,l[i].2+604800]) omg_ sqo_;rw[jgN];simp(disch:=omega)only[A hlt,j6P,S0];rw[show ((i+1:Â):d)=(i:d)+1 by omega,Í]at ih;exact ih
theorem jEX{l m:H d}(hl:l.Pairwise (· < ·))(hm:m.Pairwise (· < ·))(h:∀x,x∈l↔x∈m):l=m:=by
 have nd:∀{l:H d},l.Pairwise (· < ·)->l.Nodup:=λh=>h.imp (λh e=>omg_);refine((É (nd hl) (nd hm)).2 h).eq_of_pairwise (le:=λx y=>x<=y) (λa b _ _ h1 h2=>omg_) (hl.imp (λh=>omg_)) (hm.imp (λh=>omg_))
theorem jA9{cuts:H d}{a b x:d}:x∈bord cuts a b↔x=a\/(a<b/\x=b)\/(x∈cuts/\a<x/\x<b):=by
 grind[jjI,bord,inBo]
theorem jD8{l:SL}(hl:l.length<=4096)(hb:∀s∈l,0<=s.1/\s.2<=8589934592){p:d}(hS:StS p l){m a b:d}(hm0:0<=m)(hm:m<=604800)(ha:0<=a)(hab:a<=b)(hb1:b<=8589934592) :
  ∃O,jdU l m a b=F O/\jgQ l m a b=F O/\O.length<=20000/\∀e∈O,0<=e/\e<=10000000000:=by
 have hsml:Sml l:=λs hs=>by
  have h1:=hb s hs;have h2:=(hS.mem s hs).2;omega
 have e1:=jEK (s0:=l) (m:=m) (f:=a) (t:=b) omg_ hsml l.length 0 [] omg_ smp_;rw[K,Æ]at e1;have f1:=jEW (m:=m) (f:=a) (t:=b) (l:=l) omg_ hsml l.length 0 [a,b] omg_ smp_;rw[K]at f1;have hbl:=jyr l;obtain⟨C,e2,hC,lC,mC⟩:=jyc (l:=bor l) omg_ (f:=a) (t:=b);have f2:=jo7 (cuts:=[a,b]++bor l) sqo_ a b;obtain⟨b1,b2,b3,_,⟨r,b4⟩,_,b5⟩:=jxL ([a,b]++bor l) hab;have hNl:(C++[b]).length<=20000:=sqo_
 have hCb:∀x∈C++[b],0<=x/\x<=8589934592:=λx hx=>by
  grind
 have e3:=jA7 (l:=l) omg_ hsml hS hm0 hm (N:=C++[b]) omg_ hCb (C++[b]).length 0 a [] omg_ smp_ ha omg_;rw[K,Æ]at e3;rw[b4]at b1 b2 b3;have hNb:∀x∈a::r,0<=x/\x<=8589934592:=λx hx=>by grind
 have hrl:(a::r).length<=20000:=by grind
 have f3:=jA8 (l:=l) omg_ hsml hS hm0 hm (N:=a::r) omg_ hNb r.length 0 [] smp_ sqo_ smp_;simp only[List.drop_succ_cons,K,Æ,List.getElem_cons_zero]at f3
 have hww:wks l m a r=wks l m a (C++[b]):=by
  by_cases h:a=b
  .subst h
   have hr:r=[]:=by
    simp_all
   have hC0:C=[]:=by
    cases C with
    |nil=>rfl
    |cons x t=>have:=(mC x).1 smp_;omega
   grind[wks]
  .congr 1
   refine jEX (List.pairwise_cons.1 b1).2 (List.pairwise_append.2 ⟨hC,smp_,λx hx y hy=>by
    simp_all⟩) (λx=>?_)
   have hmem:x∈a::r↔(x=a\/(a<b/\x=b)\/(x∈[a,b]++bor l/\a<x/\x<b)):=by rw[<-b4];exact jA9
   grind[List.pairwise_cons]
 have hlen:=jyx l m (C++[b]) a;refine⟨wks l m a (C++[b]),?_,?_,omg_,λe he=>?_⟩
 .simp_all[jdU]
 .simp_all[jgQ]
 .have:=jyy hm0 hm (l:=l) (lo:=0) (hi:=8589934592) (C++[b]) a ha omg_ hCb e he;omega
theorem jyz{α:Type}(l:H α)(x:α){k:Â}(hk:k<=l.length):List.set (over (l++[x]) (k+1) (Ç k (l++[x]))) k x=l.take k++x::l.drop k/\(over (l++[x]) (k+1) (Ç k (l++[x]))).length=l.length+1:=by
 have h1:(l++[x]).length=l.length+1:=smp_;unfold over;rw[h1,E (show (l++[x]).length<=k+1+(Ç k (l++[x])).length by simp;omega),Ó];have e1:Ç k (l++[x])=Ç k l++[x]:=by rw[List.drop_append_of_le_length hk]
 rw[e1]
 have e2:Ü (l.length+1-(k+1)) (Ç k l++[x])=Ç k l:=by
  simp_all
 rw[e2];by_cases h:k<l.length
 .have e3:Ü (k+1) (l++[x])=l.take k++[l[k]]:=by grind[List.take_succ_eq_append_getElem]
  rw[e3,Í];refine⟨?_,sqo_⟩
  simp_all
 grind
theorem jEY(x y:SgT):∃b,jjh x y=F b/\(b=È↔ltV x y):=by
 unfold jjh ltV;by_cases h1:x.2.2=y.2.2
 .rw[show (x.2.2 != y.2.2)=Ô by simp[h1],j7];by_cases h2:x.1=y.1
  .simp_all
  .rw[show (x.1 != y.1)=È from bne_iff_ne.2 h2,j6]
   simp_all
 .rw[show (x.2.2 != y.2.2)=È from bne_iff_ne.2 h1,j6]
  simp_all
theorem jBp{x y z:SgT}(h:ltV x y)(h':ltV y z):ltV x z:=by unfold ltV at *;omega
theorem jD9{x y:SgT}(h:¬ltV x y)(hn:y≠x):ltV y x:=by
 grind[ltV]
theorem jyA{l:SgL}(hl:l.length<=1000000)(x:SgT):∀(k:Â),k<=l.length->(∀j (h:j<l.length),k<=j->ltV x l[j])->
  ∃k':Â,jki (k:d) x.1 x.2.1 x.2.2 l=F ((k':d),x.1,x.2.1,x.2.2,l)/\k'<=k/\(∀j (h:j<l.length),k'<=j->ltV x l[j])/\(∀(h:k'-1<l.length),0<k'->¬ltV x l[k'-1])
 |0,hk,h=>by
  rw[jji];simp(disch:=omega)only[j8t,S0];grind
 |k+1,hk,h=>by
  have hlt:k<l.length:=omg_;have hgd:l.getD k (0,0,0)=l[k]:=by simp[I,hlt]
  obtain⟨b,e1,e2⟩:=jEY x l[k];rw[jji];simp only[j8t];rw[j00 omg_,j6,j07 (x:=((k+1:Â):d)-1),show ((k+1:Â):d)-1=(k:d) by omega,j0B (show (0:d)<=(k:d) by omega) omg_];simp(disch:=omega)only[show jjh (x.1,x.2.1,x.2.2) (l[k].1,l[k].2.1,l[k].2.2)=F b from e1,S0];cases b with
  |true=>
   rw[j6,j04]
   obtain⟨k',q1,q2,q3,q4⟩:=jyA hl x k omg_ (λj hj hjk=>by
    grind)
   grind
  |false=>
   rw[j7,j0e]
   exact⟨k+1,rfl,Nat.le_refl _,h,λ_ _ hh=>by
    simp_all⟩
theorem jjP{l:SgL}(hl:l.length<=900000)(h:l.Pairwise ltV)(x:SgT):∃L,jfv l x=F L/\L.Pairwise ltV/\(∀y,y∈L↔y∈l\/y=x)/\L.length<=l.length+1:=by
 obtain⟨k,e,hk,h1,h2⟩:=jyA (l:=l) omg_ x l.length (Nat.le_refl _) (λj hj hjk=>omg_);have hg:=List.pairwise_iff_getElem.1 h
 have hins:k=0\/(∃hk1:k-1<l.length,l[k-1]≠x)->(l.take k++x::l.drop k).Pairwise ltV:=λhne=>by
  refine List.pairwise_append.2 ⟨h.sublist (List.take_sublist _ _),List.pairwise_cons.2 ⟨λy hy=>?_,h.sublist (List.drop_sublist _ _)⟩,λy hy z hz=>?_⟩
  .grind[Z]
  .obtain⟨j,hj,rfl⟩:=Z hy;rw[List.length_take]at hj;rw[List.getElem_take];have hk1:k-1<l.length:=omg_;have hlx:ltV l[k-1] x:=by grind[jD9]
   have hjx:ltV l[j] x:=by grind[jBp]
   rcases List.mem_cons.1 hz with rfl|hz
   .exact hjx
   .obtain⟨i,hi,rfl⟩:=Z hz;grind
 have hmem:∀y,y∈l.take k++x::l.drop k↔y∈l\/y=x:=λy=>by
  have:y∈l↔y∈l.take k\/y∈l.drop k:=by rw[<-Å,List.take_append_drop]
  grind
 have hll:(l.take k++x::l.drop k).length=l.length+1:=sqo_;obtain⟨o1,o2⟩:=jyz l x hk;simp only[jfv,jkj,show G l.length=(l.length:d) from rfl,e,j4];by_cases hk0:k=0
 .subst hk0;rw[j01 omg_,j7,j00 (show l.length+[_].length<=j03 by simp[j03];omega),j6,j07 (x:=((0:Â):d)+1)];refine⟨_,?_,hins (.inl rfl),hmem,Nat.le_of_eq hll⟩;simp only[Á,Ã,Ä];rw[j00 (show (0:d)<=((0:Â):d)+1 by omega),j00 (show ((0:Â):d)+1<=((l.length+1:Â):d) by omega),j00 (show (0:d)<=((0:Â):d) by omega),j00 (show ((0:Â):d)<=((l.length+1:Â):d) by omega)];simp only[Ö,j6];rw[show (((0:Â):d)+1).toNat=0+1 from rfl,j8,j0B omg_ (by simp_all),j6];exact congrArg F o1
 .have hk1:k-1<l.length:=omg_;have hgd:l.getD (k-1) (0,0,0)=l[k-1]:=by simp[I,hk1]
  rw[j00 (show (k:d)>0 by omega),j6,j07 (x:=(k:d)-1),j2j,show ((k:d)-1).toNat=k-1 by omega,hgd,j6,eqV l[k-1] (x.1,x.2.1,x.2.2)];by_cases hx:l[k-1]=x
  .grind
  .rw[j01 (show¬l[k-1]=(x.1,x.2.1,x.2.2) from hx),j7,j00 (show l.length+[_].length<=j03 by simp[j03];omega),j6,j07 (x:=(k:d)+1)];refine⟨_,?_,hins (.inr ⟨hk1,hx⟩),hmem,Nat.le_of_eq hll⟩;simp only[Á,Ã,Ä];rw[j00 (show (0:d)<=(k:d)+1 by omega),j00 (show (k:d)+1<=((l.length+1:Â):d) by omega),j00 (show (0:d)<=(k:d) by omega),j00 (show (k:d)<=((l.length+1:Â):d) by omega)];simp only[Ö,j6];rw[show ((k:d)+1).toNat=k+1 by omega,j8,j0B omg_ (by grind),j6];exact congrArg F o1
end Go.Proofs.Pw
open Go Go.Lft
set_option maxHeartbeats 1000000
namespace Go.Proofs.Pw
theorem jEZ{k p:d}{L:H d}{v:SgT}:v∈vK k p L↔v.1=k/\v.2.1=p/\v.2.2∈L:=by
 grind[vK]
theorem jpB(k p t:d)(L:H d):vK k p (t::L)=(k,p,t)::vK k p L:=rfl
theorem jBq{L M:SgL}(hL:L.Pairwise ltV)(hM:M.Pairwise ltV)(h:∀x,x∈L↔x∈M):L=M:=by
 have irr:∀x,¬ltV x x:=λx h=>by unfold ltV at h;omega
 have nd:∀{l:SgL},l.Pairwise ltV->l.Nodup:=λh=>h.imp (λh e=>by simp_all);exact((É (nd hL) (nd hM)).2 h).eq_of_pairwise (le:=ltV) (λa b _ _ h1 h2=>absurd (jBp h1 h2) (irr _)) hL hM
theorem juc:∀{l:SL}{p:d},StS p l->rst 0 p l=[]
 |[],_,_=>rfl
 |s::r,p,h=>by
  have:=h.1;simp only[rst];rw[if_neg omg_];exact juc h.2.2
theorem jyB{l:SL}{p:d}(h:StS p l):rsts 0 l=[]:=by
 cases l with
 |nil=>rfl
 |cons s r=>exact juc h.2.2
theorem jAa(k:d)(l:SL):(rsts k l).length<=l.length:=by
 cases l<;>grind[rsts,jys]
theorem jsU{k x:d}:∀{l:SL}{p:d},x∈rst k p l->∃s∈l,x=s.1
 |[],_,h=>by simp[rst]at h
 |s::r,p,h=>by
  simp only[rst]at h;split at h
  .rcases List.mem_cons.1 h with h|h
   .exact⟨s,smp_,h⟩
   .obtain⟨u,hu,e⟩:=jsU h;exact⟨u,by simp[hu],e⟩
  .obtain⟨u,hu,e⟩:=jsU h;exact⟨u,by simp[hu],e⟩
theorem jAb{k x:d}{l:SL}(h:x∈rsts k l):∃s∈l,x=s.1:=by
 cases l<;>grind[rsts,jsU]
section
variable{p a b:d}{zs:H j0K}{ps:H j0k}{cs:H CalT}{ss:H j0R}{nm:Ì}{pz:d}{pq:WL}{pm pr:d}{pc:Bool}
theorem jF0{D:SL}{W:H d}(hl:W.length<=30000):∀(n i:Â)(V:SgL),i+n=W.length->V.length<=100000+i->V.Pairwise ltV->
  ∃V',j8Q p a b (i:d) zs ps cs ss nm pz pq pm pr pc D V W=F (p,a,b,zs,ps,cs,ss,nm,pz,pq,pm,pr,pc,D,V')/\V'.Pairwise ltV/\(∀y,y∈V'↔y∈V\/y∈vK 0 p (W.drop i))/\V'.length<=V.length+n
 |0,i,V,hi,_,h=>by
  rw[jcb];simp(disch:=omega)only[j3V,E,S0];grind[vK]
 |n+1,i,V,hi,hV,h=>by
  have hlt:i<W.length:=omg_;have hgd:W.getD i (0:d)=W[i]:=by simp[I,hlt]
  obtain⟨V1,e1,h1,m1,l1⟩:=jjP omg_ h ((0:d),p,W[i]);obtain⟨V2,e2,h2,m2,l2⟩:=jF0 hl n (i+1) V1 omg_ omg_ h1;rw[jcb];simp(disch:=omega)only[A hlt,j3V,e1,S0];exact⟨V2,e2,h2,λy=>by grind[jpB],omg_⟩
theorem jDa{D:SL}(hl:D.length<=30000)(hb:Sml D):∀(n i:Â)(V:SgL)(hi':i<D.length),i+1+n=D.length->V.length<=100000+i->V.Pairwise ltV->
  ∃V',j5s p a b ((i:d)+1) zs ps cs ss nm pz pq pm pr pc D V=F (p,a,b,zs,ps,cs,ss,nm,pz,pq,pm,pr,pc,D,V')/\V'.Pairwise ltV/\(∀y,y∈V'↔y∈V\/y∈vK 1 p (rst pr D[i].2 (D.drop (i+1))))/\V'.length<=V.length+n
 |0,i,V,_,hi,_,h=>by
  rw[j92];simp(disch:=omega)only[j3W,E,S0];grind[vK,rst]
 |n+1,i,V,hi',hi,hV,h=>by
  have hlt:i+1<D.length:=omg_;have hg0:D.getD i (0,0)=D[i]:=by simp[I,hi']
  have hg1:D.getD (i+1) (0,0)=D[i+1]:=by simp[I,hlt]
  have b0:=hb _ (J hi');have b1:=hb _ (J hlt);rw[j92,A hlt];simp only[j3W,rst,show G D.length=(D.length:d) from rfl];rw[j00 (show (i:d)+1<(D.length:d) by omega),j0B (show (0:d)<=(i:d)+1 by omega) omg_,j07 (x:=(i:d)+1-1),show (i:d)+1-1=(i:d) by omega,j0B (show (0:d)<=(i:d) by omega) omg_];simp only[j6,j8,show ((i:d)+1).toNat=i+1 by omega,hg0,hg1];simp(disch:=omega)only[S0];by_cases hq:D[i+1].1-D[i].2<pr
  .obtain⟨V1,e1,h1,m1,l1⟩:=jjP omg_ h ((1:d),p,D[i+1].1);obtain⟨V2,e2,h2,m2,l2⟩:=jDa hl hb n (i+1) V1 hlt omg_ omg_ h1;simp(disch:=omega)only[if_pos hq,e1,S0];grind[jpB]
  .obtain⟨V2,e2,h2,m2,l2⟩:=jDa hl hb n (i+1) V hlt omg_ omg_ h;grind[j04]
theorem jFC{D:SL}(hl:D.length<=30000)(hb:Sml D){V:SgL}(hV:V.length<=100000)(h:V.Pairwise ltV) :
  ∃V',j5s p a b 1 zs ps cs ss nm pz pq pm pr pc D V=F (p,a,b,zs,ps,cs,ss,nm,pz,pq,pm,pr,pc,D,V')/\V'.Pairwise ltV/\(∀y,y∈V'↔y∈V\/y∈vK 1 p (rsts pr D))/\V'.length<=V.length+D.length:=by
 cases D with
 |nil=>rw[j92];simp(disch:=omega)only[S0];exact⟨V,rfl,h,λy=>by simp[vK,rsts],omg_⟩
 |cons s r=>obtain⟨V',e,h1,h2,h3⟩:=jDa (p:=p) (a:=a) (b:=b) (zs:=zs) (ps:=ps) (cs:=cs) (ss:=ss) (nm:=nm) (pz:=pz) (pq:=pq) (pm:=pm) (pr:=pr) (pc:=pc) hl hb r.length 0 V smp_ sqo_ omg_ h;exact⟨V',e,h1,h2,by grind⟩
theorem jF1{Q:SL}(hl:Q.length<=30000):∀(n i:Â)(V:SgL),i+n=Q.length->V.length<=200000+i->V.Pairwise ltV->
  ∃V',j6R p a b (i:d) zs ps cs ss V Q=F (p,a,b,zs,ps,cs,ss,V')/\V'.Pairwise ltV/\(∀y,y∈V'↔y∈V\/y∈vK 2 p ((Q.drop i).map (·.1)))/\V'.length<=V.length+n
 |0,i,V,hi,_,h=>by
  rw[jcc];simp(disch:=omega)only[j3X,E,S0];grind[vK]
 |n+1,i,V,hi,hV,h=>by
  have hlt:i<Q.length:=omg_;have hgd:Q.getD i (0,0)=Q[i]:=by simp[I,hlt]
  obtain⟨V1,e1,h1,m1,l1⟩:=jjP omg_ h ((2:d),p,Q[i].1);obtain⟨V2,e2,h2,m2,l2⟩:=jF1 hl n (i+1) V1 omg_ omg_ h1;rw[jcc];simp(disch:=omega)only[A hlt,j3X,e1,S0];grind[jpB]
theorem jAc{X:ClL}(hl:X.length<=30000):∀(n i:Â)(V:SgL),i+n=X.length->V.length<=300000+i->V.Pairwise ltV->
  ∃V',j2i p X (i:d) V=F V'/\V'.Pairwise ltV/\(∀y,y∈V'↔y∈V\/y∈vK 3 p (clP p (X.drop i)))/\V'.length<=V.length+n
 |0,i,V,hi,_,h=>by
  grind[jcd,j3Y,S0,vK,clP]
 |n+1,i,V,hi,hV,h=>by
  have hlt:i<X.length:=omg_;have hgd:X.getD i (0,0,0,0,0)=X[i]:=by simp[I,hlt]
  rw[jcd];simp(disch:=omega)only[A hlt,ju6,j3Y,S0];cases X[i].1==p with
  |true=>obtain⟨V1,e1,h1,m1,l1⟩:=jjP omg_ h ((3:d),p,X[i].2.2.2.1);obtain⟨V2,e2,h2,m2,l2⟩:=jAc hl n (i+1) V1 omg_ omg_ h1;grind[j04,jpB]
  |false=>obtain⟨V2,e2,h2,m2,l2⟩:=jAc hl n (i+1) V omg_ omg_ h;grind[j04]
end
end Go.Proofs.Pw
open Go Go.Lft
set_option maxHeartbeats 1000000
namespace Go.Proofs.Pw
noncomputable def tl18(p a b:d)(zs:H j0K)(ps:H j0k)(cs:H CalT)(ss:H j0R)(nm:Ì)(pz:d)(pq:WL)(pm pr:d)(pc:Bool)(D:SL)(V:SgL):Ú (SgL×d):=
 (j5s p a b (1:d) zs ps cs ss nm pz pq pm pr pc D V).bind λq2_1=>
 cond (!q2_1.2.2.2.2.2.2.2.2.2.2.2.2.1) (
 cond (inR q2_1.2.2.2.2.2.2.2.2.1 (Ò q2_1.2.2.2.1)) (
 let t101_1:j0K:=(I q2_1.2.2.2.1 (Int.toNat q2_1.2.2.2.2.2.2.2.2.1) (U,0,[]))
 (j7x (t101_1.1,t101_1.2.1,t101_1.2.2) q2_1.2.2.2.2.2.2.2.2.2.1 q2_1.2.1 q2_1.2.2.1).bind λr107_1=>
 (jfw q2_1.2.2.2.2.2.2.2.2.2.2.2.2.2.1 r107_1.1).bind λr113_1=>
 cond (r113_1.2 != (0:d)) (
 F (([]:SgL),(5:d))) (
 (j6R q2_1.1 q2_1.2.1 q2_1.2.2.1 (0:d) q2_1.2.2.2.1 q2_1.2.2.2.2.1 q2_1.2.2.2.2.2.1 q2_1.2.2.2.2.2.2.1 q2_1.2.2.2.2.2.2.2.2.2.2.2.2.2.2 r113_1.1).bind λq4_1=>
 (j6v (q4_1.2.2.2.1,q4_1.2.2.2.2.1,q4_1.2.2.2.2.2.1,q4_1.2.2.2.2.2.2.1) q4_1.2.1 q4_1.2.2.1).bind λr137_2=>
 cond (r137_2.2 != (0:d)) (
 F (([]:SgL),r137_2.2)) (
 (j2i q4_1.1 r137_2.1 (0:d) q4_1.2.2.2.2.2.2.2).bind λq6_2=>
 let t166_2:Int:=(G (Ò q6_2))
 cond (À (t166_2>(16384:d))) (
 F (([]:SgL),(5:d))) (
 F (q6_2,(0:d)))))) Ë) (
 (j6v (q2_1.2.2.2.1,q2_1.2.2.2.2.1,q2_1.2.2.2.2.2.1,q2_1.2.2.2.2.2.2.1) q2_1.2.1 q2_1.2.2.1).bind λr137_3=>
 cond (r137_3.2 != (0:d)) (
 F (([]:SgL),r137_3.2)) (
 (j2i q2_1.1 r137_3.1 (0:d) q2_1.2.2.2.2.2.2.2.2.2.2.2.2.2.2).bind λq6_3=>
 let t166_3:Int:=(G (Ò q6_3))
 cond (À (t166_3>(16384:d))) (
 F (([]:SgL),(5:d))) (
 F (q6_3,(0:d)))))
section
variable{zs:H j0K}{ps:H j0k}{cs:H CalT}{ss:H j0R}
theorem jDb{p a b:d}{nm:Ì}{pz:d}{pq:WL}{pm pr:d}{pc:Bool}{D W Q:SL}{V:SgL}{X:ClL}{ec:d}(hV:V.Pairwise ltV)(lV:V.length<=60000)(hb:Sml D)(lD:D.length<=4096)(lQ:Q.length<=10000)(lX:X.length<=16384)
  (z0:0<=pz)(z1:pz<(zs.length:d))(eW:j7x (zAt zs pz) pq a b=F (W,0))(eM:jfw D W=F (cond (À ((Q.length:d)>4096)) ([],5) (Q,0)))(eX:j6v (zs,ps,cs,ss) a b=F (X,ec)) :
  ∃V',tl18 p a b zs ps cs ss nm pz pq pm pr pc D V=cond (cond pc Ô (À ((Q.length:d)>4096))) (F ([],5)) (cond (ec != 0) (F ([],ec)) (F (cond (À ((V'.length:d)>16384)) ([],5) (V',0))))/\V'.Pairwise ltV/\
   ∀y,y∈V'↔((y∈V\/y∈vK 1 p (rsts pr D))\/y∈vK 2 p (cond pc [] (Q.map (·.1))))\/y∈vK 3 p (clP p X):=by
 obtain⟨V2,e2,h2,m2,l2⟩:=jFC (p:=p) (a:=a) (b:=b) (zs:=zs) (ps:=ps) (cs:=cs) (ss:=ss) (nm:=nm) (pz:=pz) (pq:=pq) (pm:=pm) (pr:=pr) (pc:=pc) (D:=D) omg_ hb (V:=V) omg_ hV;cases pc with
 |true=>obtain⟨V6,e6,h6,m6,l6⟩:=jAc (p:=p) (X:=X) omg_ X.length 0 V2 omg_ omg_ h2;grind[vK,tl18]
 |false=>obtain⟨V4,e4,h4,m4,l4⟩:=jF1 (p:=p) (a:=a) (b:=b) (zs:=zs) (ps:=ps) (cs:=cs) (ss:=ss) (Q:=Q) omg_ Q.length 0 V2 omg_ omg_ h2;obtain⟨V6,e6,h6,m6,l6⟩:=jAc (p:=p) (X:=X) omg_ X.length 0 V4 omg_ omg_ h4;rw[K]at m4 m6;refine⟨V6,?_,h6,λy=>by simp_all⟩;simp only[tl18];rw[e2];simp only[j4,Bool.not_false,j6,j7];rw[j0B z0 z1,j6,show j7x ((zs.getD pz.toNat (U,0,[])).1,(zs.getD pz.toNat (U,0,[])).2.1,(zs.getD pz.toNat (U,0,[])).2.2) pq a b=_ from eW];simp only[j4,eM];grind
theorem jyC(hv:CV (zs,ps,cs,ss))(hl:ss.length<=4)(p a b:d):∃V e,j1H (zs,ps,cs,ss) p a b=F (V,e)/\j3h (zs,ps,cs,ss) p a b=F (V,e)/\V.length<=16384/\V.Pairwise ltV/\∀v∈V,v.2.1=p/\SmV v:=by
 obtain⟨D,e,v,e1,_,r1,lD,o1,hcase⟩:=jEV hv omg_ p a b;have nil:([]:SgL).length<=16384/\([]:SgL).Pairwise ltV/\∀v∈([]:SgL),v.2.1=p/\SmV v:=⟨smp_,List.Pairwise.nil,smp_⟩;rcases hcase with⟨he,rfl⟩|⟨rfl,rfl,hc,⟨p0,p1⟩,⟨ha,hab,hb,hlen⟩,eD,hD⟩
 .refine⟨[],e,?_,?_,nil⟩;all_goals grind[j1H,j37,j5a,j5b,j3h]
 rcases hD with he|⟨rfl,hS,bD⟩
 .refine⟨[],e,?_,?_,nil⟩;all_goals grind[j1H,j37,j5a,j5b,j3h]
 obtain⟨i,rfl⟩:∃i:Â,p=i:=⟨p.toNat,omg_⟩;have hi:i<ps.length:=omg_;have hpl:ps.length<=32:=hc.g.pl;have hP:=jub hv hc _ (J hi);have hq3:ps[i].2.2.1.length<=3:=hv.pw _ (J hi);have hz:ZOk (zAt zs ps[i].2.1):=zget hc.g.ok hP.z0 hP.z1;have hgd:ps.getD i (U,0,[],0,0,Ô)=ps[i]:=by simp[I,hi]
 have hm:=jD6 hP.m
 have hsml:Sml D:=λs hq=>by
  have h1:=bD s hq;have h2:=(hS.mem s hq).2;omega
 obtain⟨O,eO,rO,lO,bO⟩:=jD8 (l:=D) lD (λs hq=>by grind) hS hm.1 hm.2 ha hab hb;have eB:=jA3 (l:=D) omg_ hsml ps[i].2.2.2.2.1;obtain⟨W,eW,rW,w1,w2,w3⟩:=r5eq hz hP.w hq3 ha hab hb hlen;obtain⟨Q,eQ,q1,q2,q3⟩:=jrc hS w1 omg_ omg_;have eM:=jA6 hS w1 omg_ lD omg_ (λu hu=>by grind) (λu hu=>by grind) q1 q2;have eG:=jyt (l:=Q) omg_
 have bQ:∀u∈Q,a<=u.1/\u.1<b:=λu hu=>by
  have h1:=(q1.mem u hu).2;obtain⟨s,hs,c1,c2⟩:=((q2 u.1).1 ⟨u,hu,Ï _,h1⟩).1;grind
 obtain⟨X,ec,eC,rC,lX,hX⟩:=jFy hv hc hl ha hab hb hlen;have eW':j4f ((tb (zAt zs ps[i].2.1)).1,(tb (zAt zs ps[i].2.1)).2) ps[i].2.2.1 a b=F W:=eW;have tq:j5C ((zs,ps,cs,ss),zs.map tb) ps[i].2.1=_:=tabx hP.z0 hP.z1
 have prog:j1H (zs,ps,cs,ss) (i:d) a b=cond (ec != 0) (F ([],ec)) (cond (cond ps[i].2.2.2.2.2 Ô (À ((Q.length:d)>4096))) (F ([],5)) (tlV (i:d) X (cond (ps[i].2.2.2.1==0) [] O) (cond (ps[i].2.2.2.2.1==0) [] (rsts ps[i].2.2.2.2.1 D)) (cond ps[i].2.2.2.2.2 [] (Q.map (·.1))))):=by
  simp only[j1H,j37,j5a,j5b];rw[show j5z (zs,ps,cs,ss) (i:d) a b=_ from o1];simp only[j4,bne_self_eq_false,j7];rw[show j7a ((zs,ps,cs,ss),zs.map tb) (i:d) a b=_ from eD];simp only[j4,bne_self_eq_false,j7];rw[show j7s (zs,ps,cs,ss) a b=_ from eC];simp only[j4];cases (ec != 0) with
  |true=>rfl
  |false=>
   simp(disch:=omega)only[tq,eO,eB,eW',eQ,eG,S0];generalize (ps[i].2.2.2.1==(0:d))=x1;generalize (ps[i].2.2.2.2.1==(0:d))=x2;generalize ps[i].2.2.2.2.2=x3
   generalize À ((Q.length:d)>4096)=x4
   cases x1<;>cases x2<;>cases x3<;>cases x4<;>rfl
 have hV0:∃V0,V0.Pairwise ltV/\V0.length<=60000/\(∀y,y∈V0↔y∈vK 0 (i:d) (cond (ps[i].2.2.2.1==0) [] O))/\j3h (zs,ps,cs,ss) (i:d) a b=tl18 (i:d) a b zs ps cs ss ps[i].1 ps[i].2.1 ps[i].2.2.1 ps[i].2.2.2.1 ps[i].2.2.2.2.1 ps[i].2.2.2.2.2 D V0:=by
  obtain⟨V0,e0,h0,m0,l0⟩:=jF0 (p:=(i:d)) (a:=a) (b:=b) (zs:=zs) (ps:=ps) (cs:=cs) (ss:=ss) (nm:=ps[i].1) (pz:=ps[i].2.1) (pq:=ps[i].2.2.1) (pm:=ps[i].2.2.2.1) (pr:=ps[i].2.2.2.2.1) (pc:=ps[i].2.2.2.2.2) (D:=D) (W:=O) omg_ O.length 0 [] omg_ smp_ List.Pairwise.nil;rw[K]at m0
  have red:j3h (zs,ps,cs,ss) (i:d) a b=cond (ps[i].2.2.2.1 != 0) ((jgQ D ps[i].2.2.2.1 a b).bind λr=>(j8Q (i:d) a b 0 zs ps cs ss ps[i].1 ps[i].2.1 ps[i].2.2.1 ps[i].2.2.2.1 ps[i].2.2.2.2.1 ps[i].2.2.2.2.2 D [] r).bind λq=>tl18 q.1 q.2.1 q.2.2.1 q.2.2.2.1 q.2.2.2.2.1 q.2.2.2.2.2.1 q.2.2.2.2.2.2.1 q.2.2.2.2.2.2.2.1 q.2.2.2.2.2.2.2.2.1 q.2.2.2.2.2.2.2.2.2.1 q.2.2.2.2.2.2.2.2.2.2.1 q.2.2.2.2.2.2.2.2.2.2.2.1 q.2.2.2.2.2.2.2.2.2.2.2.2.1 q.2.2.2.2.2.2.2.2.2.2.2.2.2.1 q.2.2.2.2.2.2.2.2.2.2.2.2.2.2)
    (tl18 (i:d) a b zs ps cs ss ps[i].1 ps[i].2.1 ps[i].2.2.1 ps[i].2.2.2.1 ps[i].2.2.2.2.1 ps[i].2.2.2.2.2 D []):=by
   simp(disch:=omega)only[j3h,show j9L (zs,ps,cs,ss) (i:d) a b=_ from r1,S0];rfl
  grind[vK]
 obtain⟨V0,h0,l0,m0,red⟩:=hV0;obtain⟨V,t1,t2,t3⟩:=jDb (p:=(i:d)) (nm:=ps[i].1) (pm:=ps[i].2.2.2.1) (pr:=ps[i].2.2.2.2.1) (pc:=ps[i].2.2.2.2.2) h0 l0 hsml lD (Q:=Q) omg_ lX hP.z0 hP.z1 rW eM rC;rw[prog,red,t1];rcases hX with rfl|⟨rfl,hX⟩
 .simp_all
 cases cond ps[i].2.2.2.2.2 Ô (À ((Q.length:d)>4096)) with
 |true=>grind
 |false=>
  simp only[bne_self_eq_false,j7]
  have bnd:∀t,t∈cond (ps[i].2.2.2.1==0) [] O\/t∈cond (ps[i].2.2.2.2.1==0) [] (rsts ps[i].2.2.2.2.1 D)\/t∈cond ps[i].2.2.2.2.2 [] (Q.map (·.1))\/t∈clP (i:d) X -> -1000000000000<=t/\t<=1000000000000:=λt ht=>by
   rcases ht with ht|ht|ht|ht
   .grind
   .cases hx:(ps[i].2.2.2.2.1==(0:d))<;>rw[hx]at ht
    .obtain⟨s,hs,rfl⟩:=jAb ht;have:=hsml s hs;omega
    .simp at ht
   .grind
   .obtain⟨z,hz',rfl⟩:=List.mem_map.1 ht;grind
  have la:(cond (ps[i].2.2.2.1==0) [] O).length<=20000:=by grind
  have lb:(cond (ps[i].2.2.2.2.1==0) [] (rsts ps[i].2.2.2.2.1 D)).length<=4096:=by grind[jAa]
  have lc:(cond ps[i].2.2.2.2.2 [] (Q.map (·.1))).length<=10000:=by cases ps[i].2.2.2.2.2<;>simp<;>omega
  have ld:=jD4 (i:d) X;obtain⟨V',k1,k2,k3,_⟩:=jFA (p:=(i:d)) omg_ (cl:=X) omg_ omg_ bnd;have hB:cond (ps[i].2.2.2.2.1==0) [] (rsts ps[i].2.2.2.2.1 D)=rsts ps[i].2.2.2.2.1 D:=by grind[jyB]
  have hVV:V'=V:=jBq k2 t2 λy=>by
   rw[k3,t3,m0,hB];simp only[vAll,Å,or_assoc]
  rw[k1,hVV];by_cases h4:(V.length:d)>16384
  .grind
  .rw[j01 h4];refine⟨V,0,rfl,rfl,omg_,t2,λx hx=>?_⟩;have hx:=(k3 x).1 (hVV▸hx);simp only[vAll,Å,jEZ]at hx;have hbx:=bnd x.2.2;unfold SmV;rcases hx with⟨g1,g2,g3⟩|⟨g1,g2,g3⟩|⟨g1,g2,g3⟩|⟨g1,g2,g3⟩
   .have:=hbx (.inl g3);omega
   all_goals grind
end
end Go.Proofs.Pw
