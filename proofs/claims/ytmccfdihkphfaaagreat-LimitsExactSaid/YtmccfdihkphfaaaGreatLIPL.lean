/- r15.Clashes: the clashes of all pairs, sorted. -/
import Derived.Test.YtmccfdihkphfaaaGreatLIPK
import Derived.Test.YtmccfdihkphfaaaGreatLIPJ
import Derived.Test.YtmccfdihkphfaaaGreatLIPC
import Derived.Test.YtmccfdihkphfaaaGreatLIPI
import Derived.Test.YtmccfdihkphfaaaGreatLIPD
import Derived.Test.YtmccfdihkphfaaaGreatLIPF
import Derived.Test.YtmccfdihkphfaaaGreatLIPE
open _root_ renaming Int->D,List->Y,Nat->Z
open List renaming drop_eq_getElem_cons->G,drop_of_length_le->H,getElem_mem->I,getD->U,drop_zero->W,getElem_of_mem->X,append_assoc->À,getD_cons_zero->Á,length_nil->Â,nil_append->Ã,getD_cons_succ->Ä,length_append->Æ,length->É,mem_cons->Ì,pairwise_iff_getElem->Í,length_cons->Î,mem_append_right->Ñ,mem_append_left->Ò,take_add_one->Ô,take->Ú
open Int renaming ofNat->J,le_refl->Ù,toNat->Û
open Option renaming some->N,none->Õ
open Bool renaming not_false->Å,not_true->Ë,true->Ó,and_self->Ø
open Nat renaming le_refl->È
open List.Pairwise renaming nil->Ê
open Eq renaming trans->Ï
open Go Go.Lft
namespace Go.Proofs.Pw
section
variable{f g:D->D}{a b:D}{A B:SgL}(hA:Cov f b Õ a A)(hB:Cov g b Õ a B)
include hA hB
theorem jCX{i k:D}(hlA:A.length<=500000)(hlB:B.length<=500000):∀(n x y:Z)(c:D)(acc:ClL),(A.length-x)+(B.length-y)<=n->x<=A.length->y<=B.length->
  (∀(hx:x<A.length)(hy:y<B.length),c=max A[x].1 B[y].1/\A[x].1<=B[y].2.1/\B[y].1<=A[x].2.1)->((x=A.length\/y=B.length)->c=b)->a<=c->jf4 f g a b i k c acc->acc.length+n<=1000000->
  ∃out,jb4 i k A B (x:D) (y:D) acc=N out/\jf4 f g a b i k b out/\out.length<=acc.length+n:=by
 intro n;induction n with
 |zero=>intro x y c acc hn hx hy _ h2 _ hI hl;rw[jef];simp(disch:=omega)only[j5V,j2U,S0];grind
 |succ n ih=>
  intro x y c acc hn hx hy h1 h2 hac hI hl;rw[jef];simp only[j5V,j2U,show J A.length=(A.length:D) from rfl,show J B.length=(B.length:D) from rfl];by_cases hxa:x<A.length
  .rw[j00 (show (x:D)<(A.length:D) by omega)];by_cases hyb:y<B.length
   .obtain⟨c1,c2,c3⟩:=h1 hxa hyb;have ga:A.getD x (0,0,0)=A[x]:=by simp[U,hxa]
    have gb:B.getD y (0,0,0)=B[y]:=by simp[U,hyb]
    have pA:=hA.pos _ (I hxa);have pB:=hB.pos _ (I hyb);rw[j00 (show (y:D)<(B.length:D) by omega),j0B (show (0:D)<=(x:D) by omega) omg_,j0B (show (0:D)<=(y:D) by omega) omg_];simp only[j6,j8,ga,gb];obtain⟨d,hd⟩:∃d,d=min A[x].2.1 B[y].2.1:=⟨_,rfl⟩;have e1:(if B[y].1>A[x].1 then B[y].1 else A[x].1)=c:=by split<;>omega
    have e2:(if B[y].2.1<A[x].2.1 then B[y].2.1 else A[x].2.1)=d:=by split<;>omega
    rw[e1,e2];obtain⟨s1,s2,hcd⟩:=jym hA hB (i:=i) (k:=k) hxa hyb c1 hd c2 c3 hac hI
    have goX:∀acc':ClL,A[x].2.1<=B[y].2.1->jf4 f g a b i k d acc'->acc'.length<=acc.length+1->∃out,jb4 i k A B ((x:D)+1) (y:D) acc'=N out/\jf4 f g a b i k b out/\out.length<=acc.length+(n+1):=λacc' hlt hI' hl'=>by
     have:=ih (x+1) y d acc' omg_ omg_ hy (λhx' hy'=>by
      rcases hA.ch.nxt x hxa with⟨h',e⟩|⟨e,_⟩
      .have pA':=hA.pos _ (I hx');omega
      .omega) (λh=>by
      rcases hA.ch.nxt x hxa with⟨h',e⟩|⟨_,e⟩
      .omega
      .omega) omg_ hI' omg_
     grind
    have goY:∀acc':ClL,¬A[x].2.1<=B[y].2.1->jf4 f g a b i k d acc'->acc'.length<=acc.length+1->∃out,jb4 i k A B (x:D) ((y:D)+1) acc'=N out/\jf4 f g a b i k b out/\out.length<=acc.length+(n+1):=λacc' hlt hI' hl'=>by
     have:=ih x (y+1) d acc' omg_ hx omg_ (λhx' hy'=>by
      rcases hB.ch.nxt y hyb with⟨h',e⟩|⟨e,_⟩
      .have pB':=hB.pos _ (I hy');omega
      .omega) (λh=>by
      rcases hB.ch.nxt y hyb with⟨h',e⟩|⟨_,e⟩
      .omega
      .omega) omg_ hI' omg_
     grind
    rw[j07 (x:=(x:D)+1),j07 (x:=(y:D)+1)]
    have step:∀acc':ClL,jf4 f g a b i k d acc'->acc'.length<=acc.length+1->∃out,lpK (cond (decide (A[x].2.1<=B[y].2.1)) (N (Sum.inl (i,k,A,B,(x:D)+1,(y:D),acc'))) (N (Sum.inl (i,k,A,B,(x:D),(y:D)+1,acc')))) (λh=>jb4 h.1 h.2.1 h.2.2.1 h.2.2.2.1 h.2.2.2.2.1 h.2.2.2.2.2.1 h.2.2.2.2.2.2)=N out/\jf4 f g a b i k b out/\out.length<=acc.length+(n+1):=λacc' hI' hl'=>by
     by_cases hlt:A[x].2.1<=B[y].2.1
     all_goals simp_all[j04,j01]
    by_cases q1:c<d
    .rw[j00 q1,j6];by_cases q2:A[x].2.2=B[y].2.2
     .rw[j8T q2,j6];by_cases q3:0<=A[x].2.2
      .simp(disch:=omega)only[S0]
       simp_all
      .simp(disch:=omega)only[S0];exact step acc (s2 λh=>q3 h.1) omg_
     simp_all[j3Z]
    simp_all[j01]
   .simp(disch:=omega)only[S0];grind
  .simp(disch:=omega)only[S0];grind
theorem jyp{i k:D}(hab:a<=b)(hl:A.length+B.length<=500000):∃out,jjk i k A B=N out/\jf4 f g a b i k b out/\out.length<=A.length+B.length:=by
 by_cases e0:a=b
 .subst e0;obtain rfl:=hA.emp;obtain rfl:=hB.emp;refine⟨[],?_,⟨smp_,Ê,λt h1 h2=>omg_⟩,smp_⟩;simp only[jjk];rw[jef];simp only[j5V,j2U,Â];rw[j01 smp_];rfl
 have hab:a<b:=omg_;have nA:=List.length_pos_iff.2 (hA.ne hab);have nB:=List.length_pos_iff.2 (hB.ne hab)
 have fA:A[0].1=a:=by
  match A,hA,nA with
  |s::r,hA,_=>exact hA.1
 have fB:B[0].1=a:=by
  match B,hB,nB with
  |s::r,hB,_=>exact hB.1
 have pA:=hA.pos _ (I nA);have pB:=hB.pos _ (I nB);obtain⟨out,e,h1,h2⟩:=jCX hA hB (i:=i) (k:=k) omg_ omg_ (A.length+B.length) 0 0 a [] omg_ omg_ omg_ (λ_ _=>⟨omg_,omg_,omg_⟩) (λh=>omg_) (Ù _) ⟨smp_,Ê,λt h1 h2=>omg_⟩ sqo_;grind[jjk]
end
section
variable{F:Z->D->D}{a b:D}(hab:a<=b){K:Z}(hK:K<=16384){Ss:Y SgL}(hSl:Ss.length<=1000)(hS:∀j (h:j<Ss.length),Cov (F j) b Õ a Ss[j]/\Ss[j].length<=K)
include hab hK hSl hS
theorem pl15{i:Z}:∀(n k:Z)(L:ClL),k+n=Ss.length->i<k->jaQ F Ss.length a b i k L->L.length+2*K*n<=1000000->
  ∃L',jbl (i:D) (k:D) Ss L=N ((i:D),Ss,L')/\jaQ F Ss.length a b i Ss.length L'/\L'.length<=L.length+2*K*n
 |0,k,L,hk,_,hI,_=>by
  rw[jeV];simp(disch:=omega)only[j5J,S0];obtain rfl:k=Ss.length:=omg_;exact⟨L,rfl,hI,omg_⟩
 |n+1,k,L,hk,hik,hI,hl=>by
  have hmul:2*K*(n+1)=2*K*n+2*K:=Nat.mul_succ _ _;have hk':k<Ss.length:=omg_;have hi':i<Ss.length:=omg_;have gi:Ss.getD i ([]:SgL)=Ss[i]:=by simp[U,hi']
  have gk:Ss.getD k ([]:SgL)=Ss[k]:=by simp[U,hk']
  have si:=hS i hi';have sk:=hS k hk';obtain⟨O,e,hO,lO⟩:=jyp si.1 sk.1 (i:=(i:D)) (k:=(k:D)) hab omg_;obtain⟨L',e',hI',l'⟩:=pl15 (i:=i) n (k+1) (L++O) omg_ omg_ (hI.add hik hk' hO) (by rw[Æ];omega);rw[jeV];simp(disch:=omega)only[j5J,e,S0];exact⟨L',e',hI',by rw[Æ]at l';omega⟩
theorem jEF:∀(n i:Z)(L:ClL),i+n=Ss.length->jaQ F Ss.length a b i (i+1) L->L.length+2*K*tri n<=900000->
  ∃L',jbm (i:D) Ss L=N L'/\jaQ F Ss.length a b Ss.length (Ss.length+1) L'/\L'.length<=L.length+2*K*tri n
 |0,i,L,hi,hI,_=>by
  rw[jeW];simp(disch:=omega)only[j5K,S0];obtain rfl:i=Ss.length:=omg_;exact⟨L,rfl,hI,omg_⟩
 |n+1,i,L,hi,hI,hl=>by
  have hmul:2*K*tri (n+1)=2*K*tri n+2*K*n:=Nat.mul_add _ _ _;obtain⟨L1,e1,h1,l1⟩:=pl15 hab hK hSl hS (i:=i) n (i+1) L omg_ omg_ hI omg_;obtain⟨L2,e2,h2,l2⟩:=jEF n (i+1) L1 omg_ (h1.next (È _)) omg_;rw[jeW];simp(disch:=omega)only[j5K,show jbl (i:D) ((i:D)+1) Ss L=_ from e1,S0];exact⟨L2,e2,h2,omg_⟩
end
theorem jFx(x y:ClT):jeT x y=N (befC x y):=by
 grind[jeT,befC]
theorem jCY(rec:ClL->Option ClL){a b:ClL}(ha:a.length<=100000000)(hb:b.length<=100000000):∀(n i j:Z)(out:ClL),i<=a.length->j<=b.length->n=(a.length-i)+(b.length-j)->out.length+n<=200000000->
  jcs rec a b (i:D) (j:D) out=N (mgC n out (a.drop i) (b.drop j))
 |0,i,j,out,hi,hj,hn,_=>by
  rw[jg0];simp(disch:=omega)only[j6l,j6j,j6k,S0];rfl
 |n+1,i,j,out,hi,hj,hn,ho=>by
  have iha:=λ(x:ClT)(h:i<a.length)=>jCY rec ha hb n (i+1) j (out++[x]) omg_ hj omg_ sqo_;have ihb:=λ(x:ClT)(h:j<b.length)=>jCY rec ha hb n i (j+1) (out++[x]) hi omg_ omg_ sqo_;have hsm:∀x:ClT,decide (out.length+[x].length<=j03)=true:=λx=>j00 (by simp[j03];omega);rw[jg0];simp only[j6l,j6j,j6k,show J a.length=(a.length:D) from rfl,show J b.length=(b.length:D) from rfl]
  have ec:cond (decide ((i:D)<(a.length:D))) Ó (decide ((j:D)<(b.length:D)))=true:=by
   by_cases h:i<a.length
   .rw[j00 omg_];rfl
   .rw[j01 omg_,j00 (show (j:D)<(b.length:D) by omega)];rfl
  rw[ec,j6];by_cases hja:j=b.length
  .have hia:i<a.length:=omg_;have hga:a.getD i (0,0,0,0,0)=a[i]:=by simp[U,hia]
   simp(disch:=omega)only[S0];have:=iha a[i] hia;rw[show ((i+1:Z):D)=(i:D)+1 by omega]at this;refine Ï this ?_;rw[G hia,show b.drop j=[] from H omg_];rfl
  .have hjb:j<b.length:=omg_;have hgb:b.getD j (0,0,0,0,0)=b[j]:=by simp[U,hjb]
   rw[j3Z (show (j:D)≠(b.length:D) by omega),j7];by_cases hia:i<a.length
   .have hga:a.getD i (0,0,0,0,0)=a[i]:=by simp[U,hia]
    simp(disch:=omega)only[show jeT (b[j].1,b[j].2.1,b[j].2.2.1,b[j].2.2.2.1,b[j].2.2.2.2) (a[i].1,a[i].2.1,a[i].2.2.1,a[i].2.2.2.1,a[i].2.2.2.2)=_ from jFx b[j] a[i],S0];cases hc:befC b[j] a[i]with
    |false=>simp only[Å,j6,j04];have:=iha a[i] hia;rw[show ((i+1:Z):D)=(i:D)+1 by omega]at this;refine Ï this ?_;rw[G hia,G hjb];show _=N (cond (!(befC b[j] a[i])) _ _);rw[hc];rfl
    |true=>simp only[Ë,j7,j04];have:=ihb b[j] hjb;rw[show ((j+1:Z):D)=(j:D)+1 by omega]at this;refine Ï this ?_;rw[G hia,G hjb];show _=N (cond (!(befC b[j] a[i])) _ _);rw[hc];rfl
   .simp(disch:=omega)only[S0];have:=ihb b[j] hjb;rw[show ((j+1:Z):D)=(j:D)+1 by omega]at this;refine Ï this ?_;rw[G hjb,show a.drop i=[] from H omg_];rfl
theorem jA2:∀(n:Z)(l:ClL),l.length<=50000000->(jbQ j4b n l=Õ/\n<=l.length)\/jbQ j4b n l=N (soC l.length l)
 |0,l,_=> .inl ⟨rfl,Nat.zero_le _⟩
 |n+1,l,hl=>by
  show (jal (λv0=>jbQ j4b n v0) l=Õ/\_)\/jal (λv0=>jbQ j4b n v0) l=_;simp only[jal,show J l.length=(l.length:D) from rfl];by_cases h2:l.length<2
  .right;simp(disch:=omega)only[S0];cases hk:l.length<;>grind[soC]
  .rw[j01 (show¬(l.length:D)<2 by omega),j7,jei omg_,j07 (x:=(l.length:D)/2),show ((l.length:D)/2).toNat=l.length/2 by omega];simp(disch:=omega)only[S0];simp only[Ø,j6,W,List.take_length];have hA:(l.take (l.length/2)).length=l.length/2:=sqo_;have hB:(l.drop (l.length/2)).length=l.length-l.length/2:=smp_;rcases jA2 n (l.take (l.length/2)) omg_ with⟨e1,k1⟩|e1
   .grind
   .rw[e1,j4];rcases jA2 n (l.drop (l.length/2)) omg_ with⟨e2,k2⟩|e2
    .exact .inl ⟨by rw[e2];rfl,omg_⟩
    .right;rw[e2,j4];have o1:=(jo9 (l.take (l.length/2)).length (l.take (l.length/2)) omg_).2.length_eq;have o2:=(jo9 (l.drop (l.length/2)).length (l.drop (l.length/2)) omg_).2.length_eq;generalize hSA:soC (l.take (l.length/2)).length (l.take (l.length/2))=SA at *;generalize hSB:soC (l.drop (l.length/2)).length (l.drop (l.length/2))=SB at *;have:=jCY (λv0=>jbQ j4b n v0) (a:=SA) (b:=SB) omg_ omg_ (SA.length+SB.length) 0 0 [] omg_ omg_ omg_ sqo_;rw[show ((0:Z):D)=0 from rfl,W,W]at this;rw[this,j4];obtain⟨k,hk⟩:∃k,l.length=k+1:=⟨l.length-1,omg_⟩;grind[soC,jpw]
theorem jsP{l:ClL}(hl:l.length<=50000000):jkl l=N (soC l.length l):=
 jiV ⟨l.length+1,(jA2 (l.length+1) l hl).resolve_left (λh=>by have:=h.2;omega)⟩ (λn y h=>by
  grind[jA2])
theorem jEG{R:ClT->ClT->Prop}:∀{L:ClL},L.Pairwise R->∀{x y},x∈L->y∈L->x≠y->R x y\/R y x
 |[],_,_,_,hx,_,_=>by simp at hx
 |z::r,h,x,y,hx,hy,e=>by
  obtain⟨h1,h2⟩:=List.pairwise_cons.1 h;rcases List.mem_cons.1 hx with e1|hx'
  .rcases List.mem_cons.1 hy with e2|hy'
   .exact absurd (e1.trans e2.symm) e
   .rw[e1];exact .inl (h1 _ hy')
  .rcases List.mem_cons.1 hy with e2|hy'
   .rw[e2];exact .inr (h1 _ hx')
   .exact jEG h2 hx' hy' e
theorem jCZ{L M:ClL}(hL:L.Pairwise λx y=>x.2.2.2.1=y.2.2.2.1->jla x y)(hM:M.Pairwise λx y=>x.2.2.2.1=y.2.2.2.1->jla x y)(h:∀z,z∈M↔z∈L):soC M.length M=srtK keyC L:=by
 have nd:∀{l:ClL},(l.Pairwise λx y=>x.2.2.2.1=y.2.2.2.1->jla x y)->l.Nodup:=λh=>h.imp (λh e=>by
  grind[jla])
 obtain⟨s1,s2⟩:=jo9 M.length M omg_;have hp:(soC M.length M).Perm (srtK keyC L):=s2.trans (((List.perm_ext_iff_of_nodup (nd hM) (nd hL)).2 h).trans (jax L).symm)
 have hk:(srtK keyC L).Pairwise leF:=(jyi hL).imp (λ{x y} h=>by
  grind[jpu,keyC,jla])
 refine hp.eq_of_pairwise (le:=leF) (λx y hx hy h1 h2=>?_) s1 hk;grind[jpu,jEG]
section
variable{zs:Y j0K}{ps:Y j0k}{cs:Y CalT}{ss:Y j0R}
theorem jEH{a b:D}(ha:0<=a)(hab:a<=b)(hb:b<=8589934592)(hlen:b-a<=34560000):j5E a b=N Ó/\jaW a b=N true:=by
 have:j5E a b=N true:=by grind[j5E,j24]
 exact⟨this,this⟩
theorem jEI(hv:CV (zs,ps,cs,ss))(hc:CG (zs,ps,cs,ss)){i:Z}(hi:i<ss.length){a b:D}(ha:0<=a)(hab:a<=b)(hb:b<=8589934592)(hlen:b-a<=34560000) :
  ∃S,j4m ((zs,ps,cs,ss),zs.map tb) ss[i] a b=N S/\Cov (whoS zs cs ss[i]) b Õ a S/\jbK (zs,ps,cs,ss) (i:D) a b=N (cond (decide ((S.length:D)>16384)) ([],5) (S,0)):=by
 have hs:=hc.sc _ (I hi);have hsv:=hv.s _ (I hi);have hel:=hsv.el;obtain⟨o,eo,o1,o2⟩:=jCT hc.g hs hsv.ll omg_ (ss:=ss) ha hab hb hlen;obtain⟨o',eo',p1⟩:=jsL hc.g hc hi ha hab hb hlen;have he:o'=o:=Cov.uniq p1 o1;subst he;refine⟨o',eo,o1,?_⟩;simp(disch:=omega)only[jbK,jmj,hc.r8,(jEH ha hab hb hlen).1,eo',S0];grind
theorem jBg(hv:CV (zs,ps,cs,ss))(hc:CG (zs,ps,cs,ss))(hl:ss.length<=100){a b:D}(ha:0<=a)(hab:a<=b)(hb:b<=8589934592)(hlen:b-a<=34560000):∀(n i:Z)(acc:Y SgL),i+n=ss.length->acc.length=i->
  (∀j (h:j<acc.length) (h':j<ss.length),Cov (whoS zs cs ss[j]) b Õ a acc[j]/\acc[j].length<=16384)->
  (j43 a b ss (ss.length:D) (i:D) zs ps cs ss (zs.map tb) acc=N (.inl 5)/\j7L a b (i:D) zs ps cs ss acc=N (.inl 5))\/
  ∃Ss,j43 a b ss (ss.length:D) (i:D) zs ps cs ss (zs.map tb) acc=N (.inr Ss)/\j7L a b (i:D) zs ps cs ss acc=N (.inr Ss)/\Ss.length=ss.length/\
   ∀j (h:j<Ss.length) (h':j<ss.length),Cov (whoS zs cs ss[j]) b Õ a Ss[j]/\Ss[j].length<=16384
 |0,i,acc,hi,hai,hg=>by
  rw[jaJ,jeU];simp(disch:=omega)only[j34,j5I,S0]
  simp_all
 |n+1,i,acc,hi,hai,hg=>by
  have hi':i<ss.length:=omg_;have hgd:ss.getD i (ByteArray.empty,[],[])=ss[i]:=by simp[U,hi']
  obtain⟨S,e,hS,e'⟩:=jEI hv hc hi' ha hab hb hlen;rw[jaJ,jeU];simp only[j34,j5I,show J ss.length=(ss.length:D) from rfl];rw[j00 (show (i:D)<(ss.length:D) by omega),j0B (show (0:D)<=(i:D) by omega) omg_];simp only[j6,j8,hgd];rw[show j4m ((zs,ps,cs,ss),zs.map tb) (ss[i].1,ss[i].2.1,ss[i].2.2) a b=_ from e,e'];simp only[j4,show J S.length=(S.length:D) from rfl];by_cases h4:(S.length:D)>16384
  .rw[j00 h4];exact .inl ⟨rfl,rfl⟩
  .have h:=jBg hv hc hl ha hab hb hlen n (i+1) (acc++[S]) omg_ sqo_ (λj h h'=>by
    grind)
   simp(disch:=omega)only[S0];exact h
theorem jFy(hv:CV (zs,ps,cs,ss))(hc:CG (zs,ps,cs,ss))(hl:ss.length<=4){a b:D}(ha:0<=a)(hab:a<=b)(hb:b<=8589934592)(hlen:b-a<=34560000) :
  ∃L e,j7s (zs,ps,cs,ss) a b=N (L,e)/\j6v (zs,ps,cs,ss) a b=N (L,e)/\L.length<=16384/\(e=5\/e=0/\∀z∈L,a<=z.2.2.2.1/\z.2.2.2.1<b):=by
 obtain⟨w1,w1'⟩:=jEH ha hab hb hlen;simp only[j7s,j6v,hc.of,hc.r8,j4,Ë,j7,bne_self_eq_false,w1,w1',show J ss.length=(ss.length:D) from rfl];rcases jBg hv hc omg_ ha hab hb hlen ss.length 0 [] omg_ rfl (λj h=>by simp at h) with⟨g1,g2⟩|⟨Ss,g1,g2,h1,h2⟩
 .rw[show j43 a b ss (ss.length:D) 0 zs ps cs ss (zs.map tb) []=_ from g1,show j7L a b 0 zs ps cs ss []=_ from g2];exact⟨[],5,rfl,rfl,smp_,.inl rfl⟩
 have hS:∀j (h:j<Ss.length),Cov ((λj=>whoS zs cs (ss.getD j (ByteArray.empty,[],[]))) j) b Õ a Ss[j]/\Ss[j].length<=16384:=λj h=>by
  grind
 have htri:tri Ss.length<=6:=by have:Ss.length=0\/Ss.length=1\/Ss.length=2\/Ss.length=3\/Ss.length=4:=omg_;rcases this with h|h|h|h|h<;>rw[h]<;>decide
 have hmul:2*16384*tri Ss.length<=2*16384*6:=Nat.mul_le_mul_left _ htri;have h0:jaQ (λj=>whoS zs cs (ss.getD j (ByteArray.empty,[],[]))) Ss.length a b 0 (0+1) []:=⟨smp_,Ê,λi' k' h1 h2 h3=>omg_⟩;obtain⟨L,p1,p2,p3⟩:=pl3 hab (È 16384) omg_ hS Ss.length 0 [] omg_ h0 (by rw[Â];omega);obtain⟨M,q1,q2,q3⟩:=jEF hab (È 16384) omg_ hS Ss.length 0 [] omg_ h0 (by rw[Â];omega);rw[Â]at p3 q3;have hm:∀z,z∈M↔z∈L:=λz=>⟨q2.sub p2 z,p2.sub q2 z⟩;have hso:=jCZ p2.pw q2.pw hm;have hlen2:M.length=L.length:=by have:=congrArg É hso;rw[jcB,(jo9 M.length M omg_).2.length_eq]at this;exact this
 have hin:∀z∈L,a<=z.2.2.2.1/\z.2.2.2.1<b:=λz hz=>by
  obtain⟨i',k',g1,g2,g3,g4⟩:=p2.ok z hz;have:=g4.lo;have:=g4.lt;have:=g4.hi;omega
 have hsm:SmK L:=λz hz=>by
  grind[keyC]
 rw[show j43 a b ss (ss.length:D) 0 zs ps cs ss (zs.map tb) []=_ from g1,show j7L a b 0 zs ps cs ss []=_ from g2];simp only[j4,j8D,show J Ss.length=(Ss.length:D) from rfl];rw[show j7c (Ss.length:D) 0 Ss []=_ from p1,show jbm 0 Ss []=_ from q1];simp only[j4,show J L.length=(L.length:D) from rfl,hlen2];by_cases h4:(L.length:D)>16384
 .rw[j00 h4];exact⟨[],5,rfl,rfl,smp_,.inl rfl⟩
 .rw[j01 h4,j7,j7,show j0H L=_ from jvo hsm omg_,jsP omg_,hso];exact⟨srtK keyC L,0,rfl,rfl,by rw[jcB];omega,.inr ⟨rfl,λz hz=>hin z ((jax L).mem_iff.1 hz)⟩⟩
end
def wk1(t:D)(s:D×D):Int:=max 0 (min s.2 t-max s.1 (t-604800))
def wkd(t:D):SL->D
 |[]=>0
 |s::r=>wk1 t s+wkd t r
def ind(t:D)(s:D×D):Int:=if s.1<=t/\t<s.2 then 1 else 0
def chi(t:D):SL->D
 |[]=>0
 |s::r=>ind t s+chi t r
theorem jyq{t:D}{s:D×D}:0<=wk1 t s:=by unfold wk1;omega
theorem joa{t:D}:∀{l:SL},0<=wkd t l
 |[]=>by simp[wkd]
 |s::r=>by
  have:=joa (t:=t) (l:=r);have:=jyq (t:=t) (s:=s);simp only[wkd];omega
theorem ju4{a t:D}(hat:a<=t):∀{l:SL},(∀s∈l,¬(a<s.1/\s.1<=t)/\¬(a<s.2/\s.2<=t))->chi t l=chi a l
 |[],_=>by simp[chi]
 |s::r,h=>by
  have ih:=ju4 hat (l:=r) (λu hu=>h u (by simp[hu]));have:=h s smp_;simp only[chi,ind];rw[ih];congr 1;by_cases h1:s.1<=a/\a<s.2
  .rw[if_pos h1,if_pos omg_]
  .rw[if_neg h1,if_neg omg_]
theorem jro{t:D}:∀{l:SL}{p:D},StS p l->wkd t l<=max 0 (t-max (p+1) (t-604800))
 |[],_,_=>by simp only[wkd];omega
 |s::r,p,h=>by
  have h1:=h.1;have h2:=h.2.1;have ih:=jro (t:=t) (l:=r) h.2.2;simp only[wkd,wk1];omega
theorem jEJ{l:SL}(hl:l.length<=1000000){t:D}(ht0 : -1000000000000<=t)(ht1:t<=1000000000000)(hb:Sml l):∀(n i:Z)(acc:D),i+n=l.length->0<=acc->acc+wkd t (l.drop i)<=604800->
  jbT t acc l (l.length:D) (i:D)=N (acc+wkd t (l.drop i))
 |0,i,acc,hi,_,_=>by
  rw[jd1];simp(disch:=omega)only[j4q,H,S0];simp[wkd]
 |n+1,i,acc,hi,h0,hle=>by
  have hlt:i<l.length:=omg_;have hgd:l.getD i (0,0)=l[i]:=by simp[U,hlt]
  rw[G hlt]at hle ⊢;have hs:=hb _ (I hlt);have hw:=jyq (t:=t) (s:=l[i]);have hr:=joa (t:=t) (l:=l.drop (i+1));simp only[wkd]at hle ⊢;have ih:=jEJ hl ht0 ht1 hb n (i+1) (acc+wk1 t l[i]) omg_ omg_ omg_;rw[jd1];simp only[j4q];rw[j00 (show (i:D)<(l.length:D) by omega),j2j];simp only[j6,j8,hgd]
  have e:(if w64 ((if t<l[i].2 then t else l[i].2)-(if w64 (t-604800)>l[i].1 then w64 (t-604800) else l[i].1))>0 then w64 ((if t<l[i].2 then t else l[i].2)-(if w64 (t-604800)>l[i].1 then w64 (t-604800) else l[i].1)) else 0:D)=wk1 t l[i]:=by
   rw[j07 (x:=t-604800)];have e1:(if t<l[i].2 then t else l[i].2:D)=min l[i].2 t:=by split<;>omega
   have e2:(if t-604800>l[i].1 then t-604800 else l[i].1:D)=max l[i].1 (t-604800):=by split<;>omega
   rw[e1,e2,j07];unfold wk1;split<;>omega
  rw[e,j07 (x:=acc+wk1 t l[i]),j07 (x:=(i:D)+1),j04];rw[show ((i+1:Z):D)=(i:D)+1 by omega]at ih;rw[ih];congr 1;omega
theorem jjM{l:SL}(hl:l.length<=1000000){t:D}(ht0 : -1000000000000<=t)(ht1:t<=1000000000000)(hb:Sml l){p:D}(h:StS p l):j8L l t=N (wkd t l):=by
 have hle:=jro (t:=t) h;have:=jEJ hl ht0 ht1 hb l.length 0 0 omg_ omg_ (by simp only[W];omega);simp(disch:=omega)only[j8L,S0];rw[show ((0:Z):D)=0 from rfl,W,Int.zero_add]at this;rw[this];rfl
def bor:SL->Y D
 |[]=>[]
 |s::r=>s.1::s.2::(s.1+604800)::(s.2+604800)::bor r
theorem jyr:∀l:SL,(bor l).length=4*l.length
 |[]=>rfl
 |s::r=>by simp only[bor,Î,jyr r];omega
theorem jEK{s0:SL}{m f t:D}{l:SL}(hl:l.length<=1000000)(hb:Sml l):∀(n i:Z)(acc:Y D),i+n=l.length->acc.length<=4*i->
  jd2 s0 m f t l (l.length:D) (i:D) acc=N (s0,m,f,t,acc++bor (l.drop i))
 |0,i,acc,hi,_=>by
  rw[jdS];simp(disch:=omega)only[j57,H,S0];simp[bor]
 |n+1,i,acc,hi,ha=>by
  have hlt:i<l.length:=omg_;have hgd:l.getD i (0,0)=l[i]:=by simp[U,hlt]
  have hs:=hb _ (I hlt);have ih:=jEK (s0:=s0) (m:=m) (f:=f) (t:=t) hl hb n (i+1) (acc++[l[i].1,l[i].2,l[i].1+604800,l[i].2+604800]) omg_ sqo_;rw[jdS];simp(disch:=omega)only[G hlt,j57,bor,S0];rw[show ((i+1:Z):D)=(i:D)+1 by omega]at ih;rw[ih];simp
structure WkO(l:SL)(m a b:D)(n:Z)(O:Y D):Prop where
 ok:∀e∈O,a<e/\e<=b/\wkd e l=m+1/\wkd (e-1) l=m
 pw:O.Pairwise (· < ·)
 all:O≠[]\/m<wkd a l\/∀t,a<=t->t<=b->wkd t l<=m
 len:2*O.length<=n+(if wkd a l<=m then 1 else 0)
def rst(jlV:D):D->SL->Y D
 |_,[]=>[]
 |p,s::r=>if s.1-p<jlV then s.1::rst jlV s.2 r else rst jlV s.2 r
theorem jys(jlV:D):∀(l:SL)(p:D),(rst jlV p l).length<=l.length
 |[],_=>by simp[rst]
 |s::r,p=>by
  have:=jys jlV r s.2;simp only[rst];split<;>simp only[Î]<;>omega
theorem jD0{l:SL}(hl:l.length<=1000000)(hb:Sml l){k:D}:∀(n i:Z)(acc:Y D),i+1+n=l.length->acc.length<=i->∀(h:i<l.length),
  jd4 l k ((i:D)+1) acc=N (acc++rst k l[i].2 (l.drop (i+1)))
 |0,i,acc,hi,_,h=>by
  rw[ja8];simp(disch:=omega)only[j3F,H,S0];simp[rst]
 |n+1,i,acc,hi,ha,h=>by
  have hlt:i+1<l.length:=omg_;have hg0:l.getD i (0,0)=l[i]:=by simp[U,h]
  have hg1:l.getD (i+1) (0,0)=l[i+1]:=by simp[U,hlt]
  have b0:=hb _ (I h);have b1:=hb _ (I hlt);rw[ja8,G hlt];simp only[j3F,rst,show J (É l)=(l.length:D) from rfl];rw[j00 (show (i:D)+1<(l.length:D) by omega),j0B (show (0:D)<=(i:D)+1 by omega) omg_,j07 (x:=(i:D)+1-1),show (i:D)+1-1=(i:D) by omega,j0B (show (0:D)<=(i:D) by omega) omg_];simp only[j6,j8,show ((i:D)+1).toNat=i+1 by omega,hg0,hg1];rw[j07 (x:=l[i+1].1-l[i].2),j07 (x:=(i:D)+1+1)];by_cases hq:l[i+1].1-l[i].2<k
  .have ih:=jD0 hl hb (k:=k) n (i+1) (acc++[l[i+1].1]) omg_ sqo_ hlt;rw[show ((i+1:Z):D)+1=(i:D)+1+1 by omega]at ih;simp(disch:=omega)only[if_pos hq,ih,S0];simp
  .have ih:=jD0 hl hb (k:=k) n (i+1) acc omg_ omg_ hlt;rw[show ((i+1:Z):D)+1=(i:D)+1+1 by omega]at ih;rw[j01 hq,if_neg hq,j7,j04,ih]
def rsts(k:D):SL->Y D
 |[]=>[]
 |s::r=>rst k s.2 r
theorem jA3{l:SL}(hl:l.length<=1000000)(hb:Sml l)(k:D):jdV l k=N (rsts k l):=by
 simp only[jdV];cases l with
 |nil=>rw[ja8];simp(disch:=omega)only[j3F,S0];rfl
 |cons s r=>have:=jD0 hl hb (k:=k) r.length 0 [] sqo_ smp_ smp_;rw[show ((0:Z):D)+1=1 by omega]at this;rw[this];rfl
theorem jEL{l:SL}(hl:l.length<=1000000):∀(n i:Z)(acc:Y D),i+n=l.length->acc.length<=i->
  j9s l (l.length:D) (i:D) acc=N (acc++(l.drop i).map (·.1))
 |0,i,acc,hi,_=>by
  rw[jd5];simp(disch:=omega)only[j4r,H,S0];simp
 |n+1,i,acc,hi,ha=>by
  have hlt:i<l.length:=omg_;have hgd:l.getD i (0,0)=l[i]:=by simp[U,hlt]
  have ih:=jEL hl n (i+1) (acc++[l[i].1]) omg_ sqo_;rw[jd5];simp(disch:=omega)only[G hlt,j4r,S0];rw[show ((i+1:Z):D)=(i:D)+1 by omega]at ih;rw[ih];simp only[List.map_cons,À,List.singleton_append]
theorem jyt{l:SL}(hl:l.length<=1000000):jck l=N (l.map (·.1)):=by
 have:=jEL hl l.length 0 [] omg_ smp_;rw[W,Ã]at this;simp(disch:=omega)only[jck,S0];rw[show j9s l (l.length:D) 0 []=_ from this];rfl
theorem eqV(x y:SgT):(x.1==y.1&&(x.2.1==y.2.1&&x.2.2==y.2.2))=decide (x=y):=by
 grind
def ltV(x y:SgT):Prop:=x.2.2<y.2.2\/x.2.2=y.2.2/\(x.1<y.1\/x.1=y.1/\x.2.1<y.2.1)
instance(x y:SgT):Decidable (ltV x y):=by unfold ltV;infer_instance
def leV(x y:SgT):Prop:=x.2.2<y.2.2\/x.2.2=y.2.2/\(x.1<y.1\/x.1=y.1/\x.2.1<=y.2.1)
theorem jBh{x y:SgT}(h:leV x y)(hn:y≠x):ltV x y:=by
 grind[leV,ltV]
def ddV:SgT->SgL->SgL
 |_,[]=>[]
 |p,x::r=>if x=p then ddV p r else x::ddV x r
theorem jsQ:∀(l:SgL)(p:SgT),∀x,x∈p::ddV p l↔x∈p::l
 |[],_,_=>Iff.rfl
 |y::r,p,x=>by
  unfold ddV;split
  .rename_i h;subst h;rw[jsQ r y x];simp
  .have:=jsQ r y x;rw[Ì,this,Ì,Ì,Ì]
theorem jsR:∀(l:SgL)(p:SgT),(p::l).Pairwise leV->(p::ddV p l).Pairwise ltV
 |[],_,_=>by simp[ddV]
 |y::r,p,h=>by
  have h1:=List.pairwise_cons.1 h;unfold ddV;split
  .rename_i h;subst h;exact jsR r y h1.2
  .rename_i hne;have ih:=jsR r y h1.2;refine List.pairwise_cons.2 ⟨λz hz=>?_,ih⟩;have hy:=jBh (h1.1 y smp_) hne;rcases List.mem_cons.1 hz with rfl|hz
   .exact hy
   .have:=(List.pairwise_cons.1 ih).1 z hz;unfold ltV at this hy ⊢;omega
theorem jyu{l:SgL}(hl:l.length<=1000000){k0:Z}:∀(n s k:Z)(b:SgL),k0+s+n=l.length->1<=s->k<=k0+s-1->b.length=l.length->b.drop k=l.drop k->
  ∃(m:Z)(b':SgL),j0X (k:D) (k0:D) (s:D) b=N ((m:D),b')/\b'.length=l.length/\m<=l.length/\b'.take m=b.take k++ddV (l.getD (k0+s-1) (0,0,0)) (l.drop (k0+s))
 |0,s,k,b,hn,hs,hk,hb,hd=>by
  rw[j2v];simp only[j0m,j8,show J (b.length-k0)=((b.length-k0:Z):D) from rfl];rw[j01 omg_,j7,j0e,H omg_];exact⟨k,b,rfl,hb,omg_,by simp[ddV]⟩
 |n+1,s,k,b,hn,hs,hk,hb,hd=>by
  have hlt:k0+s<l.length:=omg_
  have bget:∀j,k<=j->b[j]? = l[j]? := λj hj=>by
   have h:=congrArg (λx=>x[j-k]?) hd;grind
  have g1:b.getD (k0+s) (0,0,0)=l[k0+s]:=by grind
  have g2:b.getD (k0+(s-1)) (0,0,0)=l.getD (k0+s-1) (0,0,0):=by grind
  have e1:l.getD (k0+(s+1)-1) (0,0,0)=l[k0+s]:=by
   simp_all
  rw[j2v];simp only[j0m,j8,show J (b.length-k0)=((b.length-k0:Z):D) from rfl,show J k0=(k0:D) from rfl];rw[j00 (show (s:D)<((b.length-k0:Z):D) by omega),j0B (show (0:D)<=(s:D) by omega) omg_,j07 (x:=(s:D)-1),j0B (show (0:D)<=(s:D)-1 by omega) omg_,j0B (show (0:D)<=(k:D) by omega) omg_,j07 (x:=(k:D)+1),j07 (x:=(s:D)+1),show ((s:D)-1).toNat=s-1 by omega,G hlt];simp only[j6,g1,g2,ddV,eqV];by_cases hc:l[k0+s]=l.getD (k0+s-1) (0,0,0)
  .rw[j00 hc,if_pos hc,Ë,j7,j04];have ih:=jyu hl (k0:=k0) n (s+1) k b omg_ omg_ omg_ hb hd;rw[e1,hc,show k0+(s+1)=k0+s+1 by omega]at ih;exact ih
  .rw[j01 hc,if_neg hc,Å,j6,j04]
   have ih:=jyu hl (k0:=k0) n (s+1) (k+1) (b.set k l[k0+s]) omg_ omg_ omg_ (by simpa using hb) (by
    rw[List.drop_set_of_lt omg_];have:=congrArg (List.drop 1) hd;grind[List.drop_drop])
   rw[e1,show k0+(s+1)=k0+s+1 by omega]at ih;obtain⟨m,b',r1,r2,r3,r4⟩:=ih;refine⟨m,b',r1,r2,r3,?_⟩;grind[Ô,List.take_set_of_le]
def cpV:SgL->SgL
 |[]=>[]
 |a::r=>a::ddV a r
theorem jBi{l:SgL}(hl:l.length<=1000000):∀(n k:Z),k+n=l.length->1<=k->cpV l=l.take k++ddV (l.getD (k-1) (0,0,0)) (l.drop k)->
  (∃(m:Z)(b:SgL),j0b (k:D) l=N (.inl ((m:D),b))/\b.take m=cpV l)\/(j0b (k:D) l=N (.inr l)/\cpV l=l)
 |0,k,hn,hk,hT=>by
  grind[j2w,j0n,j0e,ddV]
 |n+1,k,hn,hk,hT=>by
  have hlt:k<l.length:=omg_;have g1:l.getD k (0,0,0)=l[k]:=by simp[hlt]
  rw[G hlt]at hT;simp only[ddV]at hT;rw[j2w];simp only[j0n,show J l.length=(l.length:D) from rfl];rw[j00 (show (k:D)<(l.length:D) by omega),j0B (show (0:D)<=(k:D) by omega) omg_,j07 (x:=(k:D)-1),j0B (show (0:D)<=(k:D)-1 by omega) omg_,j07 (x:=(k:D)+1),show ((k:D)-1).toNat=k-1 by omega,j00 (show (0:D)<=(k:D) by omega),j00 (show (k:D)<=(l.length:D) by omega)];simp only[j6,j8,g1,Ø,show J k=(k:D) from rfl,eqV];by_cases hc:l[k]=l.getD (k-1) (0,0,0)
  .rw[if_pos hc]at hT;obtain⟨m,b,r1,r2,r3,r4⟩:=jyu hl (k0:=k) n 1 k l omg_ omg_ omg_ rfl rfl;rw[show k+1-1=k by omega,g1,hc,<-hT]at r4;rw[j00 hc,j6,show j0X (k:D) (k:D) 1 l=_ from r1];simp(disch:=omega)only[Bool.true_and,S0];grind[j0e]
  .rw[if_neg hc]at hT;rw[j01 hc,j7,j04];refine jBi hl n (k+1) omg_ omg_ ?_;grind[Ô]
theorem jsS{l:SgL}(hl:l.length<=1000000):∃n m,j0E l=N (n,m)/\m.take n.toNat=cpV l:=by
 simp(disch:=omega)only[j0E,S0];by_cases h2:l.length<2
 .rw[j00 omg_,j6];refine⟨_,_,rfl,?_⟩;rw[j8,List.take_of_length_le (È _)];match l,h2 with
  |[],_=>rfl
  |[a],_=>rfl
  |_::_::_,h2=>simp at h2;omega
 .rw[j01 omg_,j7]
  have hT:cpV l=l.take 1++ddV (l.getD (1-1) (0,0,0)) (l.drop 1):=by
   match l,h2 with
   |[],h2=>simp at h2
   |a::r,_=>rfl
  rcases jBi hl (l.length-1) 1 omg_ omg_ hT with⟨m,b,e,h⟩|⟨e,h⟩
  .rw[show j0b 1 l=_ from e];refine⟨_,_,rfl,?_⟩;simpa using h
  .rw[show j0b 1 l=_ from e];refine⟨_,_,rfl,?_⟩;rw[h];simp
theorem jD1{l:SgL}(x:SgT):x∈cpV l↔x∈l:=by
 cases l with
 |nil=>exact Iff.rfl
 |cons a r=>exact jsQ r a x
theorem jD2{l:SgL}(h:l.Pairwise leV):(cpV l).Pairwise ltV:=by
 cases l with
 |nil=>exact .nil
 |cons a r=>exact jsR r a h
theorem jsT:∀(l:SgL)(p:SgT),(ddV p l).length<=l.length
 |[],_=>È _
 |y::r,p=>by
  unfold ddV;split
  .have:=jsT r p;simp;omega
  .have:=jsT r y;simp;omega
theorem jD3(l:SgL):(cpV l).length<=l.length:=by
 cases l<;>grind[jsT,cpV]
theorem jEM(x y:SgT):(j5n x y).getD 0=cond (x.2.2 != y.2.2) (w64 (x.2.2-y.2.2)) (cond (x.1 != y.1) (w64 (x.1-y.1)) (w64 (x.2.1-y.2.1))):=by
 grind[j5n]
def SmV(x:SgT):Prop:=(-1000000000000<=x.1/\x.1<=1000000000000)/\(-1000000000000<=x.2.1/\x.2.1<=1000000000000)/\(-1000000000000<=x.2.2/\x.2.2<=1000000000000)
theorem jBj{x y:SgT}(hx:(-1152921504606846976<=x.1/\x.1<=1152921504606846976)/\(-1152921504606846976<=x.2.1/\x.2.1<=1152921504606846976)/\(-1152921504606846976<=x.2.2/\x.2.2<=1152921504606846976))
  (hy:(-1152921504606846976<=y.1/\y.1<=1152921504606846976)/\(-1152921504606846976<=y.2.1/\y.2.1<=1152921504606846976)/\(-1152921504606846976<=y.2.2/\y.2.2<=1152921504606846976)):(j5n x y).getD 0<0↔ltV x y:=by
 grind[jEM,ltV,j24]
theorem jA4:Go.Sort.SWO (Go.Proofs.ltOf λ(x y:Go.Lft.Sml (.pair (.int .i64) (.pair (.int .i64) (.int .i64))))=>(j5n x.1 y.1).getD 0):=by
 have key:∀x:Go.Lft.Sml (.pair (.int .i64) (.pair (.int .i64) (.int .i64))),(-1152921504606846976<=(x.1.1:D)/\(x.1.1:D)<=1152921504606846976)/\(-1152921504606846976<=(x.1.2.1:D)/\(x.1.2.1:D)<=1152921504606846976)/\(-1152921504606846976<=(x.1.2.2:D)/\(x.1.2.2:D)<=1152921504606846976):=λx=>by
  grind[j5O]
 have e:∀x y:Go.Lft.Sml (.pair (.int .i64) (.pair (.int .i64) (.int .i64))),Go.Proofs.ltOf (λ(x y:Go.Lft.Sml (.pair (.int .i64) (.pair (.int .i64) (.int .i64))))=>(j5n x.1 y.1).getD 0) x y=decide (ltV x.1 y.1):=λx y=>by
  grind[ltOf,jBj]
 refine⟨λx=>?_,λx y z=>?_,λx y z=>?_⟩;all_goals grind[ltV]
theorem ju5{l:SgL}(hl:l.length<=1000000000)(hb:∀x∈l,SmV x):∃L,j0a l=N L/\L.Perm l/\L.Pairwise leV:=by
 obtain⟨L,e,hp,hs⟩:=joR (a:= .pair (.int .i64) (.pair (.int .i64) (.int .i64))) (cf:=λx y=>(j5n x y).getD 0) jA4 (xs:=l) (λx hx=>by
  grind[SmV,j5O]) omg_
 refine⟨L,e,hp,hs.imp_of_mem λ{x y} hx hy h=>?_⟩;have h1:=hb x (hp.mem_iff.1 hx);have h2:=hb y (hp.mem_iff.1 hy);unfold SmV at h1 h2;have:¬ltV y x:=λq=>h ((jBj (x:=y) (y:=x) omg_ omg_).2 q);grind[ltV,leV]
end Go.Proofs.Pw
open Go Go.Lft
set_option maxHeartbeats 1000000
namespace Go.Proofs.Pw
def clP(p:D)(cl:ClL):Y Int:=(cl.filter λz=>z.1==p).map (·.2.2.2.1)
theorem ju6(p:D)(z:ClT)(r:ClL):clP p (z::r)=cond (z.1==p) (z.2.2.2.1::clP p r) (clP p r):=by
 grind[clP]
theorem jD4(p:D)(cl:ClL):(clP p cl).length<=cl.length:=by
 grind[clP]
theorem jD5{p:D}{A B C:Y D}{cl:ClL}(hl:cl.length<=1000000):∀(n j:Z)(acc:Y D),j+n=cl.length->acc.length<=j->
  j6B p (cl.length:D) (j:D) cl A B C acc=N (p,A,B,C,acc++clP p (cl.drop j))
 |0,j,acc,hj,_=>by
  rw[ja9];simp(disch:=omega)only[j2E,H,S0];simp[clP]
 |n+1,j,acc,hj,ha=>by
  have hj':j<cl.length:=omg_;have hgd:cl.getD j (0,0,0,0,0)=cl[j]:=by simp[U,hj']
  rw[ja9,G hj',ju6];simp only[j2E];rw[j00 (show (j:D)<(cl.length:D) by omega),j2j];simp only[j6,j8,hgd];rw[j07 (x:=(j:D)+1)];cases hq:(cl[j].1==p) with
  |true=>have ih:=jD5 (p:=p) (A:=A) (B:=B) (C:=C) hl n (j+1) (acc++[cl[j].2.2.2.1]) omg_ sqo_;rw[show ((j+1:Z):D)=(j:D)+1 by omega]at ih;simp(disch:=omega)only[ih,À,S0];rfl
  |false=>have ih:=jD5 (p:=p) (A:=A) (B:=B) (C:=C) hl n (j+1) acc omg_ omg_;grind[j04]
def vK(k p:D)(L:Y D):SgL:=L.map λt=>(k,p,t)
theorem jEN{p k:D}{F:Y (Y D)}{i:D}{L:Y D}(hl:L.length<=1000000):∀(n j:Z)(acc:SgL),j+n=L.length->acc.length<=10000000+j->
  j3G p k F i L (L.length:D) (j:D) acc=N (p,F,i,acc++vK k p (L.drop j))
 |0,j,acc,hj,_=>by
  rw[jaa];simp(disch:=omega)only[j2F,H,S0];simp[vK]
 |n+1,j,acc,hj,ha=>by
  have hj':j<L.length:=omg_;have hgd:L.getD j (0:D)=L[j]:=by simp[U,hj']
  have ih:=jEN (p:=p) (k:=k) (F:=F) (i:=i) hl n (j+1) (acc++[(k,p,L[j])]) omg_ sqo_;rw[show ((j+1:Z):D)=(j:D)+1 by omega]at ih;rw[jaa];simp(disch:=omega)only[G hj',j2F,ih,À,S0];rfl
def vAll(p:D)(A B C E:Y D):SgL:=vK 0 p A++(vK 1 p B++(vK 2 p C++vK 3 p E))
theorem jFz{p:D}{A B C E:Y D}(hA:A.length<=1000000)(hB:B.length<=1000000)(hC:C.length<=1000000)(hE:E.length<=1000000) :
  j59 p [A,B,C,E] 0 []=N (vAll p A B C E):=by
 have q:=λ(k:D)(L:Y D)(hL:L.length<=1000000)(acc:SgL)(hacc:acc.length<=10000000)=>jEN (p:=p) (k:=k) (F:=[A,B,C,E]) (i:=k) hL L.length 0 acc omg_ omg_;have lv:∀k (L:Y D),(vK k p L).length=L.length:=λk L=>by simp[vK]
 have q0:=q 0 A hA [] smp_;have q1:=q 1 B hB (vK 0 p A) (by rw[lv];omega);have q2:=q 2 C hC (vK 0 p A++vK 1 p B) (by grind);have q3:=q 3 E hE (vK 0 p A++vK 1 p B++vK 2 p C) (by grind);simp only[W,Ã]at q0 q1 q2 q3;rw[j3v];simp only[j13];rw[j00 (show (0:D)<4 by omega),j0B (show (0:D)<=0 by omega) omg_];simp only[j6,Int.toNat_zero,Á,show J A.length=(A.length:D) from rfl];rw[show j3G p 0 [A,B,C,E] 0 A (A.length:D) 0 []=_ from q0];simp only[j4];rw[j07 (x:=(0:D)+1),j04,show (0:D)+1=1 by omega,j3v];simp only[j13];rw[j00 (show (1:D)<4 by omega),j0B (show (0:D)<=1 by omega) omg_];simp only[j6,show (1:D).toNat=1 from rfl,Ä,Á,show J B.length=(B.length:D) from rfl];rw[show j3G p 1 [A,B,C,E] 1 B (B.length:D) 0 (vK 0 p A)=_ from q1];simp only[j4];rw[j07 (x:=(1:D)+1),j04,show (1:D)+1=2 by omega,j3v];simp only[j13];rw[j00 (show (2:D)<4 by omega),j0B (show (0:D)<=2 by omega) omg_];simp only[j6,show (2:D).toNat=2 from rfl,Ä,Á,show J C.length=(C.length:D) from rfl];rw[show j3G p 2 [A,B,C,E] 2 C (C.length:D) 0 (vK 0 p A++vK 1 p B)=_ from q2];simp only[j4];rw[j07 (x:=(2:D)+1),j04,show (2:D)+1=3 by omega,j3v];simp only[j13];rw[j00 (show (3:D)<4 by omega),j0B (show (0:D)<=3 by omega) omg_]
 simp only[j6,show (3:D).toNat=3 from rfl,Ä,Á,show J E.length=(E.length:D) from rfl];grind[j24,j04,j3v,j13,j0e,vAll]
noncomputable def tlV(p:D)(cl:ClL)(A B C:Y D):Option (SgL×D):=
 (j6B p (J (É cl)) (0:D) cl A B C ([]:(Y D))).bind λq0=>
 (j59 q0.1 [q0.2.1,q0.2.2.1,q0.2.2.2.1,q0.2.2.2.2] (0:D) ([]:SgL)).bind λq2=>
 (j0a q2).bind λr139=>
 (j0E r139).bind λr141=>
 cond (decide (J (É (Ú (Û r141.1) r141.2))>(16384:D))) (
 N (([]:SgL),(5:D))) (
 N (Ú (Û r141.1) r141.2,(0:D)))
theorem jFA{p:D}(hp:0<=p/\p<=1000){cl:ClL}{A B C:Y D}(hl:A.length+B.length+C.length+(clP p cl).length<=900000)(hcl:cl.length<=1000000)
  (hb:∀t,t∈A\/t∈B\/t∈C\/t∈clP p cl -> -1000000000000<=t/\t<=1000000000000) :
  ∃V,tlV p cl A B C=N (cond (decide ((V.length:D)>16384)) ([],5) (V,0))/\V.Pairwise ltV/\(∀x,x∈V↔x∈vAll p A B C (clP p cl))/\V.length<=A.length+B.length+C.length+(clP p cl).length:=by
 have e0:=jD5 (p:=p) (A:=A) (B:=B) (C:=C) hcl cl.length 0 [] omg_ smp_;rw[Ã,W]at e0;have e2:=jFz (p:=p) (A:=A) (B:=B) (C:=C) (E:=clP p cl) omg_ omg_ omg_ omg_;have lv:∀k (L:Y D),(vK k p L).length=L.length:=λk L=>by simp[vK]
 have hvl:(vAll p A B C (clP p cl)).length=A.length+B.length+C.length+(clP p cl).length:=by grind[vAll]
 have hsm:∀x∈vAll p A B C (clP p cl),SmV x:=λx hx=>by
  have key:∀k (L:Y D),0<=k->k<=3->x∈vK k p L->(∀t∈L, -1000000000000<=t/\t<=1000000000000)->SmV x:=λk L k0 k1 h hL=>by
   obtain⟨t,ht,rfl⟩:=List.mem_map.1 h;grind[SmV]
  grind[vAll]
 obtain⟨L,e3,p3,s3⟩:=ju5 (l:=vAll p A B C (clP p cl)) omg_ hsm;have hLl:=p3.length_eq;obtain⟨n,m,e4,h4⟩:=jsS (l:=L) omg_;have hcl4:=jD3 L;grind[jD2,jD1,tlV]
theorem jD6{n:D}(h:j2e n=N Ó):0<=n/\n<=604800:=by
 grind[j2e,j3D]
set_option linter.unusedSectionVars false
section
variable{l:SL}{p:D}(h:StS p l)(hp : -1<=p)(hl:l.length<=4096)(hb:∀u∈l,u.2<=8589934592)
include h hp hl hb
theorem jBk(x:D):∃b,jiq l x=N b/\(b=Ó↔inS x l):=by
 obtain⟨k,e,hk,h1,h2⟩:=jxz h hp hl hb x l.length 0 l.length omg_ omg_ omg_ (λi hi=>omg_) (λi hi hi2=>omg_);rw[show ((0:Z):D)=0 from rfl]at e;simp only[jiq,show J (É l)=(l.length:D) from rfl,e,j4];by_cases hkl:k<l.length
 .rw[j00 (show (k:D)<(l.length:D) by omega),j2j];simp only[Bool.true_or,j6,j8];refine⟨_,rfl,?_⟩;rw[decide_eq_true_iff];have hgd:l.getD k (0,0)=l[k]:=by simp[hkl]
  constructor
  .intro hx;exact⟨l[k],I hkl,by rw[<-hgd];exact hx,by simp_all⟩
  .rintro⟨s,hs,c1,c2⟩
   obtain⟨i,hi,rfl⟩:=X hs;have hgi:l.getD i (0,0)=l[i]:=by simp[hi]
   rw[<-hgi]at c1 c2;rcases Nat.lt_trichotomy i k with h'|h'|h'
   .grind
   .subst h';exact c1
   .have g1:=jn1 h k i h' hi;grind
 .rw[j01 (show¬(k:D)<(l.length:D) by omega)];simp only[Å,Bool.or_true,j6,j7];refine⟨false,rfl,?_⟩;simp only[Bool.false_eq_true,false_iff]
  rintro⟨s,hs,c1,c2⟩
  grind[X]
end
def jdw(l:SL):Y Int:=l.flatMap λu=>[u.1,u.2]
theorem jjN:∀l:SL,(jdw l).length=2*l.length
 |[]=>rfl
 |u::r=>by
  have:=jjN r;simp only[jdw]at this;simp only[jdw,List.flatMap_cons,Æ,Î,Â,this];omega
theorem jjO{l:SL}{u:D×D}(h:u∈l):u.1∈jdw l/\u.2∈jdw l:=
 ⟨List.mem_flatMap.2 ⟨u,h,smp_⟩,List.mem_flatMap.2 ⟨u,h,smp_⟩⟩
theorem jA5{l:SL}{x:D}(h:x∈jdw l):∃u∈l,x=u.1\/x=u.2:=by
 obtain⟨u,hu,hx⟩:=List.mem_flatMap.1 h;grind
theorem jEO{a b:SL}{k:D}(hl:a.length<=1000000):∀(n i:Z)(acc:Y D),i+n=a.length->acc.length+2*n<=10000000->jbj a b k (i:D) acc=N (a,b,k,acc++jdw (a.drop i))
 |0,i,acc,hi,_=>by
  rw[jeR];simp(disch:=omega)only[j5G,H,S0];simp[jdw]
 |n+1,i,acc,hi,ha=>by
  have hlt:i<a.length:=omg_;have hgd:a.getD i (0,0)=a[i]:=by simp[U,hlt]
  have ih:=jEO (b:=b) (k:=k) hl n (i+1) (acc++[a[i].1,a[i].2]) omg_ sqo_;rw[jeR];simp(disch:=omega)only[j5G,S0];refine Ï ih ?_;rw[G hlt,À];rfl
theorem jEP{a b:SL}{k:D}(hl:b.length<=1000000):∀(n i:Z)(acc:Y D),i+n=b.length->acc.length+2*n<=10000000->jbk a b k (i:D) acc=N (a,b,k,acc++jdw (b.drop i))
 |0,i,acc,hi,_=>by
  rw[jeS];simp(disch:=omega)only[j5H,H,S0];simp[jdw]
 |n+1,i,acc,hi,ha=>by
  have hlt:i<b.length:=omg_;have hgd:b.getD i (0,0)=b[i]:=by simp[U,hlt]
  have ih:=jEP (a:=a) (k:=k) hl n (i+1) (acc++[b[i].1,b[i].2]) omg_ sqo_;rw[jeS];simp(disch:=omega)only[j5H,S0];refine Ï ih ?_;rw[G hlt,À];rfl
theorem jD7{l:SL}{at':Y D}(hs:at'.Pairwise (· < ·))(he:∀u∈l,u.1∈at'/\u.2∈at'){i:Z}(hi:i+1<at'.length){y:D}(h1:at'[i]<=y)(h2:y<at'[i+1]):inS y l↔inS at'[i] l:=by
 have key:∀z∈at',z<=at'[i]\/at'[i+1]<=z:=λz hz=>by
  obtain⟨j,hj,rfl⟩:=X hz;grind[Í]
 constructor
 .rintro⟨u,hu,c1,c2⟩
  obtain⟨m1,m2⟩:=he u hu;refine⟨u,hu,?_,?_⟩;all_goals grind
 .rintro⟨u,hu,c1,c2⟩
  obtain⟨m1,m2⟩:=he u hu;refine⟨u,hu,omg_,?_⟩;grind
theorem jEQ{a b:SL}{at':Y D}(hs:at'.Pairwise (· < ·))(hA:∀u∈a,u.1∈at'/\u.2∈at')(hB:∀u∈b,u.1∈at'/\u.2∈at')(ha:∀x,∃v,jiq a x=N v/\(v=Ó↔inS x a))(hb:∀x,∃v,jiq b x=N v/\(v=Ó↔inS x b))
  {p:D}(hp:∀z∈at',p<z)(hl:at'.length<=1000000):∀(n i:Z)(out:SL)(h:i+1+n=at'.length),StS p out->(∀s∈out,s.2<=at'[i])->(∀y,y<at'[i]->(inS y out↔inS y a/\inS y b))->out.length<=i->
  ∃Q,j7K a b 2 (i:D) at' out=N Q/\StS p Q/\(∀s∈Q,s.2<=at'[at'.length-1])/\(∀y,y<at'[at'.length-1]->(inS y Q↔inS y a/\inS y b))
 |0,i,out,h,h1,h2,h3,h4=>by
  rw[jb3];simp(disch:=omega)only[j46,j3U,S0];grind
 |n+1,i,out,h,h1,h2,h3,h4=>by
  have hi:i<at'.length:=omg_;have hi1:i+1<at'.length:=omg_;have g0:at'.getD i (0:D)=at'[i]:=by simp[U,hi]
  have g1:at'.getD (i+1) (0:D)=at'[i+1]:=by simp[U,hi1]
  have hlt:=List.pairwise_iff_getElem.1 hs i (i+1) hi hi1 omg_;obtain⟨va,ea,ia⟩:=ha at'[i];obtain⟨vb,eb,ib⟩:=hb at'[i]
  have mid:∀y,at'[i]<=y->y<at'[i+1]->((inS y a/\inS y b)↔(va=Ó/\vb=Ó)):=λy y1 y2=>by
   grind[jD7]
  have ih:=λ(out':SL)(q1:StS p out')(q2:∀s∈out',s.2<=at'[i+1])(q3:∀y,y<at'[i+1]->(inS y out'↔inS y a/\inS y b))(q4:out'.length<=i+1)=>jEQ hs hA hB ha hb hp hl n (i+1) out' omg_ q1 q2 q3 q4;rw[show ((i+1:Z):D)=(i:D)+1 by omega]at ih;rw[jb3];simp only[j46,j3U,show J at'.length=(at'.length:D) from rfl,show J out.length=(out.length:D) from rfl];rw[j07 (x:=(i:D)+1),j00 (show (i:D)+1<(at'.length:D) by omega),j0B (show (0:D)<=(i:D) by omega) (show (i:D)<(at'.length:D) by omega),j0B (show (0:D)<=(i:D)+1 by omega) (show (i:D)+1<(at'.length:D) by omega)];simp only[j6,j8,g0,show ((i:D)+1).toNat=i+1 by omega,g1,ea,eb,j4];rw[show ((2:D)==1)=false from rfl,show ((2:D)==2)=Ó from rfl,show ((2:D)==3)=false from rfl];simp only[j6,j7]
  have hskip:¬(va=Ó/\vb=Ó)->∃Q,j7K a b 2 ((i:D)+1) at' out=N Q/\StS p Q/\(∀s∈Q,s.2<=at'[at'.length-1])/\(∀y,y<at'[at'.length-1]->(inS y Q↔inS y a/\inS y b)):=λhn=>by
   refine ih out h1 (λs hs'=>by grind) (λy hy=>?_) omg_;by_cases hy':y<at'[i]
   .exact h3 y hy'
   .rw[mid y omg_ hy];constructor
    .rintro⟨s,hs',c1,c2⟩
     grind
    simp_all
  cases va with
  |false=>simp only[Å,j6,j04];exact hskip smp_
  |true=>
   cases vb with
   |false=>simp(disch:=omega)only[S0];exact hskip smp_
   |true=>
    simp only[Ë,j7];obtain⟨j1,j2,j3⟩:=jAG (x:=(at'[i],at'[i+1])) h1 (hp _ (I hi)) hlt h2;have hjl:=jxJ out (at'[i],at'[i+1]);have hgo:∃Q,j7K a b 2 ((i:D)+1) at' (jnA out (at'[i],at'[i+1]))=N Q/\StS p Q/\(∀s∈Q,s.2<=at'[at'.length-1])/\(∀y,y<at'[at'.length-1]->(inS y Q↔inS y a/\inS y b)):=by grind
    by_cases h0:out.length=0
    .have ho:out=[]:=List.length_eq_zero_iff.1 h0;subst ho;simp(disch:=omega)only[S0];exact hgo
    .rw[j00 (show (out.length:D)>0 by omega),j6,j07 (x:=(out.length:D)-1),j0B (show (0:D)<=(out.length:D)-1 by omega) (show (out.length:D)-1<(out.length:D) by omega),j6,show ((out.length:D)-1).toNat=out.length-1 by omega];by_cases he:(out.getD (out.length-1) (0,0)).2=at'[i]
     .grind[j04,jnA]
     .rw[j3Z he,j7,j00 (show out.length+[(at'[i],at'[i+1])].length<=j03 by simp[j03];omega),j6,j04];have hj:jnA out (at'[i],at'[i+1])=out++[(at'[i],at'[i+1])]:=by grind[jnA]
      rw[hj]at hgo;exact hgo
theorem jA6{a b:SL}{p:D}(ha:StS p a)(hb:StS p b)(hp : -1<=p)(la:a.length<=4096)(lb:b.length<=4096)(ba:∀u∈a,u.2<=8589934592)(bb:∀u∈b,u.2<=8589934592){R:SL}(hR:StS p R)(hRs:∀y,inS y R↔inS y a/\inS y b) :
  jfw a b=N (cond (decide ((R.length:D)>4096)) ([],5) (R,0)):=by
 have e0:=jEO (a:=a) (b:=b) (k:=2) omg_ a.length 0 [] omg_ sqo_;have e2:=jEP (a:=a) (b:=b) (k:=2) omg_ b.length 0 (jdw a) omg_ (by rw[jjN];omega);rw[show ((0:Z):D)=0 from rfl,W]at e0 e2;rw[Ã]at e0;have hel:(jdw a++jdw b).length<=50000000:=by grind[jjN]
 obtain⟨s1,s2,s3⟩:=jjI (jdw a++jdw b).length (jdw a++jdw b) omg_;have e3:=jpl hel;generalize hat:so3 (jdw a++jdw b).length (jdw a++jdw b)=at' at *;have hal:at'.length<=1000000:=by grind[jjN]
 have hA:∀u∈a,u.1∈at'/\u.2∈at':=λu hu=>⟨(s2 _).2 (Ò _ (jjO hu).1),(s2 _).2 (Ò _ (jjO hu).2)⟩;have hB:∀u∈b,u.1∈at'/\u.2∈at':=λu hu=>⟨(s2 _).2 (Ñ _ (jjO hu).1),(s2 _).2 (Ñ _ (jjO hu).2)⟩
 have low:∀{l:SL},StS p l->∀u∈l,p<u.1/\u.1<u.2:=λ{l} h u hu=>by
  obtain⟨i,hi,rfl⟩:=X hu;have:=jkz h i hi
  simp_all
 have hpz:∀z∈at',p<z:=λz hz=>by
  grind[jA5]
 have hfin:j7K a b 2 0 at' []=N R:=by
  by_cases h0:at'.length=0
  .have ea:at'=[]:=List.length_eq_zero_iff.1 h0;have ea0:a=[]:=by cases a<;>grind
   have er:R=[]:=by
    cases R with
    |nil=>rfl
    |cons u r=>have:=(hRs u.1).1 ⟨u,smp_,Ù _,(low hR u smp_).2⟩;grind[j2V]
   rw[jb3];simp(disch:=omega)only[j46,j3U,er,S0]
  .obtain⟨Q,q1,q2,q3,q4⟩:=jEQ s1 hA hB (λx=>jBk ha hp la ba x) (λx=>jBk hb hp lb bb x) hpz hal (at'.length-1) 0 [] omg_ trivial smp_ (λy hy=>by
    constructor
    .grind[j2V]
    .rintro⟨⟨u,hu,c1,c2⟩,_⟩
     grind[X,Nat.eq_zero_or_pos,Í]) smp_
   rw[show ((0:Z):D)=0 from rfl]at q1;rw[q1];refine congrArg N (jjH q2 hR λy=>?_);rw[hRs y];by_cases hy:y<at'[at'.length-1]
   .exact q4 y hy
   .constructor
    .rintro⟨s,hs',c1,c2⟩
     grind
    .rintro⟨⟨u,hu,c1,c2⟩,_⟩
     obtain⟨j,hj,e⟩:=X (hA u hu).2;by_cases hjl:j=at'.length-1
     .subst hjl;omega
     .have:=List.pairwise_iff_getElem.1 s1 j (at'.length-1) hj omg_ omg_;omega
 simp(disch:=omega)only[jfw,jir,jrd ha hp la ba,jrd hb hp lb bb,show jbj a b 2 0 []=_ from e0,show jbk a b 2 0 (jdw a)=_ from e2,e3,hfin,S0];grind
end Go.Proofs.Pw
