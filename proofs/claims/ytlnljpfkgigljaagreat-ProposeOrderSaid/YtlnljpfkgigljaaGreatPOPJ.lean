/- The reference's sort of numbers, each once; the borders of a range. -/
import Derived.Test.YtlnljpfkgigljaaGreatPOPA
import Derived.Test.YtlnljpfkgigljaaGreatPOFns
import Derived.Test.YtlnljpfkgigljaaGreatPOPF
import Derived.Test.YtlnljpfkgigljaaGreatPOPC
import Derived.Test.YtlnljpfkgigljaaGreatPOPI
import Derived.Test.YtlnljpfkgigljaaGreatPOPG
import Derived.Test.YtlnljpfkgigljaaGreatPOPH
import Derived.Test.YtlnljpfkgigljaaGreatPOLD
open _root_ renaming Int->E,List->I,Nat->Ã
open ByteArray renaming empty->F
open List renaming drop_eq_getElem_cons->G,length_append->J,drop_of_length_le->N,mem_append_right->U,mem_append_left->X,drop_zero->Y,getD->À,getElem_mem->Á,append_assoc->Ä,length_cons->Å,length_nil->Æ,mem_cons->Ç,eq_nil_or_concat->Ê,concat_eq_append->Ë,length_filter_le->Ì,not_mem_nil->Ð,nil_append->Ó,length_map->Ô
open Int renaming ofNat->O,le_refl->Ú
open Option renaming some->Z,none->Ò
open Decidable renaming decide->Â
open List.Pairwise renaming nil->È
open Nat renaming le_trans->É,mul_le_mul->Í,le_refl->Ñ,zero_add->Ù
open Bool renaming not_true->Î,cond_true_left->Ï,or_eq_true->Õ,true->Ö
open Go Go.Lft
namespace Go.Proofs.Pw
def ap3(out:I E)(x:E):I Int:=cond (cond (Â (out.length=0)) Ö (out.getD (out.length-1) 0 != x)) (out++[x]) out
def mg3:Ã->I E->I E->I E->I E
 |0,out,_,_=>out
 |n+1,out,x::a,y::b=>cond (Â (x<=y)) (mg3 n (ap3 out x) a (y::b)) (mg3 n (ap3 out y) (x::a) b)
 |n+1,out,x::a,[]=>mg3 n (ap3 out x) a []
 |n+1,out,[],y::b=>mg3 n (ap3 out y) [] b
 |_+1,out,[],[]=>out
def so3:Ã->I E->I E
 |0,l=>l
 |n+1,l=>if l.length<2 then l else mg3 l.length [] (so3 n (l.take (l.length/2))) (so3 n (l.drop (l.length/2)))
theorem jjE(out:I E)(x:E):(ap3 out x).length<=out.length+1:=by
 grind[ap3]
theorem jtb{out:I E}{x:E}(h:out.Pairwise (· < ·))(hx:∀y∈out,y<=x):(ap3 out x).Pairwise (· < ·)/\(∀y,y∈ap3 out x↔y∈out\/y=x)/\∀y∈ap3 out x,y<=x:=by
 rcases Ê out with rfl|⟨A,u,rfl⟩
 .grind[ap3]
 .rw[Ë]at h hx ⊢;have hg:(A++[u]).getD ((A++[u]).length-1) (0:E)=u:=by simp[À]
  unfold ap3;rw[hg,j01 (show¬(A++[u]).length=0 by simp),j7];by_cases he:u=x;all_goals grind
theorem jqi:∀(n:Ã)(out a b:I E),n=a.length+b.length->out.Pairwise (· < ·)->a.Pairwise (· < ·)->b.Pairwise (· < ·)->(∀x∈out,(∀y∈a,x<=y)/\∀y∈b,x<=y)->
  (mg3 n out a b).Pairwise (· < ·)/\(∀x,x∈mg3 n out a b↔x∈out\/x∈a\/x∈b)/\(mg3 n out a b).length<=out.length+n
 |0,out,a,b,hn,ho,_,_,_=>by
  have h1:a=[]:=List.length_eq_zero_iff.1 omg_;have h2:b=[]:=List.length_eq_zero_iff.1 omg_;subst h1;subst h2;exact⟨ho,λx=>by simp[mg3],by simp[mg3]⟩
 |n+1,out,x::a,y::b,hn,ho,ha,hb,hle=>by
  have ha':=List.pairwise_cons.1 ha;have hb':=List.pairwise_cons.1 hb;simp only[Å]at hn;unfold mg3;by_cases hxy:x<=y
  .rw[j00 hxy,j6];obtain⟨p1,p2,p3⟩:=jtb (x:=x) ho (λz hz=>(hle z hz).1 x smp_)
   obtain⟨q1,q2,q3⟩:=jqi n (ap3 out x) a (y::b) sqo_ p1 ha'.2 hb (λz hz=>by
    have:=p3 z hz;refine⟨λu hu=>by have:=ha'.1 u hu;omega,λu hu=>?_⟩;rcases List.mem_cons.1 hu with rfl|hu
    .omega
    .have:=hb'.1 u hu;omega)
   have:=jjE out x;refine⟨q1,λz=>?_,omg_⟩;rw[q2 z,p2 z];simp only[Ç];constructor
   .rintro ((h|h)|h|h)
    .exact .inl h
    .exact .inr (.inl (.inl h))
    .exact .inr (.inl (.inr h))
    .exact .inr (.inr h)
   .rintro (h|(h|h)|h)
    .exact .inl (.inl h)
    .exact .inl (.inr h)
    .exact .inr (.inl h)
    .exact .inr (.inr h)
  .rw[j01 hxy,j7];obtain⟨p1,p2,p3⟩:=jtb (x:=y) ho (λz hz=>(hle z hz).2 y smp_)
   obtain⟨q1,q2,q3⟩:=jqi n (ap3 out y) (x::a) b sqo_ p1 ha hb'.2 (λz hz=>by
    have:=p3 z hz;refine⟨λu hu=>?_,λu hu=>by have:=hb'.1 u hu;omega⟩;rcases List.mem_cons.1 hu with rfl|hu
    .omega
    .have:=ha'.1 u hu;omega)
   have:=jjE out y;refine⟨q1,λz=>?_,omg_⟩;rw[q2 z,p2 z];simp only[Ç];constructor
   .rintro ((h|h)|h|h)
    .exact .inl h
    .exact .inr (.inr (.inl h))
    .exact .inr (.inl h)
    .exact .inr (.inr (.inr h))
   .rintro (h|h|h|h)
    .exact .inl (.inl h)
    .exact .inr (.inl h)
    .exact .inl (.inr h)
    .exact .inr (.inr h)
 |n+1,out,x::a,[],hn,ho,ha,hb,hle=>by
  have ha':=List.pairwise_cons.1 ha;simp only[Å,Æ]at hn;obtain⟨p1,p2,p3⟩:=jtb (x:=x) ho (λz hz=>(hle z hz).1 x smp_);obtain⟨q1,q2,q3⟩:=jqi n (ap3 out x) a [] sqo_ p1 ha'.2 hb (λz hz=>⟨λu hu=>by have:=ha'.1 u hu;have:=p3 z hz;omega,λu hu=>by simp at hu⟩);have:=jjE out x;refine⟨q1,λz=>?_,by show (mg3 n (ap3 out x) a []).length<=_;omega⟩;show z∈mg3 n (ap3 out x) a []↔_;rw[q2 z,p2 z];simp only[Ç,Ð,or_false,or_assoc]
 |n+1,out,[],y::b,hn,ho,ha,hb,hle=>by
  have hb':=List.pairwise_cons.1 hb;simp only[Å,Æ]at hn;obtain⟨p1,p2,p3⟩:=jtb (x:=y) ho (λz hz=>(hle z hz).2 y smp_);obtain⟨q1,q2,q3⟩:=jqi n (ap3 out y) [] b sqo_ p1 ha hb'.2 (λz hz=>⟨λu hu=>by simp at hu,λu hu=>by have:=hb'.1 u hu;have:=p3 z hz;omega⟩);have:=jjE out y;refine⟨q1,λz=>?_,by show (mg3 n (ap3 out y) [] b).length<=_;omega⟩;show z∈mg3 n (ap3 out y) [] b↔_;rw[q2 z,p2 z];simp only[Ç,Ð,false_or,or_assoc]
 |n+1,out,[],[],hn,_,_,_,_=>by simp at hn
theorem jtc:∀(n:Ã)(out a b:I E),a.length+b.length<=n->mg3 n out a b=mg3 (a.length+b.length) out a b:=by
 intro n;induction n with
 |zero=>simp_all
 |succ n ih=>
  intro out a b h;match a,b,h with
  |[],[],_=>rfl
  |x::a,[],h=>
   simp_all[mg3]
  |[],y::b,h=>
   simp_all[mg3]
  |x::a,y::b,h=>simp only[Å]at h ⊢;grind[mg3]
theorem jns:∀(n:Ã)(l:I E),l.length<=n+1->(so3 n l).Pairwise (· < ·)/\(∀x,x∈so3 n l↔x∈l)/\(so3 n l).length<=l.length
 |0,l,hl=>by
  refine⟨?_,λx=>Iff.rfl,Ñ _⟩;match l,hl with
  |[],_=>exact È
  |[x],_=>show List.Pairwise (· < ·) [x];simp
 |n+1,l,hl=>by
  unfold so3;by_cases h2:l.length<2
  .rw[if_pos h2];refine⟨?_,λx=>Iff.rfl,Ñ _⟩;match l,h2 with
   |[],_=>exact È
   |[x],_=>simp
  .rw[if_neg h2];obtain⟨a1,a2,a3⟩:=jns n (l.take (l.length/2)) sqo_;obtain⟨b1,b2,b3⟩:=jns n (l.drop (l.length/2)) sqo_;simp only[List.length_take,List.length_drop]at a3 b3;rw[jtc l.length [] _ _ omg_];obtain⟨q1,q2,q3⟩:=jqi _ [] (so3 n (l.take (l.length/2))) (so3 n (l.drop (l.length/2))) rfl È a1 b1 (λx hx=>by simp at hx);refine⟨q1,λx=>?_,by simp at q3;omega⟩;rw[q2 x,a2 x,b2 x];have hx:x∈l↔x∈l.take (l.length/2)++l.drop (l.length/2):=by rw[List.take_append_drop]
   rw[hx,List.mem_append];simp
theorem joG:∀(n m:Ã)(l:I E),l.length<=n+1->l.length<=m+1->so3 n l=so3 m l
 |0,0,_,_,_=>rfl
 |0,m+1,l,h,_=>by unfold so3;rw[if_pos omg_]
 |n+1,0,l,_,h=>by unfold so3;rw[if_pos omg_]
 |n+1,m+1,l,h1,h2=>by
  unfold so3;by_cases h:l.length<2
  .rw[if_pos h,if_pos h]
  .rw[if_neg h,if_neg h,joG n m _ sqo_ sqo_,joG n m _ sqo_ sqo_]
theorem jky{R:Type}(out:I E)(x:E)(hl:out.length<=400000000)(K:I E->Option R) :
  cond ((inR (w64 ((out.length:E)-1)) out.length) || !(!((out.length:E)==0))) (cond (cond ((out.length:E)==0) Ö (out.getD (w64 ((out.length:E)-1)).toNat 0 != x)) (cond (Â (out.length+[x].length<=j02)) (K (out++[x])) Ò) (K out)) Ò=K (ap3 out x):=by
 rw[j05 (x:=(out.length:E)-1)];by_cases h0:out.length=0
 .have e:((out.length:E)==0)=true:=j3m omg_;have:out=[]:=List.length_eq_zero_iff.1 h0;subst this;rfl
 .have e:((out.length:E)==0)=false:=j1p omg_;rw[e,j0N (i:=(out.length:E)-1) omg_ omg_,show ((out.length:E)-1).toNat=out.length-1 by omega];grind[ap3,j02]
theorem jCI(rec:I E->Option (I E)){a b:I E}(ha:a.length<=100000000)(hb:b.length<=100000000):∀(n i j:Ã)(out:I E),i<=a.length->j<=b.length->n=(a.length-i)+(b.length-j)->out.length+n<=200000000->
  jeO rec (i:E) (j:E) out a b=Z (mg3 n out (a.drop i) (b.drop j))
 |0,i,j,out,hi,hj,hn,_=>by
  rw[jgX];simp(disch:=omega)only[j6S,j6x,j6y,S0];rfl
 |n+1,i,j,out,hi,hj,hn,ho=>by
  have iha:=λ(x:E)(h:i<a.length)=>jCI rec ha hb n (i+1) j (ap3 out x) omg_ hj omg_ (by have:=jjE out x;omega);have ihb:=λ(x:E)(h:j<b.length)=>jCI rec ha hb n i (j+1) (ap3 out x) hi omg_ omg_ (by have:=jjE out x;omega);rw[jgX];simp only[j6S,j6x,j6y,show O a.length=(a.length:E) from rfl,show O b.length=(b.length:E) from rfl,show O out.length=(out.length:E) from rfl]
  have ec:cond (Â ((i:E)<(a.length:E))) Ö (Â ((j:E)<(b.length:E)))=true:=by
   by_cases h:i<a.length
   .rw[j00 omg_];rfl
   .rw[j01 omg_,j00 (show (j:E)<(b.length:E) by omega)];rfl
  rw[ec,j6];by_cases hja:j=b.length
  .have hia:i<a.length:=omg_;have hga:a.getD i (0:E)=a[i]:=by simp[À,hia]
   rw[j3m (show (j:E)=(b.length:E) by omega),j6,j0N (i:=(i:E)) (n:=a.length) omg_ omg_,j6,j05 (x:=(i:E)+1)];simp only[j8,hga];rw[jky out a[i] omg_ (λo=>Z (Sum.inl ((i:E)+1,(j:E),o,a,b))),j03];have:=iha a[i] hia;rw[show ((i+1:Ã):E)=(i:E)+1 by omega]at this;refine this.trans ?_;rw[G hia,show b.drop j=[] from N omg_];rfl
  .have hjb:j<b.length:=omg_;have hgb:b.getD j (0:E)=b[j]:=by simp[À,hjb]
   rw[j1p (show (j:E)≠(b.length:E) by omega),j7];by_cases hia:i<a.length
   .have hga:a.getD i (0:E)=a[i]:=by simp[À,hia]
    rw[j00 (show (i:E)<(a.length:E) by omega),j6,j0N (i:=(i:E)) (n:=a.length) omg_ omg_,j0N (i:=(j:E)) (n:=b.length) omg_ omg_,j05 (x:=(i:E)+1),j05 (x:=(j:E)+1)];simp only[j6,j8,hga,hgb];by_cases hxy:a[i]<=b[j]
    .rw[j00 hxy,j6,jky out a[i] omg_ (λo=>Z (Sum.inl ((i:E)+1,(j:E),o,a,b))),j03];have:=iha a[i] hia;rw[show ((i+1:Ã):E)=(i:E)+1 by omega]at this;refine this.trans ?_;rw[G hia,G hjb];show _=Z (cond (Â (a[i]<=b[j])) _ _);rw[j00 hxy,j6]
    .rw[j01 hxy,j7,jky out b[j] omg_ (λo=>Z (Sum.inl ((i:E),(j:E)+1,o,a,b))),j03];have:=ihb b[j] hjb;rw[show ((j+1:Ã):E)=(j:E)+1 by omega]at this;refine this.trans ?_;rw[G hia,G hjb];show _=Z (cond (Â (a[i]<=b[j])) _ _);rw[j01 hxy,j7]
   .rw[j01 (show¬(i:E)<(a.length:E) by omega),j7,j0N (i:=(j:E)) (n:=b.length) omg_ omg_,j6,j05 (x:=(j:E)+1)];simp only[j8,hgb];rw[jky out b[j] omg_ (λo=>Z (Sum.inl ((i:E),(j:E)+1,o,a,b))),j03];have:=ihb b[j] hjb;rw[show ((j+1:Ã):E)=(j:E)+1 by omega]at this;refine this.trans ?_;rw[G hjb,show a.drop i=[] from N omg_];rfl
theorem jzG:∀(n:Ã)(l:I E),l.length<=50000000->(jeF j5k n l=Ò/\n<=l.length)\/jeF j5k n l=Z (so3 l.length l)
 |0,l,_=> .inl ⟨rfl,Nat.zero_le _⟩
 |n+1,l,hl=>by
  show (jbP (λv0=>jeF j5k n v0) l=Ò/\_)\/jbP (λv0=>jeF j5k n v0) l=_;simp only[jbP,show O l.length=(l.length:E) from rfl];by_cases h2:l.length<2
  .right;simp(disch:=omega)only[Ó,S0];cases hk:l.length<;>grind[so3]
  .rw[j01 (show¬(l.length:E)<2 by omega),j7,jdF omg_,j05 (x:=(l.length:E)/2),show ((l.length:E)/2).toNat=l.length/2 by omega];simp(disch:=omega)only[S0];simp only[Bool.and_self,j6,Y,List.take_length];have hA:(l.take (l.length/2)).length=l.length/2:=sqo_;have hB:(l.drop (l.length/2)).length=l.length-l.length/2:=smp_;rcases jzG n (l.take (l.length/2)) omg_ with⟨e1,k1⟩|e1
   .grind
   .rw[e1,j4];rcases jzG n (l.drop (l.length/2)) omg_ with⟨e2,k2⟩|e2
    .exact .inl ⟨by rw[e2];rfl,omg_⟩
    .right;rw[e2,j4];have o1:=jns (l.take (l.length/2)).length (l.take (l.length/2)) omg_;have o2:=jns (l.drop (l.length/2)).length (l.drop (l.length/2)) omg_;generalize hSA:so3 (l.take (l.length/2)).length (l.take (l.length/2))=SA at *;generalize hSB:so3 (l.drop (l.length/2)).length (l.drop (l.length/2))=SB at *;have:=jCI (λv0=>jeF j5k n v0) (a:=SA) (b:=SB) omg_ omg_ (SA.length+SB.length) 0 0 [] omg_ omg_ omg_ sqo_;rw[show ((0:Ã):E)=0 from rfl,Y,Y]at this;rw[this,j4];obtain⟨k,hk⟩:∃k,l.length=k+1:=⟨l.length-1,omg_⟩;grind[so3,joG,jtc]
theorem jzH{l:I E}(hl:l.length<=50000000):jog l=Z (so3 l.length l):=
 jpC ⟨l.length+1,(jzG (l.length+1) l hl).resolve_left (λh=>by have:=h.2;omega)⟩ (λn y h=>by
  grind[jzG])
def inBo(a b x:E):Bool:=cond (Â (x>a)) (Â (x<b)) false
def bord(cuts:I E)(a b:E):I Int:=(a::(so3 cuts.length cuts).filter (inBo a b))++(if b>a then [b] else [])
theorem jEr{a b:E}{l:I E}(hl:l.length<=50000000):∀(n i:Ã)(out:I E),i+n=l.length->out.length+n<=100000000->jaE a b (i:E) out l=Z (a,b,out++(l.drop i).filter (inBo a b))
 |0,i,out,hi,_=>by
  grind[jeg,j4O,S0]
 |n+1,i,out,hi,ho=>by
  have hlt:i<l.length:=omg_;have hgd:l.getD i (0:E)=l[i]:=by simp[À,hlt]
  rw[jeg,G hlt];simp only[j4O,show O l.length=(l.length:E) from rfl];rw[j00 (show (i:E)<(l.length:E) by omega),j0N (i:=(i:E)) omg_ omg_,j05 (x:=(i:E)+1)];simp only[j6,j8,hgd,Bool.true_or];have ih:=λout h=>jEr (a:=a) (b:=b) hl n (i+1) out omg_ h;rw[show ((i+1:Ã):E)=(i:E)+1 by omega]at ih;show lpK (cond (inBo a b l[i]) _ _) _=_;cases hc:inBo a b l[i]with
  |true=>simp(disch:=omega)only[List.filter_cons_of_pos hc,S0];grind
  |false=>grind[j03]
theorem juI{cuts:I E}(hl:cuts.length<=49000000)(a b:E):jeP cuts a b=Z (bord cuts a b):=by
 obtain⟨_,_,h3⟩:=jns cuts.length cuts omg_;have:=jEr (a:=a) (b:=b) (l:=so3 cuts.length cuts) omg_ (so3 cuts.length cuts).length 0 [a] omg_ sqo_;rw[show ((0:Ã):E)=0 from rfl,Y]at this;have hfl:((so3 cuts.length cuts).filter (inBo a b)).length<=(so3 cuts.length cuts).length:=Ì _ _;simp(disch:=omega)only[jeP,jzH,this,S0];grind[bord,j02]
theorem jCJ(cuts:I E){a b:E}(hab:a<=b):(bord cuts a b).Pairwise (· < ·)/\(bord cuts a b).length<=cuts.length+2/\(∀x∈bord cuts a b,a<=x/\x<=b)/\(∀c∈cuts,a<c->c<b->c∈bord cuts a b)/\
  (∃r,bord cuts a b=a::r)/\(a<b->∃r,bord cuts a b=r++[b])/\(a=b->bord cuts a b=[a]):=by
 obtain⟨h1,h2,h3⟩:=jns cuts.length cuts omg_;have hfl:((so3 cuts.length cuts).filter (inBo a b)).length<=(so3 cuts.length cuts).length:=Ì _ _
 have hin:∀x,x∈(so3 cuts.length cuts).filter (inBo a b)↔x∈cuts/\a<x/\x<b:=λx=>by
  grind[inBo]
 have hpf:((so3 cuts.length cuts).filter (inBo a b)).Pairwise (· < ·):=h1.filter _;unfold bord;by_cases hlt:a<b
 .grind[List.pairwise_cons]
 .have hab':a=b:=omg_;rw[if_neg (show¬b>a by omega)];have hnil:(so3 cuts.length cuts).filter (inBo a b)=[]:=List.eq_nil_iff_forall_not_mem.2 (λx hx=>by grind);grind
section
variable{z:j0z}{l:TrL}(h4:Z4 z l)
include h4
theorem hl10{L:j0c}(h:Rt L)(from_ to_:E):∀(n:Ã)(k:E)(acc:I E),k+n=2386093->0<=k->(acc.length:E)<=k->
  ∃out,jbj from_ to_ k z.1 z.2.1 z.2.2 L.1 L.2.1 L.2.2.1.1 L.2.2.1.2 L.2.2.2.1 L.2.2.2.2.1 L.2.2.2.2.2.1 L.2.2.2.2.2.2.1 L.2.2.2.2.2.2.2.1 L.2.2.2.2.2.2.2.2 acc=Z (0,out)/\(out.length:E)<=2386094/\
   (∀x∈acc,x∈out)/\∀j v,k<=j->hO z.2.1 l L j=Z v->from_<=v->v<to_->v∈out
 |n,k,acc,hn,hk,ha=>by
  obtain⟨v',ev',hv'⟩:=r10H h4 h (k:=k) hk omg_;rw[jhs];simp only[j5i];rw[show j7F (z.1,z.2.1,z.2.2) (L.1,L.2.1,(L.2.2.1.1,L.2.2.1.2),L.2.2.2.1,L.2.2.2.2.1,L.2.2.2.2.2.1,L.2.2.2.2.2.2.1,L.2.2.2.2.2.2.2.1,L.2.2.2.2.2.2.2.2) k=_ from ev'];simp only[j4];cases hx:hO z.2.1 l L k with
  |none=>simp only[Option.isSome_none,Bool.not_false,j6,j06];refine⟨acc,rfl,omg_,λx hx=>hx,λj v hj hv _ _=>?_⟩;obtain⟨u,hu,_⟩:=QO.le h4.2 h hj ⟨v,hv,Ú v⟩;rw[hx]at hu;simp at hu
  |some t=>
   have:=hv' t hx;subst v';simp only[Option.isSome_some,Î,j7];by_cases hto:t>=to_
   .rw[j00 hto];simp only[j6,j06];refine⟨acc,rfl,omg_,λx hx=>hx,λj v hj hv _ hvt=>?_⟩;obtain⟨u,hu,huv⟩:=QO.le h4.2 h hj ⟨v,hv,Ú v⟩;rw[hx]at hu;simp at hu;omega
   .rw[j01 hto,j00 (show acc.length+[t].length<=j02 by simp[j02];omega),j05 (x:=k+1)];simp only[j6,j7];cases n with
    |zero=>have:=jry h4.2 h hk hx;omega
    |succ n=>
     by_cases hfr:t>=from_
     .rw[j00 hfr];simp only[j6,j03];obtain⟨out,e1,e2,e3,e4⟩:=hl10 h from_ to_ n (k+1) (acc++[t]) omg_ omg_ sqo_;refine⟨out,e1,e2,λx hx=>e3 x (by simp[hx]),λj v hj hv h1 h2=>?_⟩;by_cases hjk:j=k
      .subst hjk;rw[hx]at hv;simp at hv;subst hv;exact e3 t smp_
      .exact e4 j v omg_ hv h1 h2
     .rw[j01 hfr];simp only[j7,j03];obtain⟨out,e1,e2,e3,e4⟩:=hl10 h from_ to_ n (k+1) acc omg_ omg_ omg_;refine⟨out,e1,e2,e3,λj v hj hv h1 h2=>?_⟩;by_cases hjk:j=k
      .subst hjk;rw[hx]at hv;simp at hv;omega
      .exact e4 j v omg_ hv h1 h2
theorem jEs{a b:E}(ha:0<=a)(hab:a<=b)(hb:b<=8589934592)(hq:b-a<=34560000):j8j a b=Z true:=by
 have _:=h4;simp only[j8j];rw[j00 (show a>=0 from ha),j00 (show a<=8589934592 by omega),j00 (show b>=a from hab),j00 hb,j05 (x:=b-a),j00 hq];rfl
theorem jzI{L:j0c}(h:Rt L){a b:E}(ha:0<=a)(hab:a<=b)(hb:b<=8589934592)(hq:b-a<=34560000):∃out,j9Q z L a b=Z (out,0)/\out.length<=2386094/\∀j v,0<=j->hO z.2.1 l L j=Z v->a<v->v<b->v∈out:=by
 obtain⟨K,eK,hK⟩:=jDT h4 h ha omg_
 have hKb:K<=2386092:=by
  rcases hK with⟨hK,_⟩|⟨hK,⟨y,hy,_⟩,_⟩
  .omega
  .exact(jry h4.2 h hK hy).2.2
 obtain⟨k0,hk0⟩:∃k0:E,k0=(if K>0 then K else 0):=⟨_,rfl⟩;have hk1:0<=k0/\k0<=2386092/\(0<k0->k0=K):=by rw[hk0];split<;>omega
 obtain⟨out,e1,e2,_,e4⟩:=hl10 h4 h a b (2386093-k0).toNat k0 [] omg_ hk1.1 sqo_;refine⟨out,?_,omg_,λj v hj hv h1 h2=>?_⟩
 .have e2:jcD (z.1,z.2.1,z.2.2) (L.1,L.2.1,(L.2.2.1.1,L.2.2.1.2),L.2.2.2.1,L.2.2.2.2.1,L.2.2.2.2.2.1,L.2.2.2.2.2.2.1,L.2.2.2.2.2.2.2.1,L.2.2.2.2.2.2.2.2)=_:=jm9 h4 L;simp only[j9Q,e2,j4];rw[if_pos h];simp only[bne_self_eq_false,j7,jEs h4 ha hab hb hq,j4,Î];rw[show jcF (z.1,z.2.1,z.2.2) (L.1,L.2.1,(L.2.2.1.1,L.2.2.1.2),L.2.2.2.1,L.2.2.2.2.1,L.2.2.2.2.2.1,L.2.2.2.2.2.2.1,L.2.2.2.2.2.2.2.1,L.2.2.2.2.2.2.2.2) a=_ from eK];simp only[j4];rw[<-hk0,e1];rfl
 .by_cases hjk:k0<=j
  .exact e4 j v hjk hv omg_ h2
  .exfalso;have hKk:=hk1.2.2 omg_;rcases hK with⟨hK,_⟩|⟨hK,hq,_⟩
   .omega
   .obtain⟨u,hu,hua⟩:=QO.le h4.2 h (show j<=K by omega) hq;rw[hv]at hu;simp at hu;omega
end
theorem jzJ{z:j0z}(hz:ZOk z){L:j0c}(hR:Rt L){x y:E}(h0:0<=x)(hxy:x<=y)(h1:y<=8589934592)(hno:∀j v,0<=j->hO z.2.1 (tb z).2 L j=Z v->¬(x<v/\v<=y)):shK z L x=shK z L y:=by
 have a:=(jdz hz hR (t:=x) h0 omg_).2;have b:=(jdz hz hR (t:=y) omg_ h1).2;refine ShO.uniq hz.ztab.2 hR (t:=y) ?_ b;have q:∀j,0<=j->QO z.2.1 (tb z).2 L y j->QO z.2.1 (tb z).2 L x j:=λj hj ⟨v,hv,hvy⟩=>⟨v,hv,by have:=hno j v hj hv;omega⟩;rcases a with⟨a1,a2⟩|⟨a1,a2,a3⟩
 .exact .inl ⟨a1,λh=>a2 (q 0 omg_ h)⟩
 .obtain⟨v,hv,hvx⟩:=a2;exact .inr ⟨a1,⟨v,hv,omg_⟩,λh=>a3 (q _ omg_ h)⟩
theorem joH{z:j0z}(hz:ZOk z){t:E}(h0:0<=t)(h1:t<=8589934592){k:Ã}(hk:k<=(tb z).2.length)(k1:frm (tb z).2 k<=t)(k2:t<frm (tb z).2 (k+1)) :
  locD z t=((t+tof z.2.1 (tb z).2 k)/86400,(t+tof z.2.1 (tb z).2 k)%86400)/\secD (locD z t)=(t+tof z.2.1 (tb z).2 k+259200)%604800:=by
 have e:=jgD hz.ztab.2 hk k1 k2;have o0:=hz.ztab.2.of0 k hk;have o1:=hz.ztab.2.of1 k hk;have el:locD z t=((t+tof z.2.1 (tb z).2 k)/86400,(t+tof z.2.1 (tb z).2 k)%86400):=by simp only[locD,show j1D (tb z) t=_ from e,Option.getD_some]
 refine⟨el,?_⟩;have hsc:j7W (locD z t)=Z (secD (locD z t)):=(jrA hz h0 h1).2;have h5:=sec5 (d:=(t+tof z.2.1 (tb z).2 k)/86400) (s:=(t+tof z.2.1 (tb z).2 k)%86400) omg_ omg_ omg_ omg_;rw[el]at hsc ⊢;rw[h5]at hsc;have:=Option.some.inj hsc;rw[<-this];congr 1;omega
theorem jzK{W:SL}{x y:E}(hxy:x<=y)(hno:∀u∈W,¬(x<u.1/\u.1<=y)/\¬(x<u.2/\u.2<=y)):inS x W↔inS y W:=by
 constructor
 .rintro⟨u,hu,h1,h2⟩
  have:=hno u hu;exact⟨u,hu,omg_,omg_⟩
 .rintro⟨u,hu,h1,h2⟩
  have:=hno u hu;exact⟨u,hu,omg_,omg_⟩
theorem jxK{o:E}{l:TrL}{s:E}:∀(n j i:Ã),j<=i->i<j+n->Sol o l s i->s-tof o l i∈jjy o l s j n
 |0,_,_,h1,h2,_=>omg_
 |n+1,j,i,h1,h2,hs=>by
  simp only[jjy];by_cases he:i=j
  .subst he;rw[if_pos hs];simp
  .exact U _ (jxK n (j+1) i omg_ omg_ hs)
theorem jzL{z:j0z}(hz:ZOk z){ds:I E}{x y:E}(h0:0<=x)(hxy:x<=y)(h1:y<=8589934592)(htr:∀i,i<(tb z).2.length->¬(x<tat (tb z).2 i/\tat (tb z).2 i<=y))
  (hds:∀d∈ds,∀i:E,0<=i->i<2->∀t∈sols z.2.1 (tb z).2 ((d+i)*86400+0),¬(x<t/\t<=y)):Â ((locD z x).1∈ds)=Â ((locD z y).1∈ds):=by
 obtain⟨k,hk,k1,k2⟩:=j7b hz.ztab.2 (t:=x) h0 omg_
 have k3:y<frm (tb z).2 (k+1):=by
  rcases Nat.lt_or_ge k (tb z).2.length with hl|hl
  .have:=htr k hl;rw[jdG hl]at k2 ⊢;omega
  .rw[show k=(tb z).2.length by omega,j8c];omega
 obtain⟨e1,_⟩:=joH hz h0 omg_ hk k1 k2;obtain⟨e2,_⟩:=joH hz (t:=y) omg_ h1 hk omg_ k3
 have key:∀D:E,x+tof z.2.1 (tb z).2 k<D*86400->D*86400<=y+tof z.2.1 (tb z).2 k->∀d∈ds,∀i:E,0<=i->i<2->d+i=D->False:=λD d1 d2 d hd i i0 i1 hdi=>by
  have hs:Sol z.2.1 (tb z).2 (D*86400+0) k:=⟨omg_,omg_⟩;have hm:D*86400+0-tof z.2.1 (tb z).2 k∈sols z.2.1 (tb z).2 ((d+i)*86400+0):=by rw[hdi];exact jxK _ 0 k omg_ omg_ hs
  exact hds d hd i i0 i1 _ hm ⟨omg_,omg_⟩
 rw[e1,e2];by_cases he:(x+tof z.2.1 (tb z).2 k)/86400=(y+tof z.2.1 (tb z).2 k)/86400
 .rw[he]
 .have hm1:¬(x+tof z.2.1 (tb z).2 k)/86400∈ds:=λhd=>key ((x+tof z.2.1 (tb z).2 k)/86400+1) omg_ omg_ _ hd 1 omg_ omg_ rfl;have hm2:¬(y+tof z.2.1 (tb z).2 k)/86400∈ds:=λhd=>key ((y+tof z.2.1 (tb z).2 k)/86400) omg_ omg_ _ hd 0 omg_ omg_ omg_;rw[j01 hm1,j01 hm2]
def brW(W:SL):I Int:=W.flatMap λu=>[u.1,u.2]
theorem jCK(W:SL):(brW W).length=2*W.length:=by
 induction W with
 |nil=>rfl
 |cons x r ih=>have:brW (x::r)=[x.1,x.2]++brW r:=rfl;rw[this,J,ih];simp;omega
section
variable{zs:I j0z}{ps:I j0d}{cs:I CalT}{ss:I j0u}
theorem jEt{L:j0c}{W:SL}(hW:W.length<=10000):∀(n i:Ã)(acc:I E),i+n=W.length->acc.length+2*n<=100000000->
  jht (i:E) zs ps cs ss L.1 L.2.1 L.2.2.1.1 L.2.2.1.2 L.2.2.2.1 L.2.2.2.2.1 L.2.2.2.2.2.1 L.2.2.2.2.2.2.1 L.2.2.2.2.2.2.2.1 L.2.2.2.2.2.2.2.2 acc W=
   Z (zs,ps,cs,ss,L.1,L.2.1,L.2.2.1.1,L.2.2.1.2,L.2.2.2.1,L.2.2.2.2.1,L.2.2.2.2.2.1,L.2.2.2.2.2.2.1,L.2.2.2.2.2.2.2.1,L.2.2.2.2.2.2.2.2,acc++brW (W.drop i))
 |0,i,acc,hi,_=>by
  rw[jgU,N omg_];simp only[j6P,show O W.length=(W.length:E) from rfl];rw[j01 omg_,j7,j06];simp[brW]
 |n+1,i,acc,hi,ha=>by
  have hlt:i<W.length:=omg_;have hgd:W.getD i (0,0)=W[i]:=by simp[hlt]
  have ih:=jEt (L:=L) hW n (i+1) (acc++[W[i].1,W[i].2]) omg_ sqo_;rw[Ä]at ih;rw[jgU,G hlt];simp only[j6P,show O W.length=(W.length:E) from rfl];rw[j00 (show (i:E)<(W.length:E) by omega),j0L,j05 (x:=(i:E)+1)];simp only[j6,j8,hgd];rw[j00 (by simp[j02];omega),j6,j03];exact ih
theorem jEu{x:CalT}{T:TrL}(hT:T.length<=1000):∀(n i:Ã)(acc:I E),i+n=T.length->acc.length+n<=100000000->
  jat (i:E) zs ps cs ss x.1 x.2.1 x.2.2 acc T=Z (zs,ps,cs,ss,x.1,x.2.1,x.2.2,acc++(T.drop i).map (·.1))
 |0,i,acc,hi,_=>by
  rw[jgV,N omg_];simp only[j6Q,show O T.length=(T.length:E) from rfl];rw[j01 omg_,j7,j06];simp
 |n+1,i,acc,hi,ha=>by
  have hlt:i<T.length:=omg_;have hgd:T.getD i (0,0)=T[i]:=by simp[hlt]
  have ih:=jEu (x:=x) hT n (i+1) (acc++[T[i].1]) omg_ sqo_;rw[Ä]at ih;rw[jgV,G hlt];simp only[j6Q,show O T.length=(T.length:E) from rfl];rw[j00 (show (i:E)<(T.length:E) by omega),j0L,j05 (x:=(i:E)+1)];simp only[j6,j8,hgd];rw[j00 (by simp[j02];omega),j6,j03];exact ih
def dyB(z:j0z)(d:E):I Int:=sols z.2.1 (tb z).2 ((d+0)*86400+0)++sols z.2.1 (tb z).2 ((d+1)*86400+0)
theorem jxL{z:j0z}(hz:ZOk z)(d:E):(dyB z d).length<=10:=by
 have h4:(tb z).2.length<=4:=jbW hz;have a:=jiK (o:=z.2.1) (l:=(tb z).2) ((d+0)*86400+0) ((tb z).2.length+1) 0;have b:=jiK (o:=z.2.1) (l:=(tb z).2) ((d+1)*86400+0) ((tb z).2.length+1) 0;unfold dyB sols;rw[J];omega
theorem jFg(hzs:∀z∈zs,ZOk z){x:CalT}(hx:CCk zs.length x){i:Ã}(hi:i<x.2.2.length){acc:I E}(ha:acc.length<=90000000) :
  jhu (i:E) 0 zs ps cs ss x.1 x.2.1 x.2.2 acc=Z ((i:E),zs,ps,cs,ss,x.1,x.2.1,x.2.2,acc++dyB (zAt zs x.2.1) x.2.2[i]):=by
 have hz:ZOk (zAt zs x.2.1):=zget hzs hx.z0 hx.z1;have h4:=hz.zref.2.1;have hd:=hx.day _ (Á hi);have d0:=jAD hd;have d1:=jsV hd;have hgd:x.2.2.getD i (0:E)=x.2.2[i]:=by simp[hi]
 have hl4:(tb (zAt zs x.2.1)).2.length<=4:=jbW hz;have hsl:=λs=>jiK (o:=(zAt zs x.2.1).2.1) (l:=(tb (zAt zs x.2.1)).2) s ((tb (zAt zs x.2.1)).2.length+1) 0;have e0:j7Y ((zs.getD x.2.1.toNat (F,0,[])).1,(zs.getD x.2.1.toNat (F,0,[])).2.1,(zs.getD x.2.1.toNat (F,0,[])).2.2) (x.2.2[i]+0,0)=_:=jqc h4 (show -2<=x.2.2[i]+0 by omega) omg_ (show (0:E)<=0 by omega) omg_;have e1:j7Y ((zs.getD x.2.1.toNat (F,0,[])).1,(zs.getD x.2.1.toNat (F,0,[])).2.1,(zs.getD x.2.1.toNat (F,0,[])).2.2) (x.2.2[i]+1,0)=_:=jqc h4 (show -2<=x.2.2[i]+1 by omega) omg_ (show (0:E)<=0 by omega) omg_;have b0:=hsl ((x.2.2[i]+0)*86400+0);have b1:=hsl ((x.2.2[i]+1)*86400+0);rw[jdC];simp only[j4Z];rw[j00 (show (0:E)<2 by omega),j0N hx.z0 hx.z1,j0N (show (0:E)<=(i:E) by omega) omg_];simp only[j6,j8,hgd];rw[j05 (x:=x.2.2[i]+0),e0];simp only[j4];rw[j00 (show acc.length+(sols (zAt zs x.2.1).2.1 (tb (zAt zs x.2.1)).2 ((x.2.2[i]+0)*86400+0)).length<=j02 by unfold sols j02;omega),j6,j03];rw[show w64 (0+1)=1 from rfl,jdC];simp only[j4Z];rw[j00 (show (1:E)<2 by omega),j0N hx.z0 hx.z1,j0N (show (0:E)<=(i:E) by omega) omg_];simp only[j6,j8,hgd];rw[j05 (x:=x.2.2[i]+1),e1];simp only[j4]
 rw[j00 (show (acc++sols (zAt zs x.2.1).2.1 (tb (zAt zs x.2.1)).2 ((x.2.2[i]+0)*86400+0)).length+(sols (zAt zs x.2.1).2.1 (tb (zAt zs x.2.1)).2 ((x.2.2[i]+1)*86400+0)).length<=j02 by rw[J];unfold sols j02;omega),j6,j03];rw[show w64 (1+1)=2 from rfl,jdC];simp only[j4Z];rw[j01 (show¬(2:E)<2 by omega),j7,j06,Ä];rfl
theorem jEv(hzs:∀z∈zs,ZOk z){x:CalT}(hx:CCk zs.length x):∀(n i:Ã)(acc:I E),i+n=x.2.2.length->acc.length+10*n<=90000000->
  jcI (i:E) zs ps cs ss x.1 x.2.1 x.2.2 acc=Z (acc++(x.2.2.drop i).flatMap (dyB (zAt zs x.2.1)))
 |0,i,acc,hi,_=>by
  rw[jgW,N omg_];simp only[j6R,show O x.2.2.length=(x.2.2.length:E) from rfl];rw[j01 omg_,j7,j06];simp
 |n+1,i,acc,hi,ha=>by
  have hlt:i<x.2.2.length:=omg_;have hl:=hx.len;have hz:ZOk (zAt zs x.2.1):=zget hzs hx.z0 hx.z1;have hb:=jxL hz x.2.2[i];have ih:=jEv hzs hx n (i+1) (acc++dyB (zAt zs x.2.1) x.2.2[i]) omg_ (by rw[J];omega);rw[Ä]at ih;rw[jgW,G hlt];simp only[j6R,show O x.2.2.length=(x.2.2.length:E) from rfl];rw[j00 (show (i:E)<(x.2.2.length:E) by omega),j6,jFg hzs hx hlt omg_];simp only[j4];rw[j05 (x:=(i:E)+1),j03];exact ih
end
def NoC(out:I E)(x y:E):Prop:=∀c∈out,¬(x<c/\c<=y)
theorem NoC.left{A B:I E}{x y:E}(h:NoC (A++B) x y):NoC A x y:=λc hc=>h c (X _ hc)
theorem NoC.right{A B:I E}{x y:E}(h:NoC (A++B) x y):NoC B x y:=λc hc=>h c (U _ hc)
section
variable{zs:I j0z}{ps:I j0d}{cs:I CalT}{ss:I j0u}(hs:SOk2 zs ps cs)
include hs
theorem jxM{L:j0c}(hL:LCk zs.length ps.length cs.length L){x y:E}(h0:0<=x)(hxy:x<=y)(h1:y<=8589934592)
  (hno:L.2.2.2.2.2.2.2.2≠0->NoC ((tb (zAt zs (cAt cs L.2.2.2.2.2.2.2.1).2.1)).2.map (·.1)++(cAt cs L.2.2.2.2.2.2.2.1).2.2.flatMap (dyB (zAt zs (cAt cs L.2.2.2.2.2.2.2.1).2.1))) x y):calB zs cs L x=calB zs cs L y:=by
 unfold calB;by_cases hm:L.2.2.2.2.2.2.2.2=0
 .rw[j3m hm];rfl
 .have hn:=hno hm;have hcal:=hL.cal hm;have hx:=cget hs hcal.1 hcal.2;have hz:ZOk (zAt zs (cAt cs L.2.2.2.2.2.2.2.1).2.1):=zget hs.so.ok hx.z0 hx.z1;rw[jzL hz h0 hxy h1 (λi hi=>?_) (λd hd i i0 i1 t ht=>?_)]
  .refine hn.left _ (List.mem_map.2 ⟨(tb (zAt zs (cAt cs L.2.2.2.2.2.2.2.1).2.1)).2[i],Á hi,?_⟩);unfold tat;simp[À,hi]
  .refine hn.right t (List.mem_flatMap.2 ⟨d,hd,?_⟩);unfold dyB;have:i=0\/i=1:=omg_;rcases this with rfl|rfl
   .exact X _ ht
   .exact U _ ht
theorem jxN{L:j0c}(hL:LCk zs.length ps.length cs.length L){a b:E}(ha:0<=a)(hab:a<=b)(hb:b<=8589934592)(hlen:b-a<=2592000) :
  ∃out,jiq (zs,ps,cs,ss) L a b=Z out/\out.length<=2400000/\∀x y,a<=x->x<=y->y<b->NoC out x y->perX zs cs L x=perX zs cs L y:=by
 have hRt:=hL.rt2;have hz:ZOk (zAt zs L.2.1):=zget hs.so.ok hL.z0 hL.z1;have h4:=hz.zref.2.1;have hl4:(tb (zAt zs L.2.1)).2.length<=4:=jbW hz;obtain⟨H,eH,lH,mH⟩:=jzI h4 hRt ha hab hb omg_
 have eH':j9Q ((zs.getD L.2.1.toNat (F,0,[])).1,(zs.getD L.2.1.toNat (F,0,[])).2.1,(zs.getD L.2.1.toNat (F,0,[])).2.2)
  (L.1,L.2.1,(L.2.2.1.1,L.2.2.1.2),L.2.2.2.1,L.2.2.2.2.1,L.2.2.2.2.2.1,L.2.2.2.2.2.2.1,L.2.2.2.2.2.2.2.1,L.2.2.2.2.2.2.2.2) a b=_:=eH
 have hsh:∀x y,a<=x->x<=y->y<b->NoC H x y->shK (zAt zs L.2.1) L x=shK (zAt zs L.2.1) L y:=λx y h1 h2 h3 hn=>
  jzJ hz hRt omg_ h2 omg_ (λj v hj hv hc=>hn v (mH j v hj hv omg_ omg_) hc)
 obtain⟨W,eW,lW,hW⟩:∃W:SL,((L.2.2.2.2.2.2.1.length:E)>0->j5j (zAt zs L.2.1) L.2.2.2.2.2.2.1 a b=Z (W,0))/\W.length<=100/\
   ((L.2.2.2.2.2.2.1.length:E)>0->∀x y,a<=x->x<=y->y<b->NoC (brW W) x y->hasB (secD (locD (zAt zs L.2.1) x)) L.2.2.2.2.2.2.1=hasB (secD (locD (zAt zs L.2.1) y)) L.2.2.2.2.2.2.1):=by
  by_cases hw:(L.2.2.2.2.2.2.1.length:E)>0
  .obtain⟨W,e,s1,s2,s3,s4⟩:=jnr h4 (É hl4 omg_) (r5ck hL.w hL.wl) hL.w hL.wl (M:=5) omg_ ha hab hb omg_ omg_;have hwl:W.length<=3*6*5:=É s3 (Í (Í hL.w3 omg_) omg_);rw[if_neg omg_]at e;refine⟨W,λ_=>e,omg_,λ_ x y h1 h2 h3 hn=>?_⟩;have hin:=jzK (W:=W) h2 (λu hu=>⟨hn u.1 (List.mem_flatMap.2 ⟨u,hu,smp_⟩),hn u.2 (List.mem_flatMap.2 ⟨u,hu,smp_⟩)⟩);obtain⟨i,i0,i1,i2⟩:=j7b hz.ztab.2 (t:=x) omg_ omg_;obtain⟨j,j0,j1,j2⟩:=j7b hz.ztab.2 (t:=y) omg_ omg_;rw[s4 i i0 x h1 omg_ i1 i2,s4 j j0 y omg_ h3 j1 j2]at hin;rw[(joH hz omg_ omg_ i0 i1 i2).2,(joH hz omg_ omg_ j0 j1 j2).2];exact Bool.eq_iff_iff.2 hin
  .exact⟨[],λh=>absurd h hw,smp_,λh=>absurd h hw⟩
 have hok:∀x y,a<=x->x<=y->y<b->((L.2.2.2.2.2.2.1.length:E)>0->NoC (brW W) x y)->okW L.2.2.2.2.2.2.1 (secD (locD (zAt zs L.2.1) x))=okW L.2.2.2.2.2.2.1 (secD (locD (zAt zs L.2.1) y)):=λx y h1 h2 h3 hn=>by
  unfold okW;by_cases hw:(L.2.2.2.2.2.2.1.length:E)>0
  .rw[j00 hw,j6,j6];exact hW hw x y h1 h2 h3 (hn hw)
  .rw[j01 hw,j7,j7]
 have hall:∀out:I E,(∀c∈H,c∈out)->((L.2.2.2.2.2.2.1.length:E)>0->∀c∈brW W,c∈out)->
   (L.2.2.2.2.2.2.2.2≠0->∀c∈(tb (zAt zs (cAt cs L.2.2.2.2.2.2.2.1).2.1)).2.map (·.1)++(cAt cs L.2.2.2.2.2.2.2.1).2.2.flatMap (dyB (zAt zs (cAt cs L.2.2.2.2.2.2.2.1).2.1)),c∈out)->
   ∀x y,a<=x->x<=y->y<b->NoC out x y->perX zs cs L x=perX zs cs L y:=λout m1 m2 m3 x y h1 h2 h3 hn=>by
  have e1:=hsh x y h1 h2 h3 (λc hc=>hn c (m1 c hc));have e2:=hok x y h1 h2 h3 (λhw c hc=>hn c (m2 hw c hc));have e3:=jxM hs hL (x:=x) (y:=y) omg_ h2 omg_ (λhm c hc=>hn c (m3 hm c hc));have eon:onX zs cs L x=onX zs cs L y:=by unfold onX;rw[e1,e2,e3]
  unfold perX;rw[eon,e1]
 have hcal:∀acc:I E,acc.length<=2390000->L.2.2.2.2.2.2.2.2≠0->∃out,(cond (inR L.2.2.2.2.2.2.2.1 cs.length) (cond (inR (cs.getD L.2.2.2.2.2.2.2.1.toNat (F,0,[])).2.1 zs.length)
   ((
    j0s ((zs.getD (cs.getD L.2.2.2.2.2.2.2.1.toNat (F,(0:E),([]:I E))).2.1.toNat (F,0,[])).1,(zs.getD (cs.getD L.2.2.2.2.2.2.2.1.toNat (F,(0:E),([]:I E))).2.1.toNat (F,0,[])).2.1,(zs.getD (cs.getD L.2.2.2.2.2.2.2.1.toNat (F,(0:E),([]:I E))).2.1.toNat (F,0,[])).2.2)).bind λr88=>
    (jat 0 zs ps cs ss (cs.getD L.2.2.2.2.2.2.2.1.toNat (F,0,[])).1 (cs.getD L.2.2.2.2.2.2.2.1.toNat (F,0,[])).2.1 (cs.getD L.2.2.2.2.2.2.2.1.toNat (F,0,[])).2.2 acc r88.1).bind λq2=>
     (jcI 0 q2.1 q2.2.1 q2.2.2.1 q2.2.2.2.1 q2.2.2.2.2.1 q2.2.2.2.2.2.1 q2.2.2.2.2.2.2.1 q2.2.2.2.2.2.2.2).bind λq4=>Z q4) Ò) Ò)=Z out/\out.length<=2400000/\(∀c∈acc,c∈out)/\
   ∀c∈(tb (zAt zs (cAt cs L.2.2.2.2.2.2.2.1).2.1)).2.map (·.1)++(cAt cs L.2.2.2.2.2.2.2.1).2.2.flatMap (dyB (zAt zs (cAt cs L.2.2.2.2.2.2.2.1).2.1)),c∈out:=λacc hacc hm=>by
  have hc:=hL.cal hm;have hx:CCk zs.length (cAt cs L.2.2.2.2.2.2.2.1):=cget hs hc.1 hc.2;have hzc:ZOk (zAt zs (cAt cs L.2.2.2.2.2.2.2.1).2.1):=zget hs.so.ok hx.z0 hx.z1;have hlc:(tb (zAt zs (cAt cs L.2.2.2.2.2.2.2.1).2.1)).2.length<=4:=jbW hzc;have hxl:=hx.len;have e2:=jEu (zs:=zs) (ps:=ps) (cs:=cs) (ss:=ss) (x:=cAt cs L.2.2.2.2.2.2.2.1) (T:=(tb (zAt zs (cAt cs L.2.2.2.2.2.2.2.1).2.1)).2) omg_ (tb (zAt zs (cAt cs L.2.2.2.2.2.2.2.1).2.1)).2.length 0 acc omg_ omg_;have e4:=jEv (ps:=ps) (cs:=cs) (ss:=ss) hs.so.ok hx (cAt cs L.2.2.2.2.2.2.2.1).2.2.length 0 (acc++(tb (zAt zs (cAt cs L.2.2.2.2.2.2.2.1).2.1)).2.map (·.1)) omg_ (by rw[J,Ô];omega);rw[show ((0:Ã):E)=0 from rfl,Y]at e2 e4
  have hfl:∀ds:I E,(ds.flatMap (dyB (zAt zs (cAt cs L.2.2.2.2.2.2.2.1).2.1))).length<=10*ds.length:=λds=>by
   induction ds with
   |nil=>simp
   |cons d r ih=>have:=jxL hzc d;rw[List.flatMap_cons,J,Å];omega
  have hf:=hfl (cAt cs L.2.2.2.2.2.2.2.1).2.2;rw[j0N hc.1 hc.2,show inR (cs.getD L.2.2.2.2.2.2.2.1.toNat (F,0,[])).2.1 zs.length=Ö from j0N hx.z0 hx.z1];simp only[j6];rw[show j0s ((zs.getD (cs.getD L.2.2.2.2.2.2.2.1.toNat (F,(0:E),([]:I E))).2.1.toNat (F,0,[])).1,(zs.getD (cs.getD L.2.2.2.2.2.2.2.1.toNat (F,(0:E),([]:I E))).2.1.toNat (F,0,[])).2.1,(zs.getD (cs.getD L.2.2.2.2.2.2.2.1.toNat (F,(0:E),([]:I E))).2.1.toNat (F,0,[])).2.2)=_ from hzc.zref.2.1.1];simp only[j4];rw[show jat 0 zs ps cs ss (cs.getD L.2.2.2.2.2.2.2.1.toNat (F,0,[])).1 (cs.getD L.2.2.2.2.2.2.2.1.toNat (F,0,[])).2.1 (cs.getD L.2.2.2.2.2.2.2.1.toNat (F,0,[])).2.2 acc _=_ from e2];simp only[j4];rw[e4];refine⟨_,rfl,?_,λc h=>?_,λc h=>?_⟩
  .rw[J,J,Ô];omega
  .exact X _ (X _ h)
  .rcases List.mem_append.1 h with h|h
   .exact X _ (U _ h)
   .exact U _ h
 simp only[jiq];rw[j0N hL.z0 hL.z1,j6,eH'];simp only[j4,Ó,Æ,Ù];rw[j00 (show H.length<=j02 by unfold j02;omega),j6];by_cases hw:(L.2.2.2.2.2.2.1.length:E)>0
 .have e0:=jEt (zs:=zs) (ps:=ps) (cs:=cs) (ss:=ss) (L:=L) (W:=W) omg_ W.length 0 H omg_ omg_;rw[show ((0:Ã):E)=0 from rfl,Y]at e0;rw[j00 (show O L.2.2.2.2.2.2.1.length>0 from hw),j6];rw[show j5j ((zs.getD L.2.1.toNat (F,0,[])).1,(zs.getD L.2.1.toNat (F,0,[])).2.1,(zs.getD L.2.1.toNat (F,0,[])).2.2) L.2.2.2.2.2.2.1 a b=_ from eW hw];simp only[j4,e0];have hbl:=jCK W;by_cases hm:L.2.2.2.2.2.2.2.2=0
  .rw[j3m hm,j6];refine⟨_,rfl,by rw[J];omega,hall _ (λc h=>X _ h) (λ_ c h=>U _ h) (λh=>absurd hm h)⟩
  .rw[j1p hm,j7];obtain⟨out,eo,lo,mo1,mo2⟩:=hcal (H++brW W) (by rw[J];omega) hm;exact⟨out,eo,lo,hall out (λc h=>mo1 c (X _ h)) (λ_ c h=>mo1 c (U _ h)) (λ_=>mo2)⟩
 .rw[j01 (show¬O L.2.2.2.2.2.2.1.length>0 from hw),j7];by_cases hm:L.2.2.2.2.2.2.2.2=0
  .rw[j3m hm,j6];exact⟨H,rfl,omg_,hall _ (λc h=>h) (λh=>absurd h hw) (λh=>absurd hm h)⟩
  .rw[j1p hm,j7];obtain⟨out,eo,lo,mo1,mo2⟩:=hcal H omg_ hm;exact⟨out,eo,lo,hall out mo1 (λh=>absurd h hw) (λ_=>mo2)⟩
end
theorem jrP{l:SgL}(hl:l.length<=100000000)(x:SgT):jgy l x=Z (mgA l x):=by
 simp only[jgy,jbQ,mgA];by_cases hx:x.2.1<=x.1
 .rw[j00 hx,if_pos hx,j6]
 rw[j01 hx,if_neg hx,j7,oLn_ l];rcases Ê l with rfl|⟨r,u,rfl⟩
 .rfl
 rw[Ë]at hl ⊢;have hlen:(r++[u]).length=r.length+1:=smp_;rw[hlen]at hl ⊢;have hgd:(r++[u]).getD r.length (0,0,0)=u:=by simp[À]
 rw[j00 (show ((r.length+1:Ã):E)>0 by omega),j05 (x:=((r.length+1:Ã):E)-1),j0L,show (((r.length+1:Ã):E)-1).toNat=r.length by omega,hgd];simp only[j6,List.getLast?_append,List.getLast?_singleton,Option.some_or,List.dropLast_concat];rw[j00 (show r.length+1+[(x.1,x.2.1,x.2.2)].length<=j02 by simp[j02];omega)];simp only[j6];by_cases h1:u.2.1=x.1
 .rw[j3m h1,j6];by_cases h2:u.2.2=x.2.2
  .rw[j3m h2,if_pos ⟨h1,h2⟩,j6];congr 1;simp
  .rw[j1p h2,if_neg (λh=>h2 h.2),j7]
 .rw[j1p h1,if_neg (λh=>h1 h.1),j7]
theorem jxO{x y p:E}:∀es:I j1V,(∀e∈es,(e.2.2.2.1<=x↔e.2.2.2.1<=y)/\(e.2.2.2.2<=x↔e.2.2.2.2<=y))->jbo es p x=jbo es p y
 |[],_=>rfl
 |e::r,h=>by
  have h1:=h e smp_;have ih:=jxO (p:=p) r (λu hu=>h u (by simp[hu]));unfold jbo at ih ⊢;have a1:Â (e.2.2.2.1<=x)=Â (e.2.2.2.1<=y):=decide_eq_decide.2 h1.1;have a2:Â (x<e.2.2.2.2)=Â (y<e.2.2.2.2):=decide_eq_decide.2 omg_;simp only[List.any_cons];rw[a1,a2,ih]
theorem jxP{zs:I j0z}{cs:I CalT}{s:j0u}{x y:E}(hxy:x<=y)(hp:∀L∈s.2.1,perX zs cs L x=perX zs cs L y)(he:NoC (edB s.2.2) x y):whoS zs cs s x=whoS zs cs s y:=by
 have hed:∀e∈s.2.2,(e.2.2.2.1<=x↔e.2.2.2.1<=y)/\(e.2.2.2.2<=x↔e.2.2.2.2<=y):=λe hm=>by
  have a:=he e.2.2.2.1 (List.mem_flatMap.2 ⟨e,hm,smp_⟩);have b:=he e.2.2.2.2 (List.mem_flatMap.2 ⟨e,hm,smp_⟩);exact⟨omg_,omg_⟩
 unfold whoS;rw[jgG (u:=y) (pg:=pfX zs cs s.2.1 y) (λi hi=>?_) (λp=>jxO s.2.2 hed)]
 .exact jen s.2.2 _ (λe hm=>by have:=hed e hm;exact⟨this.1.symm,this.2.symm⟩)
 .unfold pfX;have hgd:s.2.1.getD i (F,0,(0,0),0,0,[],[],0,0)=s.2.1[i]:=by simp[À,hi]
  rw[hgd];exact hp _ (Á hi)
section
variable{zs:I j0z}{ps:I j0d}{cs:I CalT}(hs:SOk2 zs ps cs)
include hs
theorem jzM{ss:I j0u}(hc:j8W (zs,ps,cs,ss)){i:Ã}(hi:i<ss.length){t:E}(h0:0<=t)(h1:t<=8589934592):jhp (zs,ps,cs,ss) (i:E) t=Z (whoS zs cs ss[i] t):=by
 have hsc:=hc.sc _ (Á hi);have hll:=hsc.ll;have hel:=hsc.el;have hgs:ss.getD i (F,[],[])=ss[i]:=by simp[À,hi]
 have lp:=jrE hs (ss:=ss) (nm:=ss[i].1) (es:=ss[i].2.2) omg_ omg_ hsc.ly h0 h1 ss[i].2.1.length (Ñ _)
 have et:∃k,jjl (zs,ps,cs,ss) (i:E) t=Z (k,topP ss[i].2.2 t (pfX zs cs ss[i].2.1 t) ss[i].2.1.length):=by
  simp only[jjl];rw[j0L];simp only[j6,j8,hgs,show O ss[i].2.1.length=(ss[i].2.1.length:E) from rfl];rw[j05 (x:=(ss[i].2.1.length:E)-1),show jee t ((ss[i].2.1.length:E)-1) zs ps cs ss ss[i].1 ss[i].2.1 ss[i].2.2=_ from lp];simp only[j4,topP];cases topI (j6W ss[i].2.2 t (pfX zs cs ss[i].2.1 t)) ss[i].2.1.length with
  |none=>exact⟨_,rfl⟩
  |some k=>exact⟨_,rfl⟩
 obtain⟨k,et⟩:=et;have ef:=jxp (es:=ss[i].2.2) omg_ (t:=t) ss[i].2.2.length 0 (topP ss[i].2.2 t (pfX zs cs ss[i].2.1 t) ss[i].2.1.length) omg_;rw[Y]at ef;simp only[jhp,et,j4];rw[j0L];simp only[j6,j8,hgs,jku];rw[show jcG ss[i].2.2 (topP ss[i].2.2 t (pfX zs cs ss[i].2.1 t) ss[i].2.1.length) t 0=_ from ef];rfl
theorem jB5{ss:I j0u}{nm:ByteArray}{ls:I j0c}{es:I j1V}(hl:ls.length<=6)(hL:∀L∈ls,LCk zs.length ps.length cs.length L){a b:E}(ha:0<=a)(hab:a<=b)(hb:b<=8589934592)(hlen:b-a<=2592000) :
  ∀(n i:Ã)(acc:I E),i+n=ls.length->acc.length+2400000*n<=20000000->
  ∃out,jhv a b (i:E) zs ps cs ss nm ls es acc=Z (a,b,nm,ls,es,out)/\out.length<=acc.length+2400000*n/\(∀c∈acc,c∈out)/\∀L∈ls.drop i,∀x y,a<=x->x<=y->y<b->NoC out x y->perX zs cs L x=perX zs cs L y
 |0,i,acc,hi,_=>by
  rw[jgY];simp only[j6T,show O ls.length=(ls.length:E) from rfl];rw[j01 omg_,j7,j06,N omg_];exact⟨acc,rfl,omg_,λc h=>h,λL h=>by simp at h⟩
 |n+1,i,acc,hi,hacc=>by
  have hlt:i<ls.length:=omg_;have hgd:ls.getD i (F,0,(0,0),0,0,[],[],0,0)=ls[i]:=by simp[À,hlt]
  obtain⟨C,eC,lC,pC⟩:=jxN hs (ss:=ss) (hL _ (Á hlt)) ha hab hb hlen;obtain⟨out,e1,e2,e3,e4⟩:=jB5 (ss:=ss) (nm:=nm) (es:=es) hl hL ha hab hb hlen n (i+1) (acc++C) omg_ (by rw[J];omega);rw[jgY,G hlt];simp only[j6T,show O ls.length=(ls.length:E) from rfl];rw[j00 (show (i:E)<(ls.length:E) by omega),j0L,j05 (x:=(i:E)+1)];simp only[j6,j8,hgd];rw[show jiq (zs,ps,cs,ss) (ls[i].1,ls[i].2.1,(ls[i].2.2.1.1,ls[i].2.2.1.2),ls[i].2.2.2.1,ls[i].2.2.2.2.1,ls[i].2.2.2.2.2.1,ls[i].2.2.2.2.2.2.1,ls[i].2.2.2.2.2.2.2.1,ls[i].2.2.2.2.2.2.2.2) a b=_ from eC];simp only[j4];rw[j00 (show acc.length+C.length<=j02 by unfold j02;omega),j6,j03];refine⟨out,e1,by rw[J]at e2;omega,λc h=>e3 c (X _ h),λL hm x y h1 h2 h3 hn=>?_⟩;rcases List.mem_cons.1 hm with rfl|hm
  .exact pC x y h1 h2 h3 (λc hc=>hn c (e3 c (U _ hc)))
  .exact e4 L hm x y h1 h2 h3 hn
omit hs in
theorem jB6{nm:ByteArray}{ls:I j0c}{es:I j1V}(hl:es.length<=100){a b:E}:∀(n i:Ã)(acc:I E),i+n=es.length->acc.length+2*n<=40000000->
  jhw a b (i:E) nm ls es acc=Z (a,b,acc++edB (es.drop i))
 |0,i,acc,hi,_=>by
  rw[jgZ,N omg_];simp only[j6U,show O es.length=(es.length:E) from rfl];rw[j01 omg_,j7,j06];simp[edB]
 |n+1,i,acc,hi,ha=>by
  have hlt:i<es.length:=omg_;have hgd:es.getD i (0,0,0,0,0)=es[i]:=by simp[À,hlt]
  have ih:=jB6 (nm:=nm) (ls:=ls) hl (a:=a) (b:=b) n (i+1) (acc++[es[i].2.2.2.1,es[i].2.2.2.2]) omg_ sqo_;rw[Ä]at ih;rw[jgZ,G hlt];simp only[j6U,show O es.length=(es.length:E) from rfl];rw[j00 (show (i:E)<(es.length:E) by omega),j0L,j05 (x:=(i:E)+1)];simp only[j6,j8,hgd];rw[j00 (by simp[j02];omega),j6,j03];exact ih
theorem jxQ{ss:I j0u}(hc:j8W (zs,ps,cs,ss)){i:Ã}(hi:i<ss.length){a b:E}(ha:0<=a)(hab:a<=b)(hb:b<=8589934592)(hlen:b-a<=2592000) :
  ∃B,jkv (zs,ps,cs,ss) (i:E) a b=Z B/\B.Pairwise (· < ·)/\B.length<=40000000/\(∀x∈B,a<=x/\x<=b)/\(∃r,B=a::r)/\(B.getD (B.length-1) 0=b)/\
   ∀x y,x∈B->x<=y->y<b->(∀c∈B,¬(x<c/\c<=y))->whoS zs cs ss[i] x=whoS zs cs ss[i] y:=by
 have hsc:=hc.sc _ (Á hi);have hll:=hsc.ll;have hel:=hsc.el;have hgs:ss.getD i (F,[],[])=ss[i]:=by simp[À,hi]
 obtain⟨C,e1,e2,_,e4⟩:=jB5 hs (ss:=ss) (nm:=ss[i].1) (es:=ss[i].2.2) hll hsc.ly ha hab hb hlen ss[i].2.1.length 0 [] omg_ sqo_;have e5:=jB6 (nm:=ss[i].1) (ls:=ss[i].2.1) (es:=ss[i].2.2) omg_ (a:=a) (b:=b) ss[i].2.2.length 0 C omg_ (by simp at e2;omega);rw[show ((0:Ã):E)=0 from rfl,Y]at e5;rw[show ((0:Ã):E)=0 from rfl]at e1;rw[Y]at e4;have hel2:=jjC ss[i].2.2;simp only[Æ,Ù]at e2;have hcl:(C++edB ss[i].2.2).length<=39000000:=by rw[J];omega
 obtain⟨b1,b2,b3,b4,b5,b6,b7⟩:=jCJ (C++edB ss[i].2.2) hab;refine⟨bord (C++edB ss[i].2.2) a b,?_,b1,omg_,b3,b5,?_,λx y hx hxy hyb hn=>?_⟩
 .simp only[jkv];rw[j0L];simp only[j6,j8,hgs,e1,e5,j4,juI (show (C++edB ss[i].2.2).length<=49000000 by omega) a b]
 .by_cases h:a<b
  .obtain⟨r,hr⟩:=b6 h;rw[hr];simp[À]
  .rw[b7 omg_];show a=b;omega
 .have hxa:=b3 x hx;have hno:NoC (C++edB ss[i].2.2) x y:=λc hc hcc=>hn c (b4 c hc omg_ omg_) hcc;exact jxP hxy (λL hm=>e4 L hm x y hxa.1 hxy hyb hno.left) hno.right
omit hs in
theorem jxR{f:E->E}{ss:I j0u}{i:Ã}{B:I E}(hBl:B.length<=50000000)(hB:B.Pairwise (· < ·))(hraw:∀t∈B,jhp (zs,ps,cs,ss) (i:E) t=Z (f t)){a b:E}(hlast:B.getD (B.length-1) 0=b)
  (hsame:∀x y,x∈B->x<=y->y<b->(∀c∈B,¬(x<c/\c<=y))->f x=f y):∀(n j:Ã)(acc:SgL),j+1+n=B.length->acc.length<=j->Cov f (B.getD j 0) Ò a acc->
  ∃out,jeQ (i:E) (j:E) zs ps cs ss B acc=Z out/\Cov f b Ò a out
 |0,j,acc,hj,ha,hC=>by
  rw[jfg];simp only[j5l,show O B.length=(B.length:E) from rfl];rw[j05 (x:=(j:E)+1),j01 omg_,j7,j06];refine⟨acc,rfl,?_⟩;rw[<-hlast,show B.length-1=j by omega];exact hC
 |n+1,j,acc,hj,ha,hC=>by
  have h1:j<B.length:=omg_;have h2:j+1<B.length:=omg_;have g1:B.getD j (0:E)=B[j]:=by simp[À,h1]
  have g2:B.getD (j+1) (0:E)=B[j+1]:=by simp[À,h2]
  have hpw:=List.pairwise_iff_getElem.1 hB;have hlt:B[j]<B[j+1]:=hpw j (j+1) h1 h2 omg_
  have hle:B[j+1]<=b:=by
   have gl:B.getD (B.length-1) (0:E)=B[B.length-1]:=by simp[À,show B.length-1<B.length by omega]
   rw[gl]at hlast;by_cases he:j+1=B.length-1
   .have:B[j+1]=B[B.length-1]:=by congr 1
    omega
   .have:=hpw (j+1) (B.length-1) h2 omg_ omg_;omega
  have hconst:∀t,B[j]<=t->t<B[j+1]->f t=f B[j]:=λt t1 t2=>(hsame B[j] t (Á h1) t1 omg_ (λc hc hcc=>by
   obtain⟨m,hm,rfl⟩:=List.mem_iff_getElem.1 hc;by_cases hmj:m<=j
   .by_cases he:m=j
    .subst he;omega
    .have:=hpw m j hm h1 omg_;omega
   .by_cases he:m=j+1
    .subst he;omega
    .have:=hpw (j+1) m h2 hm omg_;omega)).symm
  rw[g1]at hC;have hC2:=jAx hC (s:=(B[j],B[j+1],f B[j])) rfl (by show B[j]<=B[j+1];omega) (λt t1 t2=>hconst t t1 t2)
  have hml:(mgA acc (B[j],B[j+1],f B[j])).length<=acc.length+1:=by
   unfold mgA;split
   .omega
   .split
    .split
     .simp
     .simp
    .simp
  have ih:=jxR hBl hB hraw hlast hsame n (j+1) (mgA acc (B[j],B[j+1],f B[j])) omg_ omg_ (by rw[g2];exact hC2);rw[jfg];simp only[j5l,show O B.length=(B.length:E) from rfl];rw[j05 (x:=(j:E)+1),j00 (show (j:E)+1<(B.length:E) by omega),j0N (show (0:E)<=(j:E) by omega) omg_,j0N (show (0:E)<=(j:E)+1 by omega) omg_,show ((j:E)+1).toNat=j+1 by omega];simp only[j6,j8,g1,g2,hraw _ (Á h1),j4,jrP (show acc.length<=100000000 by omega),j03];exact ih
theorem jrQ{ss:I j0u}(hc:j8W (zs,ps,cs,ss)){i:Ã}(hi:i<ss.length){a b:E}(ha:0<=a)(hab:a<=b)(hb:b<=8589934592)(hlen:b-a<=2592000) :
  ∃S,jgz (zs,ps,cs,ss) (i:E) a b=Z S/\Cov (whoS zs cs ss[i]) b Ò a S:=by
 obtain⟨B,e1,e2,e3,e4,⟨r,e5⟩,e6,e7⟩:=jxQ hs hc hi ha hab hb hlen;have hpos:0<B.length:=by rw[e5];simp
 obtain⟨S,f1,f2⟩:=jxR (f:=whoS zs cs ss[i]) (ss:=ss) (i:=i) (B:=B) omg_ e2 (λt ht=>jzM hs hc hi (by have:=e4 t ht;omega) (by have:=e4 t ht;omega)) (a:=a) e6 e7 (B.length-1) 0 [] omg_ smp_ (by rw[e5];rfl);rw[show ((0:Ã):E)=0 from rfl]at f1;refine⟨S,?_,f2⟩;simp only[jgz,e1,f1,j4]
theorem juJ{ss:I j0u}(hc:j8W (zs,ps,cs,ss)){i:Ã}(hi:i<ss.length){a b:E}(ha:0<=a)(hab:a<=b)(hb:b<=8589934592)(hlen:b-a<=34560000):jio (zs,ps,cs,ss) (i:E) a b=Z 0:=by
 have e8:=jE8 hc (jEb hs);have er:j8j a b=Z true:=by simp only[j8j];rw[j00 (show a>=0 from ha),j00 (show a<=8589934592 by omega),j00 (show b>=a from hab),j00 hb,j05 (x:=b-a),j00 hlen];rfl
 simp only[jio,show jec (zs,ps,cs,ss)=_ from e8,j4,bne_self_eq_false,j7,show O ss.length=(ss.length:E) from rfl];rw[j01 (show¬(i:E)<0 by omega),j01 (show¬(i:E)>=(ss.length:E) by omega)];simp only[j7,er,j4,Î]
theorem jxS{ss:I j0u}(hc:j8W (zs,ps,cs,ss)){i:Ã}(hi:i<ss.length){a b:E}(ha:0<=a)(hab:a<=b)(hb:b<=8589934592)(hlen:b-a<=2592000){S:SgL}(hS:Cov (whoS zs cs ss[i]) b Ò a S)(hl:S.length<=16384) :
  jb3 (zs,ps,cs,ss) (i:E) a b=Z (S,0):=by
 obtain⟨S',e1,e2⟩:=jrQ hs hc hi ha hab hb hlen;have:=e2.uniq hS;subst this;simp only[jb3,juJ hs hc hi ha hab hb omg_,e1,j4,bne_self_eq_false,j7,show O S'.length=(S'.length:E) from rfl];rw[j01 omg_,j7]
end
section
variable{zs:I j0z}{ps:I j0d}{cs:I CalT}{s:j0u}
end
def cw(p:E):WL->E
 |[]=>0
 |v::r=>if v.1<0\/v.1>=v.2\/v.2>604800 then 1 else if v.1<p then 6 else cw v.2 r
def cwP(w:WL)(i:Ã):Int:=if i=0 then 0 else (w.getD (i-1) (0,0)).2
theorem jzN(w:WL)(i:Ã):cwP w (i+1)=(w.getD i (0,0)).2:=by simp[cwP]
theorem jEw:∀{w:WL}{p:E},p<=604800->cw p w=0->WOk p w
 |[],p,hp,_=>hp
 |v::r,p,hp,h=>by
  simp only[cw]at h;split at h
  .simp at h
  split at h
  .simp at h
  exact⟨omg_,omg_,omg_,jEw omg_ h⟩
def cwR(c:E):E ⊕ Unit:=if c=0 then .inr () else .inl c
theorem jqj{w:WL}(hl:w.length<=14):∀(n i:Ã),i+n=w.length->jbD w w (w.length:E) (i:E)=Z (cwR (cw (cwP w i) (w.drop i)))
 |0,i,hi=>by
  rw[j8x];simp(disch:=omega)only[N,j2M,S0];rfl
 |n+1,i,hi=>by
  have ih:=jqj hl n (i+1) omg_;have hlt:i<w.length:=omg_;have hgd:w.getD i (0,0)=w[i]:=by simp[hlt]
  rw[j8x,G hlt];simp only[j2M];rw[j00 (show (i:E)<(w.length:E) by omega),j0L,j05 (x:=(i:E)+1)];simp only[j6,j8,hgd,cw];rw[jzN,hgd]at ih;by_cases c1:w[i].1<0\/w[i].1>=w[i].2\/w[i].2>604800
  .rw[if_pos c1,show (cond (cond (Â (w[i].1<0)) Ö (Â (w[i].1>=w[i].2))) Ö (Â (w[i].2>604800)))=Ö by simp only[Ï,Õ,decide_eq_true_eq];omega];simp only[j6,j06];rfl
  .rw[if_neg c1,show (cond (cond (Â (w[i].1<0)) Ö (Â (w[i].1>=w[i].2))) Ö (Â (w[i].2>604800)))=false by rw[Bool.eq_false_iff];simp only[ne_eq,Ï,Õ,decide_eq_true_eq];omega];simp only[j7];by_cases h0:i=0
   .subst h0;rw[j01 omg_,if_neg (by simp[cwP];omega)];simp only[j7,j03];exact ih
   .obtain⟨j,rfl⟩:∃j,i=j+1:=⟨i-1,omg_⟩;rw[j00 omg_,j05 (x:=((j+1:Ã):E)-1),j0L,show (((j+1:Ã):E)-1).toNat=j by omega,jzN];simp only[j6];by_cases c2:w[j+1].1<(w.getD j (0,0)).2
    .rw[j00 c2,if_pos c2,j6,j06];rfl
    .rw[j01 c2,if_neg c2,j7,j03];exact ih
theorem jqk{w:WL}(hl:w.length<=14):∀(n i:Ã),i+n=w.length->jaX w (i:E)=Z (cwR (cw (cwP w i) (w.drop i)))
 |0,i,hi=>by
  rw[j9H];simp(disch:=omega)only[N,j3k,S0];rfl
 |n+1,i,hi=>by
  have ih:=jqk hl n (i+1) omg_;have hlt:i<w.length:=omg_;have hgd:w.getD i (0,0)=w[i]:=by simp[hlt]
  rw[j9H,G hlt];simp only[j3k,show O w.length=(w.length:E) from rfl];rw[j00 (show (i:E)<(w.length:E) by omega),j0L,j05 (x:=(i:E)+1)];simp only[j6,j8,hgd,cw];rw[jzN,hgd]at ih;by_cases a1:w[i].1<0
  .rw[j00 a1,if_pos (Or.inl a1),j6,j06];rfl
  by_cases a2:w[i].1>=w[i].2
  .simp(disch:=omega)only[if_pos (Or.inr (Or.inl a2)),S0];rfl
  by_cases a3:w[i].2>604800
  .simp(disch:=omega)only[if_pos (Or.inr (Or.inr a3)),S0];rfl
  rw[j01 a1,j01 a2,j01 a3,if_neg omg_];simp only[j7];by_cases h0:i=0
  .subst h0;rw[j01 omg_,if_neg (by simp[cwP];omega)];simp only[j7,j03];exact ih
  .obtain⟨j,rfl⟩:∃j,i=j+1:=⟨i-1,omg_⟩;rw[j00 omg_,j05 (x:=((j+1:Ã):E)-1),j0N (show (0:E)<=((j+1:Ã):E)-1 by omega) omg_,show (((j+1:Ã):E)-1).toNat=j by omega,jzN];simp only[j6];by_cases c2:w[j+1].1<(w.getD j (0,0)).2
   .rw[j00 c2,if_pos c2,j6,j06];rfl
   .rw[j01 c2,if_neg c2,j7,j03];exact ih
theorem jxT(w:WL):∃c,j7P w=Z c/\j3P w=Z c/\(c=0->WOk 0 w/\w.length<=14):=by
 by_cases hl:w.length>14
 .refine⟨5,?_,?_,omg_⟩
  .simp(disch:=omega)only[j7P,S0]
  .simp(disch:=omega)only[j3P,S0]
 .refine⟨cw 0 w,?_,?_,λh=>⟨jEw omg_ h,omg_⟩⟩
  .have:=jqj (w:=w) omg_ w.length 0 omg_;rw[show ((0:Ã):E)=0 from rfl,Y,show cwP w 0=0 from rfl]at this;simp(disch:=omega)only[j7P,this,cwR,S0];split
   .next h=>simp[h,sumC]
   .rfl
  .have:=jqk (w:=w) omg_ w.length 0 omg_;rw[show ((0:Ã):E)=0 from rfl,Y,show cwP w 0=0 from rfl]at this;simp(disch:=omega)only[j3P,this,cwR,S0];split
   .next h=>simp[h,sumC]
   .rfl
theorem r5eq{z:j0z}(hz:ZOk z){w:WL}(hw:WOk 0 w)(hl:w.length<=14){a b:E}(ha:0<=a)(hab:a<=b)(hb:b<=8589934592)(hlen:b-a<=2592000) :
  ∃W,j1F (tb z) w a b=Z W/\j5j z w a b=Z (W,0)/\StS (a-1) W/\(∀u∈W,a<=u.1/\u.2<=b)/\W.length<=420:=by
 have hll:(tb z).2.length<=4:=jbW hz;obtain⟨out,e1,s1,s2,s3,s4⟩:=jc5 hz.ztab.2 (É hll omg_) hw hl (M:=5) omg_ ha hab hb omg_;obtain⟨out2,f1,t1,t2,_,t4⟩:=jnr hz.zref.2.1 (É hll omg_) (r5ck hw hl) hw hl (M:=5) omg_ ha hab hb omg_ omg_
 have:out2=out:=jt8 t1 s1 λx=>by
  by_cases hx:a<=x/\x<b
  .obtain⟨k,hk,k1,k2⟩:=j7b hz.ztab.2 (t:=x) omg_ omg_;rw[s4 k hk x hx.1 hx.2 k1 k2,t4 k hk x hx.1 hx.2 k1 k2]
  .constructor
   .intro h;have:=t1.low h;obtain⟨u,hu,u1,u2⟩:=h;have:=t2 u hu;omega
   .intro h;have:=s1.low h;obtain⟨u,hu,u1,u2⟩:=h;have:=(s2 u hu).2;omega
 subst this;have wlen:out2.length<=420:=by have:w.length*(5+1)*((tb z).2.length+1)<=14*(5+1)*(4+1):=Í (Nat.mul_le_mul_right _ hl) omg_;omega
 rw[if_neg omg_]at f1;exact⟨out2,e1,f1,s1,s2,wlen⟩
end Go.Proofs.Pw
