/- The reference's sort of numbers, each once; the borders of a range. -/
import Derived.Test.YtmccfdihkphfaaaGreatLIPA
import Derived.Test.YtmccfdihkphfaaaGreatLIFns
import Derived.Test.YtmccfdihkphfaaaGreatLIPE
import Derived.Test.YtmccfdihkphfaaaGreatLIPB
open _root_ renaming Int->E,List->I,Nat->X,Option->Ä,ByteArray->Ö
open ByteArray renaming empty->F
open List renaming drop_eq_getElem_cons->G,drop_zero->N,mem_append_right->U,append_assoc->Y,length_cons->Z,mem_append_left->Á,length_nil->Â,length_append->Ã,length->Å,mem_cons->Æ,getElem_mem->È,drop_of_length_le->É,nil_append->Ê,getD->Ì,length_filter_le->Í,not_mem_nil->Ð
open Option renaming some->J,map_some->Ë,none->Î
open Int renaming ofNat->O,le_refl->Ú
open Decidable renaming decide->S
open Bool renaming not_true->À,true->Ï,not_false->Ò,false->Õ
open List.Pairwise renaming nil->Ç
open Nat renaming le_refl->Ñ,mul_le_mul->Ó,le_trans->Ø,lt_or_ge->Ù
open Go Go.Lft
namespace Go.Proofs.Pw
def ap3(out:I E)(x:E):I Int:=cond (cond (S (out.length=0)) Ï (out.getD (out.length-1) 0 != x)) (out++[x]) out
def mg3:X->I E->I E->I E->I E
 |0,out,_,_=>out
 |n+1,out,x::a,y::b=>cond (S (x<=y)) (mg3 n (ap3 out x) a (y::b)) (mg3 n (ap3 out y) (x::a) b)
 |n+1,out,x::a,[]=>mg3 n (ap3 out x) a []
 |n+1,out,[],y::b=>mg3 n (ap3 out y) [] b
 |_+1,out,[],[]=>out
def so3:X->I E->I E
 |0,l=>l
 |n+1,l=>if l.length<2 then l else mg3 l.length [] (so3 n (l.take (l.length/2))) (so3 n (l.drop (l.length/2)))
theorem jkA(out:I E)(x:E):(ap3 out x).length<=out.length+1:=by
 grind[ap3]
theorem jtT{out:I E}{x:E}(h:out.Pairwise (· < ·))(hx:∀y∈out,y<=x):(ap3 out x).Pairwise (· < ·)/\(∀y,y∈ap3 out x↔y∈out\/y=x)/\∀y∈ap3 out x,y<=x:=by
 rcases List.eq_nil_or_concat out with rfl|⟨A,u,rfl⟩
 .grind[ap3]
 .rw[List.concat_eq_append]at h hx ⊢;have hg:(A++[u]).getD ((A++[u]).length-1) (0:E)=u:=by simp[Ì]
  unfold ap3;rw[hg,j01 (show¬(A++[u]).length=0 by simp),j7];by_cases he:u=x;all_goals grind
theorem jrf:∀(n:X)(out a b:I E),n=a.length+b.length->out.Pairwise (· < ·)->a.Pairwise (· < ·)->b.Pairwise (· < ·)->(∀x∈out,(∀y∈a,x<=y)/\∀y∈b,x<=y)->
  (mg3 n out a b).Pairwise (· < ·)/\(∀x,x∈mg3 n out a b↔x∈out\/x∈a\/x∈b)/\(mg3 n out a b).length<=out.length+n
 |0,out,a,b,hn,ho,_,_,_=>by
  have h1:a=[]:=List.length_eq_zero_iff.1 omg_;have h2:b=[]:=List.length_eq_zero_iff.1 omg_;subst h1;subst h2;exact⟨ho,λx=>by simp[mg3],by simp[mg3]⟩
 |n+1,out,x::a,y::b,hn,ho,ha,hb,hle=>by
  have ha':=List.pairwise_cons.1 ha;have hb':=List.pairwise_cons.1 hb;simp only[Z]at hn;unfold mg3;by_cases hxy:x<=y
  .rw[j00 hxy,j6];obtain⟨p1,p2,p3⟩:=jtT (x:=x) ho (λz hz=>(hle z hz).1 x smp_)
   obtain⟨q1,q2,q3⟩:=jrf n (ap3 out x) a (y::b) sqo_ p1 ha'.2 hb (λz hz=>by
    have:=p3 z hz;refine⟨λu hu=>by have:=ha'.1 u hu;omega,λu hu=>?_⟩;rcases List.mem_cons.1 hu with rfl|hu
    .omega
    .have:=hb'.1 u hu;omega)
   have:=jkA out x;refine⟨q1,λz=>?_,omg_⟩;rw[q2 z,p2 z];simp only[Æ];constructor
   .rintro ((h|h)|h|h)
    .exact .inl h
    .exact .inr (.inl (.inl h))
    .exact .inr (.inl (.inr h))
    .exact .inr (.inr h)
   .rintro (h|(h|h)|h)
    .exact .inl (.inl h)
    .exact .inl (.inr h)
    .exact .inr (.inl h)
    .exact .inr (.inr h)
  .rw[j01 hxy,j7];obtain⟨p1,p2,p3⟩:=jtT (x:=y) ho (λz hz=>(hle z hz).2 y smp_)
   obtain⟨q1,q2,q3⟩:=jrf n (ap3 out y) (x::a) b sqo_ p1 ha hb'.2 (λz hz=>by
    have:=p3 z hz;refine⟨λu hu=>?_,λu hu=>by have:=hb'.1 u hu;omega⟩;rcases List.mem_cons.1 hu with rfl|hu
    .omega
    .have:=ha'.1 u hu;omega)
   have:=jkA out y;refine⟨q1,λz=>?_,omg_⟩;rw[q2 z,p2 z];simp only[Æ];constructor
   .rintro ((h|h)|h|h)
    .exact .inl h
    .exact .inr (.inr (.inl h))
    .exact .inr (.inl h)
    .exact .inr (.inr (.inr h))
   .rintro (h|h|h|h)
    .exact .inl (.inl h)
    .exact .inr (.inl h)
    .exact .inl (.inr h)
    .exact .inr (.inr h)
 |n+1,out,x::a,[],hn,ho,ha,hb,hle=>by
  have ha':=List.pairwise_cons.1 ha;simp only[Z,Â]at hn;obtain⟨p1,p2,p3⟩:=jtT (x:=x) ho (λz hz=>(hle z hz).1 x smp_);obtain⟨q1,q2,q3⟩:=jrf n (ap3 out x) a [] sqo_ p1 ha'.2 hb (λz hz=>⟨λu hu=>by have:=ha'.1 u hu;have:=p3 z hz;omega,λu hu=>by simp at hu⟩);have:=jkA out x;refine⟨q1,λz=>?_,by show (mg3 n (ap3 out x) a []).length<=_;omega⟩;show z∈mg3 n (ap3 out x) a []↔_;rw[q2 z,p2 z];simp only[Æ,Ð,or_false,or_assoc]
 |n+1,out,[],y::b,hn,ho,ha,hb,hle=>by
  have hb':=List.pairwise_cons.1 hb;simp only[Z,Â]at hn;obtain⟨p1,p2,p3⟩:=jtT (x:=y) ho (λz hz=>(hle z hz).2 y smp_);obtain⟨q1,q2,q3⟩:=jrf n (ap3 out y) [] b sqo_ p1 ha hb'.2 (λz hz=>⟨λu hu=>by simp at hu,λu hu=>by have:=hb'.1 u hu;have:=p3 z hz;omega⟩);have:=jkA out y;refine⟨q1,λz=>?_,by show (mg3 n (ap3 out y) [] b).length<=_;omega⟩;show z∈mg3 n (ap3 out y) [] b↔_;rw[q2 z,p2 z];simp only[Æ,Ð,false_or,or_assoc]
 |n+1,out,[],[],hn,_,_,_,_=>by simp at hn
theorem jtU:∀(n:X)(out a b:I E),a.length+b.length<=n->mg3 n out a b=mg3 (a.length+b.length) out a b:=by
 intro n;induction n with
 |zero=>simp_all
 |succ n ih=>
  intro out a b h;match a,b,h with
  |[],[],_=>rfl
  |x::a,[],h=>
   simp_all[mg3]
  |[],y::b,h=>
   simp_all[mg3]
  |x::a,y::b,h=>simp only[Z]at h ⊢;grind[mg3]
theorem jjI:∀(n:X)(l:I E),l.length<=n+1->(so3 n l).Pairwise (· < ·)/\(∀x,x∈so3 n l↔x∈l)/\(so3 n l).length<=l.length
 |0,l,hl=>by
  refine⟨?_,λx=>Iff.rfl,Ñ _⟩;match l,hl with
  |[],_=>exact Ç
  |[x],_=>show List.Pairwise (· < ·) [x];simp
 |n+1,l,hl=>by
  unfold so3;by_cases h2:l.length<2
  .rw[if_pos h2];refine⟨?_,λx=>Iff.rfl,Ñ _⟩;match l,h2 with
   |[],_=>exact Ç
   |[x],_=>simp
  .rw[if_neg h2];obtain⟨a1,a2,a3⟩:=jjI n (l.take (l.length/2)) sqo_;obtain⟨b1,b2,b3⟩:=jjI n (l.drop (l.length/2)) sqo_;simp only[List.length_take,List.length_drop]at a3 b3;rw[jtU l.length [] _ _ omg_];obtain⟨q1,q2,q3⟩:=jrf _ [] (so3 n (l.take (l.length/2))) (so3 n (l.drop (l.length/2))) rfl Ç a1 b1 (λx hx=>by simp at hx);refine⟨q1,λx=>?_,by simp at q3;omega⟩;rw[q2 x,a2 x,b2 x];have hx:x∈l↔x∈l.take (l.length/2)++l.drop (l.length/2):=by rw[List.take_append_drop]
   rw[hx,List.mem_append];simp
theorem jpk:∀(n m:X)(l:I E),l.length<=n+1->l.length<=m+1->so3 n l=so3 m l
 |0,0,_,_,_=>rfl
 |0,m+1,l,h,_=>by unfold so3;rw[if_pos omg_]
 |n+1,0,l,_,h=>by unfold so3;rw[if_pos omg_]
 |n+1,m+1,l,h1,h2=>by
  unfold so3;by_cases h:l.length<2
  .rw[if_pos h,if_pos h]
  .rw[if_neg h,if_neg h,jpk n m _ sqo_ sqo_,jpk n m _ sqo_ sqo_]
theorem jls{R:Type}(out:I E)(x:E)(hl:out.length<=400000000)(K:I E->Ä R) :
  cond ((inR (w64 ((out.length:E)-1)) out.length) || !(!((out.length:E)==0))) (cond (cond ((out.length:E)==0) Ï (out.getD (w64 ((out.length:E)-1)).toNat 0 != x)) (cond (S (out.length+[x].length<=j03)) (K (out++[x])) Î) (K out)) Î=K (ap3 out x):=by
 rw[j07 (x:=(out.length:E)-1)];by_cases h0:out.length=0
 .have e:((out.length:E)==0)=true:=j8T omg_;have:out=[]:=List.length_eq_zero_iff.1 h0;subst this;rfl
 .have e:((out.length:E)==0)=false:=j3Z omg_;rw[e,j0B (i:=(out.length:E)-1) omg_ omg_,show ((out.length:E)-1).toNat=out.length-1 by omega];grind[ap3,j03]
theorem jCs(rec:I E->Ä (I E)){a b:I E}(ha:a.length<=100000000)(hb:b.length<=100000000):∀(n i j:X)(out:I E),i<=a.length->j<=b.length->n=(a.length-i)+(b.length-j)->out.length+n<=200000000->
  jfq rec (i:E) (j:E) out a b=J (mg3 n out (a.drop i) (b.drop j))
 |0,i,j,out,hi,hj,hn,_=>by
  rw[jhO];simp(disch:=omega)only[j7B,j7g,j7h,S0];rfl
 |n+1,i,j,out,hi,hj,hn,ho=>by
  have iha:=λ(x:E)(h:i<a.length)=>jCs rec ha hb n (i+1) j (ap3 out x) omg_ hj omg_ (by have:=jkA out x;omega);have ihb:=λ(x:E)(h:j<b.length)=>jCs rec ha hb n i (j+1) (ap3 out x) hi omg_ omg_ (by have:=jkA out x;omega);rw[jhO];simp only[j7B,j7g,j7h,show O a.length=(a.length:E) from rfl,show O b.length=(b.length:E) from rfl,show O out.length=(out.length:E) from rfl]
  have ec:cond (S ((i:E)<(a.length:E))) Ï (S ((j:E)<(b.length:E)))=true:=by
   by_cases h:i<a.length
   .rw[j00 omg_];rfl
   .rw[j01 omg_,j00 (show (j:E)<(b.length:E) by omega)];rfl
  rw[ec,j6];by_cases hja:j=b.length
  .have hia:i<a.length:=omg_;have hga:a.getD i (0:E)=a[i]:=by simp[Ì,hia]
   rw[j8T (show (j:E)=(b.length:E) by omega),j6,j0B (i:=(i:E)) (n:=a.length) omg_ omg_,j6,j07 (x:=(i:E)+1)];simp only[j8,hga];rw[jls out a[i] omg_ (λo=>J (Sum.inl ((i:E)+1,(j:E),o,a,b))),j04];have:=iha a[i] hia;rw[show ((i+1:X):E)=(i:E)+1 by omega]at this;refine this.trans ?_;rw[G hia,show b.drop j=[] from É omg_];rfl
  .have hjb:j<b.length:=omg_;have hgb:b.getD j (0:E)=b[j]:=by simp[Ì,hjb]
   rw[j3Z (show (j:E)≠(b.length:E) by omega),j7];by_cases hia:i<a.length
   .have hga:a.getD i (0:E)=a[i]:=by simp[Ì,hia]
    rw[j00 (show (i:E)<(a.length:E) by omega),j6,j0B (i:=(i:E)) (n:=a.length) omg_ omg_,j0B (i:=(j:E)) (n:=b.length) omg_ omg_,j07 (x:=(i:E)+1),j07 (x:=(j:E)+1)];simp only[j6,j8,hga,hgb];by_cases hxy:a[i]<=b[j]
    .rw[j00 hxy,j6,jls out a[i] omg_ (λo=>J (Sum.inl ((i:E)+1,(j:E),o,a,b))),j04];have:=iha a[i] hia;rw[show ((i+1:X):E)=(i:E)+1 by omega]at this;refine this.trans ?_;rw[G hia,G hjb];show _=J (cond (S (a[i]<=b[j])) _ _);rw[j00 hxy,j6]
    .rw[j01 hxy,j7,jls out b[j] omg_ (λo=>J (Sum.inl ((i:E),(j:E)+1,o,a,b))),j04];have:=ihb b[j] hjb;rw[show ((j+1:X):E)=(j:E)+1 by omega]at this;refine this.trans ?_;rw[G hia,G hjb];show _=J (cond (S (a[i]<=b[j])) _ _);rw[j01 hxy,j7]
   .rw[j01 (show¬(i:E)<(a.length:E) by omega),j7,j0B (i:=(j:E)) (n:=b.length) omg_ omg_,j6,j07 (x:=(j:E)+1)];simp only[j8,hgb];rw[jls out b[j] omg_ (λo=>J (Sum.inl ((i:E),(j:E)+1,o,a,b))),j04];have:=ihb b[j] hjb;rw[show ((j+1:X):E)=(j:E)+1 by omega]at this;refine this.trans ?_;rw[G hjb,show a.drop i=[] from É omg_];rfl
theorem jzI:∀(n:X)(l:I E),l.length<=50000000->(jbQ j6b n l=Î/\n<=l.length)\/jbQ j6b n l=J (so3 l.length l)
 |0,l,_=> .inl ⟨rfl,Nat.zero_le _⟩
 |n+1,l,hl=>by
  show (jcn (λv0=>jbQ j6b n v0) l=Î/\_)\/jcn (λv0=>jbQ j6b n v0) l=_;simp only[jcn,show O l.length=(l.length:E) from rfl];by_cases h2:l.length<2
  .right;simp(disch:=omega)only[Ê,S0];cases hk:l.length<;>grind[so3]
  .rw[j01 (show¬(l.length:E)<2 by omega),j7,jei omg_,j07 (x:=(l.length:E)/2),show ((l.length:E)/2).toNat=l.length/2 by omega];simp(disch:=omega)only[S0];simp only[Bool.and_self,j6,N,List.take_length];have hA:(l.take (l.length/2)).length=l.length/2:=sqo_;have hB:(l.drop (l.length/2)).length=l.length-l.length/2:=smp_;rcases jzI n (l.take (l.length/2)) omg_ with⟨e1,k1⟩|e1
   .grind
   .rw[e1,j4];rcases jzI n (l.drop (l.length/2)) omg_ with⟨e2,k2⟩|e2
    .exact .inl ⟨by rw[e2];rfl,omg_⟩
    .right;rw[e2,j4];have o1:=jjI (l.take (l.length/2)).length (l.take (l.length/2)) omg_;have o2:=jjI (l.drop (l.length/2)).length (l.drop (l.length/2)) omg_;generalize hSA:so3 (l.take (l.length/2)).length (l.take (l.length/2))=SA at *;generalize hSB:so3 (l.drop (l.length/2)).length (l.drop (l.length/2))=SB at *;have:=jCs (λv0=>jbQ j6b n v0) (a:=SA) (b:=SB) omg_ omg_ (SA.length+SB.length) 0 0 [] omg_ omg_ omg_ sqo_;rw[show ((0:X):E)=0 from rfl,N,N]at this;rw[this,j4];obtain⟨k,hk⟩:∃k,l.length=k+1:=⟨l.length-1,omg_⟩;grind[so3,jpk,jtU]
theorem jpl{l:I E}(hl:l.length<=50000000):jco l=J (so3 l.length l):=
 jiV ⟨l.length+1,(jzI (l.length+1) l hl).resolve_left (λh=>by have:=h.2;omega)⟩ (λn y h=>by
  grind[jzI])
def inBo(a b x:E):Bool:=cond (S (x>a)) (S (x<b)) Õ
def bord(cuts:I E)(a b:E):I Int:=(a::(so3 cuts.length cuts).filter (inBo a b))++(if b>a then [b] else [])
theorem jE9{a b:E}{l:I E}(hl:l.length<=50000000):∀(n i:X)(out:I E),i+n=l.length->out.length+n<=100000000->jbi a b (i:E) out l=J (a,b,out++(l.drop i).filter (inBo a b))
 |0,i,out,hi,_=>by
  grind[jeP,j5F,S0]
 |n+1,i,out,hi,ho=>by
  have hlt:i<l.length:=omg_;have hgd:l.getD i (0:E)=l[i]:=by simp[Ì,hlt]
  rw[jeP,G hlt];simp only[j5F,show O l.length=(l.length:E) from rfl];rw[j00 (show (i:E)<(l.length:E) by omega),j0B (i:=(i:E)) omg_ omg_,j07 (x:=(i:E)+1)];simp only[j6,j8,hgd,Bool.true_or];have ih:=λout h=>jE9 (a:=a) (b:=b) hl n (i+1) out omg_ h;rw[show ((i+1:X):E)=(i:E)+1 by omega]at ih;show lpK (cond (inBo a b l[i]) _ _) _=_;cases hc:inBo a b l[i]with
  |true=>simp(disch:=omega)only[List.filter_cons_of_pos hc,S0];grind
  |false=>grind[j04]
theorem jo7{cuts:I E}(hl:cuts.length<=49000000)(a b:E):jdf cuts a b=J (bord cuts a b):=by
 obtain⟨_,_,h3⟩:=jjI cuts.length cuts omg_;have:=jE9 (a:=a) (b:=b) (l:=so3 cuts.length cuts) omg_ (so3 cuts.length cuts).length 0 [a] omg_ sqo_;rw[show ((0:X):E)=0 from rfl,N]at this;have hfl:((so3 cuts.length cuts).filter (inBo a b)).length<=(so3 cuts.length cuts).length:=Í _ _;simp(disch:=omega)only[jdf,jpl,this,S0];grind[bord,j03]
theorem jxL(cuts:I E){a b:E}(hab:a<=b):(bord cuts a b).Pairwise (· < ·)/\(bord cuts a b).length<=cuts.length+2/\(∀x∈bord cuts a b,a<=x/\x<=b)/\(∀c∈cuts,a<c->c<b->c∈bord cuts a b)/\
  (∃r,bord cuts a b=a::r)/\(a<b->∃r,bord cuts a b=r++[b])/\(a=b->bord cuts a b=[a]):=by
 obtain⟨h1,h2,h3⟩:=jjI cuts.length cuts omg_;have hfl:((so3 cuts.length cuts).filter (inBo a b)).length<=(so3 cuts.length cuts).length:=Í _ _
 have hin:∀x,x∈(so3 cuts.length cuts).filter (inBo a b)↔x∈cuts/\a<x/\x<b:=λx=>by
  grind[inBo]
 have hpf:((so3 cuts.length cuts).filter (inBo a b)).Pairwise (· < ·):=h1.filter _;unfold bord;by_cases hlt:a<b
 .grind[List.pairwise_cons]
 .have hab':a=b:=omg_;rw[if_neg (show¬b>a by omega)];have hnil:(so3 cuts.length cuts).filter (inBo a b)=[]:=List.eq_nil_iff_forall_not_mem.2 (λx hx=>by grind);grind
section
variable{z:j0K}{l:TrL}(h4:Z4 z l)
include h4
theorem hl10{L:j0f}(h:Rt L)(from_ to_:E):∀(n:X)(k:E)(acc:I E),k+n=2386093->0<=k->(acc.length:E)<=k->
  ∃out,jc0 from_ to_ k z.1 z.2.1 z.2.2 L.1 L.2.1 L.2.2.1.1 L.2.2.1.2 L.2.2.2.1 L.2.2.2.2.1 L.2.2.2.2.2.1 L.2.2.2.2.2.2.1 L.2.2.2.2.2.2.2.1 L.2.2.2.2.2.2.2.2 acc=J (0,out)/\(out.length:E)<=2386094/\
   (∀x∈acc,x∈out)/\∀j v,k<=j->hO z.2.1 l L j=J v->from_<=v->v<to_->v∈out
 |n,k,acc,hn,hk,ha=>by
  obtain⟨v',ev',hv'⟩:=r10H h4 h (k:=k) hk omg_;rw[jik];simp only[j6a];rw[show j8r (z.1,z.2.1,z.2.2) (L.1,L.2.1,(L.2.2.1.1,L.2.2.1.2),L.2.2.2.1,L.2.2.2.2.1,L.2.2.2.2.2.1,L.2.2.2.2.2.2.1,L.2.2.2.2.2.2.2.1,L.2.2.2.2.2.2.2.2) k=_ from ev'];simp only[j4];cases hx:hO z.2.1 l L k with
  |none=>
   simp only[Option.isSome_none,Ò,j6,j0e];refine⟨acc,rfl,omg_,λx hx=>hx,λj v hj hv _ _=>?_⟩;obtain⟨u,hu,_⟩:=QO.le h4.2 h hj ⟨v,hv,Ú v⟩
   simp_all
  |some t=>
   have:=hv' t hx;subst v';simp only[Option.isSome_some,À,j7];by_cases hto:t>=to_
   .rw[j00 hto];simp only[j6,j0e];refine⟨acc,rfl,omg_,λx hx=>hx,λj v hj hv _ hvt=>?_⟩;obtain⟨u,hu,huv⟩:=QO.le h4.2 h hj ⟨v,hv,Ú v⟩;grind
   .simp(disch:=omega)only[S0];cases n with
    |zero=>have:=jsw h4.2 h hk hx;omega
    |succ n=>
     by_cases hfr:t>=from_
     .rw[j00 hfr];simp only[j6,j04];obtain⟨out,e1,e2,e3,e4⟩:=hl10 h from_ to_ n (k+1) (acc++[t]) omg_ omg_ sqo_;grind
     .rw[j01 hfr];simp only[j7,j04];obtain⟨out,e1,e2,e3,e4⟩:=hl10 h from_ to_ n (k+1) acc omg_ omg_ omg_;grind
theorem jEa{a b:E}(ha:0<=a)(hab:a<=b)(hb:b<=8589934592)(hq:b-a<=34560000):j5E a b=J true:=by
 have _:=h4;simp only[j5E];rw[j00 (show a>=0 from ha),j00 (show a<=8589934592 by omega),j00 (show b>=a from hab),j00 hb,j07 (x:=b-a),j00 hq];rfl
theorem jzJ{L:j0f}(h:Rt L){a b:E}(ha:0<=a)(hab:a<=b)(hb:b<=8589934592)(hq:b-a<=34560000):∃out,jaj z L a b=J (out,0)/\out.length<=2386094/\∀j v,0<=j->hO z.2.1 l L j=J v->a<v->v<b->v∈out:=by
 obtain⟨K,eK,hK⟩:=jDX h4 h ha omg_
 have hKb:K<=2386092:=by
  rcases hK with⟨hK,_⟩|⟨hK,⟨y,hy,_⟩,_⟩
  .omega
  .exact(jsw h4.2 h hK hy).2.2
 obtain⟨k0,hk0⟩:∃k0:E,k0=(if K>0 then K else 0):=⟨_,rfl⟩;have hk1:0<=k0/\k0<=2386092/\(0<k0->k0=K):=omg_;obtain⟨out,e1,e2,_,e4⟩:=hl10 h4 h a b (2386093-k0).toNat k0 [] omg_ hk1.1 sqo_;refine⟨out,?_,omg_,λj v hj hv h1 h2=>?_⟩
 .have e2:jeM (z.1,z.2.1,z.2.2) (L.1,L.2.1,(L.2.2.1.1,L.2.2.1.2),L.2.2.2.1,L.2.2.2.2.1,L.2.2.2.2.2.1,L.2.2.2.2.2.2.1,L.2.2.2.2.2.2.2.1,L.2.2.2.2.2.2.2.2)=_:=jn2 h4 L;simp(disch:=omega)only[jaj,e2,if_pos h,jEa h4 ha hab hb hq,show jeO (z.1,z.2.1,z.2.2) (L.1,L.2.1,(L.2.2.1.1,L.2.2.1.2),L.2.2.2.1,L.2.2.2.2.1,L.2.2.2.2.2.1,L.2.2.2.2.2.2.1,L.2.2.2.2.2.2.2.1,L.2.2.2.2.2.2.2.2) a=_ from eK,S0];rw[<-hk0,e1];rfl
 .by_cases hjk:k0<=j
  .grind
  .exfalso;have hKk:=hk1.2.2 omg_;rcases hK with⟨hK,_⟩|⟨hK,hq,_⟩
   .omega
   .obtain⟨u,hu,hua⟩:=QO.le h4.2 h (show j<=K by omega) hq;grind
end
theorem jzK{z:j0K}(hz:ZOk z){L:j0f}(hR:Rt L){x y:E}(h0:0<=x)(hxy:x<=y)(h1:y<=8589934592)(hno:∀j v,0<=j->hO z.2.1 (tb z).2 L j=J v->¬(x<v/\v<=y)):shK z L x=shK z L y:=by
 have a:=(jg6 hz hR (t:=x) h0 omg_).2;have b:=(jg6 hz hR (t:=y) omg_ h1).2;refine ShO.uniq hz.ztab.2 hR (t:=y) ?_ b;have q:∀j,0<=j->QO z.2.1 (tb z).2 L y j->QO z.2.1 (tb z).2 L x j:=λj hj ⟨v,hv,hvy⟩=>⟨v,hv,by grind⟩;rcases a with⟨a1,a2⟩|⟨a1,a2,a3⟩
 .exact .inl ⟨a1,λh=>a2 (q 0 omg_ h)⟩
 .obtain⟨v,hv,hvx⟩:=a2;exact .inr ⟨a1,⟨v,hv,omg_⟩,λh=>a3 (q _ omg_ h)⟩
theorem jpm{z:j0K}(hz:ZOk z){t:E}(h0:0<=t)(h1:t<=8589934592){k:X}(hk:k<=(tb z).2.length)(k1:frm (tb z).2 k<=t)(k2:t<frm (tb z).2 (k+1)) :
  locD z t=((t+tof z.2.1 (tb z).2 k)/86400,(t+tof z.2.1 (tb z).2 k)%86400)/\secD (locD z t)=(t+tof z.2.1 (tb z).2 k+259200)%604800:=by
 have e:=jhx hz.ztab.2 hk k1 k2;have o0:=hz.ztab.2.of0 k hk;have o1:=hz.ztab.2.of1 k hk;have el:locD z t=((t+tof z.2.1 (tb z).2 k)/86400,(t+tof z.2.1 (tb z).2 k)%86400):=by grind[locD,tb]
 refine⟨el,?_⟩;have hsc:j9K (locD z t)=J (secD (locD z t)):=(jpi hz h0 h1).2;grind[sec5]
theorem jzL{W:SL}{x y:E}(hxy:x<=y)(hno:∀u∈W,¬(x<u.1/\u.1<=y)/\¬(x<u.2/\u.2<=y)):inS x W↔inS y W:=by
 constructor
 .rintro⟨u,hu,h1,h2⟩
  have:=hno u hu;exact⟨u,hu,omg_,omg_⟩
 .rintro⟨u,hu,h1,h2⟩
  have:=hno u hu;exact⟨u,hu,omg_,omg_⟩
theorem jxM{o:E}{l:TrL}{s:E}:∀(n j i:X),j<=i->i<j+n->Sol o l s i->s-tof o l i∈jkx o l s j n
 |0,_,_,h1,h2,_=>omg_
 |n+1,j,i,h1,h2,hs=>by
  simp only[jkx];by_cases he:i=j
  .subst he;rw[if_pos hs];simp
  .exact U _ (jxM n (j+1) i omg_ omg_ hs)
theorem jzM{z:j0K}(hz:ZOk z){ds:I E}{x y:E}(h0:0<=x)(hxy:x<=y)(h1:y<=8589934592)(htr:∀i,i<(tb z).2.length->¬(x<tat (tb z).2 i/\tat (tb z).2 i<=y))
  (hds:∀d∈ds,∀i:E,0<=i->i<2->∀t∈sols z.2.1 (tb z).2 ((d+i)*86400+0),¬(x<t/\t<=y)):S ((locD z x).1∈ds)=S ((locD z y).1∈ds):=by
 obtain⟨k,hk,k1,k2⟩:=jav hz.ztab.2 (t:=x) h0 omg_;have k3:y<frm (tb z).2 (k+1):=by grind[jau,j7U]
 obtain⟨e1,_⟩:=jpm hz h0 omg_ hk k1 k2;obtain⟨e2,_⟩:=jpm hz (t:=y) omg_ h1 hk omg_ k3
 have key:∀D:E,x+tof z.2.1 (tb z).2 k<D*86400->D*86400<=y+tof z.2.1 (tb z).2 k->∀d∈ds,∀i:E,0<=i->i<2->d+i=D->False:=λD d1 d2 d hd i i0 i1 hdi=>by
  have hs:Sol z.2.1 (tb z).2 (D*86400+0) k:=⟨omg_,omg_⟩;have hm:D*86400+0-tof z.2.1 (tb z).2 k∈sols z.2.1 (tb z).2 ((d+i)*86400+0):=by rw[hdi];exact jxM _ 0 k omg_ omg_ hs
  grind
 rw[e1,e2];by_cases he:(x+tof z.2.1 (tb z).2 k)/86400=(y+tof z.2.1 (tb z).2 k)/86400
 .rw[he]
 .have hm1:¬(x+tof z.2.1 (tb z).2 k)/86400∈ds:=λhd=>key ((x+tof z.2.1 (tb z).2 k)/86400+1) omg_ omg_ _ hd 1 omg_ omg_ rfl;have hm2:¬(y+tof z.2.1 (tb z).2 k)/86400∈ds:=λhd=>key ((y+tof z.2.1 (tb z).2 k)/86400) omg_ omg_ _ hd 0 omg_ omg_ omg_
  simp_all
def brW(W:SL):I Int:=W.flatMap λu=>[u.1,u.2]
theorem jCt(W:SL):(brW W).length=2*W.length:=by
 induction W<;>grind[brW]
section
variable{zs:I j0K}{ps:I j0k}{cs:I CalT}{ss:I j0R}
theorem jEb{L:j0f}{W:SL}(hW:W.length<=10000):∀(n i:X)(acc:I E),i+n=W.length->acc.length+2*n<=100000000->
  jil (i:E) zs ps cs ss L.1 L.2.1 L.2.2.1.1 L.2.2.1.2 L.2.2.2.1 L.2.2.2.2.1 L.2.2.2.2.2.1 L.2.2.2.2.2.2.1 L.2.2.2.2.2.2.2.1 L.2.2.2.2.2.2.2.2 acc W=
   J (zs,ps,cs,ss,L.1,L.2.1,L.2.2.1.1,L.2.2.1.2,L.2.2.2.1,L.2.2.2.2.1,L.2.2.2.2.2.1,L.2.2.2.2.2.2.1,L.2.2.2.2.2.2.2.1,L.2.2.2.2.2.2.2.2,acc++brW (W.drop i))
 |0,i,acc,hi,_=>by
  rw[jhL];grind[j7y,S0,brW]
 |n+1,i,acc,hi,ha=>by
  have hlt:i<W.length:=omg_;have hgd:W.getD i (0,0)=W[i]:=by simp[hlt]
  have ih:=jEb (L:=L) hW n (i+1) (acc++[W[i].1,W[i].2]) omg_ sqo_;rw[Y]at ih;rw[jhL];simp(disch:=omega)only[G hlt,j7y,S0];exact ih
theorem jEc{x:CalT}{T:TrL}(hT:T.length<=1000):∀(n i:X)(acc:I E),i+n=T.length->acc.length+n<=100000000->
  j9B (i:E) zs ps cs ss x.1 x.2.1 x.2.2 acc T=J (zs,ps,cs,ss,x.1,x.2.1,x.2.2,acc++(T.drop i).map (·.1))
 |0,i,acc,hi,_=>by
  grind[jhM,j7z,S0]
 |n+1,i,acc,hi,ha=>by
  have hlt:i<T.length:=omg_;have hgd:T.getD i (0,0)=T[i]:=by simp[hlt]
  have ih:=jEc (x:=x) hT n (i+1) (acc++[T[i].1]) omg_ sqo_;rw[Y]at ih;rw[jhM];simp(disch:=omega)only[G hlt,j7z,S0];exact ih
def dyB(z:j0K)(d:E):I Int:=sols z.2.1 (tb z).2 ((d+0)*86400+0)++sols z.2.1 (tb z).2 ((d+1)*86400+0)
theorem jxN{z:j0K}(hz:ZOk z)(d:E):(dyB z d).length<=10:=by
 have h4:(tb z).2.length<=4:=je8 hz;grind[jmW,dyB,sols]
theorem jFn(hzs:∀z∈zs,ZOk z){x:CalT}(hx:CCk zs.length x){i:X}(hi:i<x.2.2.length){acc:I E}(ha:acc.length<=90000000) :
  jim (i:E) 0 zs ps cs ss x.1 x.2.1 x.2.2 acc=J ((i:E),zs,ps,cs,ss,x.1,x.2.1,x.2.2,acc++dyB (zAt zs x.2.1) x.2.2[i]):=by
 have hz:ZOk (zAt zs x.2.1):=zget hzs hx.z0 hx.z1;have h4:=hz.zref.2.1;have hd:=hx.day _ (È hi);have d0:=jE6 hd;have d1:=jE5 hd;have hgd:x.2.2.getD i (0:E)=x.2.2[i]:=by simp[hi]
 have hl4:(tb (zAt zs x.2.1)).2.length<=4:=je8 hz;have hsl:=λs=>jmW (o:=(zAt zs x.2.1).2.1) (l:=(tb (zAt zs x.2.1)).2) s ((tb (zAt zs x.2.1)).2.length+1) 0;have e0:j8N ((zs.getD x.2.1.toNat (F,0,[])).1,(zs.getD x.2.1.toNat (F,0,[])).2.1,(zs.getD x.2.1.toNat (F,0,[])).2.2) (x.2.2[i]+0,0)=_:=jr7 h4 (show -2<=x.2.2[i]+0 by omega) omg_ (show (0:E)<=0 by omega) omg_;have e1:j8N ((zs.getD x.2.1.toNat (F,0,[])).1,(zs.getD x.2.1.toNat (F,0,[])).2.1,(zs.getD x.2.1.toNat (F,0,[])).2.2) (x.2.2[i]+1,0)=_:=jr7 h4 (show -2<=x.2.2[i]+1 by omega) omg_ (show (0:E)<=0 by omega) omg_;have b0:=hsl ((x.2.2[i]+0)*86400+0);have b1:=hsl ((x.2.2[i]+1)*86400+0);rw[jee];simp only[j5U];rw[j00 (show (0:E)<2 by omega),j0B hx.z0 hx.z1,j0B (show (0:E)<=(i:E) by omega) omg_];simp only[j6,j8,hgd];rw[j07 (x:=x.2.2[i]+0),e0];simp only[j4];rw[j00 (show acc.length+(sols (zAt zs x.2.1).2.1 (tb (zAt zs x.2.1)).2 ((x.2.2[i]+0)*86400+0)).length<=j03 by unfold sols j03;omega),j6,j04];rw[show w64 (0+1)=1 from rfl,jee];simp only[j5U];rw[j00 (show (1:E)<2 by omega),j0B hx.z0 hx.z1,j0B (show (0:E)<=(i:E) by omega) omg_];simp only[j6,j8,hgd];rw[j07 (x:=x.2.2[i]+1),e1];simp only[j4]
 rw[j00 (show (acc++sols (zAt zs x.2.1).2.1 (tb (zAt zs x.2.1)).2 ((x.2.2[i]+0)*86400+0)).length+(sols (zAt zs x.2.1).2.1 (tb (zAt zs x.2.1)).2 ((x.2.2[i]+1)*86400+0)).length<=j03 by grind[sols,j03]),j6,j04];rw[show w64 (1+1)=2 from rfl,jee];simp only[j5U];rw[j01 (show¬(2:E)<2 by omega),j7,j0e,Y];rfl
theorem jEd(hzs:∀z∈zs,ZOk z){x:CalT}(hx:CCk zs.length x):∀(n i:X)(acc:I E),i+n=x.2.2.length->acc.length+10*n<=90000000->
  jb1 (i:E) zs ps cs ss x.1 x.2.1 x.2.2 acc=J (acc++(x.2.2.drop i).flatMap (dyB (zAt zs x.2.1)))
 |0,i,acc,hi,_=>by
  grind[jhN,j7A,S0]
 |n+1,i,acc,hi,ha=>by
  have hlt:i<x.2.2.length:=omg_;have hl:=hx.len;have hz:ZOk (zAt zs x.2.1):=zget hzs hx.z0 hx.z1;have hb:=jxN hz x.2.2[i];have ih:=jEd hzs hx n (i+1) (acc++dyB (zAt zs x.2.1) x.2.2[i]) omg_ (by rw[Ã];omega);rw[Y]at ih;rw[jhN,G hlt];simp only[j7A,show O x.2.2.length=(x.2.2.length:E) from rfl];rw[j00 (show (i:E)<(x.2.2.length:E) by omega),j6,jFn hzs hx hlt omg_];simp(disch:=omega)only[S0];exact ih
end
def NoC(out:I E)(x y:E):Prop:=∀c∈out,¬(x<c/\c<=y)
theorem NoC.left{A B:I E}{x y:E}(h:NoC (A++B) x y):NoC A x y:=λc hc=>h c (Á _ hc)
theorem NoC.right{A B:I E}{x y:E}(h:NoC (A++B) x y):NoC B x y:=λc hc=>h c (U _ hc)
section
variable{zs:I j0K}{ps:I j0k}{cs:I CalT}{ss:I j0R}(hs:GOk zs ps cs)
include hs
theorem jxO{L:j0f}(hL:LC1 zs.length ps.length cs.length L){x y:E}(h0:0<=x)(hxy:x<=y)(h1:y<=8589934592)
  (hno:L.2.2.2.2.2.2.2.2≠0->NoC ((tb (zAt zs (cAt cs L.2.2.2.2.2.2.2.1).2.1)).2.map (·.1)++(cAt cs L.2.2.2.2.2.2.2.1).2.2.flatMap (dyB (zAt zs (cAt cs L.2.2.2.2.2.2.2.1).2.1))) x y):calB zs cs L x=calB zs cs L y:=by
 unfold calB;by_cases hm:L.2.2.2.2.2.2.2.2=0
 .rw[j8T hm];rfl
 .have hn:=hno hm;have hcal:=hL.cal hm;have hx:=cget hs hcal.1 hcal.2;have hz:ZOk (zAt zs (cAt cs L.2.2.2.2.2.2.2.1).2.1):=zget hs.ok hx.z0 hx.z1;rw[jzM hz h0 hxy h1 (λi hi=>?_) (λd hd i i0 i1 t ht=>?_)]
  .refine hn.left _ (List.mem_map.2 ⟨(tb (zAt zs (cAt cs L.2.2.2.2.2.2.2.1).2.1)).2[i],È hi,?_⟩);grind[tat]
  .refine hn.right t (List.mem_flatMap.2 ⟨d,hd,?_⟩);grind[dyB]
theorem jxP{L:j0f}(hL:LC1 zs.length ps.length cs.length L){a b:E}(ha:0<=a)(hab:a<=b)(hb:b<=8589934592)(hlen:b-a<=34560000) :
  ∃out,jje (zs,ps,cs,ss) L a b=J out/\out.length<=2400000/\∀x y,a<=x->x<=y->y<b->NoC out x y->perX zs cs L x=perX zs cs L y:=by
 have hRt:=hL.rt2;have hz:ZOk (zAt zs L.2.1):=zget hs.ok hL.z0 hL.z1;have h4:=hz.zref.2.1;have hl4:(tb (zAt zs L.2.1)).2.length<=4:=je8 hz;obtain⟨H,eH,lH,mH⟩:=jzJ h4 hRt ha hab hb omg_
 have eH':jaj ((zs.getD L.2.1.toNat (F,0,[])).1,(zs.getD L.2.1.toNat (F,0,[])).2.1,(zs.getD L.2.1.toNat (F,0,[])).2.2)
  (L.1,L.2.1,(L.2.2.1.1,L.2.2.1.2),L.2.2.2.1,L.2.2.2.2.1,L.2.2.2.2.2.1,L.2.2.2.2.2.2.1,L.2.2.2.2.2.2.2.1,L.2.2.2.2.2.2.2.2) a b=_:=eH
 have hsh:∀x y,a<=x->x<=y->y<b->NoC H x y->shK (zAt zs L.2.1) L x=shK (zAt zs L.2.1) L y:=λx y h1 h2 h3 hn=>
  jzK hz hRt omg_ h2 omg_ (λj v hj hv hc=>hn v (mH j v hj hv omg_ omg_) hc)
 obtain⟨W,eW,lW,hW⟩:∃W:SL,((L.2.2.2.2.2.2.1.length:E)>0->j7x (zAt zs L.2.1) L.2.2.2.2.2.2.1 a b=J (W,0))/\W.length<=1000/\
   ((L.2.2.2.2.2.2.1.length:E)>0->∀x y,a<=x->x<=y->y<b->NoC (brW W) x y->hasB (secD (locD (zAt zs L.2.1) x)) L.2.2.2.2.2.2.1=hasB (secD (locD (zAt zs L.2.1) y)) L.2.2.2.2.2.2.1):=by
  by_cases hw:(L.2.2.2.2.2.2.1.length:E)>0
  .obtain⟨W,e,s1,s2,s3,s4⟩:=jo6 h4 (Ø hl4 omg_) (r5ck hL.w hL.wl) hL.w hL.wl (M:=58) omg_ ha hab hb omg_ omg_;have hwl:W.length<=3*59*5:=Ø s3 (Ó (Ó hL.w3 omg_) omg_);rw[if_neg omg_]at e;refine⟨W,λ_=>e,omg_,λ_ x y h1 h2 h3 hn=>?_⟩;have hin:=jzL (W:=W) h2 (λu hu=>⟨hn u.1 (List.mem_flatMap.2 ⟨u,hu,smp_⟩),hn u.2 (List.mem_flatMap.2 ⟨u,hu,smp_⟩)⟩);obtain⟨i,i0,i1,i2⟩:=jav hz.ztab.2 (t:=x) omg_ omg_;obtain⟨j,j0,j1,j2⟩:=jav hz.ztab.2 (t:=y) omg_ omg_;rw[s4 i i0 x h1 omg_ i1 i2,s4 j j0 y omg_ h3 j1 j2]at hin;rw[(jpm hz omg_ omg_ i0 i1 i2).2,(jpm hz omg_ omg_ j0 j1 j2).2];exact Bool.eq_iff_iff.2 hin
  grind
 have hok:∀x y,a<=x->x<=y->y<b->((L.2.2.2.2.2.2.1.length:E)>0->NoC (brW W) x y)->okW L.2.2.2.2.2.2.1 (secD (locD (zAt zs L.2.1) x))=okW L.2.2.2.2.2.2.1 (secD (locD (zAt zs L.2.1) y)):=λx y h1 h2 h3 hn=>by
  grind[okW]
 have hall:∀out:I E,(∀c∈H,c∈out)->((L.2.2.2.2.2.2.1.length:E)>0->∀c∈brW W,c∈out)->
   (L.2.2.2.2.2.2.2.2≠0->∀c∈(tb (zAt zs (cAt cs L.2.2.2.2.2.2.2.1).2.1)).2.map (·.1)++(cAt cs L.2.2.2.2.2.2.2.1).2.2.flatMap (dyB (zAt zs (cAt cs L.2.2.2.2.2.2.2.1).2.1)),c∈out)->
   ∀x y,a<=x->x<=y->y<b->NoC out x y->perX zs cs L x=perX zs cs L y:=λout m1 m2 m3 x y h1 h2 h3 hn=>by
  have e1:=hsh x y h1 h2 h3 (λc hc=>hn c (m1 c hc));have e2:=hok x y h1 h2 h3 (λhw c hc=>hn c (m2 hw c hc));have e3:=jxO hs hL (x:=x) (y:=y) omg_ h2 omg_ (λhm c hc=>hn c (m3 hm c hc));grind[onX,perX]
 have hcal:∀acc:I E,acc.length<=2390000->L.2.2.2.2.2.2.2.2≠0->∃out,(cond (inR L.2.2.2.2.2.2.2.1 cs.length) (cond (inR (cs.getD L.2.2.2.2.2.2.2.1.toNat (F,0,[])).2.1 zs.length)
   ((
    j0c ((zs.getD (cs.getD L.2.2.2.2.2.2.2.1.toNat (F,(0:E),([]:I E))).2.1.toNat (F,0,[])).1,(zs.getD (cs.getD L.2.2.2.2.2.2.2.1.toNat (F,(0:E),([]:I E))).2.1.toNat (F,0,[])).2.1,(zs.getD (cs.getD L.2.2.2.2.2.2.2.1.toNat (F,(0:E),([]:I E))).2.1.toNat (F,0,[])).2.2)).bind λr88=>
    (j9B 0 zs ps cs ss (cs.getD L.2.2.2.2.2.2.2.1.toNat (F,0,[])).1 (cs.getD L.2.2.2.2.2.2.2.1.toNat (F,0,[])).2.1 (cs.getD L.2.2.2.2.2.2.2.1.toNat (F,0,[])).2.2 acc r88.1).bind λq2=>
     (jb1 0 q2.1 q2.2.1 q2.2.2.1 q2.2.2.2.1 q2.2.2.2.2.1 q2.2.2.2.2.2.1 q2.2.2.2.2.2.2.1 q2.2.2.2.2.2.2.2).bind λq4=>J q4) Î) Î)=J out/\out.length<=2400000/\(∀c∈acc,c∈out)/\
   ∀c∈(tb (zAt zs (cAt cs L.2.2.2.2.2.2.2.1).2.1)).2.map (·.1)++(cAt cs L.2.2.2.2.2.2.2.1).2.2.flatMap (dyB (zAt zs (cAt cs L.2.2.2.2.2.2.2.1).2.1)),c∈out:=λacc hacc hm=>by
  have hc:=hL.cal hm;have hx:CCk zs.length (cAt cs L.2.2.2.2.2.2.2.1):=cget hs hc.1 hc.2;have hzc:ZOk (zAt zs (cAt cs L.2.2.2.2.2.2.2.1).2.1):=zget hs.ok hx.z0 hx.z1;have hlc:(tb (zAt zs (cAt cs L.2.2.2.2.2.2.2.1).2.1)).2.length<=4:=je8 hzc;have hxl:=hx.len;have e2:=jEc (zs:=zs) (ps:=ps) (cs:=cs) (ss:=ss) (x:=cAt cs L.2.2.2.2.2.2.2.1) (T:=(tb (zAt zs (cAt cs L.2.2.2.2.2.2.2.1).2.1)).2) omg_ (tb (zAt zs (cAt cs L.2.2.2.2.2.2.2.1).2.1)).2.length 0 acc omg_ omg_;have e4:=jEd (ps:=ps) (cs:=cs) (ss:=ss) hs.ok hx (cAt cs L.2.2.2.2.2.2.2.1).2.2.length 0 (acc++(tb (zAt zs (cAt cs L.2.2.2.2.2.2.2.1).2.1)).2.map (·.1)) omg_ (by grind);rw[show ((0:X):E)=0 from rfl,N]at e2 e4
  have hfl:∀ds:I E,(ds.flatMap (dyB (zAt zs (cAt cs L.2.2.2.2.2.2.2.1).2.1))).length<=10*ds.length:=λds=>by
   induction ds<;>grind[jxN]
  have hf:=hfl (cAt cs L.2.2.2.2.2.2.2.1).2.2;rw[j0B hc.1 hc.2,show inR (cs.getD L.2.2.2.2.2.2.2.1.toNat (F,0,[])).2.1 zs.length=Ï from j0B hx.z0 hx.z1];simp only[j6];rw[show j0c ((zs.getD (cs.getD L.2.2.2.2.2.2.2.1.toNat (F,(0:E),([]:I E))).2.1.toNat (F,0,[])).1,(zs.getD (cs.getD L.2.2.2.2.2.2.2.1.toNat (F,(0:E),([]:I E))).2.1.toNat (F,0,[])).2.1,(zs.getD (cs.getD L.2.2.2.2.2.2.2.1.toNat (F,(0:E),([]:I E))).2.1.toNat (F,0,[])).2.2)=_ from hzc.zref.2.1.1];simp only[j4];rw[show j9B 0 zs ps cs ss (cs.getD L.2.2.2.2.2.2.2.1.toNat (F,0,[])).1 (cs.getD L.2.2.2.2.2.2.2.1.toNat (F,0,[])).2.1 (cs.getD L.2.2.2.2.2.2.2.1.toNat (F,0,[])).2.2 acc _=_ from e2];simp only[j4];rw[e4];refine⟨_,rfl,?_,λc h=>?_,λc h=>?_⟩;all_goals grind
 simp only[jje];rw[j0B hL.z0 hL.z1,j6,eH'];simp only[j4,Ê,Â,Nat.zero_add];rw[j00 (show H.length<=j03 by unfold j03;omega),j6];by_cases hw:(L.2.2.2.2.2.2.1.length:E)>0
 .have e0:=jEb (zs:=zs) (ps:=ps) (cs:=cs) (ss:=ss) (L:=L) (W:=W) omg_ W.length 0 H omg_ omg_;rw[show ((0:X):E)=0 from rfl,N]at e0;simp(disch:=omega)only[show j7x ((zs.getD L.2.1.toNat (F,0,[])).1,(zs.getD L.2.1.toNat (F,0,[])).2.1,(zs.getD L.2.1.toNat (F,0,[])).2.2) L.2.2.2.2.2.2.1 a b=_ from eW hw,e0,S0];have hbl:=jCt W;by_cases hm:L.2.2.2.2.2.2.2.2=0
  .rw[j8T hm,j6];refine⟨_,rfl,by rw[Ã];omega,hall _ (λc h=>Á _ h) (λ_ c h=>U _ h) (λh=>absurd hm h)⟩
  .rw[j3Z hm,j7];obtain⟨out,eo,lo,mo1,mo2⟩:=hcal (H++brW W) (by rw[Ã];omega) hm;exact⟨out,eo,lo,hall out (λc h=>mo1 c (Á _ h)) (λ_ c h=>mo1 c (U _ h)) (λ_=>mo2)⟩
 .simp(disch:=omega)only[S0];by_cases hm:L.2.2.2.2.2.2.2.2=0
  .grind
  .rw[j3Z hm,j7];obtain⟨out,eo,lo,mo1,mo2⟩:=hcal H omg_ hm;grind
end
structure TG(o:E)(l:TrL):Prop where
 len:l.length<=1000
 gap:∀i,i+1<l.length->tat l i+604800<=tat l (i+1)
 pos:∀i,i<l.length->0<=tat l i
 max:∀i,i<l.length->tat l i<=8589934592
 of0:∀i,i<=l.length -> -64800<=tof o l i
 of1:∀i,i<=l.length->tof o l i<=64800
section
variable{o:E}{l:TrL}(h:TG o l)
include h
theorem TG.at_lt:∀(k i:X),i+k+1<l.length->tat l i+604800<=tat l (i+k+1)
 |0,i,hk=>h.gap i hk
 |k+1,i,hk=>by
  have h1:=TG.at_lt k i omg_;have h2:=h.gap (i+k+1) omg_;rw[show i+(k+1)+1=i+k+1+1 by omega];omega
theorem TG.at_le{i j:X}(hij:i<j)(hj:j<l.length):tat l i+604800<=tat l j:=by
 have:=h.at_lt (j-i-1) i omg_;rwa[show i+(j-i-1)+1=j by omega]at this
theorem TG.frm_le1{i:X}(hi:i<=l.length):frm l i<=frm l (i+1):=by
 rcases Ù i l.length with hl|hl
 .rw[jau hl];cases i with
  |zero=>rw[frm0];exact h.pos 0 hl
  |succ i=>rw[jau omg_];have:=h.gap i hl;omega
 .have:i=l.length:=omg_;subst this;rw[j7U];cases hq:l.length with
  |zero=>rw[frm0];omega
  |succ n=>rw[jau omg_];have:=h.max n omg_;omega
theorem TG.frm_gap{i j:X}(hi:1<=i)(hij:i<j)(hj:j<=l.length):frm l i+604800<=frm l j:=by
 obtain⟨i,rfl⟩:∃i',i=i'+1:=⟨i-1,omg_⟩;obtain⟨j,rfl⟩:∃j',j=j'+1:=⟨j-1,omg_⟩;rw[jau omg_,jau omg_];exact h.at_le omg_ omg_
theorem TG.frm_le{i j:X}(hij:i<=j)(hj:j<=l.length+1):frm l i<=frm l j:=by
 induction j with
 |zero=>have:i=0:=omg_;subst this;omega
 |succ j ih=>
  by_cases he:i=j+1
  .subst he;omega
  .have h1:=ih omg_ omg_;have h2:=h.frm_le1 (i:=j) omg_;omega
theorem TG.frm_lt{i:X}(hi:i<=l.length)(h0:0<i):frm l i<frm l (i+1):=by
 rcases Ù i l.length with hl|hl
 .have:=h.frm_gap (i:=i) (j:=i+1) h0 omg_ omg_;omega
 .have:i=l.length:=omg_;subst this;obtain⟨n,hn⟩:∃n,l.length=n+1:=⟨l.length-1,omg_⟩;rw[j7U,show frm l l.length=tat l n by rw[hn];exact jau omg_];have:=h.max n omg_;omega
end
theorem jkY(n lo hi:E):(j8Y n lo hi=J Ï/\j9e n lo hi=J Ï/\lo<=n/\n<=hi)\/(j8Y n lo hi=J Õ/\j9e n lo hi=J Õ):=by
 by_cases h:lo<=n/\n<=hi
 .exact .inl ⟨in_t h.1 h.2,in_t h.1 h.2,h.1,h.2⟩
 .exact .inr ⟨in_f h,in_f h⟩
theorem jzN(r:Rule):(jbt r=J 0/\jbD r=J Ï/\ROk r)\/(jbt r=J 1/\jbD r=J Õ):=by
 simp only[jbt,jbD];rcases jkY r.1 1970 2240 with⟨a,b,c1,c2⟩|⟨a,b⟩
 case inr=>simp_all
 simp(disch:=omega)only[a,b,S0];clear a b;rcases jkY r.2.1 r.1 2240 with⟨a,b,d1,d2⟩|⟨a,b⟩
 case inr=>simp_all
 simp(disch:=omega)only[a,b,S0];clear a b;rcases jkY r.2.2.1 1 12 with⟨a,b,e1,e2⟩|⟨a,b⟩
 case inr=>simp_all
 simp(disch:=omega)only[a,b,S0];clear a b;rcases jkY r.2.2.2.1 1 5 with⟨a,b,f1,f2⟩|⟨a,b⟩
 case inr=>simp_all
 simp(disch:=omega)only[a,b,S0];clear a b;rcases jkY r.2.2.2.2.1 0 6 with⟨a,b,g1,g2⟩|⟨a,b⟩
 case inr=>simp_all
 simp(disch:=omega)only[a,b,S0];clear a b;rcases jkY r.2.2.2.2.2.1 0 86399 with⟨a,b,i1,i2⟩|⟨a,b⟩
 case inr=>simp_all
 simp(disch:=omega)only[a,b,S0];clear a b;rcases jkY r.2.2.2.2.2.2 (-64800) 64800 with⟨a,b,j1,j2⟩|⟨a,b⟩
 case inr=>simp_all
 simp(disch:=omega)only[a,b,S0];exact .inl ⟨trivial,trivial,c1,d1,d2,e1,e2,f1,f2,g1,g2,i1,i2,j1,j2⟩
theorem jAN{rs:I Rule}(hlen:rs.length<=100)(nm:Ö)(o:E):∀(n i:X)(s:E),i+n=rs.length->0<=s->s<=300*i->¬(∀r∈rs.drop i,ROk r)->
  j5v s rs (rs.length:E) (i:E) nm o rs=J (.inl 1)/\j4L s (i:E) nm o rs=J (.inl 1)
 |0,i,s,hi,_,_,hb=>by
  simp_all
 |n+1,i,s,hi,hs0,hs1,hb=>by
  have hlt:i<rs.length:=omg_;have hg:rs.getD i (0,0,0,0,0,0,0)=rs[i]:=by simp[hlt]
  rw[j7R,j8n];simp only[j25,j2h,show O (Å rs)=(rs.length:E) from rfl];rw[j00 (show (i:E)<(rs.length:E) by omega),j2j];simp only[j6,j8,hg];rcases jzN rs[i]with⟨a,b,hr⟩|⟨a,b⟩
  .have h0:=hr.y0;have h1:=hr.y1;have h2:=hr.y2
   have ih:=jAN hlen nm o n (i+1) (s+(rs[i].2.1-rs[i].1+1)) omg_ omg_ omg_ (λh=>hb λr hrm=>by
    grind[G])
   simp(disch:=omega)only[a,b,S0];exact ih
  grind[j0e]
def trG(now:E)(p:Ä E):TrL->Ä TrL
 |[]=>J []
 |x::r=>if x.2=now then trG now p r else
  if -86400<x.2-now/\x.2-now<86400/\0<=x.1-now/\x.1-now<=8589934592/\(p.all λq=>S (q+604800<=x.1-now))=Ï then (trG x.2 (J (x.1-now)) r).map ((x.1-now,x.2):: ·) else Î
def trR(acc:TrL):Ä TrL->E ⊕ TrL
 |none=> .inl 6
 |some l=> .inr (acc++l)
theorem jxQ(acc:TrL)(y:E×E)(q:Ä TrL):trR acc (q.map (y :: ·))=trR (acc++[y]) q:=by
 cases q<;>grind[trR]
def OB(L:TrL):Prop:=∀x∈L,(-1000000000000<=x.1/\x.1<=1000000000000) /\ -64800<=x.2/\x.2<=64800
theorem jCu{acc:TrL}(h:acc≠[]):acc.getLast? = J (acc.getD (acc.length-1) (0,0)):=by
 grind[List.length_pos_iff]
theorem jAO{L:TrL}(hL:L.length<=1000)(hO:OB L):∀(n i:X)(now:E)(acc:TrL),i+n=L.length -> -64800<=now->now<=64800->acc.length<=i->(∀x∈acc,0<=x.1/\x.1<=8589934592)->
  j5w now (L.length:E) (i:E) acc L=J (trR acc (trG now (acc.getLast?.map (·.1)) (L.drop i)))/\j4M now (i:E) acc L=J (trR acc (trG now (acc.getLast?.map (·.1)) (L.drop i)))
 |0,i,now,acc,hi,_,_,_,_=>by
  rw[j5L,j66];grind[j1B,j1T,trG,trR,S0]
 |n+1,i,now,acc,hi,hn0,hn1,hal,hacc=>by
  have hlt:i<L.length:=omg_;obtain⟨⟨x0,x1⟩,o0,o1⟩:=hO _ (È hlt);have hgd:L.getD i (0,0)=L[i]:=by simp[hlt]
  have ihA:=λnow acc=>jAO hL hO n (i+1) now acc;rw[G hlt,j5L,j66];simp only[j1B,j1T,show O (Å L)=(L.length:E) from rfl];rw[j00 (show (i:E)<(L.length:E) by omega),j2j];simp only[j6,j8,hgd];generalize L[i]=x at *;rw[j07 (x:=(i:E)+1)];simp only[trG,show O (Å acc)=(acc.length:E) from rfl];by_cases hx:x.2=now
  .grind[j04]
  rw[if_neg hx,j3Z hx,j07 (x:=x.1-now),j07 (x:=x.2-now),j07 (x:=(acc.length:E)-1)];simp only[j7]
  have hix:∀b:Bool,(b=Ï->0<acc.length)->(inR ((acc.length:E)-1) acc.length || !b)=true:=λb hb=>by
   grind[j0B]
  by_cases hd : -86400<x.2-now/\x.2-now<86400
  case neg=>rw[if_neg (λh=>hd ⟨h.1,h.2.1⟩),jxg (λh=>hd ⟨omg_,omg_⟩)];rw[show (cond (S (x.2-now>=86400)) Ï (S (x.2-now <= -86400)))=Ï by grind];rw[hix _ smp_];simp(disch:=omega)only[trR,S0];exact⟨trivial,trivial⟩
  rw[show (cond (S (x.2-now>=86400)) Ï (S (x.2-now <= -86400)))=Õ by simp_all,
   jaP (show (-86399:E)<=x.2-now by omega) (show x.2-now<=86399 by omega)]
  simp only[j7,j4,À];by_cases ha:0<=x.1-now/\x.1-now<=8589934592
  case neg=>grind[in_f,jxg,j0e,trR]
  rw[in_t ha.1 ha.2,jaP ha.1 ha.2];simp only[j4,À,j7,Ò,Bool.true_and]
  have hnext:=ihA x.2 (acc++[(x.1-now,x.2)]) omg_ o0 o1 sqo_ (λy hy=>by
   grind)
  rw[show (acc++[(x.1-now,x.2)]).getLast? = J (x.1-now,x.2) by simp,Ë]at hnext;by_cases he:acc=[]
  .subst he;simp only[Â,List.getLast?_nil,Option.map_none,Option.all_none];rw[show S (((0:X):E)>0)=Õ from rfl,if_pos ⟨hd.1,hd.2,ha.1,ha.2,trivial⟩,jxQ]
   simp_all[S0]
  .have hpos:0<acc.length:=List.length_pos_iff.2 he;have hlast:=jCu he;have hb:=hacc (acc.getD (acc.length-1) (0,0)) (List.mem_of_getLast? hlast);rw[hix _ (λ_=>hpos),j2j,j00 (show (acc.length:E)>0 by omega),show ((acc.length:E)-1).toNat=acc.length-1 by omega,hlast];simp only[j6,Ë,Option.all_some];generalize acc.getD (acc.length-1) (0,0)=y at *;rw[j07 (x:=y.1+604800),j07 (x:=x.1-now-y.1)];by_cases hg:y.1+604800<=x.1-now
   .rw[if_pos ⟨hd.1,hd.2,ha.1,ha.2,j00 hg⟩,jxQ,j01 (show¬x.1-now<y.1+604800 by omega),j01 (show¬x.1-now-y.1<604800 by omega),j00 (by simp[j03];omega)];grind[j04]
   grind[j0e,trR]
def ChG(p:Ä E):TrL->Prop
 |[]=>True
 |x::r=>(0<=x.1/\x.1<=8589934592/\(∀q,p=J q->q+604800<=x.1) /\ -64800<=x.2/\x.2<=64800)/\ChG (J x.1) r
theorem jxR:∀(L l:TrL)(now:E)(p:Ä E),OB L->trG now p L=J l->ChG p l/\l.length<=L.length
 |[],l,now,p,_,h=>by
  simp only[trG,j5]at h;subst h;exact⟨trivial,Ñ _⟩
 |x::r,l,now,p,hO,h=>by
  have hx:=(hO x smp_).2;have hr:OB r:=λy hy=>hO y (by simp[hy]);simp only[trG]at h;split at h
  .obtain⟨a,b⟩:=jxR r l now p hr h;exact⟨a,sqo_⟩
  split at h
  .next hc=>
   cases hq:trG x.2 (J (x.1-now)) r with
   |none=>rw[hq]at h;simp at h
   |some l'=>rw[hq]at h;simp only[Ë,j5]at h;subst h;obtain⟨a,b⟩:=jxR r l' _ _ hr hq;obtain⟨c1,c2,c3,c4,c5⟩:=hc;exact⟨⟨⟨c3,c4,λq hq=>by subst hq;simpa using c5,hx⟩,a⟩,sqo_⟩
  .simp at h
theorem jxS:∀(l:TrL)(p:Ä E),ChG p l->(∀i,i+1<l.length->tat l i+604800<=tat l (i+1))/\(∀i,i<l.length->0<=tat l i/\tat l i<=8589934592)/\
  (∀o i, -64800<=o->o<=64800->i<=l.length -> -64800<=tof o l i/\tof o l i<=64800)
 |[],_,_=>⟨λi h=>by simp at h,λi h=>by simp at h,λo i h1 h2 h3=>by
  have:i=0:=by simpa using h3
  subst this;exact⟨h1,h2⟩⟩
 |x::r,p,h=>by
  obtain⟨⟨g3,g4,g5,g6,g7⟩,g8⟩:=h;obtain⟨h1,h2,h3⟩:=jxS r _ g8;refine⟨λi hi=>?_,λi hi=>?_,λo i ho0 ho1 hi=>?_⟩
  .cases i with
   |zero=>
    cases r with
    |nil=>simp at hi
    |cons y ys=>have:=g8.1.2.2.1 _ rfl;exact this
   |succ i=>exact h1 i (by simp at hi ⊢;omega)
  .cases i with
   |zero=>exact⟨g3,g4⟩
   |succ i=>exact h2 i (by simp at hi ⊢;omega)
  .cases i with
   |zero=>exact⟨ho0,ho1⟩
   |succ i=>
    cases i with
    |zero=>exact⟨g6,g7⟩
    |succ i=>exact h3 x.2 (i+1) g6 g7 (by simp at hi ⊢;omega)
theorem jCv{rs:I Rule}(h:∀r∈rs,ROk r):OB (j6x (occs rs)):=λx hx=>by
 have hx:=jr5 hx;obtain⟨r,hr,j,_,rfl⟩:=jtH hx;exact⟨jsr h _ hx,(h r hr).o0,(h r hr).o1⟩
def ZF(z:Ö×E×I Rule):Prop:=z.2.2.length<=100000/\(occs z.2.2).length<20
theorem jrg(z:Ö×E×I Rule)(hf:(occs z.2.2).length<20):∃l e,j1A z=J (l,e)/\j0c z=J (l,e)/\l.length<=1000/\(e=0->TG z.2.1 l/\(-64800<=z.2.1/\z.2.1<=64800)/\trG z.2.1 Î (j6x (occs z.2.2))=J l):=by
 obtain⟨nm,o,rs⟩:=z;rcases jkY o (-64800) 64800 with⟨a,b,o0,o1⟩|⟨a,b⟩
 case inr=>refine⟨[],1,?_,?_,smp_,smp_⟩;all_goals grind[j1A,j3H,j0c]
 by_cases h16:rs.length>16
 .refine⟨[],5,?_,?_,smp_,smp_⟩;all_goals grind[j1A,j3H,j0c]
 by_cases hall:∀r∈rs,ROk r
 case neg=>
  have hb:=jAN (rs:=rs) omg_ nm o rs.length 0 0 omg_ omg_ omg_ (by rwa[N]);rw[show ((0:X):E)=0 from rfl]at hb;refine⟨[],1,?_,?_,smp_,smp_⟩
  .simp only[j1A,j3H,a,j4,À,j7,show O (Å rs)=(rs.length:E) from rfl];rw[j01 (show¬(rs.length:E)>16 by omega),j7,hb.1];rfl
  .simp only[j0c,b,j4,À,j7,show O (Å rs)=(rs.length:E) from rfl];rw[j01 (show¬(rs.length:E)>16 by omega),j7,hb.2];rfl
 have e0:=jxb hall omg_ nm o rs.length 0 0 omg_ omg_ omg_;have e2:=jxa hall omg_ rs.length 0 [] omg_ smp_;have e3:=jxh hall omg_ nm o rs.length 0 0 omg_ omg_ omg_;rw[N]at e0 e2 e3;rw[show ((0:X):E)=0 from rfl,Int.zero_add]at e0 e3;rw[show ((0:X):E)=0 from rfl,Ê]at e2;by_cases hn:(occs rs).length>640
 .grind
 have hso:j0g (occs rs)=J (j6x (occs rs)):=jjE (jsr hall) hf;have hl:(j6x (occs rs)).length<=640:=by simp[j6x,j9P];omega
 have hob:=jCv hall;obtain⟨t1,t2⟩:=jAO (L:=j6x (occs rs)) omg_ hob (j6x (occs rs)).length 0 o [] omg_ o0 o1 smp_ smp_;rw[show ((0:X):E)=0 from rfl,N,show (([]:TrL).getLast?.map (·.1))=(Î:Ä E) from rfl]at t1 t2;have f1:j1A (nm,o,rs)=(J (trR [] (trG o Î (j6x (occs rs))))).bind λq0=>sumC q0 (λa=>J (([]:TrL),a)) (λb=>J (b,(0:E))):=by grind[j1A,j3H,S0]
 have f2:j0c (nm,o,rs)=(J (trR [] (trG o Î (j6x (occs rs))))).bind λq0=>sumC q0 (λa=>J (([]:TrL),a)) (λb=>J (b,(0:E))):=by grind[j0c,jtI,S0]
 cases hq:trG o Î (j6x (occs rs)) with
 |none=>rw[hq]at f1 f2;exact⟨[],6,f1,f2,smp_,smp_⟩
 |some l=>rw[hq]at f1 f2;obtain⟨hc,hlen⟩:=jxR _ _ _ _ hob hq;obtain⟨c1,c2,c3⟩:=jxS l Î hc;exact⟨l,0,f1,f2,omg_,λ_=>⟨⟨omg_,c1,λi hi=>(c2 i hi).1,λi hi=>(c2 i hi).2,λi hi=>(c3 o i o0 o1 hi).1,λi hi=>(c3 o i o0 o1 hi).2⟩,⟨o0,o1⟩,rfl⟩⟩
end Go.Proofs.Pw
