/- Loads, program and reference on any list: right, Sum, the weighted load of a person, Share, Jain, Spread. -/
import Derived.Test.YtlnljpfkgigljaaGreatPOPH
import Derived.Test.YtlnljpfkgigljaaGreatPOPJ
import Derived.Test.YtlnljpfkgigljaaGreatPOPD
import Derived.Test.YtlnljpfkgigljaaGreatPOPI
open _root_ renaming Int->d,List->H,Nat->O
open List renaming drop_eq_getElem_cons->A,drop_of_length_le->E,getElem_mem->J,getD->R,drop_zero->U,length_append->X,map_cons->Z,map_append->À,mem_append->Á,drop->Â,take_of_length_le->Ã,length_cons->Ä,length_singleton->Å,mem_cons->Æ,take_append_of_le_length->È,filterMap_cons->É,getElem_cons_zero->Ë,nil_append->Ì,map_congr_left->Î,append_assoc->Ð,cons_append->Ò,take->Ô,any_cons->Ö,map_map->Ú,length->Ü,map_id->Þ,set->ß
open Int renaming ofNat->D,le_refl->Ç,add_mul->Ý
open Decidable renaming decide->I,byContradiction->Ø
open Option renaming some->Y
open Bool renaming false->Ê,false_or->Í,true->Ï,and_true->Õ,true_or->Ù
open Go Go.Lft
set_option linter.unusedVariables false
namespace Go.Proofs.Pw
def LdA(x:LdT):Prop:=0<=x.1/\x.1<32/\0<=x.2.1/\x.2.1<=8589934592/\x.2.1<=x.2.2/\x.2.2<=8*x.2.1
structure RL(l:H LdT):Prop where
 len:l.length<=32
 mem:∀x∈l,LdA x
 pw:l.Pairwise λx y=>x.1<y.1
theorem RL.wgt{l:H LdT}(h:RL l)(p:d):0<=wgt p l/\wgt p l<=68719476736:=by
 have:∀{l:H LdT},(∀x∈l,LdA x)->0<=Pw.wgt p l/\Pw.wgt p l<=68719476736:=by
  intro l;induction l with
  |nil=>intro _;simp[Pw.wgt]
  |cons x r ih=>intro h;obtain⟨h1,h2,h3,h4,h5,h6⟩:=h x smp_;have:=ih λy hy=>h y (by simp[hy]);simp only[Pw.wgt];split<;>omega
 exact this h.mem
theorem jxU{α:Type}(l:H α)(x:α){k:O}(hk:k<=l.length):ß (over (l++[x]) (k+1) (Â k (l++[x]))) k x=l.take k++x::l.drop k:=by
 have h1:(l++[x]).length=l.length+1:=smp_;unfold over;rw[h1,E (show (l++[x]).length<=k+1+(Â k (l++[x])).length by simp;omega),List.append_nil];have e1:Â k (l++[x])=Â k l++[x]:=by rw[List.drop_append_of_le_length hk]
 rw[e1];have e2:Ô (l.length+1-(k+1)) (Â k l++[x])=Â k l:=by rw[È smp_,Ã smp_]
 rw[e2];by_cases h:k<l.length
 .have e3:Ô (k+1) (l++[x])=l.take k++[l[k]]:=by rw[È omg_,List.take_succ_eq_append_getElem h]
  rw[e3,Ð,List.set_append_right _ _ sqo_];simp[Nat.min_eq_left hk]
 .have hk':k=l.length:=omg_;subst hk';have e3:Ô (l.length+1) (l++[x])=l++[x]:=Ã smp_;rw[e3];simp
def adK(p:d):H LdT->O
 |[]=>0
 |y::r=>if y.1<p then adK p r+1 else 0
def ad(x:LdT):H LdT->H LdT
 |[]=>[x]
 |y::r=>if y.1<x.1 then y::ad x r else if y.1=x.1 then (y.1,y.2.1+x.2.1,y.2.2+x.2.2)::r else x::y::r
theorem jB7(p:d):∀l:H LdT,adK p l<=l.length
 |[]=>Nat.le_refl _
 |y::r=>by
  have:=jB7 p r;simp only[adK,Ä];split<;>omega
theorem jB8{x:LdT}:∀{l:H LdT}(h:adK x.1 l<l.length),l[adK x.1 l].1=x.1->ad x l=l.set (adK x.1 l) (l[adK x.1 l].1,l[adK x.1 l].2.1+x.2.1,l[adK x.1 l].2.2+x.2.2)
 |[],h,_=>by simp[adK]at h
 |y::r,h,he=>by
  by_cases h1:y.1<x.1
  .have e:adK x.1 (y::r)=adK x.1 r+1:=by simp[adK,h1]
   simp only[e,List.getElem_cons_succ,List.set_cons_succ]at he ⊢;rw[e]at h;simp only[ad,h1,if_true];rw[jB8 (l:=r) (by simpa using h) he]
  .have e:adK x.1 (y::r)=0:=by simp[adK,h1]
   simp only[e,Ë,List.set_cons_zero]at he ⊢;simp[ad,he]
theorem jB9{x:LdT}:∀{l:H LdT},(∀h:adK x.1 l<l.length,l[adK x.1 l].1≠x.1)->ad x l=l.take (adK x.1 l)++x::l.drop (adK x.1 l)
 |[],_=>by simp[ad,adK]
 |y::r,he=>by
  by_cases h1:y.1<x.1
  .have e:adK x.1 (y::r)=adK x.1 r+1:=by simp[adK,h1]
   rw[e];simp only[ad,h1,if_true,List.take_succ_cons,List.drop_succ_cons,Ò]
   rw[jB9 (l:=r) λh=>by
    have:=he (by rw[e];simpa using h);simpa[e]using this]
  .have e:adK x.1 (y::r)=0:=by simp[adK,h1]
   have:=he (by rw[e];simp);simp only[e,Ë]at this;rw[e];simp[ad,h1,this]
theorem jEx{x:LdT}{l:H LdT}(hl:l.length<=1000):∀n i:O,i+n=l.length->jgA (i:d) x.1 x.2.1 x.2.2 l=Y (((i+adK x.1 (l.drop i):O):d),x.1,x.2.1,x.2.2,l):=by
 intro n;induction n with
 |zero=>intro i hi;rw[jis,E omg_];simp only[j7I,show D l.length=(l.length:d) from rfl];rw[j01 omg_,j7,j06];rfl
 |succ n ih=>
  intro i hi;have hlt:i<l.length:=omg_;have hgd:l.getD i (0,0,0)=l[i]:=by simp[R,hlt]
  rw[jis,A hlt];simp only[j7I,show D l.length=(l.length:d) from rfl,adK];rw[j00 (show (i:d)<(l.length:d) by omega),j0N (show (0:d)<=(i:d) by omega) omg_,j05 (x:=(i:d)+1)];simp only[j6,j8,hgd];by_cases h:l[i].1<x.1
  .rw[j00 h,j6,j03,if_pos h];have:=ih (i+1) omg_;rw[show i+(adK x.1 (l.drop (i+1))+1)=i+1+adK x.1 (l.drop (i+1)) by omega];exact this
  .rw[j01 h,j7,j06,if_neg h];rfl
def LdS(x:LdT):Prop:=0<=x.2.1/\x.2.1<=1000000000000000/\0<=x.2.2/\x.2.2<=1000000000000000
theorem jBa{l:H LdT}(hl:l.length<=999)(hb:∀y∈l,LdS y){x:LdT}(hx:LdS x):jlu l x=Y (ad x l):=by
 have hk:=jB7 x.1 l;have e:=jEx (x:=x) (l:=l) omg_ l.length 0 omg_;rw[U,Nat.zero_add]at e;obtain⟨k,hkk⟩:∃k,k=adK x.1 l:=⟨_,rfl⟩;rw[<-hkk]at hk e;have hsz:Ü l+Ü [(x.1,x.2.1,x.2.2)]<=j02:=by simp only[Å,j02];omega
 have ew:w64 ((k:d)+1)=((k+1:O):d):=by rw[j05];omega
 have ins:(∀h:adK x.1 l<l.length,l[adK x.1 l].1≠x.1)->ß (over (l++[(x.1,x.2.1,x.2.2)]) (k+1) (Â k (l++[(x.1,x.2.1,x.2.2)]))) k (x.1,x.2.1,x.2.2)=ad x l:=λh=>by
  rw[jxU l _ hk,jB9 h,<-hkk]
 have hol:(over (l++[(x.1,x.2.1,x.2.2)]) (k+1) (Â k (l++[(x.1,x.2.1,x.2.2)]))).length=l.length+1:=by simp only[over,X,List.length_take,List.length_drop,Å];omega
 simp only[jlu,jjm];rw[show jgA 0 x.1 x.2.1 x.2.2 l=_ from e];simp only[j4,show D l.length=(l.length:d) from rfl,j8,ew];by_cases hlt:k<l.length
 .have hgd:l.getD k (0,0,0)=l[k]:=by simp[R,hlt]
  rw[j00 (show (k:d)<(l.length:d) by omega),j0N (show (0:d)<=(k:d) by omega) (show (k:d)<(l.length:d) by omega)];simp only[j6,hgd];by_cases hq:l[k].1=x.1
  .rw[show (l[k].1==x.1)=Ï from beq_iff_eq.2 hq];have hb1:=hb _ (J hlt);unfold LdS at hb1 hx;rw[j05 (x:=l[k].2.1+x.2.1)];have hlt2:k<(l.set k (l[k].1,l[k].2.1+x.2.1,l[k].2.2)).length:=by simpa using hlt
   have hgd2:(l.set k (l[k].1,l[k].2.1+x.2.1,l[k].2.2)).getD k (0,0,0)=(l[k].1,l[k].2.1+x.2.1,l[k].2.2):=by simp[R,hlt]
   simp only[j6,List.length_set,hgd2];rw[j0N (show (0:d)<=(k:d) by omega) (show (k:d)<(l.length:d) by omega),j05 (x:=l[k].2.2+x.2.2),List.set_set];simp only[j6];subst hkk;rw[jB8 hlt hq]
  .rw[show (l[k].1==x.1)=Ê from beq_eq_false_iff_ne.2 hq]
   rw[j00 hsz,j00 (show (0:d)<=((k+1:O):d) by omega),j00 (show (0:d)<=(k:d) by omega),
    j00 (show ((k+1:O):d)<=D (l++[(x.1,x.2.1,x.2.2)]).length by rw[X];show ((k+1:O):d)<=((l.length+1:O):d);omega),
    j00 (show (k:d)<=D (l++[(x.1,x.2.1,x.2.2)]).length by rw[X];show (k:d)<=((l.length+1:O):d);omega)]
   simp only[j7,j6,Õ];rw[j0N omg_ (by rw[hol];omega)];simp only[j6];rw[ins λh=>by subst hkk;exact hq]
 .rw[j01 (show¬(k:d)<(l.length:d) by omega)]
  rw[j00 hsz,j00 (show (0:d)<=((k+1:O):d) by omega),j00 (show (0:d)<=(k:d) by omega),
   j00 (show ((k+1:O):d)<=D (l++[(x.1,x.2.1,x.2.2)]).length by rw[X];show ((k+1:O):d)<=((l.length+1:O):d);omega),
   j00 (show (k:d)<=D (l++[(x.1,x.2.1,x.2.2)]).length by rw[X];show (k:d)<=((l.length+1:O):d);omega)]
  simp only[j7,j6,Õ];rw[j0N omg_ (by rw[hol];omega)];simp only[j6];rw[ins λh=>omg_]
theorem jxV(p:d)(x:LdT):∀l:H LdT,usum p (ad x l)=usum p l+(if x.1=p then x.2.1 else 0)
 |[]=>by simp[ad,usum]
 |y::r=>by
  have:=jxV p x r;simp only[ad];split
  .simp only[usum,this];omega
  .split
   .rename_i h1 h2;simp only[usum,h2];split<;>omega
   .simp only[usum];omega
theorem jxW(p:d)(x:LdT):∀l:H LdT,vsum p (ad x l)=vsum p l+(if x.1=p then x.2.2 else 0)
 |[]=>by simp[ad,vsum]
 |y::r=>by
  have:=jxW p x r;simp only[ad];split
  .simp only[vsum,this];omega
  .split
   .rename_i h1 h2;simp only[vsum,h2];split<;>omega
   .simp only[vsum];omega
theorem jtd(q:d)(x:LdT):∀l:H LdT,q∈(ad x l).map (λy=>y.1)↔q=x.1\/q∈l.map (λy=>y.1)
 |[]=>by simp[ad]
 |y::r=>by
  have:=jtd q x r;simp only[ad];split
  .simp only[Z,Æ,this];constructor
   .rintro (h|h|h)
    .exact .inr (.inl h)
    .exact .inl h
    .exact .inr (.inr h)
   .rintro (h|h|h)
    .exact .inr (.inl h)
    .exact .inl h
    .exact .inr (.inr h)
  .split
   .rename_i h1 h2;simp only[Z,Æ,h2];constructor
    .rintro (h|h)
     .exact .inl h
     .exact .inr (.inr h)
    .rintro (h|h|h)
     .exact .inl h
     .exact .inl h
     .exact .inr h
   .simp only[Z,Æ]
theorem jCL(x:LdT):∀{l:H LdT},(l.Pairwise λy z=>y.1<z.1)->(ad x l).Pairwise λy z=>y.1<z.1
 |[],_=>by simp[ad]
 |y::r,h=>by
  have hc:=List.pairwise_cons.1 h;simp only[ad];split
  .rename_i h1;refine List.pairwise_cons.2 ⟨λz hz=>?_,jCL x hc.2⟩;rcases (jtd z.1 x r).1 (List.mem_map.2 ⟨z,hz,rfl⟩) with e|hm
   .omega
   .obtain⟨w,hw,e⟩:=List.mem_map.1 hm;have:=hc.1 w hw;omega
  .split
   .exact List.pairwise_cons.2 ⟨hc.1,hc.2⟩
   .rename_i h1 h2;refine List.pairwise_cons.2 ⟨λz hz=>?_,h⟩;rcases List.mem_cons.1 hz with rfl|hz
    .omega
    .have:=hc.1 z hz;omega
def LdB(B:d)(y:LdT):Prop:=0<=y.2.1/\y.2.1<=B/\0<=y.2.2/\y.2.2<=B
theorem LdB.mono{B C:d}(h:B<=C){y:LdT}(hy:LdB B y):LdB C y:=⟨hy.1,by have:=hy.2.1;omega,hy.2.2.1,by have:=hy.2.2.2;omega⟩
theorem jCM{B C:d}(hC:0<=C)(hB:0<=B){x:LdT}(hx:LdB C x):∀{l:H LdT},(∀y∈l,LdB B y)->∀y∈ad x l,LdB (B+C) y
 |[],_,y,hy=>by
  simp only[ad,List.mem_singleton]at hy;subst hy;exact hx.mono omg_
 |z::r,h,y,hy=>by
  have hz:=h z smp_;have hr:∀y∈r,LdB B y:=λy hy=>h y (by simp[hy]);simp only[ad]at hy;split at hy
  .rcases List.mem_cons.1 hy with rfl|hy
   .exact hz.mono omg_
   .exact jCM hC hB hx hr y hy
  .split at hy
   .rcases List.mem_cons.1 hy with rfl|hy
    .obtain⟨a1,a2,a3,a4⟩:=hz;obtain⟨b1,b2,b3,b4⟩:=hx;exact⟨by show 0<=z.2.1+x.2.1;omega,by show z.2.1+x.2.1<=_;omega,by show 0<=z.2.2+x.2.2;omega,by show z.2.2+x.2.2<=_;omega⟩
    .exact(hr y hy).mono omg_
   .rcases List.mem_cons.1 hy with rfl|hy
    .exact hx.mono omg_
    .exact(h y hy).mono omg_
def ads(a:H LdT):H LdT->H LdT
 |[]=>a
 |x::r=>ads (ad x a) r
theorem jte(p:d):∀(b a:H LdT),usum p (ads a b)=usum p (a++b)/\vsum p (ads a b)=vsum p (a++b)
 |[],a=>by simp[ads]
 |x::r,a=>by
  have:=jte p r (ad x a);simp only[ads];rw[this.1,this.2,jf3,jf3,jf4,jf4,jxV,jxW];simp only[usum,vsum];omega
theorem jxX(q:d):∀(b a:H LdT),q∈(ads a b).map (λy=>y.1)↔q∈(a++b).map (λy=>y.1)
 |[],a=>by simp[ads]
 |x::r,a=>by
  simp only[ads];rw[jxX q r (ad x a),À,Á,jtd,À,Á,Z,Æ];constructor
  .rintro ((h|h)|h)
   .exact .inr (.inl h)
   .exact .inl h
   .exact .inr (.inr h)
  .rintro (h|h|h)
   .exact .inl (.inr h)
   .exact .inl (.inl h)
   .exact .inr h
theorem jBb:∀(b:H LdT){a:H LdT},(a.Pairwise λy z=>y.1<z.1)->(ads a b).Pairwise λy z=>y.1<z.1
 |[],_,h=>h
 |x::r,_,h=>jBb r (jCL x h)
theorem jrR{p:d}:∀{l:H LdT},p∉l.map (λy=>y.1)->usum p l=0/\vsum p l=0
 |[],_=>⟨rfl,rfl⟩
 |y::r,h=>by
  simp only[Z,Æ,not_or]at h;have:=jrR h.2;have hne:¬y.1=p:=λe=>h.1 e.symm;simp only[usum,vsum,hne,if_false];omega
theorem jtf:∀{l:H LdT},(l.Pairwise λy z=>y.1<z.1)->∀y∈l,usum y.1 l=y.2.1/\vsum y.1 l=y.2.2
 |[],_,y,hy=>by simp at hy
 |z::r,h,y,hy=>by
  have hc:=List.pairwise_cons.1 h;rcases List.mem_cons.1 hy with rfl|hy
  .have:=jrR (p:=y.1) (l:=r) (λhm=>by
    obtain⟨w,hw,e⟩:=List.mem_map.1 hm;have:=hc.1 w hw;omega)
   simp only[usum,vsum,if_true];omega
  .have:=jtf hc.2 y hy;have hlt:=hc.1 y hy;have hne:¬z.1=y.1:=omg_;simp only[usum,vsum,hne,if_false];omega
structure JI(m:MpL)(l:H LdT)(n:O):Prop where
 ok:MpOk m 32 n
 nd:(m.map λx=>x.1).Nodup
 key:∀p,j1W m p=Ï↔p∈l.map (λy=>y.1)
 get:∀p,j1W m p=Ï->j1r ld0 m p=(p,usum p l,vsum p l)
def badW(y:(d×d)×d):Bool:=cond (I (y.2<1)) Ï (I (y.2>8))
theorem jBc{ws:WtL}(hl:ws.length<=100):∀(n i:O),i+n=ws.length->∃q,j0q ws (ws.length:d) (i:d)=Y q/\
  (q = .inr ()/\(ws.drop i).any badW=Ê\/(∃k:O,q = .inl (k:d))/\(ws.drop i).any badW=Ï)
 |0,i,hi=>by
  refine⟨.inr (),?_,.inl ⟨rfl,by rw[E omg_];rfl⟩⟩;rw[j0Q];simp only[j0a];rw[j01 omg_,j7,j06]
 |n+1,i,hi=>by
  have hlt:i<ws.length:=omg_;have hgd:ws.getD i ((0,0),0)=ws[i]:=by simp[R,hlt]
  rw[j0Q,A hlt];simp only[j0a,jbG];rw[j00 (show (i:d)<(ws.length:d) by omega),j0L,j05 (x:=(i:d)+1)];simp only[j6,j8,hgd,j4,Ö];cases hb:badW ws[i]with
  |true=>have hb':cond (I (ws[i].2<1)) Ï (I (ws[i].2>8))=true:=hb;rw[hb'];exact⟨_,rfl,.inr ⟨⟨i,rfl⟩,rfl⟩⟩
  |false=>have hb':cond (I (ws[i].2<1)) Ï (I (ws[i].2>8))=false:=hb;rw[hb'];simp only[j7,j03,Í];exact jBc hl n (i+1) omg_
theorem jBd{ws:WtL}(hl:ws.length<=100):∀(n i:O),i+n=ws.length->jdq ws (i:d)=Y (cond ((ws.drop i).any badW) (.inl 1) (.inr ()))
 |0,i,hi=>by
  rw[jg0,E omg_];simp only[j63,show D ws.length=(ws.length:d) from rfl];rw[j01 omg_,j7,j06];rfl
 |n+1,i,hi=>by
  have hlt:i<ws.length:=omg_;have hgd:ws.getD i ((0,0),0)=ws[i]:=by simp[R,hlt]
  rw[jg0,A hlt];simp only[j63,show D ws.length=(ws.length:d) from rfl];rw[j00 (show (i:d)<(ws.length:d) by omega),j0N (show (0:d)<=(i:d) by omega) omg_,j05 (x:=(i:d)+1)];simp only[j6,Ù,j8,hgd,Ö];cases hb:badW ws[i]with
  |true=>have hb':cond (I (ws[i].2<1)) Ï (I (ws[i].2>8))=true:=hb;rw[hb'];rfl
  |false=>have hb':cond (I (ws[i].2<1)) Ï (I (ws[i].2>8))=false:=hb;rw[hb'];simp only[j7,j03,Í];exact jBd hl n (i+1) omg_
theorem jBe{ws:WtL}(hl:ws.length<=100):∀(n i:O)(acc:WL),i+n=min ws.length 15->acc.length=i->jb4 ws (i:d) acc=Y (ws,acc++((ws.take 15).drop i).map λy=>y.1)
 |0,i,acc,hi,ha=>by
  rw[jfZ,E sqo_];simp only[j62,show D ws.length=(ws.length:d) from rfl]
  have:cond (I ((i:d)<(ws.length:d))) (I ((i:d)<=14)) Ê=false:=by
   by_cases h:(i:d)<(ws.length:d)
   .rw[j00 h,j01 (show¬(i:d)<=14 by omega)];rfl
   .rw[j01 h];rfl
  rw[this,j7,j06];simp
 |n+1,i,acc,hi,ha=>by
  have hlt:i<ws.length:=omg_;have hlt2:i<(ws.take 15).length:=sqo_;have hgd:ws.getD i ((0,0),0)=ws[i]:=by simp[R,hlt]
  have ih:=jBe hl n (i+1) (acc++[ws[i].1]) omg_ sqo_;rw[jfZ,A hlt2];simp only[j62,Å,show D ws.length=(ws.length:d) from rfl];rw[j00 (show (i:d)<(ws.length:d) by omega),j00 (show (i:d)<=14 by omega),j0L,j05 (x:=(i:d)+1),j00 (show acc.length+1<=j02 by simp[j02];omega)];simp only[j6,j8,hgd,j03,List.getElem_take,Z];rw[Ð]at ih;exact ih
theorem jrS{ws:WtL}(hl:ws.length<=100):∃c,jc2 ws=Y c/\jir ws=Y c/\(c=0->WtOk ws):=by
 have e0:j93 ws=Y (ws.map λy=>y.1):=by have:=jCE (ws:=ws) hl ws.length 0 [] omg_ rfl;simp only[j93];rw[show j7w ws (D ws.length) 0 []=_ from this];simp
 have e1:jb4 ws 0 []=Y (ws,(ws.take 15).map λy=>y.1):=by have:=jBe (ws:=ws) hl (min ws.length 15) 0 [] omg_ rfl;rw[show jb4 ws 0 []=_ from this];simp
 obtain⟨c,c1,c2,c3⟩:=jxT (ws.map λy=>y.1)
 have c4:j3P ((ws.take 15).map λy=>y.1)=Y c:=by
  by_cases h15:ws.length<=15
  .rw[Ã h15];exact c2
  .have h1:j3P (ws.map λy=>y.1)=Y 5:=by simp only[j3P,show D (ws.map λy=>y.1).length=((ws.map λy=>y.1).length:d) from rfl];rw[j00 sqo_,j6]
   have h2:j3P ((ws.take 15).map λy=>y.1)=Y 5:=by simp only[j3P,show D ((ws.take 15).map λy=>y.1).length=(((ws.take 15).map λy=>y.1).length:d) from rfl];rw[j00 sqo_,j6]
   rw[h2,<-c2,h1]
 simp only[jc2,jir,e0,e1,j4,c1,c4];by_cases h0:c=0
 .subst h0;obtain⟨w1,w2⟩:=c3 rfl;have hl14:ws.length<=14:=by simpa using w2
  obtain⟨q,f1,f2⟩:=jBc hl ws.length 0 omg_;have f3:=jBd hl ws.length 0 omg_;rw[U]at f2 f3;simp only[bne_self_eq_false,j7,j0G,j1b];rw[show j0q ws (D ws.length) 0=_ from f1,show jdq ws 0=_ from f3];rcases f2 with⟨rfl,hn⟩|⟨⟨k,rfl⟩,hy⟩
  .rw[hn];refine⟨0,rfl,rfl,λ_=>⟨w1,hl14,λy hy=>?_⟩⟩;have:=List.any_eq_false.1 hn y hy;unfold badW at this;by_cases g1:y.2<1
   .rw[j00 g1]at this;simp at this
   .rw[j01 g1]at this;simp only[j7,decide_eq_true_eq]at this;omega
  .rw[hy];refine⟨1,?_,rfl,smp_⟩;simp only[j4,sumC];rw[j00 (show (k:d)>=0 by omega)];rfl
 .rw[show (c != 0)=Ï from bne_iff_ne.2 h0];exact⟨c,rfl,rfl,λh=>absurd h h0⟩
theorem jrT:∀(b c a:H LdT),ads a (b++c)=ads (ads a b) c
 |[],c,a=>rfl
 |x::b,c,a=>by simp only[Ò,ads];exact jrT b c (ad x a)
structure jhK(np:O)(o:H LdT):Prop where
 pw:o.Pairwise λy z=>y.1<z.1
 key:∀y∈o,0<=y.1/\y.1<(np:d)
theorem jhK.ad{np:O}{o:H LdT}(h:jhK np o){x:LdT}(h0:0<=x.1)(h1:x.1<(np:d)):jhK np (ad x o):=
 ⟨jCL x h.pw,λy hy=>by
  rcases (jtd y.1 x o).1 (List.mem_map.2 ⟨y,hy,rfl⟩) with e|hm
  .omega
  .obtain⟨z,hz,e⟩:=List.mem_map.1 hm;have:=h.key z hz;omega⟩
theorem jBf:∀{o:H LdT}{lo hi:d},lo<=hi->(o.Pairwise λy z=>y.1<z.1)->(∀y∈o,lo<=y.1/\y.1<hi)->(o.length:d)<=hi-lo
 |[],lo,hi,h,_,_=>sqo_
 |y::r,lo,hi,h,hp,hk=>by
  have hc:=List.pairwise_cons.1 hp;have h1:=hk y smp_;have:=jBf (lo:=y.1+1) (hi:=hi) omg_ hc.2 λz hz=>⟨by have:=hc.1 z hz;omega,(hk z (by simp[hz])).2⟩;simp only[Ä];omega
theorem jhK.len{np:O}{o:H LdT}(h:jhK np o):o.length<=np:=by
 have:=jBf (lo:=0) (hi:=(np:d)) omg_ h.pw h.key;omega
def segA(S:SgL):H LdT:=S.filterMap λs=>if 0<=s.2.2 then Y (s.2.2,s.2.1-s.1,s.2.1-s.1) else none
def SgB(np:O)(s:d×d×d):Prop:=s.2.2<(np:d)/\0<=s.1/\s.1<s.2.1/\s.2.1<=8589934592/\s.2.1-s.1<=2592000
theorem jxY{np:O}(hnp:np<=900){S:SgL}(hl:S.length<=100000)(hS:∀s∈S,SgB np s){a b z:d}{ws:WtL}{zs:H j0z}{ps:H j0d}{cs:H CalT}{ss:H j0u}:∀(n i:O)(out:H LdT)(B:d),i+n=S.length->jhK np out->0<=B->
  B+18144000*(n:d)<=1000000000000000->(∀y∈out,LdB B y)->
  jdr a b z ws (i:d) zs ps cs ss S out=Y (a,b,z,ws,zs,ps,cs,ss,S,ads out (segA (S.drop i)))/\jhK np (ads out (segA (S.drop i)))/\∀y∈ads out (segA (S.drop i)),LdB (B+18144000*(n:d)) y
 |0,i,out,B,hi,ho,hB,_,hout=>by
  rw[jg1,E omg_];refine⟨?_,ho,λy hy=>(hout y hy).mono omg_⟩;simp only[j64,show D S.length=(S.length:d) from rfl];rw[j01 omg_,j7,j06];rfl
 |n+1,i,out,B,hi,ho,hB,hBn,hout=>by
  have hlt:i<S.length:=omg_;have hgd:S.getD i (0,0,0)=S[i]:=by simp[R,hlt]
  obtain⟨h1,h2,h3,h4,h5⟩:=hS _ (J hlt);have hlen:=ho.len;rw[jg1,A hlt];simp only[j64,show D S.length=(S.length:d) from rfl];rw[j00 (show (i:d)<(S.length:d) by omega),j0N (show (0:d)<=(i:d) by omega) omg_,j05 (x:=(i:d)+1)];simp only[j6,j8,hgd];by_cases h0:S[i].2.2>=0
  .have hx:LdB 18144000 (S[i].2.2,S[i].2.1-S[i].1,S[i].2.1-S[i].1):=⟨by show 0<=S[i].2.1-S[i].1;omega,by show S[i].2.1-S[i].1<=_;omega,by show 0<=S[i].2.1-S[i].1;omega,by show S[i].2.1-S[i].1<=_;omega⟩;have e:segA (S[i]::S.drop (i+1))=(S[i].2.2,S[i].2.1-S[i].1,S[i].2.1-S[i].1)::segA (S.drop (i+1)):=by unfold segA;rw[É,if_pos omg_]
   rw[j00 h0,j6,j05 (x:=S[i].2.1-S[i].1),jBa omg_ (λy hy=>by
    obtain⟨c1,c2,c3,c4⟩:=hout y hy;exact⟨c1,omg_,c3,omg_⟩) (by obtain⟨c1,c2,c3,c4⟩:=hx;exact⟨c1,omg_,c3,omg_⟩),e]
   simp only[j4,j03,ads];have:=jxY hnp hl hS (a:=a) (b:=b) (z:=z) (ws:=ws) (zs:=zs) (ps:=ps) (cs:=cs) (ss:=ss) n (i+1) (ad (S[i].2.2,S[i].2.1-S[i].1,S[i].2.1-S[i].1) out) (B+18144000) omg_ (ho.ad (by show 0<=S[i].2.2;omega) h1) omg_ omg_ (jCM omg_ hB hx hout);rw[show B+18144000*((n+1:O):d)=B+18144000+18144000*(n:d) by omega];exact this
  .have e:segA (S[i]::S.drop (i+1))=segA (S.drop (i+1)):=by unfold segA;rw[É,if_neg omg_]
   rw[j01 h0,j7,e];simp only[j03];have:=jxY hnp hl hS (a:=a) (b:=b) (z:=z) (ws:=ws) (zs:=zs) (ps:=ps) (cs:=cs) (ss:=ss) n (i+1) out B omg_ ho hB omg_ hout;exact⟨this.1,this.2.1,λy hy=>(this.2.2 y hy).mono omg_⟩
def ovN(g:d):O->SgL->SL->H LdT
 |n+1,s::S,u::T=>(if 0<(if u.2<s.2.1 then u.2 else s.2.1)-(if u.1>s.1 then u.1 else s.1)/\0<=s.2.2 then [(s.2.2,(0:d),((if u.2<s.2.1 then u.2 else s.2.1)-(if u.1>s.1 then u.1 else s.1))*g)] else [])++
  (if s.2.1<=u.2 then ovN g n S (u::T) else ovN g n (s::S) T)
 |_,_,_=>[]
theorem jEy{np:O}(hnp:np<=900){S:SgL}(hl:S.length<=100000)(hS:∀s∈S,SgB np s){T:SL}(hT:T.length<=100000)(hTb:∀u∈T,0<=u.1/\u.1<=8589934592/\0<=u.2/\u.2<=8589934592){a b z:d}{ws:WtL}(hw:∀y∈ws,1<=y.2/\y.2<=8){k:O}(hk:k<ws.length)
  {zs:H j0z}{ps:H j0d}{cs:H CalT}{ss:H j0u}:∀(n i j:O)(out:H LdT)(B:d),i<=S.length->j<=T.length->(S.length-i)+(T.length-j)<=n->jhK np out->0<=B->B+18144000*(n:d)<=1000000000000000->(∀y∈out,LdB B y)->
  j97 a b z ws (k:d) (i:d) (j:d) zs ps cs ss S out T=Y (a,b,z,ws,(k:d),zs,ps,cs,ss,S,ads out (ovN (ws[k].2-1) n (S.drop i) (T.drop j)))/\
   jhK np (ads out (ovN (ws[k].2-1) n (S.drop i) (T.drop j)))/\∀y∈ads out (ovN (ws[k].2-1) n (S.drop i) (T.drop j)),LdB (B+18144000*(n:d)) y:=by
 have stop:∀(n i j:O)(out:H LdT)(B:d),(i=S.length\/j=T.length)->jhK np out->0<=B->(∀y∈out,LdB B y)->
   j97 a b z ws (k:d) (i:d) (j:d) zs ps cs ss S out T=Y (a,b,z,ws,(k:d),zs,ps,cs,ss,S,ads out (ovN (ws[k].2-1) n (S.drop i) (T.drop j)))/\
    jhK np (ads out (ovN (ws[k].2-1) n (S.drop i) (T.drop j)))/\∀y∈ads out (ovN (ws[k].2-1) n (S.drop i) (T.drop j)),LdB (B+18144000*(n:d)) y:=by
  intro n i j out B h ho hB hout
  have e:ovN (ws[k].2-1) n (S.drop i) (T.drop j)=[]:=by
   rcases h with h|h
   .rw[E omg_];cases n<;>rfl
   .rw[E (l:=T) omg_];cases n<;>cases S.drop i<;>rfl
  rw[e];refine⟨?_,ho,λy hy=>(hout y hy).mono omg_⟩;rw[jg2];simp only[j65,j5B,show D S.length=(S.length:d) from rfl,show D T.length=(T.length:d) from rfl]
  have:cond (I ((i:d)<(S.length:d))) (I ((j:d)<(T.length:d))) Ê=false:=by
   rcases h with h|h
   .rw[j01 omg_];rfl
   .rw[j01 (show¬(j:d)<(T.length:d) by omega)];cases I ((i:d)<(S.length:d))<;>rfl
  rw[this,j7,j06];rfl
 intro n;induction n with
 |zero=>intro i j out B hi hj hn ho hB hBn hout;exact stop 0 i j out B omg_ ho hB hout
 |succ n ih=>
  intro i j out B hi hj hn ho hB hBn hout;by_cases hend:i=S.length\/j=T.length
  .exact stop (n+1) i j out B hend ho hB hout
  have hlt:i<S.length:=omg_;have hjt:j<T.length:=omg_;have hgd:S.getD i (0,0,0)=S[i]:=by simp[R,hlt]
  have hgt:T.getD j (0,0)=T[j]:=by simp[R,hjt]
  have hgw:ws.getD k ((0,0),0)=ws[k]:=by simp[R,hk]
  obtain⟨h1,h2,h3,h4,h5⟩:=hS _ (J hlt);obtain⟨t1,t2,t3,t4⟩:=hTb _ (J hjt);obtain⟨w1,w2⟩:=hw _ (J hk);have hlen:=ho.len;rw[jg2,A hlt,A hjt];simp only[j65,j5B,show D S.length=(S.length:d) from rfl,show D T.length=(T.length:d) from rfl,ovN]
  rw[j00 (show (i:d)<(S.length:d) by omega),j00 (show (j:d)<(T.length:d) by omega),j0N (show (0:d)<=(i:d) by omega) (show (i:d)<(S.length:d) by omega),j0N (show (0:d)<=(j:d) by omega) (show (j:d)<(T.length:d) by omega),
   j0N (show (0:d)<=(k:d) by omega) (show (k:d)<(ws.length:d) by omega),j05 (x:=(i:d)+1),j05 (x:=(j:d)+1)]
  simp only[j6,Ù,j8,hgd,hgt,hgw];obtain⟨m,hm⟩:∃m,m=(if T[j].2<S[i].2.1 then T[j].2 else S[i].2.1)-(if T[j].1>S[i].1 then T[j].1 else S[i].1):=⟨_,rfl⟩;have hm1:m<=2592000 /\ -8589934592<=m:=by rw[hm];constructor<;>(split<;>split<;>omega)
  rw[<-hm,j05 (x:=m),j05 (x:=ws[k].2-1)]
  have next:∀(out':H LdT)(B':d),jhK np out'->0<=B'->B'<=B+18144000->(∀y∈out',LdB B' y)->
    (lpK (cond (I (S[i].2.1<=T[j].2)) (Y (.inl (a,b,z,ws,(k:d),(i:d)+1,(j:d),zs,ps,cs,ss,S,out',T))) (Y (.inl (a,b,z,ws,(k:d),(i:d),(j:d)+1,zs,ps,cs,ss,S,out',T))))
     (λh=>j97 h.1 h.2.1 h.2.2.1 h.2.2.2.1 h.2.2.2.2.1 h.2.2.2.2.2.1 h.2.2.2.2.2.2.1 h.2.2.2.2.2.2.2.1 h.2.2.2.2.2.2.2.2.1 h.2.2.2.2.2.2.2.2.2.1 h.2.2.2.2.2.2.2.2.2.2.1 h.2.2.2.2.2.2.2.2.2.2.2.1 h.2.2.2.2.2.2.2.2.2.2.2.2.1 h.2.2.2.2.2.2.2.2.2.2.2.2.2))=
     Y (a,b,z,ws,(k:d),zs,ps,cs,ss,S,ads out' (if S[i].2.1<=T[j].2 then ovN (ws[k].2-1) n (S.drop (i+1)) (T[j]::T.drop (j+1)) else ovN (ws[k].2-1) n (S[i]::S.drop (i+1)) (T.drop (j+1))))/\
    jhK np (ads out' (if S[i].2.1<=T[j].2 then ovN (ws[k].2-1) n (S.drop (i+1)) (T[j]::T.drop (j+1)) else ovN (ws[k].2-1) n (S[i]::S.drop (i+1)) (T.drop (j+1))))/\
    ∀y∈ads out' (if S[i].2.1<=T[j].2 then ovN (ws[k].2-1) n (S.drop (i+1)) (T[j]::T.drop (j+1)) else ovN (ws[k].2-1) n (S[i]::S.drop (i+1)) (T.drop (j+1))),LdB (B+18144000*((n+1:O):d)) y:=by
   intro out' B' ho' hB' hBB hout';by_cases hc:S[i].2.1<=T[j].2
   .rw[j00 hc,if_pos hc,j6,j03];have:=ih (i+1) j out' B' omg_ hj omg_ ho' hB' omg_ hout';rw[A hjt]at this;exact⟨this.1,this.2.1,λy hy=>(this.2.2 y hy).mono omg_⟩
   .rw[j01 hc,if_neg hc,j7,j03];have:=ih i (j+1) out' B' hi omg_ omg_ ho' hB' omg_ hout';rw[A hlt]at this;exact⟨this.1,this.2.1,λy hy=>(this.2.2 y hy).mono omg_⟩
  by_cases h0:0<m/\0<=S[i].2.2
  .have hp0:0<=m*(ws[k].2-1):=Int.mul_nonneg omg_ omg_;have hp1:m*(ws[k].2-1)<=2592000*7:=Int.mul_le_mul omg_ omg_ omg_ omg_;have hx:LdB 18144000 (S[i].2.2,(0:d),m*(ws[k].2-1)):=⟨Ç _,by show (0:d)<=18144000;omega,hp0,by show m*(ws[k].2-1)<=18144000;omega⟩;rw[j00 (show m>0 by omega),j00 (show S[i].2.2>=0 by omega),if_pos h0,j05 (x:=m*(ws[k].2-1))];simp only[j6]
   rw[jBa omg_ (λy hy=>by
    obtain⟨c1,c2,c3,c4⟩:=hout y hy;exact⟨c1,omg_,c3,omg_⟩) (by obtain⟨c1,c2,c3,c4⟩:=hx;exact⟨c1,omg_,c3,omg_⟩)]
   simp only[j4,List.singleton_append,ads];exact next _ (B+18144000) (ho.ad (by show 0<=S[i].2.2;omega) h1) omg_ (Ç _) (jCM omg_ hB hx hout)
  .have hcn:cond (I (m>0)) (I (S[i].2.2>=0)) Ê=false:=by
    by_cases hm0:m>0
    .rw[j00 hm0,j01 (show¬S[i].2.2>=0 by omega)];rfl
    .rw[j01 hm0];rfl
   rw[hcn,if_neg h0];simp only[j7,Ì];exact next out B ho hB omg_ hout
theorem jBg{f g:d->Bool}{a:d}:∀{n:O},(∀x,a<=x->x<a+n->f x=Ï->g x=Ê)->cntB (λx=>f x||g x) a n=cntB f a n+cntB g a n
 |0,_=>rfl
 |n+1,h=>by
  have ih:=jBg (f:=f) (g:=g) (a:=a) (n:=n) λx x1 x2=>h x x1 omg_;have h1:=h (a+n) omg_ omg_;simp only[cntB,ih];cases hf:f (a+n) with
  |true=>rw[h1 hf];simp only[Bool.or_false,j6,j7];omega
  |false=>simp only[Í,j7];omega
def ov(s u:d×d):Int:=if 0<(if u.2<s.2 then u.2 else s.2)-(if u.1>s.1 then u.1 else s.1) then (if u.2<s.2 then u.2 else s.2)-(if u.1>s.1 then u.1 else s.1) else 0
theorem jBh(u:d×d)(hu:u.1<u.2)(c:d):∀n:O,cntB (λx=>cond (I (u.1<=x)) (I (x<u.2)) Ê) c n=ov (c,c+n) u
 |0=>by
  have e:(c:d)+((0:O):d)=c:=omg_;simp only[cntB,ov];rw[e]
  (repeat' split)<;>omega
 |n+1=>by
  have ih:=jBh u hu c n;simp only[cntB,ih];by_cases h1:u.1<=c+n
  .by_cases h2:c+n<u.2
   .rw[j00 h1,j00 h2];simp only[ov,j6];have e:(c:d)+((n+1:O):d)=c+n+1:=omg_;rw[e]
    (repeat' split)<;>omega
   .rw[j00 h1,j01 h2];simp only[ov,j6,j7];have e:(c:d)+((n+1:O):d)=c+n+1:=omg_;rw[e]
    (repeat' split)<;>omega
  .rw[j01 h1];simp only[ov,j7];have e:(c:d)+((n+1:O):d)=c+n+1:=omg_;rw[e]
   (repeat' split)<;>omega
def rowS(s:d×d):SL->d
 |[]=>0
 |u::T=>ov s u+rowS s T
theorem jxZ{c:d}{n:O}:∀{T:SL}{p:d},InO p T->rowS (c,c+n) T=cntB (λx=>hasB x T) c n
 |[],p,_=>(jiP (f:=λx=>hasB x []) (λ_ _ _=>rfl)).symm
 |u::T,p,h=>by
  obtain⟨h1,h2,h3⟩:=h;simp only[rowS]
  rw[jxZ h3,<-jBh u h2 c n,<-jBg (f:=λx=>cond (I (u.1<=x)) (I (x<u.2)) Ê) (g:=λx=>hasB x T) (λx x1 x2 hx=>by
   have:x<u.2:=by
    by_cases q:u.1<=x
    .have hx:cond (I (u.1<=x)) (I (x<u.2)) Ê=true:=hx;rw[j00 q]at hx;exact of_decide_eq_true hx
    .have hx:cond (I (u.1<=x)) (I (x<u.2)) Ê=true:=hx;rw[j01 q]at hx;simp at hx
   exact jrL h3 this)]
  refine jeo λx x1 x2=>?_;simp only[hasB];cases cond (I (u.1<=x)) (I (x<u.2)) Ê<;>rfl
theorem jy0{s u:d×d}(h:s.2<=u.1\/u.2<=s.1):ov s u=0:=by
 simp only[ov]
 (repeat' split)<;>omega
theorem jtg{s:d×d}:∀{T:SL}{p:d},InO p T->s.2<=p->rowS s T=0
 |[],_,_,_=>rfl
 |u::T,p,h,hs=>by
  obtain⟨h1,h2,h3⟩:=h;simp only[rowS];rw[jy0 (.inl omg_),jtg h3 omg_];rfl
def allS(p:d)(T:SL):SgL->d
 |[]=>0
 |s::S=>(if s.2.2=p then rowS (s.1,s.2.1) T else 0)+allS p T S
theorem all_cons{f:d->d}{b p:d}{u:d×d}{T:SL}:∀{S:SgL}{a:d},Ch f b a S->u.2<=a->allS p (u::T) S=allS p T S
 |[],_,_,_=>rfl
 |s::S,a,h,hu=>by
  obtain⟨h1,h2,h3,h4⟩:=h;simp only[allS,rowS];rw[all_cons h4 omg_,jy0 (.inr (by show u.2<=s.1;omega)),Int.zero_add]
theorem jy1(p:d):∀S:SgL,allS p [] S=0
 |[]=>rfl
 |s::S=>by simp only[allS,rowS,jy1 p S];split<;>rfl
theorem jrU{f:d->d}{b p g:d}(hp:0<=p):∀(n:O){S:SgL}{T:SL}{a lo:d},S.length+T.length<=n->Ch f b a S->InO lo T->vsum p (ovN g n S T)=allS p T S*g/\usum p (ovN g n S T)=0
 |0,S,T,a,lo,hn,hS,hT=>by
  have:S=[]:=List.length_eq_zero_iff.1 omg_;subst this;simp[ovN,vsum,usum,allS]
 |n+1,[],T,a,lo,hn,hS,hT=>by simp[ovN,vsum,usum,allS]
 |n+1,s::S,[],a,lo,hn,hS,hT=>by
  rw[jy1];simp[ovN,vsum,usum]
 |n+1,s::S,u::T,a,lo,hn,hS,hT=>by
  obtain⟨h1,h2,h3,h4⟩:=hS;obtain⟨t1,t2,t3⟩:=hT;simp only[ovN];rw[jf4,jf3]
  have head:vsum p (if 0<(if u.2<s.2.1 then u.2 else s.2.1)-(if u.1>s.1 then u.1 else s.1)/\0<=s.2.2 then [(s.2.2,(0:d),((if u.2<s.2.1 then u.2 else s.2.1)-(if u.1>s.1 then u.1 else s.1))*g)] else [])=(if s.2.2=p then ov (s.1,s.2.1) u else 0)*g/\
    usum p (if 0<(if u.2<s.2.1 then u.2 else s.2.1)-(if u.1>s.1 then u.1 else s.1)/\0<=s.2.2 then [(s.2.2,(0:d),((if u.2<s.2.1 then u.2 else s.2.1)-(if u.1>s.1 then u.1 else s.1))*g)] else [])=0:=by
   show vsum p (if 0<(if u.2<(s.1,s.2.1).2 then u.2 else (s.1,s.2.1).2)-(if u.1>(s.1,s.2.1).1 then u.1 else (s.1,s.2.1).1)/\0<=s.2.2 then [(s.2.2,(0:d),((if u.2<(s.1,s.2.1).2 then u.2 else (s.1,s.2.1).2)-(if u.1>(s.1,s.2.1).1 then u.1 else (s.1,s.2.1).1))*g)] else [])=_/\
    usum p (if 0<(if u.2<(s.1,s.2.1).2 then u.2 else (s.1,s.2.1).2)-(if u.1>(s.1,s.2.1).1 then u.1 else (s.1,s.2.1).1)/\0<=s.2.2 then [(s.2.2,(0:d),((if u.2<(s.1,s.2.1).2 then u.2 else (s.1,s.2.1).2)-(if u.1>(s.1,s.2.1).1 then u.1 else (s.1,s.2.1).1))*g)] else [])=0
   unfold ov;generalize (if u.2<(s.1,s.2.1).2 then u.2 else (s.1,s.2.1).2)-(if u.1>(s.1,s.2.1).1 then u.1 else (s.1,s.2.1).1)=m;by_cases hm:0<m
   .by_cases hw:0<=s.2.2
    .rw[if_pos ⟨hm,hw⟩,if_pos hm];simp only[vsum,usum];by_cases he:s.2.2=p
     .rw[if_pos he,if_pos he,if_pos he];exact⟨omg_,omg_⟩
     .rw[if_neg he,if_neg he,if_neg he];exact⟨smp_,smp_⟩
    .rw[if_neg (λh=>hw h.2),if_neg (show¬s.2.2=p by omega)];exact⟨by simp[vsum],rfl⟩
   .rw[if_neg (λh=>hm h.1),if_neg hm];refine⟨?_,rfl⟩;split<;>simp[vsum]
  rw[head.1,head.2];by_cases hc:s.2.1<=u.2
  .rw[if_pos hc];obtain⟨i1,i2⟩:=jrU (g:=g) hp n (S:=S) (T:=u::T) (a:=s.2.1) (lo:=lo) (by simp only[Ä]at hn ⊢;omega) h4 ⟨t1,t2,t3⟩;rw[i1,i2];refine⟨?_,rfl⟩;simp only[allS,rowS];rw[jtg (s:=(s.1,s.2.1)) t3 hc,Int.add_zero,Ý]
  .rw[if_neg hc];obtain⟨i1,i2⟩:=jrU (g:=g) hp n (S:=s::S) (T:=T) (a:=a) (lo:=u.2) (by simp only[Ä]at hn ⊢;omega) ⟨h1,h2,h3,h4⟩ t3;rw[i1,i2];refine⟨?_,rfl⟩;simp only[allS,rowS];rw[all_cons h4 omg_,<-Ý];congr 1;by_cases he:s.2.2=p
   .simp only[he,if_true];omega
   .simp only[he,if_false];omega
theorem jth{f:d->d}{p lo:d}{T:SL}(hT:InO lo T):∀{S:SgL}{a:d}{N:O},Ch f (a+N) a S->allS p T S=cntB (λx=>I (f x=p)&&hasB x T) a N
 |[],a,N,h=>by
  have h:a=a+N:=h;have:N=0:=omg_;subst this;rfl
 |s::r,a,N,h=>by
  obtain⟨h1,h2,h3,h4⟩:=h;have hle:=h4.le;obtain⟨k,hk⟩:∃k:O,s.2.1=a+k:=⟨(s.2.1-a).toNat,omg_⟩;obtain⟨m,rfl⟩:∃m:O,N=k+m:=⟨N-k,omg_⟩;rw[hk]at h4;have ih:=jth (f:=f) (p:=p) hT (S:=r) (a:=a+k) (N:=m) (by rw[show a+(k:d)+(m:d)=a+((k+m:O):d) by omega];exact h4);simp only[allS,ih,joE];congr 1;by_cases hs:s.2.2=p
  .rw[if_pos hs,h1,hk,jxZ hT];refine jeo λx x1 x2=>?_;rw[h3 x x1 omg_,hs];simp
  .rw[if_neg hs,jiP (λx x1 x2=>by rw[h3 x x1 omg_];simp[hs])]
theorem jzO{F G:H LdT}(hF:F.Pairwise λy z=>y.1<z.1)(hG:G.Pairwise λy z=>y.1<z.1)(hk:∀q,q∈F.map (λy=>y.1)↔q∈G.map (λy=>y.1))(hu:∀y∈F,usum y.1 F=usum y.1 G/\vsum y.1 F=vsum y.1 G):F=G:=by
 have nd:∀{L:H LdT},(L.Pairwise λy z=>y.1<z.1)->(L.map λy=>y.1).Nodup:=λh=>List.pairwise_map.2 (h.imp λh e=>omg_);have e1:=jmg (nd hF) (List.pairwise_map.2 hF) (λ_=>Iff.rfl);have e2:=jmg (nd hF) (List.pairwise_map.2 hG) hk;have ek:F.map (λy=>y.1)=G.map (λy=>y.1):=e1.symm.trans e2
 have own:∀{L:H LdT},(L.Pairwise λy z=>y.1<z.1)->L=(L.map λy=>y.1).map λk=>(k,usum k L,vsum k L):=λ{L} h=>by
  rw[Ú];refine((Î (g:=id) λy hy=>?_).trans (Þ _)).symm;have:=jtf h y hy;show (y.1,usum y.1 L,vsum y.1 L)=y;rw[this.1,this.2]
 rw[own hF,own hG,<-ek];refine Î λk hk'=>?_;obtain⟨y,hy,rfl⟩:=List.mem_map.1 hk';rw[(hu y hy).1,(hu y hy).2]
theorem jiQ{p:d}(hp:0<=p):∀S:SgL,usum p (segA S)=tot p S/\vsum p (segA S)=tot p S
 |[]=>⟨rfl,rfl⟩
 |s::S=>by
  have ih:=jiQ hp S;unfold segA at ih ⊢;rw[É];simp only[tot];by_cases h:0<=s.2.2
  .rw[if_pos h];simp only[usum,vsum,ih.1,ih.2];exact⟨trivial,trivial⟩
  .rw[if_neg h,if_neg (show¬s.2.2=p by omega)];simp only[ih.1,ih.2];omega
def ovs(S:SgL)(Wt:(d×d)×d->SL):WtL->H LdT
 |[]=>[]
 |y::r=>ovN (y.2-1) (S.length+(Wt y).length) S (Wt y)++ovs S Wt r
theorem jBi{np:O}(hnp:np<=900){S:SgL}(hl:S.length<=100000)(hS:∀s∈S,SgB np s){a b:d}{ws:WtL}(hwl:ws.length<=14)(hw:∀y∈ws,1<=y.2/\y.2<=8){Wt:(d×d)×d->SL}
  {zs:H j0z}{z:O}(hz:z<zs.length)(hW:∀y∈ws,j5j zs[z] [y.1] a b=Y (Wt y,0)/\(Wt y).length<=1000/\∀u∈Wt y,0<=u.1/\u.1<=8589934592/\0<=u.2/\u.2<=8589934592)
  {ps:H j0d}{cs:H CalT}{ss:H j0u}:∀(n i:O)(out:H LdT)(B:d),i+n=ws.length->jhK np out->0<=B->B+18144000*101000*(n:d)<=1000000000000000->(∀y∈out,LdB B y)->
  jds a b (z:d) ws (i:d) zs ps cs ss S out=Y (ads out (ovs S Wt (ws.drop i)))/\∀y∈ads out (ovs S Wt (ws.drop i)),LdB 1000000000000000 y
 |0,i,out,B,hi,ho,hB,_,hout=>by
  rw[E omg_];refine⟨?_,λy hy=>(hout y hy).mono omg_⟩;rw[jg3];simp only[j66,show D ws.length=(ws.length:d) from rfl];rw[j01 omg_,j7,j06];rfl
 |n+1,i,out,B,hi,ho,hB,hBn,hout=>by
  have hlt:i<ws.length:=omg_;have hgw:ws.getD i ((0,0),0)=ws[i]:=by simp[R,hlt]
  have hgz:zs.getD z (ByteArray.empty,0,[])=zs[z]:=by simp[R,hz]
  obtain⟨e1,w1,w2⟩:=hW _ (J hlt);have hBm:B+18144000*((S.length+(Wt ws[i]).length:O):d)<=B+18144000*101000:=omg_;obtain⟨f1,f2,f3⟩:=jEy hnp hl hS (show (Wt ws[i]).length<=100000 by omega) w2 (a:=a) (b:=b) (z:=(z:d)) hw hlt (zs:=zs) (ps:=ps) (cs:=cs) (ss:=ss) (S.length+(Wt ws[i]).length) 0 0 out B omg_ omg_ omg_ ho hB omg_ hout;rw[U,U]at f1 f2 f3;obtain⟨g1,g2⟩:=jBi hnp hl hS hwl hw hz hW (ps:=ps) (cs:=cs) (ss:=ss) (a:=a) (b:=b) n (i+1) _ (B+18144000*101000) omg_ f2 omg_ omg_ λy hy=>(f3 y hy).mono hBm;rw[<-jrT]at g1 g2;rw[A hlt];refine⟨?_,g2⟩;rw[jg3];simp only[j66,show D ws.length=(ws.length:d) from rfl];rw[j00 (show (i:d)<(ws.length:d) by omega),j0N (show (0:d)<=(z:d) by omega) (show (z:d)<(zs.length:d) by omega),j0N (show (0:d)<=(i:d) by omega) (show (i:d)<(ws.length:d) by omega)];simp only[j6,j8,hgw,hgz];rw[show j5j (zs[z].1,zs[z].2.1,zs[z].2.2) [(ws[i].1.1,ws[i].1.2)] a b=_ from e1];simp only[j4];rw[show j97 a b (z:d) ws (i:d) 0 0 zs ps cs ss S out (Wt ws[i])=_ from f1];simp only[j4,j03,ovs];rw[j05 (x:=(i:d)+1)];exact g1
theorem jzP{S:SgL}(hpos:∀s∈S,s.1<s.2.1):∀s∈S,0<tot s.2.2 S:=by
 induction S with
 |nil=>intro s hs;simp at hs
 |cons x r ih=>
  intro s hs;have hx:=hpos x smp_;have hr:=λs hs=>hpos s (List.mem_cons_of_mem _ hs)
  have nn:∀p,∀{S:SgL},(∀s∈S,s.1<s.2.1)->0<=tot p S:=λp {S}=>by
   induction S with
   |nil=>intro _;exact Ç _
   |cons y q ih2=>intro h;have h1:=h y smp_;have h2:=ih2 λs hs=>h s (by simp[hs]);simp only[tot];split<;>omega
  simp only[tot];rcases List.mem_cons.1 hs with rfl|hs
  .rw[if_pos rfl];have:=nn s.2.2 hr;omega
  .have:=ih hr s hs;split<;>omega
theorem jzQ{q:d}:∀{S:SgL},q∈(segA S).map (λy=>y.1)->∃s∈S,s.2.2=q/\0<=q:=by
 intro S h;obtain⟨y,hy,rfl⟩:=List.mem_map.1 h;obtain⟨s,hs,e⟩:=List.mem_filterMap.1 hy;split at e
 .simp only[j5]at e;subst e;exact⟨s,hs,rfl,by assumption⟩
 .simp at e
theorem jrV{q g:d}:∀{n:O}{S:SgL}{T:SL},q∈(ovN g n S T).map (λy=>y.1)->∃s∈S,s.2.2=q/\0<=q
 |0,S,T,h=>by simp[ovN]at h
 |n+1,[],T,h=>by simp[ovN]at h
 |n+1,s::S,[],h=>by simp[ovN]at h
 |n+1,s::S,u::T,h=>by
  simp only[ovN,À,Á]at h;rcases h with h|h
  .obtain⟨y,hy,rfl⟩:=List.mem_map.1 h
   have one:∀(C:Prop)[Decidable C](x y:LdT),y∈(if C then [x] else [])->C/\y=x:=by
    intro C _ x y h;by_cases hC:C
    .rw[if_pos hC]at h;exact⟨hC,List.mem_singleton.1 h⟩
    .rw[if_neg hC]at h;simp at h
   obtain⟨hC,rfl⟩:=one _ _ _ hy;exact⟨s,smp_,rfl,hC.2⟩
  .split at h
   .obtain⟨x,hx,e⟩:=jrV h;exact⟨x,by simp[hx],e⟩
   .exact jrV h
theorem jy2{q:d}{S:SgL}{Wt:(d×d)×d->SL}:∀{ws:WtL},q∈(ovs S Wt ws).map (λy=>y.1)->∃s∈S,s.2.2=q/\0<=q
 |[],h=>by simp[ovs]at h
 |y::r,h=>by
  simp only[ovs,À,Á]at h;exact h.elim jrV jy2
theorem jti{f:d->d}{a:d}{N:O}{S:SgL}(hS:Ch f (a+N) a S){Wt:(d×d)×d->SL}{o:d}{tl:TrL}{p:d}(hp:0<=p):∀{ws:WtL},(∀y∈ws,(∃lo,InO lo (Wt y))/\∀x,a<=x->x<a+N->hasB x (Wt y)=jb6 o tl [y.1] x)->
  usum p (ovs S Wt ws)=0/\vsum p (ovs S Wt ws)=wAdd f o tl a N p ws
 |[],_=>⟨rfl,rfl⟩
 |y::r,h=>by
  obtain⟨⟨lo,h1⟩,h2⟩:=h y smp_;obtain⟨i1,i2⟩:=jti hS (o:=o) (tl:=tl) hp (ws:=r) λz hz=>h z (by simp[hz]);obtain⟨j1,j2⟩:=jrU (p:=p) (g:=y.2-1) hp (S.length+(Wt y).length) (Nat.le_refl _) hS h1;simp only[ovs,wAdd];rw[jf3,jf4,i1,i2,j1,j2,jth h1 hS];refine⟨rfl,?_⟩;rw[Int.mul_comm,jeo λx x1 x2=>by rw[h2 x x1 x2]]
theorem jy3{f:d->d}{a:d}{N np:O}{S:SgL}(hS:Ch f (a+N) a S)(hpos:∀s∈S,s.1<s.2.1)(hlt:∀s∈S,s.2.2<(np:d)){Wt:(d×d)×d->SL}{o:d}{tl:TrL}{ws:WtL}
  (h:∀y∈ws,(∃lo,InO lo (Wt y))/\∀x,a<=x->x<a+N->hasB x (Wt y)=jb6 o tl [y.1] x) :
  ads [] (segA S++ovs S Wt ws)=jjD np (λp=>tot p S) (λp=>tot p S+wAdd f o tl a N p ws):=by
 have hkey:∀q,q∈(ads [] (segA S++ovs S Wt ws)).map (λy=>y.1)↔0<=q/\q<(np:d)/\0<tot q S:=λq=>by
  rw[jxX,Ì,À,Á];constructor
  .intro hq;obtain⟨s,hs,rfl,h0⟩:∃s∈S,s.2.2=q/\0<=q:=hq.elim jzQ jy2;exact⟨h0,hlt s hs,jzP hpos s hs⟩
  .rintro⟨h0,h1,h2⟩
   refine .inl (Ø λhn=>?_);have:=(jrR hn).1;rw[(jiQ h0 S).1]at this;omega
 refine jzO (jBb _ List.Pairwise.nil) (jzD np _ _) (λq=>?_) λy hy=>?_
 .rw[hkey,jmf,Ú];show _↔q∈(jk2 np λp=>tot p S).map id;rw[Þ,jgH]
 .obtain⟨k0,k1,k2⟩:=(hkey y.1).1 (List.mem_map.2 ⟨y,hy,rfl⟩);have hs:=jte y.1 (segA S++ovs S Wt ws) [];have hc:=jnp (u:=λp=>tot p S) (v:=λp=>tot p S+wAdd f o tl a N p ws) y.1 np;rw[if_pos ⟨k0,k1,k2⟩,if_pos ⟨k0,k1,k2⟩]at hc;rw[hs.1,hs.2,hc.1,hc.2,Ì,jf3,jf4,(jiQ k0 S).1,(jiQ k0 S).2];obtain⟨o1,o2⟩:=jti hS (o:=o) (tl:=tl) k0 h;rw[o1,o2];exact⟨omg_,rfl⟩
theorem jy4{zs:H j0z}{ps:H j0d}{cs:H CalT}(hs:SOk2 zs ps cs){ss:H j0u}(hc:j8W (zs,ps,cs,ss)){i:O}(hi:i<ss.length)(hll:ss[i].2.1.length<=3)(hel:ss[i].2.2.length<=6){a:d}{N:O}(ha:0<=a)(hb:a+N<=8589934592)
  (hN0:0<N)(hN:N<=2592000){z:O}(hz:z<zs.length){ws:WtL}(hw:WtOk ws) :
  ∃l,je8 (zs,ps,cs,ss) (i:d) a (a+N) (z:d) ws=Y (l,0)/\jg4 (zs,ps,cs,ss) (i:d) a (a+N) (z:d) ws=Y (l,0)/\l.length<=1000/\∀y∈l,LdB 1000000000000000 y:=by
 obtain⟨S,eS,hS,lS⟩:=jzC hs hc hi hll hel ha (show a<a+N by omega) hb omg_;have e14:=jxS hs hc hi ha (show a<=a+N by omega) hb omg_ hS lS;simp only[je8,jg4];rw[show j5O (zs,ps,cs,ss) (i:d) a (a+N)=_ from eS,show jb3 (zs,ps,cs,ss) (i:d) a (a+N)=_ from e14];simp only[j4,bne_self_eq_false,j7,show D zs.length=(zs.length:d) from rfl];rw[j01 (show¬(z:d)<0 by omega),j01 (show¬(z:d)>=(zs.length:d) by omega)];have hwl:=hw.l;obtain⟨c,c1,c2,c3⟩:=jrS (ws:=ws) omg_;obtain rfl:c=0:=by have:=juH hw;rw[c1]at this;simpa using this
 simp only[j7,c1,c2,j4];have hk:=hc.sc _ (J hi);have hz1:=hs.so.z1;have hp1:=hs.so.p1
 have hmem:∀x∈S,x.2.2<(ps.length:d):=λx hx=>by
  obtain⟨h1,h2,h3,h4⟩:=hS.ch.mem x hx;have hpos:=hS.pos x hx;rw[<-h4 x.1 (Ç _) hpos];exact jCC hs hk omg_ omg_
 have hzk:=hs.so.ok zs[z] (J hz);have hgd:zs.getD z (ByteArray.empty,0,[])=zs[z]:=by simp[R,hz]
 have hO:=jDr hzk.ztab;have hll2:(tb zs[z]).2.length<=20:=jwV hzk;have htl:=λp=>(hS.ch.tot_le (p:=p))
 obtain⟨m,e1,hm⟩:=jrN (np:=ps.length) hb omg_ (λx hx=>hS.pos x hx) (a1:=a) (a2:=a+N) (ws:=ws) (o:=(tb zs[z]).1) (tl:=(tb zs[z]).2) hmem S.length 0 [] a omg_ ha hS.ch
  ⟨⟨smp_,smp_⟩,List.nodup_nil,λp _ _=>by simp[j1W,tot],λp _ _ h=>by simp[j1W]at h⟩ (λp _=>ha)
 obtain⟨m2,e2,hm2⟩:=jEo ha hb hN hS lS hzk.ztab.2 hll2 (ws:=ws) (λy hy=>jxH (Ç 0) hw.w y.1 (List.mem_map.2 ⟨y,hy,rfl⟩)) hw.g omg_ ws.length 0 m (λp=>tot p S) omg_ hm (λp=>by have:=htl p;omega);rw[U]at hm2;have hL:=jqh hm2 omg_ omg_;have hone:∀y∈ws,WOk 0 [y.1]:=λy hy=>jxH (Ç 0) hw.w y.1 (List.mem_map.2 ⟨y,hy,rfl⟩)
 have hT:∀y∈ws,∃W,j5j zs[z] [y.1] a (a+N)=Y (W,0)/\W.length<=420/\(∀u∈W,a<=u.1/\u.2<=a+N)/\StS (a-1) W/\∀x,a<=x->x<a+N->hasB x W=jb6 zs[z].2.1 (tb zs[z]).2 [y.1] x:=λy hy=>by
  obtain⟨W,f1,f2,f3,f4,f5⟩:=r5eq hzk (hone y hy) smp_ ha (show a<=a+N by omega) hb omg_;obtain⟨W',g1,_,_,_,g4⟩:=jc5 hzk.ztab.2 hll2 (hone y hy) smp_ (M:=60) omg_ ha (show a<=a+N by omega) hb omg_;have e:j1F (tb zs[z]) [y.1] a (a+N)=Y W':=g1;rw[f1]at e;cases e;refine⟨W,f2,f5,f4,f3,λx x1 x2=>?_⟩;obtain⟨k,hk,k1,k2⟩:=j7b hzk.ztab.2 (t:=x) omg_ omg_;rw[joF hzk.ztab.2 hk k1 k2,Bool.eq_iff_iff,jhJ];exact g4 k hk x x1 x2 k1 k2
 let Wt:(d×d)×d->SL:=λy=>match j5j zs[z] [y.1] a (a+N) with
  |some (W,_)=>W
  |none=>[]
 have hWt:∀y∈ws,j5j zs[z] [y.1] a (a+N)=Y (Wt y,0)/\(Wt y).length<=420/\(∀u∈Wt y,a<=u.1/\u.2<=a+N)/\StS (a-1) (Wt y)/\∀x,a<=x->x<a+N->hasB x (Wt y)=jb6 zs[z].2.1 (tb zs[z]).2 [y.1] x:=λy hy=>by
  obtain⟨W,f1,f2⟩:=hT y hy;have:Wt y=W:=by show (match j5j zs[z] [y.1] a (a+N) with|some (W,_)=>W|none=>[])=W;rw[f1]
  rw[this];exact⟨f1,f2⟩
 have hSg:∀s∈S,SgB ps.length s:=λs hs'=>by
  obtain⟨h1,h2,h3,h4⟩:=hS.ch.mem s hs';have:=hS.pos s hs';exact⟨hmem s hs',omg_,omg_,omg_,omg_⟩
 have hO0:jhK ps.length []:=⟨List.Pairwise.nil,smp_⟩;obtain⟨p1,p2,p3⟩:=jxY (np:=ps.length) omg_ omg_ hSg (a:=a) (b:=a+N) (z:=(z:d)) (ws:=ws) (zs:=zs) (ps:=ps) (cs:=cs) (ss:=ss) S.length 0 [] 0 omg_ hO0 omg_ omg_ smp_
 have p4:=jBi (np:=ps.length) omg_ omg_ hSg (a:=a) (b:=a+N) hw.l hw.g (Wt:=Wt) hz (λy hy=>by
  obtain⟨q1,q2,q3,q4,_⟩:=hWt y hy;refine⟨q1,omg_,λu hu=>?_⟩;have:=q3 u hu;have:=jxF q4 u hu;exact⟨omg_,omg_,omg_,omg_⟩) (ps:=ps) (cs:=cs) (ss:=ss) ws.length 0 _ (0+18144000*(S.length:d)) omg_ p2 omg_ omg_ p3
 rw[U]at p1 p4
 rw[U,<-jrT,jy3 hS.ch (λx hx=>hS.pos x hx) hmem (o:=zs[z].2.1) (tl:=(tb zs[z]).2) (λy hy=>by
  obtain⟨q1,q2,q3,q4,q5⟩:=hWt y hy;exact⟨⟨_,q4.ino⟩,q5⟩)]at p4
 obtain⟨p4,p5⟩:=p4;refine⟨jjD ps.length (λp=>tot p S) (λp=>tot p S+wAdd (whoS zs cs ss[i]) zs[z].2.1 (tb zs[z]).2 a N p ws),?_,?_,?_,p5⟩
 .simp only[bne_self_eq_false,j7];rw[j0N (show (0:d)<=(z:d) by omega) (show (z:d)<(zs.length:d) by omega)];simp only[j6,j8,hgd];rw[show jhh (zs[z].1,zs[z].2.1,zs[z].2.2)=_ from hO];simp only[j4];rw[show jbH a (a+N) ws (D S.length) 0 zs[z].2.1 (tb zs[z]).2 S []=_ from e1];simp only[j4];rw[show jbJ a (a+N) ws (D ws.length) 0 (tb zs[z]).1 (tb zs[z]).2 S m=_ from e2];simp only[j4,hL]
 .simp only[bne_self_eq_false,j7];rw[show jdr a (a+N) (z:d) ws 0 zs ps cs ss S []=_ from p1];simp only[j4];rw[show jds a (a+N) (z:d) ws 0 zs ps cs ss S (ads [] (segA S))=_ from p4];rfl
 .have h1:=jxE ps.length (λp=>tot p S) (λp=>tot p S+wAdd (whoS zs cs ss[i]) zs[z].2.1 (tb zs[z]).2 a N p ws);have h2:ps.length<=1000:=omg_;exact Nat.le_trans h1 h2
end Go.Proofs.Pw
