/- Edits are added; who is on call with edits. -/
import Derived.Test.YtlnljpfkgigljaaGreatPOPG
import Derived.Test.YtlnljpfkgigljaaGreatPOPD
import Derived.Test.YtlnljpfkgigljaaGreatPOPC
import Derived.Test.YtlnljpfkgigljaaGreatPOLS
import Derived.Test.YtlnljpfkgigljaaGreatPOPE
import Derived.Test.YtlnljpfkgigljaaGreatPOFns
import Derived.Test.YtlnljpfkgigljaaGreatPOPA
open _root_ renaming Int->d,List->o,Nat->O,ByteArray->Á,Bool->Ö
open Classical renaming byContradiction->A
open List renaming nil_append->B,drop_eq_getElem_cons->D,length_nil->H,drop_of_length_le->I,getElem_mem->J,getD->U,length_cons->W,length_singleton->X,take_add_one->Y,length_append->À,mem_append_right->Â,mem_append_left->Ã,getElem_of_mem->Ä,drop_zero->Å,mem_cons->Ç,append_assoc->È,drop_set_of_lt->Ë,take_set_of_le->Ì,filter_eq_self->Í,mem_singleton->Î,mem_append->Ð,drop_drop->Ñ,drop->Ø
open Int renaming ofNat->F,le_of_lt->Õ
open Option renaming some->G
open ByteArray renaming empty->Z
open Nat renaming le_refl->É
open List.Perm renaming refl->Ê,swap->Ù
open Bool renaming true->Ï,not_false->Ò,false->Ó,not_true->Ô
open Go Go.Lft
namespace Go.Proofs.Pw
theorem jqg(t:d):∀(es:o j1V)(p:d)(x:j1V),jbX t p (es++[x])=jiO t (jbX t p es) x
 |[],_,_=>rfl
 |y::r,p,x=>jqg t r (jiO t p y) x
section
variable{zs:o j0z}{ps:o j0d}{cs:o CalT}(hs:SOk2 zs ps cs)
include hs
end
theorem jkx{α:Type}{l:o α}{i:O}(h:i<l.length):l.set i l[i]=l:=List.set_getElem_self h
theorem clZ{xs:o j0z}(h:xs.length<=1000):j2b xs=G xs:=by
 simp only[j2b,B,H];rw[j00 (by simp[j02];omega),j6]
theorem clPs{xs:o j0d}(h:xs.length<=1000):j1E xs=G xs:=by
 simp only[j1E,B,H];rw[j00 (by simp[j02];omega),j6]
theorem clC{xs:o CalT}(h:xs.length<=1000):j1c xs=G xs:=by
 simp only[j1c,B,H];rw[j00 (by simp[j02];omega),j6]
theorem clS{xs:o j0u}(h:xs.length<=1000):j1d xs=G xs:=by
 simp only[j1d,B,H];rw[j00 (by simp[j02];omega),j6]
theorem clR{xs:o Rule}(h:xs.length<=1000):j1e xs=G xs:=by
 simp only[j1e,B,H];rw[j00 (by simp[j02];omega),j6]
theorem clW{xs:WL}(h:xs.length<=1000):j14 xs=G xs:=by
 simp only[j14,B,H];rw[j00 (by simp[j02];omega),j6]
theorem clI{xs:o d}(h:xs.length<=1000):j24 xs=G xs:=by
 simp only[j24,B,H];rw[j00 (by simp[j02];omega),j6]
theorem clL{xs:o j0c}(h:xs.length<=1000):j1g xs=G xs:=by
 simp only[j1g,B,H];rw[j00 (by simp[j02];omega),j6]
theorem clE{xs:o j1V}(h:xs.length<=1000):j1w xs=G xs:=by
 simp only[j1w,B,H];rw[j00 (by simp[j02];omega),j6]
section
variable{zs:o j0z}{ps:o j0d}{cs:o CalT}{ss:o j0u}{nm:Á}{ls:o j0c}{es:o j1V}
theorem jAN(hl:zs.length<=1000)(hr:∀z∈zs,z.2.2.length<=1000):∀n i:O,i+n=zs.length->jdf (zs.length:d) (i:d) zs ps cs ss=G (zs,ps,cs,ss)
 |0,i,hi=>by
  rw[jfI];simp only[j5Q];rw[j01 omg_,j7,j06]
 |n+1,i,hi=>by
  have hlt:i<zs.length:=omg_;have hgd:zs.getD i (Z,0,[])=zs[i]:=by simp[U,hlt]
  rw[jfI];simp only[j5Q];rw[j00 omg_,j0L,j05 (x:=(i:d)+1)];simp only[j6,j8,hgd,clR (hr _ (J hlt)),j4,jkx hlt,j03];exact jAN hl hr n (i+1) omg_
theorem jAO(hl:ps.length<=1000)(hr:∀p∈ps,p.2.2.1.length<=1000):∀n i:O,i+n=ps.length->jdg (ps.length:d) (i:d) zs ps cs ss=G (zs,ps,cs,ss)
 |0,i,hi=>by
  rw[jfJ];simp only[j5R];rw[j01 omg_,j7,j06]
 |n+1,i,hi=>by
  have hlt:i<ps.length:=omg_;have hgd:ps.getD i (Z,0,[],0,0,Ó)=ps[i]:=by simp[U,hlt]
  rw[jfJ];simp only[j5R];rw[j00 omg_,j0L,j05 (x:=(i:d)+1)];simp only[j6,j8,hgd,clW (hr _ (J hlt)),j4,jkx hlt,j03];exact jAO hl hr n (i+1) omg_
theorem jAP(hl:cs.length<=1000)(hr:∀c∈cs,c.2.2.length<=1000):∀n i:O,i+n=cs.length->jdh (cs.length:d) (i:d) zs ps cs ss=G (zs,ps,cs,ss)
 |0,i,hi=>by
  rw[jfK];simp only[j5S];rw[j01 omg_,j7,j06]
 |n+1,i,hi=>by
  have hlt:i<cs.length:=omg_;have hgd:cs.getD i (Z,0,[])=cs[i]:=by simp[U,hlt]
  rw[jfK];simp only[j5S];rw[j00 omg_,j0L,j05 (x:=(i:d)+1)];simp only[j6,j8,hgd,clI (hr _ (J hlt)),j4,jkx hlt,j03];exact jAP hl hr n (i+1) omg_
theorem jAQ{a b:d}(hl:ls.length<=1000)(hr:∀x∈ls,x.2.2.2.2.2.1.length<=1000/\x.2.2.2.2.2.2.1.length<=1000):∀n i:O,i+n=ls.length->jaQ a b (ls.length:d) (i:d) nm zs ps cs ls es=G (a,b,nm,zs,ps,cs,ls,es)
 |0,i,hi=>by
  rw[jfL];simp only[j5T];rw[j01 omg_,j7,j06]
 |n+1,i,hi=>by
  have hlt:i<ls.length:=omg_;have hgd:ls.getD i (Z,0,(0,0),0,0,[],[],0,0)=ls[i]:=by simp[U,hlt]
  obtain⟨h1,h2⟩:=hr _ (J hlt);rw[jfL];simp only[j5T];rw[j00 omg_,j0L,j05 (x:=(i:d)+1)];simp only[j6,j8,hgd,clI h1,clW h2,j4,jkx hlt,j0N (show (0:d)<=(i:d) by omega) (show (i:d)<(ls.length:d) by omega),j03];exact jAQ hl hr n (i+1) omg_
structure Sht(zs:o j0z)(ps:o j0d)(cs:o CalT)(ls:o j0c)(es:o j1V):Prop where
 z:zs.length<=1000/\∀z∈zs,z.2.2.length<=1000
 p:ps.length<=1000/\∀p∈ps,p.2.2.1.length<=1000
 c:cs.length<=1000/\∀c∈cs,c.2.2.length<=1000
 l:ls.length<=1000/\∀x∈ls,x.2.2.2.2.2.1.length<=1000/\x.2.2.2.2.2.2.1.length<=1000
 e:es.length<=1000
theorem jzt(h:Sht zs ps cs ls es):jfM (zs,ps,cs,[(nm,ls,es)])=G (zs,ps,cs,nm,ls,es):=by
 simp only[jfM,clZ h.z.1,clPs h.p.1,clC h.c.1,clS (xs:=[(nm,ls,es)]) smp_,j4];have l0:=jAN (ss:=[(nm,ls,es)]) (ps:=ps) (cs:=cs) h.z.1 h.z.2 zs.length 0 omg_;have l2:=jAO (ss:=[(nm,ls,es)]) (zs:=zs) (cs:=cs) h.p.1 h.p.2 ps.length 0 omg_;have l4:=jAP (ss:=[(nm,ls,es)]) (zs:=zs) (ps:=ps) h.c.1 h.c.2 cs.length 0 omg_;have l8:=jAQ (a:=1) (b:=0) (nm:=nm) (es:=es) (zs:=zs) (ps:=ps) (cs:=cs) h.l.1 h.l.2 ls.length 0 omg_;rw[show jdf (F zs.length) 0 zs ps cs [(nm,ls,es)]=_ from l0];simp only[j4];rw[show jdg (F ps.length) 0 zs ps cs [(nm,ls,es)]=_ from l2];simp only[j4];rw[show jdh (F cs.length) 0 zs ps cs [(nm,ls,es)]=_ from l4];simp only[j4,X,List.getD_cons_zero];rw[show Nat.beq 1 1=Ï from rfl,j6];simp only[j4,clL h.l.1,clE h.e];rw[show jaQ 1 0 (F ls.length) 0 nm zs ps cs ls es=_ from l8];simp only[j4];rw[j05 (x:=(0:d)+1),j01 omg_,j7]
theorem jAR(hc:j8W (zs,ps,cs,[(nm,ls,es)])):Sht zs ps cs ls es:=by
 have hk:=hc.sc (nm,ls,es) smp_
 refine⟨⟨by have:=hc.zl;dsimp only at this;omega,λz hz=>(hc.zc z hz).len⟩,⟨by have:=hc.pl;dsimp only at this;omega,λp hp=>by have:=(hc.pc p hp).wl;omega⟩,
  ⟨by have:=hc.cl;dsimp only at this;omega,λc hcc=>by have:=(hc.cc c hcc).len;omega⟩,⟨by have:=hk.ll;dsimp only at this;omega,λx hx=>?_⟩,by have:=hk.el;dsimp only at this;omega⟩
 have h:=hk.ly x hx;have:=h.m1;have:=h.wl;omega
theorem jzu(hc:j8W (zs,ps,cs,[(nm,ls,es)])):jib (zs,ps,cs,[(nm,ls,es)]) 0=G (0,zs,ps,cs,nm,ls,es):=by
 simp only[jib,show j2N (zs,ps,cs,[(nm,ls,es)])=G 0 from jf0 hc,j4,bne_self_eq_false,j7,j8P,X];rw[j00 (show (0:d)>=0 by omega),j00 (show (0:d)<F 1 by decide)];simp only[j6,Ô,j7,jzt (jAR hc),j4]
theorem jxr(hc:j8W (zs,ps,cs,[(nm,ls,es)])){x:j1V}(hc':j8W (zs,ps,cs,[(nm,ls,es++[x])])) :
  je9 (zs,ps,cs,[(nm,ls,es)]) 0 x=G ((zs,ps,cs,[(nm,ls,es++[x])]),0):=by
 have hel:=(jAR hc).e;simp only[je9,jzu hc,j4,bne_self_eq_false,j7,X];rw[j0N (show (0:d)<=0 by omega) (show (0:d)<((1:O):d) by omega),j6,j00 (by simp[j02];omega),j6];simp only[show j2N (zs,ps,cs,[(nm,ls,es++[(x.1,x.2.1,x.2.2.1,x.2.2.2.1,x.2.2.2.2)])])=G 0 from jf0 hc',j4,bne_self_eq_false,j7]
end
theorem jxs{es:o j1V}{t:d}{x:j1V}{Pf:O->d}(h:x.1≠0\/t<x.2.2.2.1\/x.2.2.2.2<=t):j6W (es++[x]) t Pf=j6W es t Pf:=by
 funext i
 have e:(x.1==0&&(x.2.1==Pf i&&(decide (x.2.2.2.1<=t)&&decide (t<x.2.2.2.2))))=false:=by
  rcases h with h|h|h
  .rw[j1p h];rfl
  .rw[j01 (show¬x.2.2.2.1<=t by omega)];simp
  .rw[j01 (show¬t<x.2.2.2.2 by omega)];simp
 simp only[j6W,jbo,List.any_append,List.any_cons,List.any_nil,Bool.or_false,e]
theorem jxt{es es':o j1V}{t:d}{Pf:O->d}{n:O}(h:j6W es t Pf=j6W es' t Pf):topP es t Pf n=topP es' t Pf n:=by
 unfold topP;rw[h]
theorem jzv{zs:o j0z}{cs:o CalT}{nm:Á}{ls:o j0c}{es:o j1V}{t:d}{x:j1V}(h:x.1≠0\/t<x.2.2.2.1\/x.2.2.2.2<=t) :
  whoS zs cs (nm,ls,es++[x]) t=jiO t (whoS zs cs (nm,ls,es) t) x:=by
 show jbX t (topP (es++[x]) t (pfX zs cs ls t) ls.length) (es++[x])=jiO t (jbX t (topP es t (pfX zs cs ls t) ls.length) es) x;rw[jxt (jxs h),jqg]
section
variable{zs:o j0z}{ps:o j0d}{cs:o CalT}(hs:SOk2 zs ps cs)
include hs
theorem jEh{nm:Á}{ls:o j0c}{es es':o j1V}(hc:j8W (zs,ps,cs,[(nm,ls,es)]))(he:∀x∈es',ECk ps.length x)(hl:es'.length<=48):j8W (zs,ps,cs,[(nm,ls,es')]):=by
 have hk:=hc.sc (nm,ls,es) smp_
 exact jwZ hs smp_ (by simpa using hc.sn) (λy hy=>by
  simp only[Î]at hy;subst hy;exact⟨hk.nm,hk.ly,hk.ll,he,hl⟩)
theorem jCx{nm:Á}{ls:o j0c}{es:o j1V}(hc:j8W (zs,ps,cs,[(nm,ls,es)])){x:j1V}(hx:ECk ps.length x)(hl:es.length<=20):j8W (zs,ps,cs,[(nm,ls,es++[x])]):=
 jEh hs hc (λy hy=>by
  rcases List.mem_append.1 hy with h|h
  .exact(hc.sc (nm,ls,es) smp_).ed y h
  .simp only[Î]at h;subst h;exact hx) sqo_
end
theorem jCy{L:o d}{a:d}(h:DOk L a):∃zs ps cs nm ls es a',j6N L a 1=G ((zs,ps,cs,[(nm,ls,es)]),L,a')/\SOk2 zs ps cs/\j8W (zs,ps,cs,[(nm,ls,es)])/\ls.length<=3/\es.length<=3/\DOk L a':=by
 obtain⟨zs,ps,cs,ss,a1,e1,hs,g0,g1,g2,g3,d1⟩:=juw (n:=1) h omg_ omg_
 obtain⟨s,rfl⟩:∃s,ss=[s]:=by
  match ss,g0,g1 with
  |[s],_,_=>exact⟨s,rfl⟩
  |s::s'::r,_,g1=>simp at g1;omega
 have hsg:=g3 s smp_;have hc:=jwZ hs (ss:=[s]) smp_ (by rw[g2];exact jCk.take _) (λy h=>(g3 y h).ck);exact⟨zs,ps,cs,s.1,s.2.1,s.2.2,a1,e1,hs,hc,hsg.ll,hsg.el,d1⟩
section
variable{zs:o j0z}{ps:o j0d}{cs:o CalT}(hs:SOk2 zs ps cs)
include hs
end
section
variable{zs:o j0z}{ps:o j0d}{cs:o CalT}(hs:SOk2 zs ps cs)
include hs
end
section
variable{zs:o j0z}{ps:o j0d}{cs:o CalT}(hs:SOk2 zs ps cs)
include hs
end
theorem jzw{l:o d}(hl:l.length<=1000000):∃s,j6n l=G s/\s.Perm l/\s.Pairwise (· <= ·):=by
 grind[jz1,j6n]
def inB(f t x:d):Bool:= !(cond (decide (x<=f)) Ï (decide (x>=t)))
theorem jxu{l:o d}(hl:l.length<=1000000){f t:d}:∀(n i:O),i+n=l.length->(∀s∈l.take i,inB f t s=Ï)->
  (∃j:O,j1t f t (l.length:d) (i:d) l=G (.inl ((j:d),l))/\j<l.length/\(∀s∈l.take j,inB f t s=Ï)/\inB f t (l.getD j 0)=Ó)\/
  (j1t f t (l.length:d) (i:d) l=G (.inr l)/\∀s∈l,inB f t s=Ï)
 |0,i,hi,h=>by
  grind[j53,j0X,j06]
 |n+1,i,hi,h=>by
  rw[j53];simp only[j0X,jaM];rw[j00 (show (i:d)<(l.length:d) by omega),j0L,j05 (x:=(i:d)+1)];simp only[j6,j8,j4];have hlt:i<l.length:=omg_;cases hc:(cond (decide (l.getD i (0:d)<=f)) Ï (decide (l.getD i (0:d)>=t))) with
  |true=>grind[j06,inB]
  |false=>simp only[j7,j03];refine jxu hl n (i+1) omg_ λs hs=>?_;grind[Y,inB]
theorem jrF{l:o d}(hl:l.length<=1000000){f t:d}:∀(n i j:O)(b:o d),j+n=l.length->i<=j->b.length=l.length->b.drop j=l.drop j->b.take i=(l.take j).filter (inB f t)->
  ∃(k:O)(b':o d),j2C f t (i:d) (j:d) b=G ((k:d),b')/\b'.length=l.length/\k<=l.length/\b'.take k=l.filter (inB f t)
 |0,i,j,b,hj,hij,hb,hd,ht=>by
  grind[j5L,j16,S0]
 |n+1,i,j,b,hj,hij,hb,hd,ht=>by
  have hlt:j<l.length:=omg_
  have hbj:b.getD j (0:d)=l[j]:=by
   have:b[j]? = l[j]? := by
    have h:=congrArg (λx=>x[0]?) hd;simpa[List.getElem?_drop]using h
   simp_all
  have hd':b.drop (j+1)=l.drop (j+1):=by have:=congrArg (Ø 1) hd;grind[Ñ]
  have htk:l.take (j+1)=l.take j++[l[j]]:=by simp_all
  rw[j5L];simp(disch:=omega)only[j16,jaM,hbj,S0];cases hc:(cond (decide (l[j]<=f)) Ï (decide (l[j]>=t))) with
  |true=>simp only[Ô,j7,j03];refine jrF hl n i (j+1) b omg_ omg_ hb hd' ?_;grind[inB]
  |false=>simp only[Ò,j6,j03];refine jrF hl n (i+1) (j+1) _ omg_ omg_ (by simpa using hb) ?_ ?_;all_goals grind[Ë,Y,Ì,inB]
theorem juC{l:o d}(hl:l.length<=1000000){f t:d}:∃n m,j3u l f t=G (n,m)/\m.take n.toNat=l.filter (inB f t):=by
 simp only[j3u,j4I,show F (List.length l)=(l.length:d) from rfl];rcases jxu (f:=f) (t:=t) hl l.length 0 omg_ smp_ with⟨j,e,hj,h1,h2⟩|⟨e,h⟩
 .rw[show ((0:O):d)=0 from rfl]at e;rw[e];simp only[j4,jkm];rw[j1p omg_,j05 (x:=(j:d)+1)];have hgd:l.getD j (0:d)=l[j]:=by simp[hj]
  rw[hgd]at h2
  obtain⟨k,b,e2,hb,hk,ht⟩:=jrF (f:=f) (t:=t) hl (l.length-(j+1)) j (j+1) l omg_ omg_ rfl rfl (by
   grind[Y,Í])
  grind
 .rw[show ((0:O):d)=0 from rfl]at e;rw[e];simp only[j4,j50,beq_self_eq_true,j6];grind[Í,S0]
def ddI:d->o d->o d
 |_,[]=>[]
 |p,x::r=>if x=p then ddI p r else x::ddI x r
theorem jrG:∀(l:o d)(p:d),∀x,x∈p::ddI p l↔x∈p::l
 |[],_,_=>Iff.rfl
 |y::r,p,x=>by
  unfold ddI;split
  .rename_i h;subst h;rw[jrG r y x];simp
  .have:=jrG r y x;rw[Ç,this,Ç,Ç,Ç]
theorem jrH:∀(l:o d)(p:d),(p::l).Pairwise (· <= ·)->(p::ddI p l).Pairwise (· < ·)
 |[],_,_=>by simp[ddI]
 |y::r,p,h=>by
  have h1:=List.pairwise_cons.1 h;unfold ddI;split
  .rename_i h;subst h;exact jrH r y h1.2
  .have ih:=jrH r y h1.2;refine List.pairwise_cons.2 ⟨λz hz=>?_,ih⟩;have hy:=h1.1 y smp_;rcases List.mem_cons.1 hz with rfl|hz
   .omega
   .have:=(List.pairwise_cons.1 ih).1 z hz;omega
theorem jxv{l:o d}(hl:l.length<=1000000){k0:O}:∀(n s k:O)(b:o d),k0+s+n=l.length->1<=s->k<=k0+s-1->b.length=l.length->b.drop k=l.drop k->
  ∃(m:O)(b':o d),j3v (k:d) (k0:d) (s:d) b=G ((m:d),b')/\b'.length=l.length/\m<=l.length/\b'.take m=b.take k++ddI (l.getD (k0+s-1) 0) (l.drop (k0+s))
 |0,s,k,b,hn,hs,hk,hb,hd=>by
  rw[j74];simp only[j1u,j8,show F (b.length-k0)=((b.length-k0:O):d) from rfl];rw[j01 omg_,j7,j06,I omg_];exact⟨k,b,rfl,hb,omg_,by simp[ddI]⟩
 |n+1,s,k,b,hn,hs,hk,hb,hd=>by
  have hlt:k0+s<l.length:=omg_
  have bget:∀j,k<=j->b[j]? = l[j]? := λj hj=>by
   have h:=congrArg (λx=>x[j-k]?) hd;grind
  have g1:b.getD (k0+s) (0:d)=l[k0+s]:=by grind
  have g2:b.getD (k0+(s-1)) (0:d)=l.getD (k0+s-1) 0:=by grind
  have e1:l.getD (k0+(s+1)-1) 0=l[k0+s]:=by
   simp_all
  rw[j74];simp only[j1u,j8,show F (b.length-k0)=((b.length-k0:O):d) from rfl,show F k0=(k0:d) from rfl];rw[j00 (show (s:d)<((b.length-k0:O):d) by omega),j0N (show (0:d)<=(s:d) by omega) omg_,j05 (x:=(s:d)-1),j0N (show (0:d)<=(s:d)-1 by omega) omg_,j0N (show (0:d)<=(k:d) by omega) omg_,j05 (x:=(k:d)+1),j05 (x:=(s:d)+1),show ((s:d)-1).toNat=s-1 by omega,D hlt];simp only[j6,g1,g2,ddI];by_cases hc:l[k0+s]=l.getD (k0+s-1) 0
  .rw[show (l[k0+s] != l.getD (k0+s-1) 0)=Ó by rw[bne_eq_false_iff_eq];exact hc,if_pos hc,j7,j03];have ih:=jxv hl (k0:=k0) n (s+1) k b omg_ omg_ omg_ hb hd;rw[e1,hc,show k0+(s+1)=k0+s+1 by omega]at ih;exact ih
  .rw[show (l[k0+s] != l.getD (k0+s-1) 0)=Ï by rw[bne_iff_ne];exact hc,if_neg hc,j6,j03]
   have ih:=jxv hl (k0:=k0) n (s+1) (k+1) (b.set k l[k0+s]) omg_ omg_ omg_ (by simpa using hb) (by
    rw[Ë omg_];have:=congrArg (Ø 1) hd;grind[Ñ])
   rw[e1,show k0+(s+1)=k0+s+1 by omega]at ih;obtain⟨m,b',r1,r2,r3,r4⟩:=ih;refine⟨m,b',r1,r2,r3,?_⟩;grind[Y,Ì]
def cpI:o d->o d
 |[]=>[]
 |a::r=>a::ddI a r
theorem jAS{l:o d}(hl:l.length<=1000000):∀(n k:O),k+n=l.length->1<=k->cpI l=l.take k++ddI (l.getD (k-1) 0) (l.drop k)->
  (∃(m:O)(b:o d),j19 (k:d) l=G (.inl ((m:d),b))/\b.take m=cpI l)\/(j19 (k:d) l=G (.inr l)/\cpI l=l)
 |0,k,hn,hk,hT=>by
  grind[j75,j1v,j06,ddI]
 |n+1,k,hn,hk,hT=>by
  have hlt:k<l.length:=omg_;have g1:l.getD k (0:d)=l[k]:=by simp[hlt]
  rw[D hlt]at hT;simp only[ddI]at hT;rw[j75];simp only[j1v,show F l.length=(l.length:d) from rfl];rw[j00 (show (k:d)<(l.length:d) by omega),j0N (show (0:d)<=(k:d) by omega) omg_,j05 (x:=(k:d)-1),j0N (show (0:d)<=(k:d)-1 by omega) omg_,j05 (x:=(k:d)+1),show ((k:d)-1).toNat=k-1 by omega,j00 (show (0:d)<=(k:d) by omega),j00 (show (k:d)<=(l.length:d) by omega)];simp only[j6,j8,g1,Bool.and_self,show F k=(k:d) from rfl];by_cases hc:l[k]=l.getD (k-1) 0
  .rw[if_pos hc]at hT;obtain⟨m,b,r1,r2,r3,r4⟩:=jxv hl (k0:=k) n 1 k l omg_ omg_ omg_ rfl rfl;rw[show k+1-1=k by omega,g1,hc,<-hT]at r4;rw[j3m hc,j6,show j3v (k:d) (k:d) 1 l=_ from r1];simp(disch:=omega)only[Bool.true_and,S0];grind[j06]
  .rw[if_neg hc]at hT;rw[j1p hc,j7,j03];refine jAS hl n (k+1) omg_ omg_ ?_;grind[Y]
theorem jrI{l:o d}(hl:l.length<=1000000):∃n m,j4Q l=G (n,m)/\m.take n.toNat=cpI l:=by
 simp(disch:=omega)only[j4Q,S0];by_cases h2:l.length<2
 .rw[j00 omg_,j6];refine⟨_,_,rfl,?_⟩;rw[j8,List.take_of_length_le (É _)];match l,h2 with
  |[],_=>rfl
  |[a],_=>rfl
  |_::_::_,h2=>simp at h2;omega
 .rw[j01 omg_,j7]
  have hT:cpI l=l.take 1++ddI (l.getD (1-1) 0) (l.drop 1):=by
   match l,h2 with
   |[],h2=>simp at h2
   |a::r,_=>rfl
  rcases jAS hl (l.length-1) 1 omg_ omg_ hT with⟨m,b,e,h⟩|⟨e,h⟩
  .rw[show j19 1 l=_ from e];refine⟨_,_,rfl,?_⟩;simpa using h
  .rw[show j19 1 l=_ from e];refine⟨_,_,rfl,?_⟩;rw[h];simp
theorem jCz{l:o d}(x:d):x∈cpI l↔x∈l:=by
 cases l with
 |nil=>exact Iff.rfl
 |cons a r=>exact jrG r a x
theorem jCA{l:o d}(h:l.Pairwise (· <= ·)):(cpI l).Pairwise (· < ·):=by
 cases l with
 |nil=>exact .nil
 |cons a r=>exact jrH r a h
theorem jrJ:∀(l:o d)(p:d),(ddI p l).length<=l.length
 |[],_=>É _
 |y::r,p=>by
  unfold ddI;split
  .have:=jrJ r p;simp;omega
  .have:=jrJ r y;simp;omega
theorem jCB(l:o d):(cpI l).length<=l.length:=by
 cases l<;>grind[jrJ,cpI]
theorem jxw{l:o d}(hl:l.length<=1000000){f t:d}:∃C,jfG l f t=G (C++[t])/\C.Pairwise (· < ·)/\C.length<=l.length/\(∀x,x∈C↔x∈l/\f<x/\x<t):=by
 obtain⟨n1,m1,e1,h1⟩:=juC (l:=l) omg_ (f:=f) (t:=t);have hfl:(l.filter (inB f t)).length<=l.length:=List.length_filter_le _ _;obtain⟨s,e2,p2,a2⟩:=jzw (l:=l.filter (inB f t)) omg_;have hsl:=p2.length_eq;obtain⟨n3,m3,e3,h3⟩:=jrI (l:=s) omg_;have hcl:=jCB s;refine⟨cpI s,?_,jCA a2,omg_,λx=>?_⟩
 .simp(disch:=omega)only[jfG,j24,B,e1,h1,e2,e3,h3,S0]
 .rw[jCz,p2.mem_iff,List.mem_filter];grind[inB]
theorem jEi{ds:o d}(hs:ds.Pairwise (· < ·))(hl:ds.length<=64)(x:d):∃(k:O)(b:Ö),j2O ds x=G ((k:d),b)/\k<=ds.length/\(∀i,(hi:i<ds.length)->i<k->ds[i]<x)/\∀i,(hi:i<ds.length)->k<=i->x<=ds[i]:=by
 obtain⟨k,e,hk,h1,h2⟩:=jCf hs hl (x:=x) ds.length 0 ds.length omg_ omg_ (É _) (λi _ h=>omg_) (λi hi h=>omg_);rw[show ((0:O):d)=0 from rfl]at e;simp only[j2O,show F ds.length=(ds.length:d) from rfl,e,j4,j8];by_cases hkl:k<ds.length
 .have hgd:ds.getD k (0:d)=ds[k]:=by simp[hkl]
  rw[j0L,j00 (show (k:d)<(ds.length:d) by omega),hgd];simp only[Bool.true_or,j6];by_cases hx:ds[k]=x
  .rw[j3m hx];exact⟨k,_,rfl,hk,h1,h2⟩
  .rw[j1p hx];simp only[j7,j8A,j4,bne_self_eq_false];exact⟨k,_,rfl,hk,h1,h2⟩
 .rw[j01 (show¬(k:d)<(ds.length:d) by omega)];simp only[Ò,Bool.or_true,j6,j7,Bool.false_and];exact⟨k,_,rfl,hk,h1,h2⟩
theorem jen{a t:d}:∀(es:o j1V)(p:d),(∀x∈es,(x.2.2.2.1<=a↔x.2.2.2.1<=t)/\(x.2.2.2.2<=a↔x.2.2.2.2<=t))->jbX t p es=jbX a p es
 |[],_,_=>rfl
 |x::r,p,h=>by
  have hx:=h x smp_;simp only[jbX]
  have e:jiO t p x=jiO a p x:=by
   unfold jiO;have:(t<x.2.2.2.1\/x.2.2.2.2<=t)↔(a<x.2.2.2.1\/x.2.2.2.2<=a):=omg_;by_cases hc:a<x.2.2.2.1\/x.2.2.2.2<=a
   .rw[if_pos hc,if_pos (this.2 hc)]
   .rw[if_neg hc,if_neg (λh=>hc (this.1 h))]
  rw[e];exact jen r _ (λy hy=>h y (by simp[hy]))
theorem jEj{es:o j1V}(hl:es.length<=1000){f t:d}{zs:o j0z}{ps:o j0d}{cs:o CalT}{ss:o j0u}{tbs:o (d×TrL)}{nm:Á}{ls:o j0c}:∀(n i:O)(acc:o d),i+n=es.length->acc.length<=2*i->
  j76 f t es (es.length:d) (i:d) zs ps cs ss tbs nm ls es acc=G (f,t,zs,ps,cs,ss,tbs,nm,ls,es,acc++edB (es.drop i))
 |0,i,acc,hi,_=>by
  rw[jaN];simp only[j2P];rw[j01 omg_,j7,j06,I omg_];simp[edB]
 |n+1,i,acc,hi,hacc=>by
  have hi':i<es.length:=omg_;have hgd:es.getD i (0,0,0,0,0)=es[i]:=by simp[U,hi']
  have ih:=jEj hl (f:=f) (t:=t) (zs:=zs) (ps:=ps) (cs:=cs) (ss:=ss) (tbs:=tbs) (nm:=nm) (ls:=ls) n (i+1) (acc++[es[i].2.2.2.1,es[i].2.2.2.2]) omg_ sqo_;rw[jaN];simp only[j2P];rw[j00 omg_,j0L,j05 (x:=(i:d)+1)];simp only[j6,j8,hgd];rw[j00 (by simp[j02];omega),j6,j03,D hi'];rw[È]at ih;exact ih
theorem jzx{es:o j1V}(hl:es.length<=100){p t:d}:jia es p t=G (jbX t p es):=by
 have ef:=jxq hl (t:=t) es.length 0 p omg_;rw[Å]at ef;simp only[jia,show F es.length=(es.length:d) from rfl,show jdd p t es (es.length:d) 0=_ from ef];rfl
section
variable{es:o j1V}(hel:es.length<=100){K:o d}(hK:K.Pairwise (· < ·))(hKl:K.length<=64){a0 b:d}(hb:b∈K)(hin:∀x∈edB es,a0<x->x<b->x∈K)
include hel hK hKl hb hin
theorem jFe{g:d->d}{p u:d}(hu:u<=b){m q w:d}{nm:Á}{ls:o j0c}{R:SgL}{x:d}:∀(n i:O)(a:d)(acc:SgL),K.length-i<=n->a0<=a->a<=u->(a<u->i<K.length)->(∀k,(hk:k<K.length)->(a<u->(k<i->K[k]<=a)/\(i<=k->a<K[k])))->(∀t,a<=t->t<u->g t=p)->
  acc.length+(K.length-i)<=1000000000->Ch (λt=>jbX t (g t) es) a x acc->
  ∃out,j9r (i:d) a m q nm ls es w u p K acc R=G (m,q,nm,ls,es,K,out,R)/\Ch (λt=>jbX t (g t) es) u x out/\out.length<=acc.length+(K.length-i):=by
 intro n;induction n with
 |zero=>
  intro i a acc hn ha hau hi _ _ _ hch;rw[jaO];simp only[j2Q];have hge:¬a<u:=λh=>by have:=hi h;omega
  rw[j01 hge,j7,j06];have:a=u:=omg_;subst this;exact⟨acc,rfl,hch,omg_⟩
 |succ n ih=>
  intro i a acc hn ha hau hi hsp hg hal hch;rw[jaO];simp only[j2Q];by_cases hlt:a<u
  .have hil:=hi hlt;have hgd:K.getD i (0:d)=K[i]:=by simp[hil]
   have h1:=((hsp i hil) hlt).2 (É _);rw[j00 hlt,j0L,j05 (x:=(i:d)+1)];simp only[j6,j8,hgd,jzx hel,j4];rw[j00 (by simp[j02];omega),j6,j03];have hend:(if K[i]<u then K[i] else u)=min K[i] u:=by split<;>omega
   rw[hend];have hm1:a<min K[i] u:=omg_
   have hseg:∀t,a<=t->t<min K[i] u->jbX t (g t) es=jbX a p es:=λt t1 t2=>by
    rw[hg t t1 omg_];refine jen es p (λy hy=>?_);obtain⟨y1,y2⟩:=joD hy
    have key:∀c,c∈edB es->(c<=a↔c<=t):=λc hc=>by
     refine⟨λh=>omg_,λh=>?_⟩;apply A;intro hca;have hcK:=hin c hc omg_ omg_;obtain⟨k,hk,rfl⟩:=Ä hcK;by_cases hki:k<i
     .have:=((hsp k hk) hlt).1 hki;omega
     .by_cases hke:k=i
      .subst hke;omega
      .have:=List.pairwise_iff_getElem.1 hK i k hil hk omg_;omega
    exact⟨key _ y1,key _ y2⟩
   have hch':=hch.snoc (b:=a) (c:=min K[i] u) (p:=jbX a p es) omg_ hseg
   obtain⟨out,e,hc,hl⟩:=ih (i+1) (min K[i] u) (acc++[(a,min K[i] u,jbX a p es)]) omg_ omg_ omg_ (λh=>by
    apply A;intro hcon;obtain⟨k,hk,hkb⟩:=Ä hb;by_cases hki:k=i
    .subst hki;omega
    .have:=List.pairwise_iff_getElem.1 hK k i hk hil omg_;omega) (λk hk h=>⟨λhki=>by
    by_cases hke:k=i
    .subst hke;omega
    .have:=((hsp k hk) hlt).1 omg_;omega,λhki=>by
    have:=List.pairwise_iff_getElem.1 hK i k hil hk omg_;omega⟩) (λt t1 t2=>hg t omg_ t2) sqo_ hch'
   exact⟨out,e,hc,by simp at hl;omega⟩
  .rw[j01 hlt,j7,j06];have:a=u:=omg_;subst this;exact⟨acc,rfl,hch,omg_⟩
theorem jEk{g:d->d}{S:SgL}(hSl:S.length<=10000000){nm:Á}{ls:o j0c}(ha0 : -1000000000000<=a0)(hb1:b<=1000000000000){x:d}:∀(n i:O)(a:d)(acc:SgL),i+n=S.length->a0<=a->Ch g b a (S.drop i)->Ch (λt=>jbX t (g t) es) a x acc->acc.length<=64*i->
  ∃out,j77 (S.length:d) (i:d) nm ls es K acc S=G out/\Ch (λt=>jbX t (g t) es) b x out/\out.length<=64*S.length
 |0,i,a,acc,hi,_,hc,hch,hal=>by
  rw[I omg_]at hc;have hc:a=b:=hc;subst hc;rw[jaP];simp only[j2R];rw[j01 omg_,j7,j06];exact⟨acc,rfl,hch,omg_⟩
 |n+1,i,a,acc,hi,ha,hc,hch,hal=>by
  have hi':i<S.length:=omg_;rw[D hi']at hc;obtain⟨c1,c2,c3,c4⟩:=hc;have hle:=c4.le;have hgd:S.getD i (0,0,0)=S[i]:=by simp[U,hi']
  obtain⟨k,bb,ek,hk,k1,k2⟩:=jEi hK hKl (a+1)
  obtain⟨out,e4,hc4,hl4⟩:=jFe hel hK hKl hb hin (g:=g) (p:=S[i].2.2) (u:=S[i].2.1) hle (m:=(S.length:d)) (q:=(i:d)) (w:=S[i].1) (nm:=nm) (ls:=ls) (R:=S) (x:=x) K.length k a acc omg_ ha c2 (λh=>by
   apply A;intro hcon;obtain⟨j,hj,hjb⟩:=Ä hb;have:=k1 j hj omg_;omega) (λj hj _=>⟨λh=>by have:=k1 j hj h;omega,λh=>by have:=k2 j hj h;omega⟩) c3 omg_ hch
  have ih:=jEk hSl (nm:=nm) (ls:=ls) ha0 hb1 (g:=g) (x:=x) n (i+1) S[i].2.1 out omg_ omg_ c4 hc4 omg_;rw[jaP];simp only[j2R];rw[j00 omg_,j0L];simp only[j6,j8,hgd,c1];rw[j05 (x:=a+1),ek];simp only[j4];rw[c1]at e4;rw[e4];simp only[j4];rw[j05 (x:=(i:d)+1),j03];exact ih
end
section
variable{zs:o j0z}{ps:o j0d}{cs:o CalT}(hs:SOk2 zs ps cs)
include hs
theorem jsZ{a b:d}(ha:0<=a)(hab:a<=b)(hb:b<=8589934592)(hlen:b-a<=35078400):∀ls:o j0c,(∀L∈ls,LCk zs.length ps.length cs.length L)->
  ∃E:o d,E.length<=30000*ls.length/\∀L∈ls,∀x,a<x->x<b->perX zs cs L (x-1)≠perX zs cs L x->x∈E
 |[],_=>⟨[],smp_,smp_⟩
 |L::ls,hL=>by
  obtain⟨E,e1,e2⟩:=jsZ ha hab hb hlen ls (λM hM=>hL M (by simp[hM]));obtain⟨S,_,c1,l1⟩:=jsT hs (hL L smp_) (ss:=[]) ha hab hb hlen;refine⟨brd S++E,?_,λM hM x x1 x2 x3=>?_⟩
  .have:(brd S).length<=S.length:=by simp[brd]
   rw[À,W];omega
  .rcases List.mem_cons.1 hM with rfl|hM
   .exact Ã _ (((jmc c1).1 x).2 ⟨x1,x2,x3⟩)
   .exact Â _ (e2 M hM x x1 x2 x3)
theorem jzy{ls:o j0c}{es:o j1V}(hL:∀L∈ls,LCk zs.length ps.length cs.length L){a b:d}(ha:0<=a)(hab:a<=b)(hb:b<=8589934592)(hlen:b-a<=35078400) :
  ∃E:o d,E.length<=30000*ls.length+2*es.length/\(∀x,a<x->x<b->topP es (x-1) (pfX zs cs ls (x-1)) ls.length≠topP es x (pfX zs cs ls x) ls.length->x∈E)/\∀x∈edB es,x∈E:=by
 obtain⟨E,e1,e2⟩:=jsZ hs ha hab hb hlen ls hL;refine⟨E++edB es,by rw[À,jjC];omega,λx x1 x2 x3=>?_,λx hx=>Â _ hx⟩;apply A;intro hn;simp only[Ð,not_or]at hn;refine x3 (jgG (λi hi=>?_) (λp=>jmd hn.2 p));apply A;intro hne;have e:∀t,pfX zs cs ls t i=perX zs cs ls[i] t:=λt=>by simp[pfX,U,hi]
 rw[e,e]at hne;exact hn.1 (e2 _ (J hi) x x1 x2 hne)
theorem juD{nm:Á}{ls:o j0c}{es:o j1V}(hL:∀L∈ls,LCk zs.length ps.length cs.length L)(hll:ls.length<=4)(hE:∀x∈es,ECk ps.length x)(hel:es.length<=9)
  {ss:o j0u}{a b:d}(ha:0<=a)(hab:a<=b)(hb:b<=8589934592)(hlen:b-a<=35078400) :
  ∃out,j4W ((zs,ps,cs,ss),zs.map tb) (nm,ls,es) a b=G out/\Cov (λt=>topP es t (pfX zs cs ls t) ls.length) b none a out/\out.length<=30000*ls.length+2*es.length+1:=by
 obtain⟨out,e,h,_⟩:=jzs hs hL hll hE hel ha hab hb omg_ (nm:=nm) (ss:=ss);obtain⟨E,e1,e2,_⟩:=jzy hs (es:=es) hL ha hab hb hlen;have:=jrD h e2;exact⟨out,e,h,omg_⟩
theorem jxx{s:j0u}(hk:SCk zs.length ps.length cs.length s)(hll:s.2.1.length<=3)(hel:s.2.2.length<=6){ss:o j0u}{a b:d}(ha:0<=a)(hab:a<b)(hb:b<=8589934592)(hlen:b-a<=34560000) :
  ∃out,j2f ((zs,ps,cs,ss),zs.map tb) s a b=G out/\Cov (whoS zs cs s) b none a out/\out.length<=10000000:=by
 obtain⟨S,eS,hS,lS⟩:=juD hs (nm:=s.1) hk.ly omg_ hk.ed omg_ (ss:=ss) ha omg_ hb omg_;have l0:=jEj (es:=s.2.2) omg_ (f:=a) (t:=b) (zs:=zs) (ps:=ps) (cs:=cs) (ss:=ss) (tbs:=zs.map tb) (nm:=s.1) (ls:=s.2.1) s.2.2.length 0 [] omg_ smp_;rw[B,Å]at l0;have hbl:=jjC s.2.2;obtain⟨C,eC,c1,c2,c3⟩:=jxw (l:=edB s.2.2) omg_ (f:=a) (t:=b)
 have hKp:(C++[b]).Pairwise (· < ·):=List.pairwise_append.2 ⟨c1,List.pairwise_singleton _ _,λx hx y hy=>by
  simp at hy;subst hy;exact((c3 x).1 hx).2.2⟩
 obtain⟨M,e2,hM,lM⟩:=jEk (es:=s.2.2) omg_ hKp sqo_ (a0:=a) (b:=b) smp_ (λx hx x1 x2=>Ã _ ((c3 x).2 ⟨hx,x1,x2⟩)) (g:=λt=>topP s.2.2 t (pfX zs cs s.2.1 t) s.2.1.length) (S:=S) omg_ (nm:=s.1) (ls:=s.2.1) omg_ omg_ (x:=a) S.length 0 a [] omg_ omg_ (by rw[Å];exact hS.ch) rfl smp_;obtain⟨out,e3,h3,l3⟩:=jma (l:=M) omg_ hM;refine⟨out,?_,h3,omg_⟩;simp only[j2f,show F s.2.2.length=(s.2.2.length:d) from rfl];rw[show j76 a b s.2.2 (s.2.2.length:d) 0 zs ps cs ss (zs.map tb) s.1 s.2.1 s.2.2 []=_ from l0];simp only[j4,eC];rw[show j4W ((zs,ps,cs,ss),zs.map tb) (s.1,s.2.1,s.2.2) a b=_ from eS];simp only[j4,show F S.length=(S.length:d) from rfl];rw[show j77 (S.length:d) 0 s.1 s.2.1 s.2.2 (C++[b]) [] S=_ from e2];simp only[j4,e3]
end
set_option linter.unusedSectionVars false
def cntB(f:d->Ö)(a:d):O->d
 |0=>0
 |n+1=>cntB f a n+(cond (f (a+n)) 1 0)
theorem jrK(f:d->Ö)(a:d):∀n:O,0<=cntB f a n/\cntB f a n<=n
 |0=>by simp[cntB]
 |n+1=>by
  have:=jrK f a n;simp only[cntB];cases f (a+n)<;>simp only[j6,j7]<;>omega
theorem joE(f:d->Ö)(a:d)(n:O):∀m:O,cntB f a (n+m)=cntB f a n+cntB f (a+n) m
 |0=>by simp[cntB]
 |m+1=>by
  have:=joE f a n m;rw[show n+(m+1)=(n+m)+1 by omega];simp only[cntB];rw[this,show a+((n+m:O):d)=a+(n:d)+(m:d) by omega];omega
theorem jeo{f g:d->Ö}{a:d}:∀{n:O},(∀x,a<=x->x<a+n->f x=g x)->cntB f a n=cntB g a n
 |0,_=>rfl
 |n+1,h=>by
  simp only[cntB];rw[jeo (n:=n) (λx h1 h2=>h x h1 omg_),h (a+n) omg_ omg_]
theorem jiP{f:d->Ö}{a:d}:∀{n:O},(∀x,a<=x->x<a+n->f x=Ó)->cntB f a n=0
 |0,_=>rfl
 |n+1,h=>by
  simp only[cntB];rw[jiP (n:=n) (λx h1 h2=>h x h1 omg_),h (a+n) omg_ omg_];rfl
theorem jxy{f:d->Ö}{a:d}:∀{n:O},(∀x,a<=x->x<a+n->f x=Ï)->cntB f a n=n
 |0,_=>rfl
 |n+1,h=>by
  simp only[cntB];rw[jxy (n:=n) (λx h1 h2=>h x h1 omg_),h (a+n) omg_ omg_];simp only[j6];omega
def InO(p:d):SL->Prop
 |[]=>True
 |x::r=>p<=x.1/\x.1<x.2/\InO x.2 r
theorem InO.weak{p q:d}(hq:q<=p):∀{l:SL},InO p l->InO q l
 |[],_=>trivial
 |_::_,h=>⟨by have:=h.1;omega,h.2⟩
theorem StS.ino:∀{l:SL}{p:d},StS p l->InO (p+1) l
 |[],_,_=>trivial
 |x::r,p,h=>⟨by have:=h.1;omega,h.2.1,(StS.ino h.2.2).weak omg_⟩
theorem WOk.ino:∀{l:WL}{p:d},WOk p l->InO p l
 |[],_,_=>trivial
 |_::_,_,h=>⟨h.1,h.2.1,WOk.ino h.2.2.2⟩
theorem jrL:∀{l:SL}{p s:d},InO p l->s<p->hasB s l=Ó
 |[],_,_,_,_=>rfl
 |x::r,p,s,h,hs=>by
  obtain⟨h1,h2,h3⟩:=h;simp only[hasB];rw[j01 (show¬x.1<=s by omega),jrL h3 omg_];rfl
theorem jxz:∀{l:SL}{p:d}{N:O},InO p l->(∀u∈l,u.2<=p+N)->sumL l=cntB (λs=>hasB s l) p N
 |[],p,N,_,_=>(jiP (f:=λs=>hasB s []) (λ_ _ _=>rfl)).symm
 |x::r,p,N,h,hb=>by
  obtain⟨h1,h2,h3⟩:=h;have hx:=hb x smp_;obtain⟨n1,e1⟩:∃n1:O,x.1=p+n1:=⟨(x.1-p).toNat,omg_⟩;obtain⟨n2,e2⟩:∃n2:O,x.2=x.1+n2:=⟨(x.2-x.1).toNat,omg_⟩;obtain⟨n3,e3⟩:∃n3:O,N=n1+n2+n3:=⟨N-n1-n2,omg_⟩;have ih:=jxz (l:=r) (p:=x.2) (N:=n3) h3 (λu hu=>by have:=hb u (by simp[hu]);omega);subst e3;rw[joE,joE]
  rw[jiP (a:=p) (n:=n1) (λs s1 s2=>by
   simp only[hasB];rw[j01 (show¬x.1<=s by omega),jrL h3 omg_];rfl)]
  rw[jxy (a:=p+(n1:d)) (n:=n2) (λs s1 s2=>by
   simp only[hasB];rw[j00 (show x.1<=s by omega),j00 (show s<x.2 by omega)];rfl)]
  rw[jeo (a:=p+((n1+n2:O):d)) (g:=λs=>hasB s r) (λs s1 s2=>by
   simp only[hasB];rw[j01 (show¬s<x.2 by omega)];cases decide (x.1<=s)<;>rfl)]
  rw[show p+((n1+n2:O):d)=x.2 by omega,<-ih];simp only[sumL];omega
theorem jt0:∀{l:SL}{p:d},InO p l->0<=sumL l
 |[],_,_=>Int.le_refl _
 |x::r,p,h=>by
  have:=jt0 h.2.2;have:=h.2.1;simp only[sumL];omega
theorem jt1:∀{l:SL}{p:d},InO p l->∀i,∃q,InO q (l.drop i)
 |[],p,_,i=>⟨p,by simp[InO]⟩
 |x::r,p,h,0=>⟨p,h⟩
 |x::r,p,h,i+1=>jt1 h.2.2 i
section
variable{zs:o j0z}{ps:o j0d}{cs:o CalT}(hs:SOk2 zs ps cs)
include hs
end
section
variable{zs:o j0z}{ps:o j0d}{cs:o CalT}(hs:SOk2 zs ps cs)
include hs
end
theorem jt2{f:d->d}{b v:d}:∀{l:SgL}{q:Option d}{a:d},Cov f b q a l->2*(l.filter λs=>s.2.2==v).length<=l.length+1/\(q=G v->2*(l.filter λs=>s.2.2==v).length<=l.length)
 |[],_,_,_=>smp_
 |s::r,q,a,h=>by
  obtain⟨_,_,h3,_,h5⟩:=h;have ih:=jt2 (v:=v) h5;by_cases hv:s.2.2=v
  .have e:((s::r).filter λs=>s.2.2==v)=s::(r.filter λs=>s.2.2==v):=by simp[hv]
   rw[e];have:=ih.2 (by rw[hv]);refine⟨by simp only[W];omega,λhq=>absurd (by rw[hq,hv]) h3⟩
  .have e:((s::r).filter λs=>s.2.2==v)=r.filter λs=>s.2.2==v:=by simp[hv]
   rw[e];have:=ih.1;exact⟨by simp only[W];omega,λ_=>by simp only[W];omega⟩
def spP(v:d)(S:SgL):SL:=(S.filter λs=>s.2.2==v).map λs=>(s.1,s.2.1)
theorem jzz(v:d)(s:SgT)(r:SgL):spP v (s::r)=(if s.2.2=v then [(s.1,s.2.1)] else [])++spP v r:=by
 unfold spP;by_cases hv:s.2.2=v
 .simp[hv]
 .simp[hv]
theorem jAT{f:d->d}{a b v:d}{S:SgL}(h:Cov f b none a S){x:d}:inS x (spP v S)↔a<=x/\x<b/\f x=v:=by
 unfold inS spP;constructor
 .rintro⟨u,hu,h1,h2⟩
  obtain⟨s,hs,rfl⟩:=List.mem_map.1 hu;have hm:=List.mem_filter.1 hs;have hc:=h.ch.mem _ hm.1;have hv:s.2.2=v:=by simpa using hm.2
  exact⟨by dsimp only at h1;omega,by dsimp only at h2;omega,by rw[<-hv];exact hc.2.2.2 x h1 h2⟩
 .rintro⟨h0,h1,h2⟩
  obtain⟨s,hs,c1,c2⟩:=h.ch.has x h0 h1;have hc:=h.ch.mem _ hs;exact⟨_,List.mem_map.2 ⟨s,List.mem_filter.2 ⟨hs,by rw[<-hc.2.2.2 x c1 c2,h2];exact beq_self_eq_true _⟩,rfl⟩,c1,c2⟩
theorem jzA{v:d}{S:SgL}(hS:S.length<=1000000):∀(n i:O)(acc:SL),i+n=S.length->acc.length<=i->
  j5P v S (S.length:d) (i:d) acc=G (acc++spP v (S.drop i))
 |0,i,acc,hi,_=>by
  rw[jbv];simp only[j3e];rw[j01 omg_,j7,j06,I omg_];simp[spP]
 |n+1,i,acc,hi,ha=>by
  have hi':i<S.length:=omg_;have hgd:S.getD i (0,0,0)=S[i]:=by simp[U,hi']
  rw[jbv];simp only[j3e];rw[j00 (show (i:d)<(S.length:d) by omega),j0L,j05 (x:=(i:d)+1)];simp only[j6,j8,hgd];have hd:spP v (S.drop i)=(if S[i].2.2=v then [(S[i].1,S[i].2.1)] else [])++spP v (S.drop (i+1)):=by rw[D hi',jzz]
  rw[hd];by_cases hv:S[i].2.2=v
  .rw[if_pos hv];rw[j3m hv,j6,j00 (by simp[j02];omega),j6,j03];have ih:=jzA (v:=v) hS n (i+1) (acc++[(S[i].1,S[i].2.1)]) omg_ sqo_;rw[show ((i+1:O):d)=(i:d)+1 by omega]at ih;rw[È]at ih;exact ih
  .rw[if_neg hv,B];rw[j1p hv,j7,j03];have ih:=jzA (v:=v) hS n (i+1) acc omg_ omg_;rw[show ((i+1:O):d)=(i:d)+1 by omega]at ih;exact ih
section
variable{zs:o j0z}{ps:o j0d}{cs:o CalT}(hs:SOk2 zs ps cs)
include hs
end
section
variable{zs:o j0z}{ps:o j0d}{cs:o CalT}(hs:SOk2 zs ps cs)
include hs
theorem jt3{a b:d}(ha:0<=a)(hab:a<=b)(hb:b<=8589934592){M K:O}(hM:M<=60)(hlen:b-a<=604800*M)(hK:K=58*M+81):∀ls:o j0c,(∀L∈ls,LCk zs.length ps.length cs.length L)->
  ∃E:o d,E.length<=K*ls.length/\∀L∈ls,∀x,a<x->x<b->perX zs cs L (x-1)≠perX zs cs L x->x∈E
 |[],_=>⟨[],smp_,smp_⟩
 |L::ls,hL=>by
  obtain⟨E,e1,e2⟩:=jt3 ha hab hb hM hlen hK ls (λM hM=>hL M (by simp[hM]));obtain⟨S,_,c1,l1⟩:=jsU hs (hL L smp_) (ss:=[]) ha hab hb hM hlen;refine⟨brd S++E,?_,λM hM x x1 x2 x3=>?_⟩
  .have:(brd S).length<=S.length:=by simp[brd]
   rw[À,W,Nat.mul_succ];omega
  .rcases List.mem_cons.1 hM with rfl|hM
   .exact Ã _ (((jmc c1).1 x).2 ⟨x1,x2,x3⟩)
   .exact Â _ (e2 M hM x x1 x2 x3)
theorem jxA{s:j0u}(hk:SCk zs.length ps.length cs.length s){a b:d}(ha:0<=a)(hab:a<=b)(hb:b<=8589934592){M K:O}(hM:M<=60)(hlen:b-a<=604800*M)(hK:K=58*M+81) :
  ∃E:o d,E.length<=K*s.2.1.length+2*s.2.2.length/\∀x,a<x->x<b->whoS zs cs s (x-1)≠whoS zs cs s x->x∈E:=by
 obtain⟨E,e1,e2⟩:=jt3 hs ha hab hb hM hlen hK s.2.1 hk.ly;refine⟨E++edB s.2.2,by rw[À,jjC];omega,λx x1 x2 x3=>?_⟩;apply A;intro hn;simp only[Ð,not_or]at hn;refine x3 ?_
 have hT:topP s.2.2 (x-1) (pfX zs cs s.2.1 (x-1)) s.2.1.length=topP s.2.2 x (pfX zs cs s.2.1 x) s.2.1.length:=by
  refine jgG (λi hi=>?_) (λp=>jmd hn.2 p);apply A;intro hne;have e:∀t,pfX zs cs s.2.1 t i=perX zs cs s.2.1[i] t:=λt=>by simp[pfX,U,hi]
  rw[e,e]at hne;exact hn.1 (e2 _ (J hi) x x1 x2 hne)
 unfold whoS;rw[hT];refine(jen _ _ λy hy=>?_).symm;obtain⟨m1,m2⟩:=joD hy;have n1:x≠y.2.2.2.1:=λe=>hn.2 (e▸m1);have n2:x≠y.2.2.2.2:=λe=>hn.2 (e▸m2);omega
end
theorem jzB{np:O}{t p:d}{x:j1V}(h:ECk np x)(hp:p<np):jiO t p x<np:=by
 have ha:=h.a;have hb:=h.b;unfold jiO;split
 .exact hp
 .split
  .omega
  .split
   .rename_i h1;have:=hb h1.1;omega
   .split
    .rename_i h1;have:=hb h1.1;omega
    .exact hp
theorem jt4{np:O}{t:d}:∀(es:o j1V)(p:d),(∀x∈es,ECk np x)->p<np->jbX t p es<np
 |[],_,_,hp=>hp
 |x::r,p,h,hp=>by
  simp only[jbX];exact jt4 r _ (λy hy=>h y (by simp[hy])) (jzB (h x smp_) hp)
section
variable{zs:o j0z}{ps:o j0d}{cs:o CalT}(hs:SOk2 zs ps cs)
include hs
theorem jCC{s:j0u}(hk:SCk zs.length ps.length cs.length s){t:d}(h0:0<=t)(h1:t<=8589934592):whoS zs cs s t<ps.length:=by
 unfold whoS;refine jt4 _ _ hk.ed ?_;unfold topP;cases hT:topI (j6W s.2.2 t (pfX zs cs s.2.1 t)) s.2.1.length with
 |none=>dsimp only;omega
 |some k=>
  have hkl:=jxo hT;have e:pfX zs cs s.2.1 t k=perX zs cs s.2.1[k] t:=by simp[pfX,U,hkl]
  dsimp only
  rw[e];exact(jx0 hs (hk.ly _ (J hkl)) h0 h1).2.2
theorem jzC{ss:o j0u}(hc:j8W (zs,ps,cs,ss)){i:O}(hi:i<ss.length)(hll:ss[i].2.1.length<=3)(hel:ss[i].2.2.length<=6){a b:d}(ha:0<=a)(hab:a<b)(hb:b<=8589934592)(hlen:b-a<=2592000) :
  ∃S,j5O (zs,ps,cs,ss) (i:d) a b=G (S,0)/\Cov (whoS zs cs ss[i]) b none a S/\S.length<=16384:=by
 have hsc:=hc.sc _ (J hi);have hgs:ss.getD i (Z,[],[])=ss[i]:=by simp[U,hi]
 obtain⟨S,eS,hS,lS⟩:=jxx hs hsc hll hel (ss:=ss) (a:=a) (b:=b) ha hab hb omg_;obtain⟨E,e1,e2,e3⟩:=jCw hs (es:=ss[i].2.2) hsc.ly ha (Õ hab) hb hlen
 have hSl:S.length<=E.length+1:=jrD hS (λx x1 x2 x3=>by
  apply A;intro hn;refine x3 ?_;have hT:topP ss[i].2.2 (x-1) (pfX zs cs ss[i].2.1 (x-1)) ss[i].2.1.length=topP ss[i].2.2 x (pfX zs cs ss[i].2.1 x) ss[i].2.1.length:=by apply A;intro hne;exact hn (e2 x x1 x2 hne)
  unfold whoS;rw[hT];refine(jen _ _ λy hy=>?_).symm;obtain⟨m1,m2⟩:=joD hy;have n1:x≠y.2.2.2.1:=λe=>hn (e▸e3 _ m1);have n2:x≠y.2.2.2.2:=λe=>hn (e▸e3 _ m2);omega)
 refine⟨S,?_,hS,omg_⟩;simp only[j5O];rw[show jcg (zs,ps,cs,ss) (i:d) a b=_ from juA hs hc hi ha (Õ hab) hb omg_];simp only[j4,bne_self_eq_false,j7];rw[j0L];simp only[j6,j8,hgs];rw[show j2f ((zs,ps,cs,ss),zs.map tb) (ss[i].1,ss[i].2.1,ss[i].2.2) a b=_ from eS];simp only[j4,show F S.length=(S.length:d) from rfl];rw[j01 (show¬(S.length:d)>16384 by omega)];rfl
end
abbrev LdT:=d×d×d
abbrev MpL:=o (d×LdT)
def tot(p:d):SgL->d
 |[]=>0
 |s::r=>(if s.2.2=p then s.2.1-s.1 else 0)+tot p r
theorem jxB(p:d):∀(l r:SgL),tot p (l++r)=tot p l+tot p r
 |[],r=>by simp[tot]
 |s::l,r=>by simp only[List.cons_append,tot,jxB p l r];omega
theorem Ch.tot_le{f:d->d}{b p:d}:∀{l:SgL}{a:d},Ch f b a l->0<=tot p l/\tot p l<=b-a
 |[],a,h=>by have h:a=b:=h;simp[tot];omega
 |s::r,a,h=>by
  obtain⟨h1,h2,h3,h4⟩:=h;have:=h4.tot_le (p:=p);simp only[tot];split<;>omega
structure MpOk(m:MpL)(np:O)(n:O):Prop where
 len:m.length<=n
 key:∀x∈m,0<=x.1/\x.1<(np:d)/\x.2.1=x.1
theorem juE{β:Type}{m:o (d×β)}{k:d}{v:β}:∀{x:d×β},x∈j28 m k v->x∈m\/x=(k,v):=by
 induction m with
 |nil=>intro x hx;simp[j28]at hx;exact .inr hx
 |cons y r ih=>
  intro x hx;simp only[j28]at hx;by_cases h:k=y.1
  .rw[j3m h,j6]at hx;rcases List.mem_cons.1 hx with rfl|hx
   .exact .inr (by rw[h])
   .exact .inl (by simp[hx])
  .rw[j1p h,j7]at hx;rcases List.mem_cons.1 hx with rfl|hx
   .exact .inl smp_
   .exact(ih hx).imp (λh=>by simp[h]) id
theorem juF{β:Type}{m:o (d×β)}{k:d}{v:β}:(j28 m k v).length<=m.length+1:=by
 induction m with
 |nil=>simp[j28]
 |cons y r ih=>
  simp only[j28];cases k==y.1 with
  |true=>simp
  |false=>simp only[j7,W];omega
def ld0:LdT:=((0:d),(0:d),(0:d))
theorem jxC{m:MpL}{k:d}(h:j1W m k=Ó):j1r ld0 m k=ld0:=by
 induction m with
 |nil=>rfl
 |cons y r ih=>have:j1W (y::r) k=(k==y.1||j1W r k):=rfl;rw[this,Bool.or_eq_false_iff]at h;show cond (k==y.1) y.2 (j1r ld0 r k)=_;rw[h.1];exact ih h.2
theorem jnn{m:MpL}{k:d}:j1W m k=Ï↔k∈m.map (λx=>x.1):=by
 unfold j1W;rw[List.any_eq_true,List.mem_map];constructor
 .rintro⟨x,hx,h⟩
  exact⟨x,hx,(by simpa using h:k=x.1).symm⟩
 .rintro⟨x,hx,h⟩
  exact⟨x,hx,by simp[h]⟩
theorem insI_perm(x:d):∀l:o d,(insI x l).Perm (x::l)
 |[]=>Ê _
 |y::ys=>by
  unfold insI;cases decide (x<=y) with
  |true=>exact Ê _
  |false=>exact((insI_perm x ys).cons y).trans (Ù x y ys)
theorem isortI_perm:∀l:o d,(jc6 l).Perm l
 |[]=>Ê _
 |x::xs=>(insI_perm x _).trans ((isortI_perm xs).cons x)
theorem jAU{m:MpL}{ks:o d}(hl:ks.length<=1000000):∀(n i:O)(acc:o LdT),i+n=ks.length->acc.length=i->
  jaB (ks.length:d) (i:d) m acc ks=G (m,acc++(ks.drop i).map λk=>j1r ld0 m k)
 |0,i,acc,hi,ha=>by
  rw[je7];simp only[j4L];rw[j01 omg_,j7,j06,I omg_];simp
 |n+1,i,acc,hi,ha=>by
  have hlt:i<ks.length:=omg_;have hgd:ks.getD i (0:d)=ks[i]:=by simp[U,hlt]
  have ih:=jAU (m:=m) hl n (i+1) (acc++[j1r ld0 m ks[i]]) omg_ sqo_;rw[je7];simp only[j4L,X];rw[j00 (show (i:d)<(ks.length:d) by omega),j0L,j05 (x:=(i:d)+1),j00 (by simp[j02];omega),D hlt];simp only[j6,j8,hgd,j03];rw[È]at ih;exact ih
theorem jxD{m:MpL}{np n:O}(hm:MpOk m np n)(hn:n<=100000)(hnp:np<=1000):jcn m=G ((jep m).map (λk=>j1r ld0 m k),m):=by
 have hlen:(jep m).length=m.length:=by have:=(isortI_perm (m.map λx=>x.1)).length_eq;simpa[jep]using this
 have hml:=hm.len;have hk:joK m=true:=by unfold joK;simp only[Bool.and_eq_true,List.all_eq_true,decide_eq_true_eq];refine⟨Nat.ble_eq_true_of_le omg_,λx hx=>?_⟩;have:=hm.key x hx;omega
 have lp:=jAU (m:=m) (ks:=jep m) omg_ (jep m).length 0 [] omg_ rfl;rw[Å,B]at lp;simp only[jcn,hk,j6];rw[show jaB (F (jep m).length) 0 m [] (jep m)=_ from lp];rfl
def wgt(p:d):o LdT->d
 |[]=>0
 |x::r=>if x.1=p then x.2.2 else wgt p r
theorem jEl{l:o LdT}(hl:l.length<=1000000){p:d}:∀(n i:O),i+n=l.length->((jcJ l p (i:d)).bind λq0=>sumC q0 (λa=>G a) (λ_=>G (0:d)))=G (wgt p (l.drop i))
 |0,i,hi=>by
  rw[jdt];simp only[j4o,show F l.length=(l.length:d) from rfl];rw[j01 omg_,j7,j06,I omg_];rfl
 |n+1,i,hi=>by
  have hlt:i<l.length:=omg_;have hgd:l.getD i (0,0,0)=l[i]:=by simp[U,hlt]
  rw[jdt];simp only[j4o,show F l.length=(l.length:d) from rfl];rw[j00 omg_,j0L,j05 (x:=(i:d)+1),D hlt];simp only[j6,j8,hgd,wgt];by_cases h:l[i].1=p
  .rw[j3m h,if_pos h];rfl
  .rw[j1p h,if_neg h,j7,j03];exact jEl hl n (i+1) omg_
theorem jFf{l:o LdT}(hl:l.length<=1000000){p:d}:jdu l p=G (wgt p l):=jEl hl l.length 0 omg_
section
variable{zs:o j0z}{ps:o j0d}{cs:o CalT}(hs:SOk2 zs ps cs)
include hs
end
end Go.Proofs.Pw
