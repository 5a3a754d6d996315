/- The horizon, and who is on call with edits. -/
import Derived.Test.YtgepoeafaklbjaaGreatPFPG
import Derived.Test.YtgepoeafaklbjaaGreatPFPF
import Derived.Test.YtgepoeafaklbjaaGreatPFPD
import Derived.Test.YtgepoeafaklbjaaGreatPFPC
import Derived.Test.YtgepoeafaklbjaaGreatPFLS
import Derived.Test.YtgepoeafaklbjaaGreatPFPE
import Derived.Test.YtgepoeafaklbjaaGreatPFFns
import Derived.Test.YtgepoeafaklbjaaGreatPFPA
open _root_ renaming Int->d,List->o,Nat->W,ByteArray->Á
open Classical renaming byContradiction->A
open Int renaming ofNat->B,le_of_lt->Ê
open List renaming nil_append->D,getElem_mem->F,drop_eq_getElem_cons->G,getD->I,length_nil->O,drop_of_length_le->U,take_add_one->Y,drop_zero->Z,length_cons->À,length_append->Â,length_singleton->Ã,mem_append_left->Ä,getElem_of_mem->Æ,mem_cons->É,mem_append_right->Ë,drop_set_of_lt->Í,take_set_of_le->Î,filter_eq_self->Ï,append_assoc->Ð,length_map->Ñ,mem_append->Ò,drop_drop->Õ,drop->Ú
open Option renaming some->H
open ByteArray renaming empty->J
open Decidable renaming decide->X
open Nat renaming mul_le_mul_right->Å,le_refl->Ç,mul_succ->Ù
open Bool renaming not_true->È,not_false->Ì,true->Ó,false_and->Ô,false->Ö,true_and->Ø
open Go Go.Lft
namespace Go.Proofs.Pw
theorem jsk{nm:Á}{ls:o j0b}{es:o j1D}{p t:d}(hl:es.length<=1000):∀(n i:W),i+n=es.length->jej p t (i:d) nm ls es=H (cond (jb4 (es.drop i) p t) (.inl Ó) (.inr ()))
 |0,i,hi=>by
  rw[jgr];simp only[j6D,show B es.length=(es.length:d) from rfl];rw[j01 omg_,j7,j06,U omg_];rfl
 |n+1,i,hi=>by
  have hlt:i<es.length:=omg_;have hgd:es.getD i (0,0,0,0,0)=es[i]:=by simp[I,hlt]
  have ih:=jsk (nm:=nm) (ls:=ls) (p:=p) (t:=t) hl n (i+1) omg_;rw[jgr];simp only[j6D,show B es.length=(es.length:d) from rfl];rw[j00 omg_,j0O,j05 (x:=(i:d)+1),G hlt];simp only[j6,j8,hgd];have ha:jb4 (es[i]::es.drop (i+1)) p t=((es[i].1==0&&(es[i].2.1==p&&(X (es[i].2.2.2.1<=t)&&X (t<es[i].2.2.2.2))))||jb4 (es.drop (i+1)) p t):=rfl;have e:(cond (cond (cond (es[i].1==(0:d)) (es[i].2.1==p) Ö) (X (es[i].2.2.2.1<=t)) Ö) (X (t<es[i].2.2.2.2)) Ö)=(es[i].1==0&&(es[i].2.1==p&&(X (es[i].2.2.2.1<=t)&&X (t<es[i].2.2.2.2)))):=by cases es[i].1==(0:d)<;>cases es[i].2.1==p<;>cases X (es[i].2.2.2.1<=t)<;>rfl
  rw[e,ha];cases (es[i].1==0&&(es[i].2.1==p&&(X (es[i].2.2.2.1<=t)&&X (t<es[i].2.2.2.2)))) with
  |true=>rfl
  |false=>rw[j7,j03,Bool.false_or];exact ih
theorem jtP{nm:Á}{ls:o j0b}{es:o j1D}{p t:d}(hl:es.length<=1000):jjZ (nm,ls,es) p t=H (jb4 es p t):=by
 have:=jsk (nm:=nm) (ls:=ls) (p:=p) (t:=t) hl es.length 0 omg_;simp only[jjZ,show jej p t 0 nm ls es=_ from this,j4,Z];cases jb4 es p t<;>rfl
section
variable{zs:o j0D}{ps:o j0h}{cs:o CalT}(hs:SOk2 zs ps cs)
include hs
theorem jr6{ss:o j0r}{nm:Á}{ls:o j0b}{es:o j1D}(hel:es.length<=1000)(hll:ls.length<=1000)(hL:∀L∈ls,LCk zs.length ps.length cs.length L){t:d}(h0:0<=t)(h1:t<=8589934592):∀n:W,n<=ls.length->
  jdO t ((n:d)-1) zs ps cs ss nm ls es=H (match topI (j6P es t (pfX zs cs ls t)) n with|some i=> .inl ((i:d),pfX zs cs ls t i)|none=> .inr ())
 |0,hn=>by
  rw[jhV];simp only[j7x];rw[j01 omg_,j7,j06];rfl
 |n+1,hn=>by
  have hlt:n<ls.length:=omg_;have hgd:ls.getD n (J,0,(0,0),0,0,[],[],0,0)=ls[n]:=by simp[I,hlt]
  have ih:=jr6 (ss:=ss) (nm:=nm) hel hll hL h0 h1 n omg_;have hp:=jyx hs (hL _ (F hlt)) (ss:=ss) h0 h1;have e:pfX zs cs ls t n=perX zs cs ls[n] t:=by simp[pfX,I,hlt]
  rw[show ((n+1:W):d)-1=(n:d) by omega,jhV];simp only[j7x];rw[j00 (show (n:d)>=0 by omega),j0O,j05 (x:=(n:d)-1)];simp only[j6,j8,hgd];rw[show jkZ (zs,ps,cs,ss) (ls[n].1,ls[n].2.1,(ls[n].2.2.1.1,ls[n].2.2.1.2),ls[n].2.2.2.1,ls[n].2.2.2.2.1,ls[n].2.2.2.2.2.1,ls[n].2.2.2.2.2.2.1,ls[n].2.2.2.2.2.2.2.1,ls[n].2.2.2.2.2.2.2.2) t=_ from hp];simp only[j4,topI,j6P,e];by_cases hp0:0<=perX zs cs ls[n] t
  .rw[j00 (show perX zs cs ls[n] t>=0 from hp0)];simp only[j6,jtP hel,j4,Ø];cases jb4 es (perX zs cs ls[n] t) t with
   |true=>simp only[È,j7,j03];exact ih
   |false=>simp only[Ì,j6,e];exact j06 ..
  .rw[j01 (show¬perX zs cs ls[n] t>=0 from hp0)];simp only[j7,Ô,j03];exact ih
noncomputable def whoS(zs:o j0D)(cs:o CalT)(s:j0r)(t:d):Int:=jbw t (topP s.2.2 t (pfX zs cs s.2.1 t) s.2.1.length) s.2.2
theorem jzO{ss:o j0r}(hc:j6O (zs,ps,cs,ss)){i:W}(hi:i<ss.length){t:d}(h0:0<=t)(h1:t<=8589934592):jaY (zs,ps,cs,ss) (i:d) t=H (whoS zs cs ss[i] t):=by
 have hsc:=hc.sc _ (F hi);have hll:=hsc.ll;have hel:=hsc.el;have hgs:ss.getD i (J,[],[])=ss[i]:=by simp[I,hi]
 have e8:=jCV hc (jCY hs);have lp:=jr6 hs (ss:=ss) (nm:=ss[i].1) (es:=ss[i].2.2) omg_ omg_ hsc.ly h0 h1 ss[i].2.1.length (Ç _)
 have et:∃k,jiR (zs,ps,cs,ss) (i:d) t=H (k,topP ss[i].2.2 t (pfX zs cs ss[i].2.1 t) ss[i].2.1.length):=by
  simp only[jiR];rw[j0O];simp only[j6,j8,hgs,show B ss[i].2.1.length=(ss[i].2.1.length:d) from rfl];rw[j05 (x:=(ss[i].2.1.length:d)-1),show jdO t ((ss[i].2.1.length:d)-1) zs ps cs ss ss[i].1 ss[i].2.1 ss[i].2.2=_ from lp];simp only[j4,topP];cases topI (j6P ss[i].2.2 t (pfX zs cs ss[i].2.1 t)) ss[i].2.1.length with
  |none=>exact⟨_,rfl⟩
  |some k=>exact⟨_,rfl⟩
 obtain⟨k,et⟩:=et;have ef:=jwI (es:=ss[i].2.2) omg_ (t:=t) ss[i].2.2.length 0 (topP ss[i].2.2 t (pfX zs cs ss[i].2.1 t) ss[i].2.1.length) omg_;rw[Z]at ef;simp only[jaY,jqt,jvD,show B ss.length=(ss.length:d) from rfl];rw[j00 (show (i:d)>=0 by omega),j00 (show (i:d)<(ss.length:d) by omega),j00 (show t>=0 from h0),j00 h1];simp only[j6,e8,j4,beq_self_eq_true,È,j7,jgY,et];rw[j0O];simp only[j6,j8,hgs,jk0];rw[show jce ss[i].2.2 (topP ss[i].2.2 t (pfX zs cs ss[i].2.1 t) ss[i].2.1.length) t 0=_ from ef];rfl
omit hs in
theorem tabx{i:d}(h0:0<=i)(h1:i<(zs.length:d)){c:CfgT}:j7o (c,zs.map tb) i=H (tb (zAt zs i)):=by
 simp only[j7o,Ñ];rw[j0X h0 h1,j6,jsf h0 h1];rfl
end
theorem jpI(t:d):∀(es:o j1D)(p:d)(x:j1D),jbw t p (es++[x])=jhf t (jbw t p es) x
 |[],_,_=>rfl
 |y::r,p,x=>jpI t r (jhf t p y) x
section
variable{zs:o j0D}{ps:o j0h}{cs:o CalT}(hs:SOk2 zs ps cs)
include hs
end
theorem jk4{α:Type}{l:o α}{i:W}(h:i<l.length):l.set i l[i]=l:=List.set_getElem_self h
theorem clZ{xs:o j0D}(h:xs.length<=1000):j29 xs=H xs:=by
 simp only[j29,D,O];rw[j00 (by simp[j02];omega),j6]
theorem clPs{xs:o j0h}(h:xs.length<=1000):j1C xs=H xs:=by
 simp only[j1C,D,O];rw[j00 (by simp[j02];omega),j6]
theorem clC{xs:o CalT}(h:xs.length<=1000):j1a xs=H xs:=by
 simp only[j1a,D,O];rw[j00 (by simp[j02];omega),j6]
theorem clS{xs:o j0r}(h:xs.length<=1000):j1b xs=H xs:=by
 simp only[j1b,D,O];rw[j00 (by simp[j02];omega),j6]
theorem clR{xs:o Rule}(h:xs.length<=1000):j1c xs=H xs:=by
 simp only[j1c,D,O];rw[j00 (by simp[j02];omega),j6]
theorem clW{xs:WL}(h:xs.length<=1000):j11 xs=H xs:=by
 simp only[j11,D,O];rw[j00 (by simp[j02];omega),j6]
theorem clI{xs:o d}(h:xs.length<=1000):j23 xs=H xs:=by
 simp only[j23,D,O];rw[j00 (by simp[j02];omega),j6]
theorem clL{xs:o j0b}(h:xs.length<=1000):j1e xs=H xs:=by
 simp only[j1e,D,O];rw[j00 (by simp[j02];omega),j6]
theorem clE{xs:o j1D}(h:xs.length<=1000):j1t xs=H xs:=by
 simp only[j1t,D,O];rw[j00 (by simp[j02];omega),j6]
section
variable{zs:o j0D}{ps:o j0h}{cs:o CalT}{ss:o j0r}{nm:Á}{ls:o j0b}{es:o j1D}
theorem jzP(hl:zs.length<=1000)(hr:∀z∈zs,z.2.2.length<=1000):∀n i:W,i+n=zs.length->jcO (zs.length:d) (i:d) zs ps cs ss=H (zs,ps,cs,ss)
 |0,i,hi=>by
  rw[jfh];simp only[j5J];rw[j01 omg_,j7,j06]
 |n+1,i,hi=>by
  have hlt:i<zs.length:=omg_;have hgd:zs.getD i (J,0,[])=zs[i]:=by simp[I,hlt]
  rw[jfh];simp only[j5J];rw[j00 omg_,j0O,j05 (x:=(i:d)+1)];simp only[j6,j8,hgd,clR (hr _ (F hlt)),j4,jk4 hlt,j03];exact jzP hl hr n (i+1) omg_
theorem jzQ(hl:ps.length<=1000)(hr:∀p∈ps,p.2.2.1.length<=1000):∀n i:W,i+n=ps.length->jcP (ps.length:d) (i:d) zs ps cs ss=H (zs,ps,cs,ss)
 |0,i,hi=>by
  rw[jfi];simp only[j5K];rw[j01 omg_,j7,j06]
 |n+1,i,hi=>by
  have hlt:i<ps.length:=omg_;have hgd:ps.getD i (J,0,[],0,0,Ö)=ps[i]:=by simp[I,hlt]
  rw[jfi];simp only[j5K];rw[j00 omg_,j0O,j05 (x:=(i:d)+1)];simp only[j6,j8,hgd,clW (hr _ (F hlt)),j4,jk4 hlt,j03];exact jzQ hl hr n (i+1) omg_
theorem jzR(hl:cs.length<=1000)(hr:∀c∈cs,c.2.2.length<=1000):∀n i:W,i+n=cs.length->jcQ (cs.length:d) (i:d) zs ps cs ss=H (zs,ps,cs,ss)
 |0,i,hi=>by
  rw[jfj];simp only[j5L];rw[j01 omg_,j7,j06]
 |n+1,i,hi=>by
  have hlt:i<cs.length:=omg_;have hgd:cs.getD i (J,0,[])=cs[i]:=by simp[I,hlt]
  rw[jfj];simp only[j5L];rw[j00 omg_,j0O,j05 (x:=(i:d)+1)];simp only[j6,j8,hgd,clI (hr _ (F hlt)),j4,jk4 hlt,j03];exact jzR hl hr n (i+1) omg_
theorem jzS{a b:d}(hl:ls.length<=1000)(hr:∀x∈ls,x.2.2.2.2.2.1.length<=1000/\x.2.2.2.2.2.2.1.length<=1000):∀n i:W,i+n=ls.length->jaB a b (ls.length:d) (i:d) nm zs ps cs ls es=H (a,b,nm,zs,ps,cs,ls,es)
 |0,i,hi=>by
  rw[jfk];simp only[j5M];rw[j01 omg_,j7,j06]
 |n+1,i,hi=>by
  have hlt:i<ls.length:=omg_;have hgd:ls.getD i (J,0,(0,0),0,0,[],[],0,0)=ls[i]:=by simp[I,hlt]
  obtain⟨h1,h2⟩:=hr _ (F hlt);rw[jfk];simp only[j5M];rw[j00 omg_,j0O,j05 (x:=(i:d)+1)];simp only[j6,j8,hgd,clI h1,clW h2,j4,jk4 hlt,j0X (show (0:d)<=(i:d) by omega) (show (i:d)<(ls.length:d) by omega),j03];exact jzS hl hr n (i+1) omg_
structure Sht(zs:o j0D)(ps:o j0h)(cs:o CalT)(ls:o j0b)(es:o j1D):Prop where
 z:zs.length<=1000/\∀z∈zs,z.2.2.length<=1000
 p:ps.length<=1000/\∀p∈ps,p.2.2.1.length<=1000
 c:cs.length<=1000/\∀c∈cs,c.2.2.length<=1000
 l:ls.length<=1000/\∀x∈ls,x.2.2.2.2.2.1.length<=1000/\x.2.2.2.2.2.2.1.length<=1000
 e:es.length<=1000
theorem jsl(h:Sht zs ps cs ls es):jfl (zs,ps,cs,[(nm,ls,es)])=H (zs,ps,cs,nm,ls,es):=by
 simp only[jfl,clZ h.z.1,clPs h.p.1,clC h.c.1,clS (xs:=[(nm,ls,es)]) smp_,j4];have l0:=jzP (ss:=[(nm,ls,es)]) (ps:=ps) (cs:=cs) h.z.1 h.z.2 zs.length 0 omg_;have l2:=jzQ (ss:=[(nm,ls,es)]) (zs:=zs) (cs:=cs) h.p.1 h.p.2 ps.length 0 omg_;have l4:=jzR (ss:=[(nm,ls,es)]) (zs:=zs) (ps:=ps) h.c.1 h.c.2 cs.length 0 omg_;have l8:=jzS (a:=1) (b:=0) (nm:=nm) (es:=es) (zs:=zs) (ps:=ps) (cs:=cs) h.l.1 h.l.2 ls.length 0 omg_;rw[show jcO (B zs.length) 0 zs ps cs [(nm,ls,es)]=_ from l0];simp only[j4];rw[show jcP (B ps.length) 0 zs ps cs [(nm,ls,es)]=_ from l2];simp only[j4];rw[show jcQ (B cs.length) 0 zs ps cs [(nm,ls,es)]=_ from l4];simp only[j4,Ã,List.getD_cons_zero];rw[show Nat.beq 1 1=Ó from rfl,j6];simp only[j4,clL h.l.1,clE h.e];rw[show jaB 1 0 (B ls.length) 0 nm zs ps cs ls es=_ from l8];simp only[j4];rw[j05 (x:=(0:d)+1),j01 omg_,j7]
theorem jwK(hc:j6O (zs,ps,cs,[(nm,ls,es)])):Sht zs ps cs ls es:=by
 have hk:=hc.sc (nm,ls,es) smp_
 refine⟨⟨by have:=hc.zl;dsimp only at this;omega,λz hz=>(hc.zc z hz).len⟩,⟨by have:=hc.pl;dsimp only at this;omega,λp hp=>by have:=(hc.pc p hp).wl;omega⟩,
  ⟨by have:=hc.cl;dsimp only at this;omega,λc hcc=>by have:=(hc.cc c hcc).len;omega⟩,⟨by have:=hk.ll;dsimp only at this;omega,λx hx=>?_⟩,by have:=hk.el;dsimp only at this;omega⟩
 have h:=hk.ly x hx;have:=h.m1;have:=h.wl;omega
theorem jsm(hc:j6O (zs,ps,cs,[(nm,ls,es)])):jhK (zs,ps,cs,[(nm,ls,es)]) 0=H (0,zs,ps,cs,nm,ls,es):=by
 simp only[jhK,show j1R (zs,ps,cs,[(nm,ls,es)])=H 0 from jez hc,j4,bne_self_eq_false,j7,j8D,Ã];rw[j00 (show (0:d)>=0 by omega),j00 (show (0:d)<B 1 by decide)];simp only[j6,È,j7,jsl (jwK hc),j4]
theorem jwL(hc:j6O (zs,ps,cs,[(nm,ls,es)])){x:j1D}(hc':j6O (zs,ps,cs,[(nm,ls,es++[x])])) :
  jbC (zs,ps,cs,[(nm,ls,es)]) 0 x=H ((zs,ps,cs,[(nm,ls,es++[x])]),0):=by
 have hel:=(jwK hc).e;simp only[jbC,jsm hc,j4,bne_self_eq_false,j7,Ã];rw[j0X (show (0:d)<=0 by omega) (show (0:d)<((1:W):d) by omega),j6,j00 (by simp[j02];omega),j6];simp only[show j1R (zs,ps,cs,[(nm,ls,es++[(x.1,x.2.1,x.2.2.1,x.2.2.2.1,x.2.2.2.2)])])=H 0 from jez hc',j4,bne_self_eq_false,j7]
end
theorem jwM{es:o j1D}{t:d}{x:j1D}{Pf:W->d}(h:x.1≠0\/t<x.2.2.2.1\/x.2.2.2.2<=t):j6P (es++[x]) t Pf=j6P es t Pf:=by
 funext i
 have e:(x.1==0&&(x.2.1==Pf i&&(X (x.2.2.2.1<=t)&&X (t<x.2.2.2.2))))=false:=by
  rcases h with h|h|h
  .rw[j1G h];rfl
  .rw[j01 (show¬x.2.2.2.1<=t by omega)];simp
  .rw[j01 (show¬t<x.2.2.2.2 by omega)];simp
 simp only[j6P,jb4,List.any_append,List.any_cons,List.any_nil,Bool.or_false,e]
theorem jwN{es es':o j1D}{t:d}{Pf:W->d}{n:W}(h:j6P es t Pf=j6P es' t Pf):topP es t Pf n=topP es' t Pf n:=by
 unfold topP;rw[h]
theorem jsn{zs:o j0D}{cs:o CalT}{nm:Á}{ls:o j0b}{es:o j1D}{t:d}{x:j1D}(h:x.1≠0\/t<x.2.2.2.1\/x.2.2.2.2<=t) :
  whoS zs cs (nm,ls,es++[x]) t=jhf t (whoS zs cs (nm,ls,es) t) x:=by
 show jbw t (topP (es++[x]) t (pfX zs cs ls t) ls.length) (es++[x])=jhf t (jbw t (topP es t (pfX zs cs ls t) ls.length) es) x;rw[jwN (jwM h),jpI]
theorem jwO{t p:d}{x:j1D}(h:t<x.2.2.2.1\/x.2.2.2.2<=t):jhf t p x=p:=by
 unfold jhf;rw[if_pos h]
section
variable{zs:o j0D}{ps:o j0h}{cs:o CalT}(hs:SOk2 zs ps cs)
include hs
theorem jD3{nm:Á}{ls:o j0b}{es es':o j1D}(hc:j6O (zs,ps,cs,[(nm,ls,es)]))(he:∀x∈es',ECk ps.length x)(hl:es'.length<=48):j6O (zs,ps,cs,[(nm,ls,es')]):=by
 have hk:=hc.sc (nm,ls,es) smp_
 exact jwg hs smp_ (by simpa using hc.sn) (λy hy=>by
  simp only[List.mem_singleton]at hy;subst hy;exact⟨hk.nm,hk.ly,hk.ll,he,hl⟩)
end
theorem jBm{L:o d}{a:d}(h:DOk L a):∃zs ps cs nm ls es a',j6F L a 1=H ((zs,ps,cs,[(nm,ls,es)]),L,a')/\SOk2 zs ps cs/\j6O (zs,ps,cs,[(nm,ls,es)])/\ls.length<=3/\es.length<=3/\DOk L a':=by
 obtain⟨zs,ps,cs,ss,a1,e1,hs,g0,g1,g2,g3,d1⟩:=jtK (n:=1) h omg_ omg_
 obtain⟨s,rfl⟩:∃s,ss=[s]:=by
  match ss,g0,g1 with
  |[s],_,_=>exact⟨s,rfl⟩
  |s::s'::r,_,g1=>simp at g1;omega
 have hsg:=g3 s smp_;have hc:=jwg hs (ss:=[s]) smp_ (by rw[g2];exact jBa.take _) (λy h=>(g3 y h).ck);exact⟨zs,ps,cs,s.1,s.2.1,s.2.2,a1,e1,hs,hc,hsg.ll,hsg.el,d1⟩
section
variable{zs:o j0D}{ps:o j0h}{cs:o CalT}(hs:SOk2 zs ps cs)
include hs
end
section
variable{zs:o j0D}{ps:o j0h}{cs:o CalT}(hs:SOk2 zs ps cs)
include hs
end
section
variable{zs:o j0D}{ps:o j0h}{cs:o CalT}(hs:SOk2 zs ps cs)
include hs
end
theorem jyA{l:o d}(hl:l.length<=1000000):∃s,j6e l=H s/\s.Perm l/\s.Pairwise (· <= ·):=by
 grind[jy8,j6e]
def inB(f t x:d):Bool:= !(cond (X (x<=f)) Ó (X (x>=t)))
theorem jwP{l:o d}(hl:l.length<=1000000){f t:d}:∀(n i:W),i+n=l.length->(∀s∈l.take i,inB f t s=Ó)->
  (∃j:W,j1q f t (l.length:d) (i:d) l=H (.inl ((j:d),l))/\j<l.length/\(∀s∈l.take j,inB f t s=Ó)/\inB f t (l.getD j 0)=Ö)\/
  (j1q f t (l.length:d) (i:d) l=H (.inr l)/\∀s∈l,inB f t s=Ó)
 |0,i,hi,h=>by
  grind[j4Z,j0U,j06]
 |n+1,i,hi,h=>by
  rw[j4Z];simp only[j0U,jax];rw[j00 (show (i:d)<(l.length:d) by omega),j0O,j05 (x:=(i:d)+1)];simp only[j6,j8,j4];have hlt:i<l.length:=omg_;cases hc:(cond (X (l.getD i (0:d)<=f)) Ó (X (l.getD i (0:d)>=t))) with
  |true=>grind[j06,inB]
  |false=>simp only[j7,j03];refine jwP hl n (i+1) omg_ λs hs=>?_;grind[Y,inB]
theorem jr7{l:o d}(hl:l.length<=1000000){f t:d}:∀(n i j:W)(b:o d),j+n=l.length->i<=j->b.length=l.length->b.drop j=l.drop j->b.take i=(l.take j).filter (inB f t)->
  ∃(k:W)(b':o d),j2y f t (i:d) (j:d) b=H ((k:d),b')/\b'.length=l.length/\k<=l.length/\b'.take k=l.filter (inB f t)
 |0,i,j,b,hj,hij,hb,hd,ht=>by
  grind[j5F,j14,S0]
 |n+1,i,j,b,hj,hij,hb,hd,ht=>by
  have hlt:j<l.length:=omg_
  have hbj:b.getD j (0:d)=l[j]:=by
   have:b[j]? = l[j]? := by
    have h:=congrArg (λx=>x[0]?) hd;simpa[List.getElem?_drop]using h
   simp_all
  have hd':b.drop (j+1)=l.drop (j+1):=by have:=congrArg (Ú 1) hd;grind[Õ]
  have htk:l.take (j+1)=l.take j++[l[j]]:=by simp_all
  rw[j5F];simp(disch:=omega)only[j14,jax,hbj,S0];cases hc:(cond (X (l[j]<=f)) Ó (X (l[j]>=t))) with
  |true=>simp only[È,j7,j03];refine jr7 hl n i (j+1) b omg_ omg_ hb hd' ?_;grind[inB]
  |false=>simp only[Ì,j6,j03];refine jr7 hl n (i+1) (j+1) _ omg_ omg_ (by simpa using hb) ?_ ?_;all_goals grind[Í,Y,Î,inB]
theorem jtQ{l:o d}(hl:l.length<=1000000){f t:d}:∃n m,j3p l f t=H (n,m)/\m.take n.toNat=l.filter (inB f t):=by
 simp only[j3p,j4D,show B (List.length l)=(l.length:d) from rfl];rcases jwP (f:=f) (t:=t) hl l.length 0 omg_ smp_ with⟨j,e,hj,h1,h2⟩|⟨e,h⟩
 .rw[show ((0:W):d)=0 from rfl]at e;rw[e];simp only[j4,jjS];rw[j1G omg_,j05 (x:=(j:d)+1)];have hgd:l.getD j (0:d)=l[j]:=by simp[hj]
  rw[hgd]at h2
  obtain⟨k,b,e2,hb,hk,ht⟩:=jr7 (f:=f) (t:=t) hl (l.length-(j+1)) j (j+1) l omg_ omg_ rfl rfl (by
   grind[Y,Ï])
  grind
 .rw[show ((0:W):d)=0 from rfl]at e;rw[e];simp only[j4,j4j,beq_self_eq_true,j6];grind[Ï,S0]
def ddI:d->o d->o d
 |_,[]=>[]
 |p,x::r=>if x=p then ddI p r else x::ddI x r
theorem jr8:∀(l:o d)(p:d),∀x,x∈p::ddI p l↔x∈p::l
 |[],_,_=>Iff.rfl
 |y::r,p,x=>by
  unfold ddI;split
  .rename_i h;subst h;rw[jr8 r y x];simp
  .have:=jr8 r y x;rw[É,this,É,É,É]
theorem jr9:∀(l:o d)(p:d),(p::l).Pairwise (· <= ·)->(p::ddI p l).Pairwise (· < ·)
 |[],_,_=>by simp[ddI]
 |y::r,p,h=>by
  have h1:=List.pairwise_cons.1 h;unfold ddI;split
  .rename_i h;subst h;exact jr9 r y h1.2
  .have ih:=jr9 r y h1.2;refine List.pairwise_cons.2 ⟨λz hz=>?_,ih⟩;have hy:=h1.1 y smp_;rcases List.mem_cons.1 hz with rfl|hz
   .omega
   .have:=(List.pairwise_cons.1 ih).1 z hz;omega
theorem jwQ{l:o d}(hl:l.length<=1000000){k0:W}:∀(n s k:W)(b:o d),k0+s+n=l.length->1<=s->k<=k0+s-1->b.length=l.length->b.drop k=l.drop k->
  ∃(m:W)(b':o d),j3q (k:d) (k0:d) (s:d) b=H ((m:d),b')/\b'.length=l.length/\m<=l.length/\b'.take m=b.take k++ddI (l.getD (k0+s-1) 0) (l.drop (k0+s))
 |0,s,k,b,hn,hs,hk,hb,hd=>by
  rw[j6X];simp only[j1r,j8,show B (b.length-k0)=((b.length-k0:W):d) from rfl];rw[j01 omg_,j7,j06,U omg_];exact⟨k,b,rfl,hb,omg_,by simp[ddI]⟩
 |n+1,s,k,b,hn,hs,hk,hb,hd=>by
  have hlt:k0+s<l.length:=omg_
  have bget:∀j,k<=j->b[j]? = l[j]? := λj hj=>by
   have h:=congrArg (λx=>x[j-k]?) hd;grind
  have g1:b.getD (k0+s) (0:d)=l[k0+s]:=by grind
  have g2:b.getD (k0+(s-1)) (0:d)=l.getD (k0+s-1) 0:=by grind
  have e1:l.getD (k0+(s+1)-1) 0=l[k0+s]:=by
   simp_all
  rw[j6X];simp only[j1r,j8,show B (b.length-k0)=((b.length-k0:W):d) from rfl,show B k0=(k0:d) from rfl];rw[j00 (show (s:d)<((b.length-k0:W):d) by omega),j0X (show (0:d)<=(s:d) by omega) omg_,j05 (x:=(s:d)-1),j0X (show (0:d)<=(s:d)-1 by omega) omg_,j0X (show (0:d)<=(k:d) by omega) omg_,j05 (x:=(k:d)+1),j05 (x:=(s:d)+1),show ((s:d)-1).toNat=s-1 by omega,G hlt];simp only[j6,g1,g2,ddI];by_cases hc:l[k0+s]=l.getD (k0+s-1) 0
  .rw[show (l[k0+s] != l.getD (k0+s-1) 0)=Ö by rw[bne_eq_false_iff_eq];exact hc,if_pos hc,j7,j03];have ih:=jwQ hl (k0:=k0) n (s+1) k b omg_ omg_ omg_ hb hd;rw[e1,hc,show k0+(s+1)=k0+s+1 by omega]at ih;exact ih
  .rw[show (l[k0+s] != l.getD (k0+s-1) 0)=Ó by rw[bne_iff_ne];exact hc,if_neg hc,j6,j03]
   have ih:=jwQ hl (k0:=k0) n (s+1) (k+1) (b.set k l[k0+s]) omg_ omg_ omg_ (by simpa using hb) (by
    rw[Í omg_];have:=congrArg (Ú 1) hd;grind[Õ])
   rw[e1,show k0+(s+1)=k0+s+1 by omega]at ih;obtain⟨m,b',r1,r2,r3,r4⟩:=ih;refine⟨m,b',r1,r2,r3,?_⟩;grind[Y,Î]
def cpI:o d->o d
 |[]=>[]
 |a::r=>a::ddI a r
theorem jzT{l:o d}(hl:l.length<=1000000):∀(n k:W),k+n=l.length->1<=k->cpI l=l.take k++ddI (l.getD (k-1) 0) (l.drop k)->
  (∃(m:W)(b:o d),j17 (k:d) l=H (.inl ((m:d),b))/\b.take m=cpI l)\/(j17 (k:d) l=H (.inr l)/\cpI l=l)
 |0,k,hn,hk,hT=>by
  grind[j6Y,j1s,j06,ddI]
 |n+1,k,hn,hk,hT=>by
  have hlt:k<l.length:=omg_;have g1:l.getD k (0:d)=l[k]:=by simp[hlt]
  rw[G hlt]at hT;simp only[ddI]at hT;rw[j6Y];simp only[j1s,show B l.length=(l.length:d) from rfl];rw[j00 (show (k:d)<(l.length:d) by omega),j0X (show (0:d)<=(k:d) by omega) omg_,j05 (x:=(k:d)-1),j0X (show (0:d)<=(k:d)-1 by omega) omg_,j05 (x:=(k:d)+1),show ((k:d)-1).toNat=k-1 by omega,j00 (show (0:d)<=(k:d) by omega),j00 (show (k:d)<=(l.length:d) by omega)];simp only[j6,j8,g1,Bool.and_self,show B k=(k:d) from rfl];by_cases hc:l[k]=l.getD (k-1) 0
  .rw[if_pos hc]at hT;obtain⟨m,b,r1,r2,r3,r4⟩:=jwQ hl (k0:=k) n 1 k l omg_ omg_ omg_ rfl rfl;rw[show k+1-1=k by omega,g1,hc,<-hT]at r4;rw[j43 hc,j6,show j3q (k:d) (k:d) 1 l=_ from r1];simp(disch:=omega)only[Ø,S0];grind[j06]
  .rw[if_neg hc]at hT;rw[j1G hc,j7,j03];refine jzT hl n (k+1) omg_ omg_ ?_;grind[Y]
theorem jra{l:o d}(hl:l.length<=1000000):∃n m,j4L l=H (n,m)/\m.take n.toNat=cpI l:=by
 simp(disch:=omega)only[j4L,S0];by_cases h2:l.length<2
 .rw[j00 omg_,j6];refine⟨_,_,rfl,?_⟩;rw[j8,List.take_of_length_le (Ç _)];match l,h2 with
  |[],_=>rfl
  |[a],_=>rfl
  |_::_::_,h2=>simp at h2;omega
 .rw[j01 omg_,j7]
  have hT:cpI l=l.take 1++ddI (l.getD (1-1) 0) (l.drop 1):=by
   match l,h2 with
   |[],h2=>simp at h2
   |a::r,_=>rfl
  rcases jzT hl (l.length-1) 1 omg_ omg_ hT with⟨m,b,e,h⟩|⟨e,h⟩
  .rw[show j17 1 l=_ from e];refine⟨_,_,rfl,?_⟩;simpa using h
  .rw[show j17 1 l=_ from e];refine⟨_,_,rfl,?_⟩;rw[h];simp
theorem jBn{l:o d}(x:d):x∈cpI l↔x∈l:=by
 cases l with
 |nil=>exact Iff.rfl
 |cons a r=>exact jr8 r a x
theorem jBo{l:o d}(h:l.Pairwise (· <= ·)):(cpI l).Pairwise (· < ·):=by
 cases l with
 |nil=>exact .nil
 |cons a r=>exact jr9 r a h
theorem jrb:∀(l:o d)(p:d),(ddI p l).length<=l.length
 |[],_=>Ç _
 |y::r,p=>by
  unfold ddI;split
  .have:=jrb r p;simp;omega
  .have:=jrb r y;simp;omega
theorem jBp(l:o d):(cpI l).length<=l.length:=by
 cases l<;>grind[jrb,cpI]
theorem jwR{l:o d}(hl:l.length<=1000000){f t:d}:∃C,jfe l f t=H (C++[t])/\C.Pairwise (· < ·)/\C.length<=l.length/\(∀x,x∈C↔x∈l/\f<x/\x<t):=by
 obtain⟨n1,m1,e1,h1⟩:=jtQ (l:=l) omg_ (f:=f) (t:=t);have hfl:(l.filter (inB f t)).length<=l.length:=List.length_filter_le _ _;obtain⟨s,e2,p2,a2⟩:=jyA (l:=l.filter (inB f t)) omg_;have hsl:=p2.length_eq;obtain⟨n3,m3,e3,h3⟩:=jra (l:=s) omg_;have hcl:=jBp s;refine⟨cpI s,?_,jBo a2,omg_,λx=>?_⟩
 .simp(disch:=omega)only[jfe,j23,D,e1,h1,e2,e3,h3,S0]
 .rw[jBn,p2.mem_iff,List.mem_filter];grind[inB]
theorem jD4{ds:o d}(hs:ds.Pairwise (· < ·))(hl:ds.length<=128)(x:d):∃(k:W)(b:Bool),j2I ds x=H ((k:d),b)/\k<=ds.length/\(∀i,(hi:i<ds.length)->i<k->ds[i]<x)/\∀i,(hi:i<ds.length)->k<=i->x<=ds[i]:=by
 obtain⟨k,e,hk,h1,h2⟩:=jB3 hs hl (x:=x) ds.length 0 ds.length omg_ omg_ (Ç _) (λi _ h=>omg_) (λi hi h=>omg_);rw[show ((0:W):d)=0 from rfl]at e;simp only[j2I,show B ds.length=(ds.length:d) from rfl,e,j4,j8];by_cases hkl:k<ds.length
 .have hgd:ds.getD k (0:d)=ds[k]:=by simp[hkl]
  rw[j0O,j00 (show (k:d)<(ds.length:d) by omega),hgd];simp only[Bool.true_or,j6];by_cases hx:ds[k]=x
  .rw[j43 hx];exact⟨k,_,rfl,hk,h1,h2⟩
  .rw[j1G hx];simp only[j7,j8o,j4,bne_self_eq_false];exact⟨k,_,rfl,hk,h1,h2⟩
 .rw[j01 (show¬(k:d)<(ds.length:d) by omega)];simp only[Ì,Bool.or_true,j6,j7,Ô];exact⟨k,_,rfl,hk,h1,h2⟩
theorem jbF{a t:d}:∀(es:o j1D)(p:d),(∀x∈es,(x.2.2.2.1<=a↔x.2.2.2.1<=t)/\(x.2.2.2.2<=a↔x.2.2.2.2<=t))->jbw t p es=jbw a p es
 |[],_,_=>rfl
 |x::r,p,h=>by
  have hx:=h x smp_;simp only[jbw]
  have e:jhf t p x=jhf a p x:=by
   unfold jhf;have:(t<x.2.2.2.1\/x.2.2.2.2<=t)↔(a<x.2.2.2.1\/x.2.2.2.2<=a):=omg_;by_cases hc:a<x.2.2.2.1\/x.2.2.2.2<=a
   .rw[if_pos hc,if_pos (this.2 hc)]
   .rw[if_neg hc,if_neg (λh=>hc (this.1 h))]
  rw[e];exact jbF r _ (λy hy=>h y (by simp[hy]))
theorem jD5{es:o j1D}(hl:es.length<=1000){f t:d}{zs:o j0D}{ps:o j0h}{cs:o CalT}{ss:o j0r}{tbs:o (d×TrL)}{nm:Á}{ls:o j0b}:∀(n i:W)(acc:o d),i+n=es.length->acc.length<=2*i->
  j6Z f t es (es.length:d) (i:d) zs ps cs ss tbs nm ls es acc=H (f,t,zs,ps,cs,ss,tbs,nm,ls,es,acc++edB (es.drop i))
 |0,i,acc,hi,_=>by
  rw[jay];simp only[j2J];rw[j01 omg_,j7,j06,U omg_];simp[edB]
 |n+1,i,acc,hi,hacc=>by
  have hi':i<es.length:=omg_;have hgd:es.getD i (0,0,0,0,0)=es[i]:=by simp[I,hi']
  have ih:=jD5 hl (f:=f) (t:=t) (zs:=zs) (ps:=ps) (cs:=cs) (ss:=ss) (tbs:=tbs) (nm:=nm) (ls:=ls) n (i+1) (acc++[es[i].2.2.2.1,es[i].2.2.2.2]) omg_ sqo_;rw[jay];simp only[j2J];rw[j00 omg_,j0O,j05 (x:=(i:d)+1)];simp only[j6,j8,hgd];rw[j00 (by simp[j02];omega),j6,j03,G hi'];rw[Ð]at ih;exact ih
theorem jyB{es:o j1D}(hl:es.length<=100){p t:d}:jhF es p t=H (jbw t p es):=by
 have ef:=jwJ hl (t:=t) es.length 0 p omg_;rw[Z]at ef;simp only[jhF,show B es.length=(es.length:d) from rfl,show jcM p t es (es.length:d) 0=_ from ef];rfl
section
variable{es:o j1D}(hel:es.length<=100){K:o d}(hK:K.Pairwise (· < ·))(hKl:K.length<=128){a0 b:d}(hb:b∈K)(hin:∀x∈edB es,a0<x->x<b->x∈K)
include hel hK hKl hb hin
theorem jDR{g:d->d}{p u:d}(hu:u<=b){m q w:d}{nm:Á}{ls:o j0b}{R:SgL}{x:d}:∀(n i:W)(a:d)(acc:SgL),K.length-i<=n->a0<=a->a<=u->(a<u->i<K.length)->(∀k,(hk:k<K.length)->(a<u->(k<i->K[k]<=a)/\(i<=k->a<K[k])))->(∀t,a<=t->t<u->g t=p)->
  acc.length+(K.length-i)<=1000000000->Ch (λt=>jbw t (g t) es) a x acc->
  ∃out,j9d (i:d) a m q nm ls es w u p K acc R=H (m,q,nm,ls,es,K,out,R)/\Ch (λt=>jbw t (g t) es) u x out/\out.length<=acc.length+(K.length-i):=by
 intro n;induction n with
 |zero=>
  intro i a acc hn ha hau hi _ _ _ hch;rw[jaz];simp only[j2K];have hge:¬a<u:=λh=>by have:=hi h;omega
  rw[j01 hge,j7,j06];have:a=u:=omg_;subst this;exact⟨acc,rfl,hch,omg_⟩
 |succ n ih=>
  intro i a acc hn ha hau hi hsp hg hal hch;rw[jaz];simp only[j2K];by_cases hlt:a<u
  .have hil:=hi hlt;have hgd:K.getD i (0:d)=K[i]:=by simp[hil]
   have h1:=((hsp i hil) hlt).2 (Ç _);rw[j00 hlt,j0O,j05 (x:=(i:d)+1)];simp only[j6,j8,hgd,jyB hel,j4];rw[j00 (by simp[j02];omega),j6,j03];have hend:(if K[i]<u then K[i] else u)=min K[i] u:=by split<;>omega
   rw[hend];have hm1:a<min K[i] u:=omg_
   have hseg:∀t,a<=t->t<min K[i] u->jbw t (g t) es=jbw a p es:=λt t1 t2=>by
    rw[hg t t1 omg_];refine jbF es p (λy hy=>?_);obtain⟨y1,y2⟩:=jlI hy
    have key:∀c,c∈edB es->(c<=a↔c<=t):=λc hc=>by
     refine⟨λh=>omg_,λh=>?_⟩;apply A;intro hca;have hcK:=hin c hc omg_ omg_;obtain⟨k,hk,rfl⟩:=Æ hcK;by_cases hki:k<i
     .have:=((hsp k hk) hlt).1 hki;omega
     .by_cases hke:k=i
      .subst hke;omega
      .have:=List.pairwise_iff_getElem.1 hK i k hil hk omg_;omega
    exact⟨key _ y1,key _ y2⟩
   have hch':=hch.snoc (b:=a) (c:=min K[i] u) (p:=jbw a p es) omg_ hseg
   obtain⟨out,e,hc,hl⟩:=ih (i+1) (min K[i] u) (acc++[(a,min K[i] u,jbw a p es)]) omg_ omg_ omg_ (λh=>by
    apply A;intro hcon;obtain⟨k,hk,hkb⟩:=Æ hb;by_cases hki:k=i
    .subst hki;omega
    .have:=List.pairwise_iff_getElem.1 hK k i hk hil omg_;omega) (λk hk h=>⟨λhki=>by
    by_cases hke:k=i
    .subst hke;omega
    .have:=((hsp k hk) hlt).1 omg_;omega,λhki=>by
    have:=List.pairwise_iff_getElem.1 hK i k hil hk omg_;omega⟩) (λt t1 t2=>hg t omg_ t2) sqo_ hch'
   exact⟨out,e,hc,by simp at hl;omega⟩
  .rw[j01 hlt,j7,j06];have:a=u:=omg_;subst this;exact⟨acc,rfl,hch,omg_⟩
theorem jD6{g:d->d}{S:SgL}(hSl:S.length<=1000000){nm:Á}{ls:o j0b}(ha0 : -1000000000000<=a0)(hb1:b<=1000000000000){x:d}:∀(n i:W)(a:d)(acc:SgL),i+n=S.length->a0<=a->Ch g b a (S.drop i)->Ch (λt=>jbw t (g t) es) a x acc->acc.length<=128*i->
  ∃out,j70 (S.length:d) (i:d) nm ls es K acc S=H out/\Ch (λt=>jbw t (g t) es) b x out/\out.length<=128*S.length
 |0,i,a,acc,hi,_,hc,hch,hal=>by
  rw[U omg_]at hc;have hc:a=b:=hc;subst hc;rw[jaA];simp only[j2L];rw[j01 omg_,j7,j06];exact⟨acc,rfl,hch,omg_⟩
 |n+1,i,a,acc,hi,ha,hc,hch,hal=>by
  have hi':i<S.length:=omg_;rw[G hi']at hc;obtain⟨c1,c2,c3,c4⟩:=hc;have hle:=c4.le;have hgd:S.getD i (0,0,0)=S[i]:=by simp[I,hi']
  obtain⟨k,bb,ek,hk,k1,k2⟩:=jD4 hK hKl (a+1)
  obtain⟨out,e4,hc4,hl4⟩:=jDR hel hK hKl hb hin (g:=g) (p:=S[i].2.2) (u:=S[i].2.1) hle (m:=(S.length:d)) (q:=(i:d)) (w:=S[i].1) (nm:=nm) (ls:=ls) (R:=S) (x:=x) K.length k a acc omg_ ha c2 (λh=>by
   apply A;intro hcon;obtain⟨j,hj,hjb⟩:=Æ hb;have:=k1 j hj omg_;omega) (λj hj _=>⟨λh=>by have:=k1 j hj h;omega,λh=>by have:=k2 j hj h;omega⟩) c3 omg_ hch
  have ih:=jD6 hSl (nm:=nm) (ls:=ls) ha0 hb1 (g:=g) (x:=x) n (i+1) S[i].2.1 out omg_ omg_ c4 hc4 omg_;rw[jaA];simp only[j2L];rw[j00 omg_,j0O];simp only[j6,j8,hgd,c1];rw[j05 (x:=a+1),ek];simp only[j4];rw[c1]at e4;rw[e4];simp only[j4];rw[j05 (x:=(i:d)+1),j03];exact ih
end
section
variable{zs:o j0D}{ps:o j0h}{cs:o CalT}(hs:SOk2 zs ps cs)
include hs
theorem jrc{s:j0r}(hk:SCk zs.length ps.length cs.length s)(hll:s.2.1.length<=3)(hel:s.2.2.length<=48){ss:o j0r}{a b:d}(ha:0<=a)(hab:a<b)(hb:b<=8589934592)(hlen:b-a<=2592000) :
  ∃out,j1N ((zs,ps,cs,ss),zs.map tb) s a b=H out/\Cov (whoS zs cs s) b none a out/\out.length<=10000000:=by
 obtain⟨S,eS,hS,lS⟩:=jwG hs (nm:=s.1) hk.ly omg_ hk.ed omg_ (ss:=ss) ha omg_ hb omg_;have l0:=jD5 (es:=s.2.2) omg_ (f:=a) (t:=b) (zs:=zs) (ps:=ps) (cs:=cs) (ss:=ss) (tbs:=zs.map tb) (nm:=s.1) (ls:=s.2.1) s.2.2.length 0 [] omg_ smp_;rw[D,Z]at l0;have hbl:=jjb s.2.2;obtain⟨C,eC,c1,c2,c3⟩:=jwR (l:=edB s.2.2) omg_ (f:=a) (t:=b)
 have hKp:(C++[b]).Pairwise (· < ·):=List.pairwise_append.2 ⟨c1,List.pairwise_singleton _ _,λx hx y hy=>by
  simp at hy;subst hy;exact((c3 x).1 hx).2.2⟩
 obtain⟨M,e2,hM,lM⟩:=jD6 (es:=s.2.2) omg_ hKp sqo_ (a0:=a) (b:=b) smp_ (λx hx x1 x2=>Ä _ ((c3 x).2 ⟨hx,x1,x2⟩)) (g:=λt=>topP s.2.2 t (pfX zs cs s.2.1 t) s.2.1.length) (S:=S) omg_ (nm:=s.1) (ls:=s.2.1) omg_ omg_ (x:=a) S.length 0 a [] omg_ omg_ (by rw[Z];exact hS.ch) rfl smp_;obtain⟨out,e3,h3,l3⟩:=jlF (l:=M) omg_ hM;refine⟨out,?_,h3,omg_⟩;simp only[j1N,show B s.2.2.length=(s.2.2.length:d) from rfl];rw[show j6Z a b s.2.2 (s.2.2.length:d) 0 zs ps cs ss (zs.map tb) s.1 s.2.1 s.2.2 []=_ from l0];simp only[j4,eC];rw[show j4Q ((zs,ps,cs,ss),zs.map tb) (s.1,s.2.1,s.2.2) a b=_ from eS];simp only[j4,show B S.length=(S.length:d) from rfl];rw[show j70 (S.length:d) 0 s.1 s.2.1 s.2.2 (C++[b]) [] S=_ from e2];simp only[j4,e3]
end
set_option linter.unusedSectionVars false
def InO(p:d):SL->Prop
 |[]=>True
 |x::r=>p<=x.1/\x.1<x.2/\InO x.2 r
theorem InO.weak{p q:d}(hq:q<=p):∀{l:SL},InO p l->InO q l
 |[],_=>trivial
 |_::_,h=>⟨by have:=h.1;omega,h.2⟩
section
variable{zs:o j0D}{ps:o j0h}{cs:o CalT}(hs:SOk2 zs ps cs)
include hs
end
section
variable{zs:o j0D}{ps:o j0h}{cs:o CalT}(hs:SOk2 zs ps cs)
include hs
end
theorem jo5{f:d->d}{b v:d}:∀{l:SgL}{q:Option d}{a:d},Cov f b q a l->2*(l.filter λs=>s.2.2==v).length<=l.length+1/\(q=H v->2*(l.filter λs=>s.2.2==v).length<=l.length)
 |[],_,_,_=>smp_
 |s::r,q,a,h=>by
  obtain⟨_,_,h3,_,h5⟩:=h;have ih:=jo5 (v:=v) h5;by_cases hv:s.2.2=v
  .have e:((s::r).filter λs=>s.2.2==v)=s::(r.filter λs=>s.2.2==v):=by simp[hv]
   rw[e];have:=ih.2 (by rw[hv]);refine⟨by simp only[À];omega,λhq=>absurd (by rw[hq,hv]) h3⟩
  .have e:((s::r).filter λs=>s.2.2==v)=r.filter λs=>s.2.2==v:=by simp[hv]
   rw[e];have:=ih.1;exact⟨by simp only[À];omega,λ_=>by simp only[À];omega⟩
def spP(v:d)(S:SgL):SL:=(S.filter λs=>s.2.2==v).map λs=>(s.1,s.2.1)
theorem jyC(v:d)(s:SgT)(r:SgL):spP v (s::r)=(if s.2.2=v then [(s.1,s.2.1)] else [])++spP v r:=by
 unfold spP;by_cases hv:s.2.2=v
 .simp[hv]
 .simp[hv]
theorem jpJ{f:d->d}{a b v:d}{S:SgL}(h:Cov f b none a S){x:d}:inS x (spP v S)↔a<=x/\x<b/\f x=v:=by
 unfold inS spP;constructor
 .rintro⟨u,hu,h1,h2⟩
  obtain⟨s,hs,rfl⟩:=List.mem_map.1 hu;have hm:=List.mem_filter.1 hs;have hc:=h.ch.mem _ hm.1;have hv:s.2.2=v:=by simpa using hm.2
  exact⟨by dsimp only at h1;omega,by dsimp only at h2;omega,by rw[<-hv];exact hc.2.2.2 x h1 h2⟩
 .rintro⟨h0,h1,h2⟩
  obtain⟨s,hs,c1,c2⟩:=h.ch.has x h0 h1;have hc:=h.ch.mem _ hs;exact⟨_,List.mem_map.2 ⟨s,List.mem_filter.2 ⟨hs,by rw[<-hc.2.2.2 x c1 c2,h2];exact beq_self_eq_true _⟩,rfl⟩,c1,c2⟩
theorem jyD{v:d}{S:SgL}(hS:S.length<=1000000):∀(n i:W)(acc:SL),i+n=S.length->acc.length<=i->
  j5I v S (S.length:d) (i:d) acc=H (acc++spP v (S.drop i))
 |0,i,acc,hi,_=>by
  rw[jbb];simp only[j3e];rw[j01 omg_,j7,j06,U omg_];simp[spP]
 |n+1,i,acc,hi,ha=>by
  have hi':i<S.length:=omg_;have hgd:S.getD i (0,0,0)=S[i]:=by simp[I,hi']
  rw[jbb];simp only[j3e];rw[j00 (show (i:d)<(S.length:d) by omega),j0O,j05 (x:=(i:d)+1)];simp only[j6,j8,hgd];have hd:spP v (S.drop i)=(if S[i].2.2=v then [(S[i].1,S[i].2.1)] else [])++spP v (S.drop (i+1)):=by rw[G hi',jyC]
  rw[hd];by_cases hv:S[i].2.2=v
  .rw[if_pos hv];rw[j43 hv,j6,j00 (by simp[j02];omega),j6,j03];have ih:=jyD (v:=v) hS n (i+1) (acc++[(S[i].1,S[i].2.1)]) omg_ sqo_;rw[show ((i+1:W):d)=(i:d)+1 by omega]at ih;rw[Ð]at ih;exact ih
  .rw[if_neg hv,D];rw[j1G hv,j7,j03];have ih:=jyD (v:=v) hS n (i+1) acc omg_ omg_;rw[show ((i+1:W):d)=(i:d)+1 by omega]at ih;exact ih
section
variable{zs:o j0D}{ps:o j0h}{cs:o CalT}(hs:SOk2 zs ps cs)
include hs
theorem jyE{L:j0b}(hL:LCk zs.length ps.length cs.length L){ss:o j0r}{a b:d}(ha:0<=a)(hab:a<=b)(hb:b<=8589934592){M:W}(hM:M<=60)(hlen:b-a<=604800*M) :
  ∃out,j28 ((zs,ps,cs,ss),zs.map tb) L a b=H out/\Cov (perX zs cs L) b none a out/\out.length<=308*M+191:=by
 obtain⟨out,e,h1,h2⟩:=jwm hs hL (ss:=ss) ha hab hb hM hlen (N:=((b-a)/3600+8).toNat) omg_ (jCP hs hL ha omg_) (jwn hs hL ha hb);refine⟨out,e,h1,?_⟩;have hw:L.2.2.2.2.2.2.1.length*(M+1)*5<=14*(M+1)*5:=Å _ (Å _ hL.wl)
 have hc:(if L.2.2.2.2.2.2.2.2=0 then 0 else (cAt cs L.2.2.2.2.2.2.2.1).2.2.length*5)<=4*5:=by
  by_cases hm:L.2.2.2.2.2.2.2.2=0
  .rw[if_pos hm];omega
  .rw[if_neg hm];refine Å _ (hs.c.dl _ ?_);have hq:=hL.cal hm;have hi:(L.2.2.2.2.2.2.2.1).toNat<cs.length:=omg_;unfold cAt;rw[show cs.getD (L.2.2.2.2.2.2.2.1).toNat (J,0,[])=cs[(L.2.2.2.2.2.2.2.1).toNat] by simp[I,hi]];exact F hi
 omega
theorem jso{a b:d}(ha:0<=a)(hab:a<=b)(hb:b<=8589934592){M K:W}(hM:M<=60)(hlen:b-a<=604800*M)(hK:K=308*M+191):∀ls:o j0b,(∀L∈ls,LCk zs.length ps.length cs.length L)->
  ∃E:o d,E.length<=K*ls.length/\∀L∈ls,∀x,a<x->x<b->perX zs cs L (x-1)≠perX zs cs L x->x∈E
 |[],_=>⟨[],smp_,smp_⟩
 |L::ls,hL=>by
  obtain⟨E,e1,e2⟩:=jso ha hab hb hM hlen hK ls (λM hM=>hL M (by simp[hM]));obtain⟨S,_,c1,l1⟩:=jyE hs (hL L smp_) (ss:=[]) ha hab hb hM hlen;refine⟨brd S++E,?_,λM hM x x1 x2 x3=>?_⟩
  .have:(brd S).length<=S.length:=by simp[brd]
   rw[Â,À,Ù];omega
  .rcases List.mem_cons.1 hM with rfl|hM
   .exact Ä _ (((jlH c1).1 x).2 ⟨x1,x2,x3⟩)
   .exact Ë _ (e2 M hM x x1 x2 x3)
theorem jwS{s:j0r}(hk:SCk zs.length ps.length cs.length s){a b:d}(ha:0<=a)(hab:a<=b)(hb:b<=8589934592){M K:W}(hM:M<=60)(hlen:b-a<=604800*M)(hK:K=308*M+191) :
  ∃E:o d,E.length<=K*s.2.1.length+2*s.2.2.length/\∀x,a<x->x<b->whoS zs cs s (x-1)≠whoS zs cs s x->x∈E:=by
 obtain⟨E,e1,e2⟩:=jso hs ha hab hb hM hlen hK s.2.1 hk.ly;refine⟨E++edB s.2.2,by rw[Â,jjb];omega,λx x1 x2 x3=>?_⟩;apply A;intro hn;simp only[Ò,not_or]at hn;refine x3 ?_
 have hT:topP s.2.2 (x-1) (pfX zs cs s.2.1 (x-1)) s.2.1.length=topP s.2.2 x (pfX zs cs s.2.1 x) s.2.1.length:=by
  refine jgh (λi hi=>?_) (λp=>jlJ hn.2 p);apply A;intro hne;have e:∀t,pfX zs cs s.2.1 t i=perX zs cs s.2.1[i] t:=λt=>by simp[pfX,I,hi]
  rw[e,e]at hne;exact hn.1 (e2 _ (F hi) x x1 x2 hne)
 unfold whoS;rw[hT];refine(jbF _ _ λy hy=>?_).symm;obtain⟨m1,m2⟩:=jlI hy;have n1:x≠y.2.2.2.1:=λe=>hn.2 (e▸m1);have n2:x≠y.2.2.2.2:=λe=>hn.2 (e▸m2);omega
theorem jyF{s:j0r}(hk:SCk zs.length ps.length cs.length s){a b:d}(ha:0<=a)(hab:a<=b)(hb:b<=8589934592)(hlen:b-a<=604800) :
  ∃E:o d,E.length<=500*s.2.1.length+2*s.2.2.length/\∀x,a<x->x<b->whoS zs cs s (x-1)≠whoS zs cs s x->x∈E:=by
 obtain⟨E,e1,e2⟩:=jwS hs hk ha hab hb (M:=1) omg_ omg_ rfl;exact⟨E,omg_,e2⟩
theorem jBq{ss:o j0r}(hc:j6O (zs,ps,cs,ss)){i:W}(hi:i<ss.length)(hll:ss[i].2.1.length<=3)(hel:ss[i].2.2.length<=48){a b:d}(ha:0<=a)(hab:a<b)(hb:b<=8589934592)(hlen:b-a<=604800) :
  ∃out,j9p (zs,ps,cs,ss) (i:d) a b=H (out,0)/\StS (a-1) out/\(∀x,inS x out↔a<=x/\x<b/\whoS zs cs ss[i] x = -1)/\out.length<=4096/\∀u∈out,a<=u.1/\u.2<=b:=by
 have hsc:=hc.sc _ (F hi);have hgs:ss.getD i (J,[],[])=ss[i]:=by simp[I,hi]
 obtain⟨S,eS,hS,lS⟩:=jrc hs hsc hll hel (ss:=ss) (a:=a) (b:=b) ha hab hb omg_;obtain⟨E,e1,e2⟩:=jyF hs hsc ha (Ê hab) hb hlen;have hSl:=jo4 hS e2;have hsl:2*(spP (-1) S).length<=S.length+1:=by have:=(jo5 (v:= -1) hS).1;unfold spP;rw[Ñ];exact this
 have tl:=jyD (v:= -1) (S:=S) omg_ S.length 0 [] omg_ smp_;rw[D,Z]at tl
 have hbd:∀u∈spP (-1) S,a<=u.1/\u.2<=b/\u.1<u.2:=λu hu=>by
  obtain⟨s,hm,rfl⟩:=List.mem_map.1 hu;have hm:=(List.mem_filter.1 hm).1;have hc:=hS.ch.mem _ hm;exact⟨hc.1,hc.2.2.1,hS.pos _ hm⟩
 obtain⟨out,e3,h1,h2,h3,h4⟩:=jeB (l:=spP (-1) S) omg_ (λu hu=>by have:=hbd u hu;omega) (lo:=a) (hi:=b) (λu hu _=>⟨(hbd u hu).1,(hbd u hu).2.1⟩);refine⟨out,?_,h1,λx=>(h2 x).trans (jpJ hS),omg_,h4⟩;simp only[j9p,jfn,j4F];rw[show jaa (zs,ps,cs,ss) (i:d) a b=_ from jmR hs hc hi ha (Ê hab) hb omg_];simp only[j4,bne_self_eq_false,j7];rw[j0O];simp only[j6,j8,hgs];rw[show j1N ((zs,ps,cs,ss),zs.map tb) (ss[i].1,ss[i].2.1,ss[i].2.2) a b=_ from eS];simp only[j4,show B S.length=(S.length:d) from rfl];rw[j01 (show¬(S.length:d)>16384 by omega)];simp only[j7,j4,bne_self_eq_false,j5j,show B S.length=(S.length:d) from rfl];rw[show j5I (-1) S (S.length:d) 0 []=_ from tl];simp only[j4,e3,show B out.length=(out.length:d) from rfl];rw[j01 (show¬(out.length:d)>4096 by omega)];rfl
end
section
variable{zs:o j0D}{ps:o j0h}{cs:o CalT}(hs:SOk2 zs ps cs)
include hs
theorem jsp{a b:d}(ha:0<=a)(hab:a<=b)(hb:b<=8589934592){M K:W}(hM:M<=60)(hlen:b-a<=604800*M)(hK:K=58*M+81):∀ls:o j0b,(∀L∈ls,LCk zs.length ps.length cs.length L)->
  ∃E:o d,E.length<=K*ls.length/\∀L∈ls,∀x,a<x->x<b->perX zs cs L (x-1)≠perX zs cs L x->x∈E
 |[],_=>⟨[],smp_,smp_⟩
 |L::ls,hL=>by
  obtain⟨E,e1,e2⟩:=jsp ha hab hb hM hlen hK ls (λM hM=>hL M (by simp[hM]));obtain⟨S,_,c1,l1⟩:=jo3 hs (hL L smp_) (ss:=[]) ha hab hb hM hlen;refine⟨brd S++E,?_,λM hM x x1 x2 x3=>?_⟩
  .have:(brd S).length<=S.length:=by simp[brd]
   rw[Â,À,Ù];omega
  .rcases List.mem_cons.1 hM with rfl|hM
   .exact Ä _ (((jlH c1).1 x).2 ⟨x1,x2,x3⟩)
   .exact Ë _ (e2 M hM x x1 x2 x3)
theorem jwT{s:j0r}(hk:SCk zs.length ps.length cs.length s){a b:d}(ha:0<=a)(hab:a<=b)(hb:b<=8589934592){M K:W}(hM:M<=60)(hlen:b-a<=604800*M)(hK:K=58*M+81) :
  ∃E:o d,E.length<=K*s.2.1.length+2*s.2.2.length/\∀x,a<x->x<b->whoS zs cs s (x-1)≠whoS zs cs s x->x∈E:=by
 obtain⟨E,e1,e2⟩:=jsp hs ha hab hb hM hlen hK s.2.1 hk.ly;refine⟨E++edB s.2.2,by rw[Â,jjb];omega,λx x1 x2 x3=>?_⟩;apply A;intro hn;simp only[Ò,not_or]at hn;refine x3 ?_
 have hT:topP s.2.2 (x-1) (pfX zs cs s.2.1 (x-1)) s.2.1.length=topP s.2.2 x (pfX zs cs s.2.1 x) s.2.1.length:=by
  refine jgh (λi hi=>?_) (λp=>jlJ hn.2 p);apply A;intro hne;have e:∀t,pfX zs cs s.2.1 t i=perX zs cs s.2.1[i] t:=λt=>by simp[pfX,I,hi]
  rw[e,e]at hne;exact hn.1 (e2 _ (F hi) x x1 x2 hne)
 unfold whoS;rw[hT];refine(jbF _ _ λy hy=>?_).symm;obtain⟨m1,m2⟩:=jlI hy;have n1:x≠y.2.2.2.1:=λe=>hn.2 (e▸m1);have n2:x≠y.2.2.2.2:=λe=>hn.2 (e▸m2);omega
end
theorem jyG{np:W}{t p:d}{x:j1D}(h:ECk np x)(hp:p<np):jhf t p x<np:=by
 have ha:=h.a;have hb:=h.b;unfold jhf;split
 .exact hp
 .split
  .omega
  .split
   .rename_i h1;have:=hb h1.1;omega
   .split
    .rename_i h1;have:=hb h1.1;omega
    .exact hp
theorem jsq{np:W}{t:d}:∀(es:o j1D)(p:d),(∀x∈es,ECk np x)->p<np->jbw t p es<np
 |[],_,_,hp=>hp
 |x::r,p,h,hp=>by
  simp only[jbw];exact jsq r _ (λy hy=>h y (by simp[hy])) (jyG (h x smp_) hp)
section
variable{zs:o j0D}{ps:o j0h}{cs:o CalT}(hs:SOk2 zs ps cs)
include hs
theorem jBr{s:j0r}(hk:SCk zs.length ps.length cs.length s){t:d}(h0:0<=t)(h1:t<=8589934592):whoS zs cs s t<ps.length:=by
 unfold whoS;refine jsq _ _ hk.ed ?_;unfold topP;cases hT:topI (j6P s.2.2 t (pfX zs cs s.2.1 t)) s.2.1.length with
 |none=>dsimp only;omega
 |some k=>
  have hkl:=jwH hT;have e:pfX zs cs s.2.1 t k=perX zs cs s.2.1[k] t:=by simp[pfX,I,hkl]
  dsimp only
  rw[e];exact(jwh hs (hk.ly _ (F hkl)) h0 h1).2.2
theorem jyH{ss:o j0r}(hc:j6O (zs,ps,cs,ss)){i:W}(hi:i<ss.length)(hll:ss[i].2.1.length<=3)(hel:ss[i].2.2.length<=48){a b:d}(ha:0<=a)(hab:a<b)(hb:b<=8589934592)(hlen:b-a<=2592000) :
  ∃S,j4F (zs,ps,cs,ss) (i:d) a b=H (S,0)/\Cov (whoS zs cs ss[i]) b none a S/\S.length<=16384:=by
 have hsc:=hc.sc _ (F hi);have hgs:ss.getD i (J,[],[])=ss[i]:=by simp[I,hi]
 obtain⟨S,eS,hS,lS⟩:=jrc hs hsc hll hel (ss:=ss) (a:=a) (b:=b) ha hab hb omg_;obtain⟨E,e1,e2,e3⟩:=jwF hs (es:=ss[i].2.2) hsc.ly ha (Ê hab) hb hlen
 have hSl:S.length<=E.length+1:=jo4 hS (λx x1 x2 x3=>by
  apply A;intro hn;refine x3 ?_;have hT:topP ss[i].2.2 (x-1) (pfX zs cs ss[i].2.1 (x-1)) ss[i].2.1.length=topP ss[i].2.2 x (pfX zs cs ss[i].2.1 x) ss[i].2.1.length:=by apply A;intro hne;exact hn (e2 x x1 x2 hne)
  unfold whoS;rw[hT];refine(jbF _ _ λy hy=>?_).symm;obtain⟨m1,m2⟩:=jlI hy;have n1:x≠y.2.2.2.1:=λe=>hn (e▸e3 _ m1);have n2:x≠y.2.2.2.2:=λe=>hn (e▸e3 _ m2);omega)
 refine⟨S,?_,hS,omg_⟩;simp only[j4F];rw[show jaa (zs,ps,cs,ss) (i:d) a b=_ from jmR hs hc hi ha (Ê hab) hb omg_];simp only[j4,bne_self_eq_false,j7];rw[j0O];simp only[j6,j8,hgs];rw[show j1N ((zs,ps,cs,ss),zs.map tb) (ss[i].1,ss[i].2.1,ss[i].2.2) a b=_ from eS];simp only[j4,show B S.length=(S.length:d) from rfl];rw[j01 (show¬(S.length:d)>16384 by omega)];rfl
end
end Go.Proofs.Pw
