/- IV: what they do is what the qA says. -/
import Derived.Test.YtgfoijaggkhgnaaGreatLXLB
import Derived.Laws.Cover3
import Derived.RangeFuncNested
import Derived.OrdersIn
import Derived.Maps.Range
open Option renaming some->B,none->Â
open _root_ renaming Nat->G,Option->H,List->U,Array->Ã,Bool->Ç,Int->Î
open Bool renaming false->O,true->X,not_eq_true->ú
open Go renaming World->Y,Value->À,Act->Á,Program->Å,Oper->Æ,MapEntry->Ì,Exit->Ó,Code->Õ,Operand->Û,ResultVar->ã,LetsOut->ù
open Go.Region renaming wanted->Ä,ready->ñ
open Go.World renaming cell?_of_block->È,putObj_heap_other->É,alloc_heap_new->Ò,putObj_heap_same->Ù,cell?_alloc_lt->í
open Go.Oper renaming upon_value->Ê,wp->Ð,upon_enter->Ø,upon_skip->ê
open List renaming getD_eq_getElem?_getD->Ë,range_eq_range'->Ñ,getElem?_append_left->Ô,filter_cons->Ü,length->à,of_mem_zip->è,range'->é,getElem?_zipIdx->ì,zip_cons_cons->ð,getElem?_set->ø,idxOf?_cons->û
open Go.Value renaming int->Í
open Nat renaming eq_of_beq_eq_true->Ï,beq->á,add_assoc->ï,beq_refl->ò,strongRecOn->ü
open Go.ChangeMaps renaming setBlock->Ö
open Array renaming getElem?_setIfInBounds_ne->Ú,replicate->Ý,mapM_eq_mapM_toList->ä,getElem?_eq_none->ç,getElem_mem->ö
open Go.Ending renaming returned->Þ
open Go.Result renaming andThen->ß,andThen_ok->â
open Go.Fence renaming wide->å
open Go.Exit renaming inBlock->æ
open Go.Instr renaming sureAddr->ë,loadAt->õ,endRound->ý
open Go.Sem renaming run_bind->ó,run_pure->ô
set_option linter.unusedVariables false
namespace Go.Lft
section
variable{N:NT}{np:G}{S0:aU}{w0:Y}{refs:Refs}{σ:St}{a:Á}{w:Y}{S:aU}{γ:G->À}
def dH(σ:St):Prop:=∀i,(σ.sl i).bare=X
theorem oT{d:G}(hd:d<a.tmps.size)(v:À)(j:G):tm (a.put (B d) v) j=if j=d then v else tm a j:=by
 unfold tm Go.Act.put;by_cases h:j=d
 .subst h;simp[hd]
 .have h':d≠j:=λe=>h e.symm;simp[h,Ú h']
theorem Wi{bx:G->BS}{d:G}(hd:d<a.tmps.size){v u:À}{x:Slot}(h:jF S w γ bx (tm a) x u):jF S w γ bx (tm (a.put (B d) v)) (kill d x) u:=by
 cases x with
 |one c=>exact h
 |tup l=>exact h
 |und=>exact h
 |cnd s b c=>
  simp only[kill];split
  .exact⟨trivial,λh=>absurd rfl h⟩
  .rename_i bA;simp only[jF,oT hd,if_neg bA];exact h
theorem rS(dst:H G)(v:À):(a.put dst v).tmps.size=a.tmps.size:=by cases dst<;>simp[Go.Act.put]
theorem xq(dst:H G)(v:À):(a.put dst v).defers=a.defers:=by cases dst<;>rfl
theorem Em(hR:Rel N np S0 w0 refs σ a w S γ){dst:H G}(hd:∀d,dst=B d->N.ok d){s:Slot}{v:À}(hs:jF S w γ σ.bx (tm a) s v) :
  Rel N np S0 w0 refs (σ.put dst s) (a.put dst v) w S γ:=by
 cases dst with
 |none=>exact hR
 |some d=>
  have gU:d<a.tmps.size:=by rw[hR.size];exact(hd d rfl).1
  refine⟨(rS _ _).trans hR.size,(xq _ _).trans hR.defers,λi=>?_,hR.box,hR.own,hR.apart,hR.ext,hR.new,hR.here,hR.below,hR.grow,hR.os,hR.tape,hR.output,hR.par,hR.kept,λi u h=>?_⟩
  .show jF S w γ σ.bx (tm (a.put (B d) v)) (kill d (if i=d then s else σ.sl i)) (tm (a.put (B d) v) i);rw[oT gU];split
   .exact Wi gU hs
   .exact Wi gU (hR.slot i)
  .obtain⟨h1,h2⟩:=hR.fix i u h;refine⟨h1,?_⟩;show tm (a.put (B d) v) i=u;rw[oT gU,if_neg]
   .exact h2
   .rintro rfl
    have:=(hd i rfl).2;rw[h1]at this;simp at this
theorem Wj{d:G}{x:Slot}(h:x.bare=X):kill d x=x:=by cases x<;>first|rfl|simp[Slot.bare]at h
theorem Cr(hR:Rel N np S0 w0 refs σ a w S γ)(hc:dH σ){dst:H G}(hd:∀d,dst=B d->N.ok d){s:Slot}{v:À}(hs:jF S w γ σ.bx (tm a) s v)(hb:s.bare=X) :
  Rel N np S0 w0 refs (σ.setD dst s) (a.put dst v) w S γ/\dH (σ.setD dst s):=by
 have he:σ.setD dst s=σ.put dst s:=by
  cases dst with
  |none=>rfl
  |some d=>
   simp only[St.setD,St.setS,St.put];congr 1;funext j;split
   .exact(Wj hb).symm
   .exact(Wj (hc j)).symm
 refine⟨he▸Em hR hd hs,λi=>?_⟩;cases dst with
 |none=>exact hc i
 |some d=>
  simp only[St.setD,St.setS];split
  .exact hb
  .exact hc i
theorem Ae{o:Æ}(h:mX N o=X):∀d,o.dst=B d->N.ok d:=by
 intro d hd;simpa[mX,hd,NT.ok]using h
theorem Wk{u:Ups}(h:dH σ):dH (σ.upd u):=by
 intro i;rw[B8];exact h i
theorem jxN{P:Å}{E:Env}(hT:cT P E.T)(hR:Rel E.N E.np S0 w0 refs σ a w S γ){o:Æ}{e:Ç}(h:nilT E σ o=B e) :
  ∃v b,(execOp a.eval o).run P w = .ok (.value v) w/\v = .bool b/\(b=X->e=X):=by
 unfold nilT at h;split at h
 .rename_i t x y ty cD;split at h
  .rename_i el xs ti hx hy wZ;split at h
   .rename_i hl;simp only[j5]at h;subst h;have ex:=mY hR x;have ey:=mY hR y;rw[hx]at ex;rw[hy]at ey;obtain⟨ad,cap,dB,hlen,_,En,_⟩:=ex.1;have Cs:a.eval x = .slice ad (à xs) cap:=by simpa using dB
    have Na:a.eval y = .slice Â 0 0:=ey.1;obtain⟨a',bM⟩:=Mu hl;obtain⟨hd,_⟩:=pE hT wZ bM;refine⟨.bool ad.isNone,ad.isNone,?_,rfl,λhb=>?_⟩
    .simp only[execOp,cD,Cs,Na,eqGuard,binOp];simp[run_equal_slice_nil w t ti.elem ad (à xs) cap hd]
    .have:ad=none:=by cases ad<;>simp_all
     have:=En this;have:à xs=0:=aa;cases xs with
     |nil=>rfl
     |cons=>simp at this
   .simp at h
  .simp at h
 .simp at h
theorem Ct{P:Å}{E:Env}(hT:cT P E.T)(hC:kF P E.C)(hR:Rel E.N E.np S0 w0 refs σ a w S γ){act:U (G×Ç)}(bg:sx (tm a) act){p:Ç}
  (hc:p=O->dH σ){o:Æ}(hd:mX E.N o=X){R:Type}{k:St->H R}{r:R}(h:run1 E p σ act o k=B r){next:Á->Y->Prop}{Q:Ó->Á->Y->Prop}
  (hn:∀σ' a' w' S' γ',Rel E.N E.np S0 w0 refs σ' a' w' S' γ'->(p=O->dH σ')->k σ'=B r->next a' w'):o.wp P a w next Q:=by
 have hd:=Ae hd
 have eJ:∀(u:Ups)(s:Slot)(v:À)(w':Y)(S':aU)(γ':G->À),Rel E.N E.np S0 w0 refs (σ.upd u) a w' S' γ'->jF S' w' γ' (σ.upd u).bx (tm a) s v->s.bare=X->
   k (cond p ((σ.upd u).put o.dst s) ((σ.upd u).setD o.dst s))=B r->next (a.put o.dst v) w':=by
  intro u s v w' S' γ' cE hs hb hk;cases p with
  |true=>exact hn _ _ _ _ _ (Em cE hd hs) ae hk
  |false=>obtain⟨h1,h2⟩:=Cr cE (Wk (hc rfl)) hd hs hb;exact hn _ _ _ _ _ h1 (λ_=>h2) hk
 unfold run1 at h;split at h
 .rename_i e he
  have he:nilT E σ o=B e:=by
   cases hz:E.nz with
   |true=>rw[hz]at he;exact he
   |false=>rw[hz]at he;simp at he
  obtain⟨v,b,aP,rfl,hb⟩:=jxN (P:=P) hT hR he;obtain⟨h1,h2⟩:=jur h;unfold Ð;rw[aP,Ê];cases b with
  |true=>exact eJ [] (.one (.one (.d .bool X))) (.bool X) w S γ hR ⟨rfl,λ_=>rfl⟩ rfl (h2 (hb rfl))
  |false=>exact eJ [] (.one (.one (.d .bool O))) (.bool O) w S γ hR ⟨rfl,λ_=>rfl⟩ rfl h1
 split at h
 .simp at h
 .rename_i lv s u ho;cases lv with
  |false=>simp at h
  |true=>
   obtain⟨⟨v,w',S',γ',aP,cE,hs⟩,hb⟩:=M7 hT hR bg (λ_=> .inl rfl) ho;unfold Ð;rcases aP with aP|⟨aP,rfl⟩
   .rw[aP,Ê];exact eJ u s v w' S' γ' cE hs hb h
   .rw[aP,ê];exact eJ u s undef w' S' γ' cE hs hb h
 .rename_i f args mk ho;obtain⟨hf,eQ⟩:=hC f args R _ r h;obtain⟨vals,aP,oU,hb⟩:=Wh hR bg (λ_=> .inl rfl) ho hf eQ;unfold Ð;rw[aP,Ø];refine oU.mono ?_
  rintro e w' ⟨ret,hk,aC⟩
  split at hk
  .rename_i s u cV;obtain⟨v,S',γ',rfl,cE,hs⟩:=aC s u cV;exact eJ u s v w' S' γ' cE hs (hb ret s u cV) hk
  .simp at hk
theorem Nb{P:Å}{E:Env}(hT:cT P E.T)(hC:kF P E.C){ops:Ã Æ}(cM:bare ops=X){R:Type}{k:St->H R}{r:R}{Q:Ó->Á->Y->Prop}
  (hn:∀σ' a' w' S' γ',Rel E.N E.np S0 w0 refs σ' a' w' S' γ'->dH σ'->k σ'=B r->Q .normal a' w') :
  ∀(n i:G)(σ:St)(a:Á)(w:Y)(S:aU)(γ:G->À),i+n=ops.size->Rel E.N E.np S0 w0 refs σ a w S γ->dH σ->nO E (ops.toList.drop i) σ k=B r->
   wpOps P ops Q (é i n) a w
 |0,i,σ,a,w,S,γ,hi,hR,hc,h=>by
  rw[jc ax]at h;exact hn _ _ _ _ _ hR hc h
 |n+1,i,σ,a,w,S,γ,hi,hR,hc,h=>by
  have an:i<ops.size:=aa;rw[jb (by simpa using an)]at h;simp only[nO]at h;split at h
  .rename_i hd;have ho:ops[i]? = B ops[i]:=jx an;simp only[vj,wpOps,ho];have hg:ops[i].guard=none:=by have:=jz.1 cM ops[i] ae;simpa using this
   have hw:Ä ops[i] (yielded ops a.tmps)=true:=by simp[Ä,hg]
   simp only[hw,if_true];refine .inl (Ct hT hC hR (act:=[]) (λg hg=>by simp at hg) (p:=O) (λ_=>hc) (by simpa using hd) (by simpa using h) (λσ' a' w' S' γ' cE dK hk=>?_));exact Nb hT hC cM hn n (i+1) σ' a' w' S' γ' aa cE (dK rfl) hk
  .simp at h
theorem IW{ops:Ã Æ}{o:Æ}{g:G×Ç}(h:qC ops o=B g):Ä o (yielded ops a.tmps)=X↔tm a g.1 = .bool g.2:=by
 unfold qC at h;split at h
 .simp at h
 .rename_i j wn Nc;split at h
  .rename_i oj lK;split at h
   .rename_i s hs;simp only[j5]at h;subst h;simp only[Ä,Nc,yielded,lK,j4,hs,tm];cases hq:a.tmps[s]? with
    |none=>
     have:a.tmps.getD s undef=undef:=by simp[hq]
     rw[this];simp[undef]
    |some v=>
     have:a.tmps.getD s undef=v:=by simp[hq]
     rw[this];cases v<;>simp
   .simp at h
  .simp at h
theorem Nd(hR:Rel N np S0 w0 refs σ a w S γ):∀(n:G)(g:G×Ç),tm a g.1 = .bool g.2->sx (tm a) (σ.chain n g)
 |0,g,h=>by intro x hx;simp only[St.chain,kp]at hx;subst hx;exact h
 |n+1,g,h=>by
  simp only[St.chain];have hs:=hR.slot g.1;split
  .rename_i s b c hc;rw[hc]at hs
   have h2:tm a s = .bool b:=by
    rcases hs with hs|hs
    .exact hs.1
    .have:tm a g.1=undef:=hs.2;rw[h]at this;simp[undef]at this
   intro x hx;rcases je.1 hx with rfl|hx
   .exact h
   .exact Nd hR n (s,b) h2 x hx
  .intro x hx;simp only[kp]at hx;subst hx;exact h
theorem jzt:∀(n:G)(g:G×Ç),g∈σ.chain n g
 |0,g=>by simp[St.chain]
 |n+1,g=>by simp only[St.chain];split<;>simp
theorem Wl(hR:Rel N np S0 w0 refs σ a w S γ):∀{l:U (G×Ç)}{b:Ç},actB σ l=B b->sx (tm a) l->b=X
 |[],b,h,_=>by simp[actB]at h;exact h
 |(s,wn)::r,b,h,ha=>by
  have ht:tm a s = .bool wn:=ha (s,wn) ae;simp only[actB]at h;split at h
  .rename_i v hv
   have hvv:v=wn:=by
    have hs:=hR.slot s;unfold gval at hv;split at hv
    .rename_i v' eP;simp only[j5]at hv;subst hv;rw[eP]at hs;have:tm a s = .bool v':=uc hs;rw[ht]at this;simpa using this.symm
    .rename_i s' b' v' eP;simp only[j5]at hv;subst hv;rw[eP]at hs;rcases hs with hs|hs
     .have:tm a s = .bool v':=uc hs.2;rw[ht]at this;simpa using this.symm
     .have:tm a s=undef:=hs.2;rw[ht]at this;simp[undef]at this
    .simp at hv
   subst hvv;split at h
   .simp only[j5]at h;rw[<-h];cases v<;>rfl
   .split at h
    .rename_i b2 ib;simp only[j5]at h;have:=Wl hR ib (λg hg=>ha g (by simp[hg]));rw[<-h,this];cases v<;>rfl
    .simp at h
  .simp at h
theorem Nf(hR:Rel N np S0 w0 refs σ a w S γ){s:G}{x:Slot}(h:jF S w γ σ.bx (tm a) x (tm a s)):Rel N np S0 w0 refs (σ.setS s x) a w S γ:=by
 refine⟨hR.size,hR.defers,λi=>?_,hR.box,hR.own,hR.apart,hR.ext,hR.new,hR.here,hR.below,hR.grow,hR.os,hR.tape,hR.output,hR.par,hR.kept,hR.fix⟩;simp only[St.setS];split
 .rename_i hi;subst hi;exact h
 .exact hR.slot i
theorem Wm{R:Type}:∀(l:U (G×Ç)){σ:St}{k:St->Ç->H R}{r:R},Rel N np S0 w0 refs σ a w S γ->wS l σ k=B r->
  ∃σ' b,Rel N np S0 w0 refs σ' a w S γ/\k σ' b=B r/\(b=X↔sx (tm a) l)
 |[],σ,k,r,hR,h=>⟨σ,X,hR,h,by simp[sx]⟩
 |(s,wn)::l,σ,k,r,hR,h=>by
  simp only[wS]at h;obtain⟨σ1,b1,bO,dW,fc⟩:=Wm l hR h;cases b1 with
  |false=>
   refine⟨σ1,O,bO,dW,?_⟩;simp only[qe,false_iff]at fc ⊢
   exactλha=>fc (λg hg=>ha g (by simp[hg]))
  |true=>
   have nt:=fc.1 rfl;simp only at dW;split at dW
   .rename_i v hv
    have ht:tm a s = .bool v:=by
     have hs:=bO.slot s;unfold L9 at hv;split at hv
     .rename_i v' eP;simp only[j5]at hv;subst hv;rw[eP]at hs;exact uc hs
     .rename_i s' b' v' eP;split at hv
      .rename_i hm;simp only[j5]at hv;subst hv;rw[eP]at hs;have lL:(s',b')∈l:=by simpa using hm
       have:=nt _ lL;rcases hs with hs|hs
       .exact uc hs.2
       .exact absurd this hs.1
      .simp at hv
     .simp at hv
    have Eo:∀b,b=v->Rel N np S0 w0 refs (σ1.setS s (.one (.one (.d .bool b)))) a w S γ:=by
     rintro b rfl
     refine Nf bO ⟨?_,λ_=>?_⟩
     .show Rep S w .bool b [tm a s];rw[ht];rfl
     .rw[ht];rfl
    cases v with
    |true=>
     simp only[j6]at dW;refine⟨_,wn,Eo X rfl,dW,?_⟩;constructor
     .rintro rfl g hg
      rcases je.1 hg with rfl|hg
      .exact ht
      .exact nt g hg
     .intro ha;have:=ha (s,wn) ae;rw[ht]at this;simpa using this.symm
    |false=>
     simp only[j7]at dW;refine⟨_, !wn,Eo O rfl,dW,?_⟩;constructor
     .intro hw g hg;have Ng:wn=false:=by simpa using hw
      subst Ng;rcases je.1 hg with rfl|hg
      .exact ht
      .exact nt g hg
     .intro ha;have:=ha (s,wn) ae;rw[ht]at this;have:O=wn:=by simpa using this
      rw[<-this];rfl
   .simp at dW
theorem jF3{P:Å}{E:Env}(hT:cT P E.T)(hC:kF P E.C)(hR:Rel E.N E.np S0 w0 refs σ a w S γ){ops:Ã Æ}{o:Æ}(hd:mX E.N o=X)
  {R:Type}{k:St->H R}{r:R}(h:Du E ops σ o k=B r){next:Á->Y->Prop}{Q:Ó->Á->Y->Prop}
  (hn:∀σ' a' w' S' γ',Rel E.N E.np S0 w0 refs σ' a' w' S' γ'->k σ'=B r->next a' w') :
  if Ä o (yielded ops a.tmps) then o.wp P a w next Q\/(o.asks P a w/\ù Q) else next (a.put o.dst undef) w:=by
 have vK:=Ae hd;unfold Du at h;split at h
 .split at h
  .rename_i hg;have hw:Ä o (yielded ops a.tmps)=true:=by simp[Ä,hg]
   simp only[hw,if_true];exact .inl (Ct hT hC hR (act:=[]) (λg hg=>by simp at hg) (p:=X) ae hd h (λσ' a' w' S' γ' cE _ hk=>hn σ' a' w' S' γ' cE hk))
  .simp at h
 .rename_i g hg;dsimp only at h;have Ep:=IW (a:=a) hg
  have xr:wS (σ.chain 40 g) σ (λσ' a=>match a with
    |true=>run1 E X σ' (σ.chain 40 g) o k
    |false=>k (σ'.put o.dst (.one (.one .dead))))=B r->
    if Ä o (yielded ops a.tmps) then o.wp P a w next Q\/(o.asks P a w/\ù Q) else next (a.put o.dst undef) w:=by
   intro hs;obtain⟨σ',b,cE,hk,hb⟩:=Wm _ hR hs;cases b with
   |true=>have bg:=hb.1 rfl;have hw:=Ep.2 (bg g (jzt 40 g));simp only[hw,if_true];exact .inl (Ct hT hC cE bg (p:=X) ae hd hk (λσ' a' w' S' γ' cE _ hk=>hn σ' a' w' S' γ' cE hk))
   |false=>
    have hw:¬Ä o (yielded ops a.tmps)=true:=λhw=>by
     have:=hb.2 (Nd hR 40 g (Ep.1 hw));simp at this
    simp only[hw];exact hn _ _ _ _ _ (Em cE vK (s:= .one (.one .dead)) (v:=undef) ⟨trivial,λh=>absurd rfl h⟩) hk
  split at h
  .rename_i lv c ho;split at h
   .rename_i ab cb;by_cases hw:Ä o (yielded ops a.tmps)=X
    .have bg:=Nd hR 40 g (Ep.1 hw);have:=Wl hR cb bg;subst this;simp only[hw,if_true];cases lv with
     |false=>simp at h
     |true=>
      simp only[jl,Bool.or_false,j6]at h;obtain⟨⟨v,w',S',γ',aP,cE,hs⟩,hb⟩:=M7 hT hR bg (λ_=> .inl rfl) ho;have kS:=Em cE vK (s:= .cnd g.1 g.2 c) (v:=v) (.inl ⟨Ep.1 hw,hs⟩);refine .inl ?_;unfold Ð;rcases aP with aP|⟨aP,rfl⟩
      .rw[aP,Ê];exact hn _ _ _ _ _ kS h
      .rw[aP,ê];exact hn _ _ _ _ _ kS h
    .simp only[hw]
     have hk:k (σ.put o.dst (.cnd g.1 g.2 c))=B r:=by
      cases hc:(lv || !ab) with
      |true=>rw[hc]at h;exact h
      |false=>rw[hc]at h;simp at h
     exact hn _ _ _ _ _ (Em hR vK (s:= .cnd g.1 g.2 c) (v:=undef) (.inr ⟨λhh=>hw (Ep.2 hh),rfl⟩)) hk
   .exact xr h
  .exact xr h
theorem jzv(hR:Rel N np S0 w0 refs σ a w S γ):Rel N np S0 w0 refs σ.clear a w S γ/\dH σ.clear:=by
 refine⟨⟨hR.size,hR.defers,λi=>?_,hR.box,hR.own,hR.apart,hR.ext,hR.new,hR.here,hR.below,hR.grow,hR.os,hR.tape,hR.output,hR.par,hR.kept,hR.fix⟩,λi=>?_⟩
 .have:=hR.slot i;simp only[St.clear];cases hs:σ.sl i with
  |one c=>rw[hs]at this;exact this
  |tup l=>rw[hs]at this;exact this
  |und=>rw[hs]at this;exact this
  |cnd s b c=>exact⟨trivial,λh=>absurd rfl h⟩
 .simp only[St.clear];cases σ.sl i<;>rfl
theorem Wn{P:Å}{E:Env}(hT:cT P E.T)(hC:kF P E.C){ops:Ã Æ}{R:Type}{k:St->H R}{r:R}{Q:Ó->Á->Y->Prop}
  (hn:∀σ' a' w' S' γ',Rel E.N E.np S0 w0 refs σ' a' w' S' γ'->dH σ'->k σ'=B r->Q .normal a' w') :
  ∀(n i:G)(σ:St)(a:Á)(w:Y)(S:aU)(γ:G->À),i+n=ops.size->Rel E.N E.np S0 w0 refs σ a w S γ->BU E ops (ops.toList.drop i) σ k=B r->
   wpOps P ops Q (é i n) a w
 |0,i,σ,a,w,S,γ,hi,hR,h=>by
  rw[jc ax]at h;obtain⟨h1,h2⟩:=jzv hR;exact hn _ _ _ _ _ h1 h2 h
 |n+1,i,σ,a,w,S,γ,hi,hR,h=>by
  have an:i<ops.size:=aa;rw[jb (by simpa using an)]at h;simp only[BU]at h;split at h
  .rename_i hd;have ho:ops[i]? = B ops[i]:=jx an;simp only[vj,wpOps,ho];exact jF3 hT hC hR (by simpa using hd) (by simpa using h) (λσ' a' w' S' γ' cE hk=>Wn hT hC hn n (i+1) σ' a' w' S' γ' aa cE hk)
  .simp at h
theorem Wo{P:Å}{E:Env}(hT:cT P E.T)(hC:kF P E.C)(hR:Rel E.N E.np S0 w0 refs σ a w S γ)(hc:dH σ){ops:Ã Æ}{R:Type}{k:St->H R}{r:R}
  {Q:Ó->Á->Y->Prop}(hn:∀σ' a' w' S' γ',Rel E.N E.np S0 w0 refs σ' a' w' S' γ'->dH σ'->k σ'=B r->Q .normal a' w')(h:rB E ops σ k=B r) :
  wpOps P ops Q (List.range ops.size) a w:=by
 rw[Ñ];unfold rB at h;split at h
 .rename_i hb;exact Nb hT hC hb hn ops.size 0 σ a w S γ aa hR hc (by simpa using h)
 .exact Wn hT hC hn ops.size 0 σ a w S γ aa hR (by simpa using h)
end
section
variable{N:NT}{np:G}{S0:aU}{w0:Y}{refs:Refs}{σ:St}{a:Á}{w:Y}{S:aU}{γ:G->À}
theorem jCt(hR:Rel N np S0 w0 refs σ a w S γ){k:G}{b b':Bx}(hk:σ.bx k = .live b)(pF:lx b b')(cY:∀bx',BxLe γ σ.bx γ bx'->fM S w γ bx' k b') :
  Rel N np S0 w0 refs (σ.setB k (.live b')) a w S γ:=by
 have hle:BxLe γ σ.bx γ (σ.setB k (.live b')).bx:=by
  intro k' bQ;by_cases h:k'=k
  .subst h;rw[ix];exact⟨ae,rfl,λx hx=>by simp at hx;subst hx;exact⟨b,hk,pF⟩⟩
  .rw[dO σ _ h];exact⟨bQ,rfl,λx hx=>⟨x,hx,.refl x⟩⟩
 have cg:∀k' x,(σ.setB k (.live b')).bx k' = .live x->∃x',σ.bx k' = .live x':=by
  intro k' x hx;by_cases h:k'=k
  .subst h;exact⟨b,hk⟩
  .rw[dO σ _ h]at hx;exact⟨x,hx⟩
 refine Rel.step (bx':=(σ.setB k (.live b')).bx) hR (.refl S w) hle ?_ ?_ ?_ hR.new hR.here hR.below hR.grow hR.os hR.tape hR.output (λg _ _ h=>⟨rfl,λk' b' aW=>by obtain⟨b2,ib⟩:=cg k' b' aW;exact h k' b2 ib⟩)
 .intro k' x hx;by_cases h:k'=k
  .subst h;rw[ix]at hx;simp at hx;subst hx;exact cY _ hle
  .rw[dO σ _ h]at hx;exact fM.keep (.refl S w) hle rfl (λg hg=>⟨rfl,λ_=>Iff.rfl⟩) (hR.box k' x hx)
 .intro k' x g hx hg;obtain⟨x',nT⟩:=cg k' x hx;exact hR.own k' x' g nT hg
 .intro k1 k2 x1 x2 g bA h1 h2 hg;obtain⟨y1,hy1⟩:=cg k1 x1 h1;obtain⟨y2,Nh⟩:=cg k2 x2 h2;exact hR.apart k1 k2 y1 y2 g bA hy1 Nh hg
theorem All2.set_left{α β:Type}{R:α->β->Prop}:∀{as:U α}{bs:U β},All2 R as bs->∀(i:G)(x:α)(b:β),bs[i]? = B b->R x b->All2 R (as.set i x) bs
 |[],[],_,i,x,b,hb,_=>by simp at hb
 |_::_,_::_,h,0,x,b,hb,hr=>by simp at hb;subst hb;exact⟨hr,h.2⟩
 |_::_,_::_,h,i+1,x,b,hb,hr=>⟨h.1,All2.set_left h.2 i x b (by simpa using hb) hr⟩
 |[],_::_,h,_,_,_,_,_=>h.elim
 |_::_,[],h,_,_,_,_,_=>h.elim
theorem Wp:∀(l:U (Loc×Ty))(σ σ':St)(S:aU),Rel N np S0 w0 refs σ a w S γ->dH σ->DB np l σ=B σ'->∃S',Rel N np S0 w0 refs σ' a w S' γ/\dH σ'
 |[],σ,σ',S,hR,hc,h=>by simp[DB]at h;subst h;exact⟨S,hR,hc⟩
 |(l,t)::r,σ,σ',S,hR,hc,h=>by
  simp only[DB]at h;split at h
  .rename_i v u hv;have bN:=Ek (np:=np) (σ:=σ) (rd:=mskM σ.bx) (RdR.msk λ_=> .inl rfl)
   suffices hs:∃S',Rel N np S0 w0 refs (yR (σ.upd u) l (.d t v)) a w S' γ/\dH (yR (σ.upd u) l (.d t v)) by
    obtain⟨S1,bO,eX⟩:=hs;exact Wp r _ σ' S1 bO eX h
   cases l with
   |slot i=>
    cases eP:σ.sl i with
    |tup x=>simp only[jZ,eP]at hv;simp[lj]at hv
    |cnd x y z=>simp only[jZ,eP]at hv;simp[lj]at hv
    |und=>simp only[jZ,eP]at hv;simp[lj]at hv
    |one c=>
     cases c with
     |st ls=>simp only[jZ,eP]at hv;simp[lj]at hv
     |av n b xs=>simp only[jZ,eP]at hv;simp[lj]at hv
     |one x=>
      simp only[jZ,eP]at hv;have xt:=hR.slot i;rw[eP]at xt;obtain⟨fm,hp⟩:=zC bN hR.box hv xt.1;obtain⟨S1,bO,dx,jQ,_⟩:=qJ u σ S hR fm;have bV:=hp S1 w dx jQ;refine⟨S1,?_,?_⟩
      .simp only[yR,B8,eP];exact Nf bO ⟨bV,λ_=>Rep.one _ _ _ bV _ (kp.2 rfl)⟩
      .intro j;simp only[yR,B8,eP,St.setS];split
       .rfl
       .exact hc j
   |cell k c=>
    have oV:jZ σ (.cell k c) ≠ .dead:=λhd=>by rw[hd]at hv;simp[lj]at hv
    cases fB:σ.bx k with
    |free=>simp[jZ,fB]at oV
    |gone=>simp[jZ,fB]at oV
    |live b=>
     cases b with
     |lst e b xs f=>simp[jZ,fB]at oV
     |arr n b xs=>simp[jZ,fB]at oV
     |cell ls f=>
      cases f with
      |true=>simp[jZ,fB]at oV
      |false=>
       have hl:jZ σ (.cell k c)=ls.getD c .dead:=by simp[jZ,fB]
       rw[hl]at hv oV;obtain⟨g,cur,e,h1,h2,h3,h4,h5,h6⟩:=hR.box k _ fB;cases hg:ls[c]? with
       |none=>simp[hg]at oV
       |some x=>
        have hgx:ls.getD c .dead=x:=by simp[hg]
        rw[hgx]at hv;obtain⟨z,hz,Cu⟩:=h3.get c x hg;obtain⟨fm,hp⟩:=zC bN hR.box hv Cu;obtain⟨S1,bO,dx,jQ,dZ⟩:=qJ u σ S hR fm;have bV:=hp S1 w dx jQ;have vV:=dZ.cell fB;refine⟨S1,?_,?_⟩
        .simp only[yR,vV];refine jCt bO vV trivial (λbx' hle=>?_);obtain⟨g',kR,e',mZ,ma,xm,h4',h5',h6'⟩:=bO.box k _ vV;rw[h1]at mZ;simp at mZ;subst mZ;rw[h2]at ma;simp at ma;obtain⟨rfl,rfl⟩:=ma;exact⟨g,cur,e,h1,h2,by rw[y8];exact All2.set_left (xm.mono (λx u hx=>cA.keep (.refl S1 w) hle hx)) c (.d t v) z hz bV,by rw[y8];exact h4',h5',ae⟩
        .intro j;simp only[yR,vV];show ((σ.upd u).sl j).bare=X;rw[B8];exact hc j
  .simp at h
theorem Er:∀(l:U qB)(σ σ':St)(S:aU),Rel N np S0 w0 refs σ a w S γ->dH σ->wU np l σ=B σ'->∃S',Rel N np S0 w0 refs σ' a w S' γ/\dH σ'
 |[],σ,σ',S,hR,hc,h=>by simp[wU]at h;subst h;exact⟨S,hR,hc⟩
 |x::r,σ,σ',S,hR,hc,h=>by
  simp only[wU]at h;split at h
  .split at h
   .split at h
    .split at h
     .rename_i e b xs f fB;split at h
      .simp at h
      .rename_i hp;simp only[zv,not_or,ú]at hp;obtain⟨S1,bO,_⟩:=Mw hR hp.2 fB hp.1;exact Er r _ σ' S1 bO (λi=>hc i) h
     .simp at h
    .exact Er r σ σ' S hR hc h
   .exact Er r σ σ' S hR hc h
  .exact Er r σ σ' S hR hc h
theorem rT:∀{l:U G}{i j:G},l.idxOf? i=B j->l[j]? = B i
 |[],i,j,h=>by simp at h
 |x::l,i,j,h=>by
  rw[û]at h;split at h
  .rename_i he;simp at h he;subst h;subst he;rfl
  .cases hq:l.idxOf? i with
   |none=>simp[hq]at h
   |some j'=>simp[hq]at h;subst h;simpa using rT hq
theorem Ni:∀{l:U G}{i:G},l.idxOf? i=Â->i∉l
 |[],i,_=>ae
 |x::l,i,h=>by
  rw[û]at h;split at h
  .simp at h
  .rename_i he;have hq:l.idxOf? i=none:=by simpa using h
   have:=Ni hq;simp only[je,not_or];exact⟨λe=>he (by simp[e]),this⟩
theorem Nj{e:G}{t:Ty}{l:Loc}{k:H G}{xs:U t.den}{f:Ç}(h:BW σ e t l=B (k,xs,f)) :
  (k=Â/\isM e=O/\xs=[]/\jZ σ l = .nil)\/∃k0,k=B k0/\jZ σ l = .ol k0/\σ.bx k0 = .live (.lst e t xs f):=by
 unfold BW at h;split at h
 .rename_i hl;split at h
  .simp at h
  .rename_i hm;simp only[j5,j9]at h;exact .inl ⟨h.1.symm,by simpa using hm,h.2.1.symm,hl⟩
 .rename_i k0 hl;split at h
  .rename_i e' t' dD f' hb;split at h
   .rename_i v jN;split at h
    .rename_i he;simp only[j5,j9]at h;obtain⟨rfl,rfl,rfl⟩:=h;have:=nS jN;cases this;subst he;exact .inr ⟨k0,rfl,hl,hb⟩
    .simp at h
   .simp at h
  .simp at h
 .simp at h
theorem IX{e:G}{t:Ty}:∀{ls:U Loc}{k:H G}{xs:U t.den}{f:Ç},yQ σ e t ls=B (k,xs,f)->
  (∃l∈ls,BW σ e t l=B (k,xs,f))/\∀l∈ls,∃dD f',BW σ e t l=B (k,dD,f')
 |[],_,_,_,h=>by simp[yQ]at h
 |[l],k,xs,f,h=>by
  simp only[yQ]at h;exact⟨⟨l,ae,h⟩,λl' oQ=>by simp at oQ;subst oQ;exact⟨_,_,h⟩⟩
 |l::l2::ls,k,xs,f,h=>by
  simp only[yQ]at h;split at h
  .rename_i k1 IF f1 k2 Vn f2 h1 h2;split at h
   .rename_i hk;simp only[j5,j9]at h;obtain⟨rfl,rfl,rfl⟩:=h;subst hk;obtain⟨_,aC⟩:=IX h2;refine⟨⟨l,ae,h1⟩,λl' oQ=>?_⟩;rcases je.1 oQ with rfl|oQ
    .exact⟨_,_,h1⟩
    .exact aC l' oQ
   .simp at h
  .simp at h
def Wq(np:G)(σ:St)(bs:U G)(x:qB)(it:Item)(src:H G):Prop:=
 ∃xs f f',yQ σ x.e x.a x.locs=B (src,xs,f)/\it = .b (.live (.lst x.e x.a xs f'))/\∀k0,src=B k0->f'=f/\k0∉bs/\parK np k0=O
theorem Wr{bs:U G}:∀{L:U qB}{is:U Item}{ks:U G},BX np σ bs L=B (is,ks)->
  ∃fV:U (H G),ks=fV.filterMap id/\ks.Nodup/\∀(j:G)(x:qB),L[j]? = B x->∃it src,is[j]? = B it/\fV[j]? = B src/\Wq np σ bs x it src
 |[],is,ks,h=>by
  simp[BX]at h;obtain⟨rfl,rfl⟩:=h;exact⟨[],rfl,vc,λj x hx=>by simp at hx⟩
 |x::L,is,ks,h=>by
  simp only[BX]at h;split at h
  .rename_i k xs f is' U4 h1 h2;obtain⟨fV,e1,e2,e3⟩:=Wr h2;split at h
   .simp only[j5,j9]at h;obtain⟨rfl,rfl⟩:=h;refine⟨Â::fV,by simp[e1],e2,λj y hy=>?_⟩;cases j with
    |zero=>simp at hy;subst hy;exact⟨_,Â,rfl,rfl,xs,f,x.frz,h1,rfl,ae⟩
    |succ j=>exact e3 j y (by simpa using hy)
   .rename_i k0;split at h
    .simp at h
    .rename_i hn;simp only[zv,not_or,ú,qk,jo]at hn;simp only[j5,j9]at h;obtain⟨rfl,rfl⟩:=h;refine⟨B k0::fV,by simp[e1],qh.2 ⟨hn.1.1,e2⟩,λj y hy=>?_⟩;cases j with
     |zero=>simp at hy;subst hy;exact⟨_,B k0,rfl,rfl,xs,f,f,h1,rfl,λk1 dW=>by simp at dW;subst dW;exact⟨rfl,hn.1.2,hn.2⟩⟩
     |succ j=>exact e3 j y (by simpa using hy)
  .simp at h
theorem Ws:∀{fV:U (H G)},(fV.filterMap id).Nodup->∀{j j' k:G},fV[j]? = B (B k)->fV[j']? = B (B k)->j=j'
 |[],_,j,_,_,h,_=>by simp at h
 |s::fV,hn,j,j',k,h,h'=>by
  have ez:∀{i:G},fV[i]? = B (B k)->k∈fV.filterMap id:=λhi=>v8.2 ⟨B k,kg hi,rfl⟩
  have Nk:(fV.filterMap id).Nodup:=by
   cases s with
   |none=>simpa using hn
   |some y=>simp at hn;exact hn.2
  cases j with
  |zero=>
   cases j' with
   |zero=>rfl
   |succ j'=>simp at h h';subst h;simp at hn;exact absurd (by simpa using ez h') hn.1
  |succ j=>
   cases j' with
   |zero=>simp at h h';subst h';simp at hn;exact absurd (by simpa using ez h) hn.1
   |succ j'=>have:=Ws Nk (j:=j) (j':=j') (k:=k) (by simpa using h) (by simpa using h');omega
theorem Wu:∀{l:U G},l.Nodup->∀{i j n:G},l[i]? = B n->l[j]? = B n->i=j
 |[],_,i,_,_,hi,_=>by simp at hi
 |x::l,h,i,j,n,hi,hj=>by
  obtain⟨h1,h2⟩:=qh.1 h;cases i with
  |zero=>
   cases j with
   |zero=>rfl
   |succ j=>simp at hi hj;subst hi;exact absurd (kg hj) h1
  |succ i=>
   cases j with
   |zero=>simp at hi hj;subst hj;exact absurd (kg hi) h1
   |succ j=>rw[Wu h2 (i:=i) (j:=j) (n:=n) (by simpa using hi) (by simpa using hj)]
end
section
variable{N:NT}{np:G}{S0:aU}{w0:Y}{refs:Refs}{σ:St}{a:Á}{w:Y}{S:aU}{γ:G->À}
theorem juE{K:Keep}{l:Loc}{n:G}(h:DA K l=B n):∃(j:G)(x:qB),K.lists[j]? = B x/\x.name=n/\l∈x.locs:=by
 unfold DA at h;obtain⟨x,hq,hn⟩:=Option.map_eq_some_iff.1 h;have h1:=List.find?_some hq;obtain⟨j,hj⟩:=v6.1 (List.mem_of_find?_eq_some hq);exact⟨j,x,hj,hn,by simpa using h1⟩
theorem Es{K:Keep}{k:G}{x:BS}{b:Bx}(h:wT K k x = .live b):∃b0,x = .live b0/\lx b0 b:=by
 unfold wT at h;split at h
 .simp only[BS.live.injEq]at h;subst h;exact⟨_,rfl,trivial⟩
 .simp only[BS.live.injEq]at h;subst h;exact⟨_,rfl,.refl _⟩
 .simp only[BS.live.injEq]at h;subst h;exact⟨_,rfl,.refl _⟩
 .simp at h
theorem Et{K:Keep}{k:G}{x:BS}:wT K k x ≠ .free:=by
 unfold wT;split<;>simp
theorem Ww{R:Leaf->À->Prop}{f:Leaf×G->Leaf}:∀{ls:U Leaf}{cs:U À}(n:G),(∀(j:G)(x:Leaf)(u:À),ls[j]? = B x->cs[j]? = B u->R (f (x,n+j)) u)->ls.length=cs.length->
  All2 R ((ls.zipIdx n).map f) cs
 |[],[],_,_,_=>trivial
 |x::ls,c::cs,n,h,hl=>by
  refine⟨h 0 x c rfl rfl,Ww (n+1) (λj y u hy hu=>?_) (by simpa using hl)⟩;have:=h (j+1) y u (by simpa using hy) (by simpa using hu);rwa[show n+1+j=n+(j+1) by omega]
 |[],_::_,_,_,hl=>by simp at hl
 |_::_,[],_,_,hl=>by simp at hl
theorem jCu{K:Keep}{s:Snap}(hR:Rel N np S0 w0 refs σ a w S γ)(hs:Me np K σ=B s):∃γ',Rel N np S0 w0 refs (cX np K s) a w S γ'/\dH (cX np K s):=by
 unfold Me at hs;cases hL:BX np σ K.boxes K.lists with
 |none=>simp[hL]at hs
 |some p=>
 obtain⟨is,ks⟩:=p;simp only[hL]at hs;cases bP:K.ok np with
 |false=>simp[bP]at hs
 |true=>
 simp only[bP,if_true,j5]at hs;obtain⟨fV,hks,fN,Eu⟩:=Wr hL;rw[hks]at fN;simp only[Keep.ok,jd]at bP;have Af:=D4 bP.1;have Ej:∀(j:G)(x:qB),K.lists[j]? = B x->x.name∉K.boxes:=by intro j x hx;have:=jz.1 bP.2 x (kg hx);simp only[jd]at this;simpa using this.1
 have xu:∀(j:G)(x:qB),K.lists[j]? = B x->parK np x.name=false:=by intro j x hx;have:=jz.1 bP.2 x (kg hx);simp only[jd]at this;simpa using this.2
 let γ':G->Value:=λn=>match K.boxes.idxOf? n with
  |some _=>γ n
  |none=>match (K.lists.map (·.name)).idxOf? n with
   |some j=>match fV[j]? with
    |some (B k)=>γ k
    |_=> .slice Â 0 0
   |none=>γ n
 have fB:(cX np K s).bx=λn=>match K.boxes.idxOf? n with
  |some j=>wV s[K.slots.length+j]?
  |none=>match (K.lists.map (·.name)).idxOf? n with
   |some j=>wV s[K.slots.length+K.boxes.length+j]?
   |none=>if parK np n then .gone else .free:=rfl
 have hB:∀n,n∈K.boxes->(cX np K s).bx n=wT K n (σ.bx n)/\γ' n=γ n:=by
  intro n hn;rw[fB];cases hq:K.boxes.idxOf? n with
  |none=>exact absurd hn (Ni hq)
  |some j=>have hj:=rT hq;refine⟨?_,by simp only[γ',hq]⟩;simp only[hq,<-hs];rw[ko ae];simp only[kj,Nat.add_sub_cancel_left];rw[Ô (by simp;exact(jy.1 hj).1)];simp[hj,wV]
 have Nl:∀(j:G)(x:qB),K.lists[j]? = B x->∃it src,fV[j]? = B src/\Wq np σ K.boxes x it src/\(cX np K s).bx x.name=wV (B it)/\
   γ' x.name=(match src with|some k=>γ k|none=> .slice Â 0 0):=by
  intro j x hx;obtain⟨it,src,h1,h2,h3⟩:=Eu j x hx
  have xv:K.boxes.idxOf? x.name=none:=by
   cases hq:K.boxes.idxOf? x.name with
   |none=>rfl
   |some i=>exact absurd (kg (rT hq)) (Ej j x hx)
  have xe:(K.lists.map (·.name))[j]? = B x.name:=by simp[hx]
  cases hq:(K.lists.map (·.name)).idxOf? x.name with
  |none=>exact absurd (kg xe) (Ni hq)
  |some i=>
   have hi:=Wu Af (rT hq) xe;subst hi;refine⟨it,src,h2,h3,?_,?_⟩
   .rw[fB];simp only[xv,hq,<-hs];rw[ko ax,ko ax];have:K.slots.length+K.boxes.length+i-(K.slots.map λi=>Item.s (Ik K i (σ.sl i))).length-(K.boxes.map λk=>Item.b (wT K k (σ.bx k))).length=i:=ax;rw[this,h1]
   .simp only[γ',xv,hq,h2];cases src<;>rfl
 have hF:∀n b,(cX np K s).bx n = .live b->n∈K.boxes\/∃(j:G)(x:qB),K.lists[j]? = B x/\x.name=n:=by
  intro n b hb;by_cases hn:n∈K.boxes
  .exact .inl hn
  .right;rw[fB]at hb
   have xv:K.boxes.idxOf? n=none:=by
    cases hq:K.boxes.idxOf? n with
    |none=>rfl
    |some i=>exact absurd (kg (rT hq)) hn
   simp only[xv]at hb;split at hb
   .rename_i j hq;have hj:=rT hq;simp only[qp]at hj;cases hx:K.lists[j]? with
    |none=>simp[hx]at hj
    |some x=>simp[hx]at hj;exact⟨j,x,hx,hj⟩
   .split at hb<;>simp at hb
 have lF:∀(loc:H Loc)(x:Leaf)(u:À),cA S w γ σ.bx x u->(x ≠ .dead->One u)->(∀l,loc=B l->jZ σ l=x)->
   cA S w γ' (cX np K s).bx (rC K loc x) u/\(rC K loc x ≠ .dead->One u):=by
  intro loc x u hl h1 Ag;have lN:cA S w γ' (cX np K s).bx .dead u/\(Leaf.dead ≠ .dead->One u):=⟨trivial,λh=>absurd rfl h⟩
  have sN:∀n,loc.bind (DA K)=B n->∀(hu:(x = .nil)\/∃k,x = .ol k),cA S w γ' (cX np K s).bx (.ol n) u/\(Leaf.ol n ≠ .dead->One u):=by
   intro n hn hu;cases loc with
   |none=>simp at hn
   |some l=>
    simp only[j4]at hn;have qN:=Ag l rfl;obtain⟨j,y,hy,hyn,MD⟩:=juE hn;obtain⟨it,src,_,⟨xs,f,f',jR,xw,Ah⟩,Ev,uy⟩:=Nl j y hy;obtain⟨_,aC⟩:=IX jR;obtain⟨dD,f1,rR⟩:=aC l MD;have dQ:One u:=h1 (by rcases hu with rfl|⟨k,rfl⟩<;>simp);rw[hyn]at Ev uy;refine⟨⟨by rw[Ev,xw];simp[wV],dQ,λb _=>?_⟩,λ_=>dQ⟩;rw[uy];rcases Nj rR with⟨rfl,_,_,fF⟩|⟨k0,rfl,uz,dY⟩
    .rw[qN]at fF;subst fF;exact hl
    .rw[qN]at uz;subst uz;exact hl.2.2 _ dY
  cases x with
  |dead=>exact lN
  |nil=>
   simp only[rC];split
   .rename_i n hn;exact sN n hn (.inl rfl)
   .exact⟨hl,h1⟩
  |d t v=>exact⟨hl,h1⟩
  |ip ls=>exact⟨hl,h1⟩
  |clo f bT=>exact⟨hl,h1⟩
  |ep k i c=>exact lN
  |tl k i=>
   simp only[rC];split
   .rename_i hk;obtain⟨fc,ib⟩:=hB k (by simpa using hk);refine⟨⟨by rw[fc];exact Et,hl.2.1,λb hb=>?_⟩,λ_=>hl.2.1⟩;rw[fc]at hb;obtain⟨b0,gq,kH⟩:=Es hb;have h3:=hl.2.2 b0 gq;rw[ib]
    cases b0<;>cases b<;>simp only[lx]at kH<;>first
     |exact kH.elim
     |exact h3.elim
     |(obtain⟨rfl,rfl,oQ⟩:=kH;simp only at h3 ⊢;obtain⟨hm,h3⟩:=h3;rw[<-oQ hm];exact⟨hm,h3⟩)
   .exact lN
  |hd k i=>
   simp only[rC];split
   .rename_i hk;obtain⟨fc,ib⟩:=hB k (by simpa using hk);refine⟨⟨by rw[fc];exact Et,hl.2.1,λb hb=>?_⟩,λ_=>hl.2.1⟩;rw[fc]at hb;obtain⟨b0,gq,kH⟩:=Es hb;have h3:=hl.2.2 b0 gq;rw[ib]
    cases b0<;>cases b<;>simp only[lx]at kH<;>first
     |exact kH.elim
     |exact h3.elim
     |(obtain⟨rfl,rfl,oQ⟩:=kH;simp only at h3 ⊢;obtain⟨hm,h3⟩:=h3;rw[<-oQ hm];exact⟨hm,h3⟩)
   .exact lN
  |ol k=>
   simp only[rC];split
   .rename_i hk;obtain⟨fc,ib⟩:=hB k (by simpa using hk);refine⟨⟨by rw[fc];exact Et,hl.2.1,λb hb=>?_⟩,λ_=>hl.2.1⟩;rw[fc]at hb;obtain⟨b0,gq,_⟩:=Es hb;rw[ib];exact hl.2.2 b0 gq
   .split
    .rename_i n hn;exact sN n hn (.inr ⟨k,rfl⟩)
    .exact lN
  |bp k c=>
   simp only[rC];split
   .rename_i hk;obtain⟨fc,ib⟩:=hB k (by simpa using hk);refine⟨⟨by rw[fc];exact Et,hl.2.1,λb hb=>?_⟩,λ_=>hl.2.1⟩;rw[fc]at hb;obtain⟨b0,gq,_⟩:=Es hb;rw[ib];exact hl.2.2 b0 gq
   .exact lN
 have im:∀n b,(cX np K s).bx n = .live b->(n∈K.boxes/\γ' n=γ n/\∃b0,σ.bx n = .live b0)\/(blk (γ' n)=Â)\/
   ∃(j:G)(x:qB)(k:G)(b0:Bx),K.lists[j]? = B x/\x.name=n/\fV[j]? = B (B k)/\γ' n=γ k/\σ.bx k = .live b0/\k∉K.boxes/\parK np k=false:=by
  intro n b hb;rcases hF n b hb with hn|⟨j,x,hx,rfl⟩
  .obtain⟨h1,h2⟩:=hB n hn;rw[h1]at hb;obtain⟨b0,gq,_⟩:=Es hb;exact .inl ⟨hn,h2,b0,gq⟩
  .obtain⟨it,src,Ah,⟨xs,f,f',jR,xw,mO⟩,Ev,uy⟩:=Nl j x hx;obtain⟨⟨l,_,rR⟩,_⟩:=IX jR;rcases Nj rR with⟨rfl,_,_,_⟩|⟨k,rfl,_,dY⟩
   .exact .inr (.inl (by rw[uy];rfl))
   .obtain⟨_,h2,h3⟩:=mO k rfl;exact .inr (.inr ⟨j,x,k,_,hx,rfl,Ah,uy,dY,h2,h3⟩)
 refine⟨γ',⟨hR.size,hR.defers,?_,?_,?_,?_,hR.ext,hR.new,hR.here,hR.below,hR.grow,hR.os,hR.tape,hR.output,?_,λg o h=>⟨(hR.kept g o h).1,λn b hb dY=>by
  have du:=(hR.kept g o h).2;rcases im n b hb with⟨_,e,b0,gq⟩|e|⟨j,x,k,b0,_,_,_,e,gq,_⟩
  .rw[e]at dY;exact du n b0 gq dY
  .rw[e]at dY;simp at dY
  .rw[e]at dY;exact du k b0 gq dY⟩,hR.fix⟩,?_⟩
 ·-- slots
  intro i
  have eP:(cX np K s).sl i=match K.slots.idxOf? i with
   |some j=>yS s[j]?
   |none=> .one (.one .dead):=rfl
  rw[eP];cases hq:K.slots.idxOf? i with
  |none=>exact⟨trivial,λh=>absurd rfl h⟩
  |some j=>
   have hj:=rT hq;have Ew:s[j]? = B (.s (Ik K i (σ.sl i))):=by rw[<-hs,Ô (by simp;exact(jy.1 hj).1)];simp[hj]
   simp only[Ew,yS];have xt:=hR.slot i;show cF S w γ' (cX np K s).bx (Ik K i (σ.sl i)) _;cases oA:σ.sl i with
   |tup l=>exact⟨trivial,λh=>absurd rfl h⟩
   |cnd x y z=>exact⟨trivial,λh=>absurd rfl h⟩
   |und=>exact⟨trivial,λh=>absurd rfl h⟩
   |one c=>
    rw[oA]at xt;cases c with
    |one x=>exact lF (B (.slot i)) x _ xt.1 xt.2 (λl hl=>by simp at hl;subst hl;simp[jZ,oA])
    |st ls=>
     obtain⟨cs,hu,aC,h1⟩:=xt;refine⟨cs,hu,?_,h1⟩;refine All2.map_left.2 ?_
     have:∀{ls:U Leaf}{cs:U À},All2 (cA S w γ σ.bx) ls cs->(∀u∈cs,One u)->All2 (λx u=>cA S w γ' (cX np K s).bx (rC K Â x) u) ls cs:=by
      intro ls;induction ls with
      |nil=>intro cs h _;cases cs with|nil=>trivial|cons _ _=>exact h.elim
      |cons x ls ih=>
       intro cs h h1;cases cs with
       |nil=>exact h.elim
       |cons u cs=>exact⟨(lF Â x u h.1 (λ_=>h1 u ae) ae).1,ih h.2 (λv hv=>h1 v (by simp[hv]))⟩
     exact this aC h1
    |av n b xs=>obtain⟨cs,hu,bV⟩:=xt;exact⟨cs,hu,bV⟩
 ·-- boxes
  intro n b hb;rcases hF n b hb with hn|⟨j,x,hx,rfl⟩
  .obtain⟨h1,h2⟩:=hB n hn;rw[h1]at hb;unfold wT at hb;split at hb
   .rename_i ls frz nu;simp only[BS.live.injEq]at hb;subst hb;obtain⟨g,cur,e,q1,q2,q3,q4,q5,q6⟩:=hR.box n _ nu;have rM:(ls.zipIdx.map λx=>rC K (if frz=X then Â else B (Loc.cell n x.2)) x.1).length=ls.length:=ae;refine⟨g,cur,e,h2.trans q1,q2,?_,by rw[rM];exact q4,q5,q6⟩;rw[rM];refine Ww 0 (λj x u hx hu=>?_) q3.length;obtain⟨u',eZ,jI⟩:=q3.get j x hx;rw[hu]at eZ;simp at eZ;subst eZ;refine(lF _ x u jI (λ_=>q4 u (kg hu)) (λl hl=>?_)).1;cases frz with
    |true=>simp at hl
    |false=>simp at hl;subst hl;simp[jZ,nu,hx]
   .rename_i m t xs nu;simp only[BS.live.injEq]at hb;subst hb;obtain⟨g,cur,e,q1,q2,q3,q4⟩:=hR.box n _ nu;exact⟨g,cur,e,h2.trans q1,q2,q3,q4⟩
   .rename_i e t xs frz nu;simp only[BS.live.injEq]at hb;subst hb;obtain⟨q1,q3⟩:=hR.box n _ nu;exact⟨by rw[h2];exact q1,by rw[h2];exact q3⟩
   .simp at hb
  .obtain⟨it,src,Ah,⟨xs,f,f',jR,xw,mO⟩,Ev,uy⟩:=Nl j x hx;obtain⟨⟨l,_,rR⟩,_⟩:=IX jR;rw[Ev,xw]at hb;simp only[wV,BS.live.injEq]at hb;subst hb;rcases Nj rR with⟨rfl,cG,rfl,_⟩|⟨k,rfl,_,dY⟩
   .refine DI cG ⟨[],?_,trivial,λg hg=>?_⟩
    .rw[uy];exact⟨ae,.inl ⟨rfl,rfl⟩⟩
    .rw[uy]at hg;simp[blk]at hg
   .obtain⟨rfl,_,_⟩:=mO k rfl;obtain⟨q1,q3⟩:=hR.box k _ dY;exact⟨by rw[uy];exact q1,by rw[uy];exact q3⟩
 ·-- own
  intro n b g hb hg;rcases im n b hb with⟨_,h2,b0,h3⟩|h|⟨j,x,k,b0,_,_,_,h2,h3,_,h5⟩
  .rw[h2]at hg;exact hR.own n b0 g h3 hg
  .rw[h]at hg;simp at hg
  .rw[h2]at hg;rcases hR.own k b0 g h3 hg with h|h
   .exact .inl h
   .rw[h5]at h;simp at h
 ·-- apart
  intro n n' b b' g bA hb aW hg az;rcases im n b hb with⟨m1,h2,b0,h3⟩|h|⟨j,x,k,b0,hx,hxn,hj,h2,h3,h4,_⟩
  .rw[h2]at hg;rcases im n' b' aW with⟨_,i2,b1,i3⟩|i|⟨j',x',k',b1,_,_,_,i2,i3,i4,_⟩
   .rw[i2]at az;exact hR.apart n n' b0 b1 g bA h3 i3 hg az
   .rw[i]at az;simp at az
   .rw[i2]at az;exact hR.apart n k' b0 b1 g (by rintro rfl;exact i4 m1) h3 i3 hg az
  .rw[h]at hg;simp at hg
  .rw[h2]at hg;rcases im n' b' aW with⟨m1,i2,b1,i3⟩|i|⟨j',x',k',b1,nT,Nn,iX,i2,i3,i4,_⟩
   .rw[i2]at az;exact hR.apart k n' b0 b1 g (by rintro rfl;exact h4 m1) h3 i3 hg az
   .rw[i]at az;simp at az
   .rw[i2]at az;by_cases cH:k=k'
    .subst cH;have:=Ws fN hj iX;subst this;rw[hx]at nT;simp at nT;subst nT;exact bA (hxn.symm.trans Nn)
    .exact hR.apart k k' b0 b1 g cH h3 i3 hg az
 ·-- parameters
  intro k v hv;obtain⟨p1,p2,p3⟩:=hR.par k v hv;refine⟨p1,?_,?_⟩
  .by_cases hk:k∈K.boxes
   .rw[(hB k hk).1];exact Et
   .rw[fB]
    have xv:K.boxes.idxOf? k=none:=by
     cases hq:K.boxes.idxOf? k with
     |none=>rfl
     |some i=>exact absurd (kg (rT hq)) hk
    simp only[xv];split
    .rename_i j hq;have hj:=rT hq;simp only[qp]at hj;cases hx:K.lists[j]? with
     |none=>simp[hx]at hj
     |some x=>simp[hx]at hj;have:=xu j x hx;rw[hj,p1]at this;simp at this
    .simp[p1]
  .by_cases hk:k∈K.boxes
   .rw[(hB k hk).2];exact p3
   .have xv:K.boxes.idxOf? k=none:=by
     cases hq:K.boxes.idxOf? k with
     |none=>rfl
     |some i=>exact absurd (kg (rT hq)) hk
    simp only[γ',xv];split
    .rename_i j hq;have hj:=rT hq;simp only[qp]at hj;cases hx:K.lists[j]? with
     |none=>simp[hx]at hj
     |some x=>simp[hx]at hj;have:=xu j x hx;rw[hj,p1]at this;simp at this
    .exact p3
 .intro i;show ((match K.slots.idxOf? i with|some j=>yS s[j]?|none=>Slot.one (.one .dead)):Slot).bare=X;split
  .unfold yS;split<;>rfl
  .rfl
theorem uA{K:Keep}{s:Snap}(hR:Rel N np S0 w0 refs σ a w S γ)(hc:dH σ)(hs:jL np K σ=B s):∃S' γ',Rel N np S0 w0 refs (cX np K s) a w S' γ'/\dH (cX np K s):=by
 unfold jL at hs;split at hs
 .rename_i σ1 h1;split at hs
  .rename_i σ2 h2;obtain⟨S1,bO,eX⟩:=Wp _ _ _ _ hR hc h1;obtain⟨S2,cU,fA⟩:=Er _ _ _ _ bO eX h2;obtain⟨γ',gI,Ey⟩:=jCu cU hs;exact⟨S2,γ',gI,Ey⟩
  .simp at hs
 .simp at hs
end
def RdLe(rd cp:G->BS):Prop:=∀k,rd k=cp k\/rd k = .gone
theorem RdLe.live{rd cp:G->BS}(h:RdLe rd cp){k:G}{b:Bx}(hk:rd k = .live b):cp k = .live b:=by
 rcases h k with h|h
 .rw[<-h];exact hk
 .rw[h]at hk;simp at hk
theorem RdLe.free{rd cp:G->BS}(h:RdLe rd cp){k:G}(hk:jK (rd k)=X):jK (cp k)=true:=by
 rcases h k with h|h
 .rw[<-h];exact hk
 .rw[h]at hk;simp[jK]at hk
theorem RdLe.isLive{rd cp:G->BS}(h:RdLe rd cp){k:G}(hk:isLive (rd k)=X):isLive (cp k)=true:=by
 rcases h k with h|h
 .rw[<-h];exact hk
 .rw[h]at hk;simp[Lft.isLive]at hk
theorem RdLe.rdf{rd cp:G->BS}(h:RdLe rd cp)(np:G):RdLe (λk=>if parK np k then .gone else rd k) (λk=>if parK np k then .gone else cp k):=by
 intro k;dsimp only;split
 .exact .inl rfl
 .exact h k
theorem RdLe.msk{rd cp:G->BS}(h:RdLe rd cp):RdLe (mskM rd) (mskM cp):=by
 intro k;rcases h k with h|h
 .left;unfold mskM;rw[h]
 .right;unfold mskM;rw[h]
theorem Np(M:U G)(rd:G->BS):RdLe (jY M rd) rd:=by
 intro k;unfold jY;split
 .exact .inr rfl
 .exact .inl rfl
section
variable{rd cp:G->BS}(hle:RdLe rd cp)
include hle
theorem Wx{t:Ty}{l:Leaf}{x}(h:lj rd t l=B x):lj cp t l=B x:=by
 unfold lj at h ⊢;split at h
 .exact h
 .exact h
 .split at h
  .rename_i hk;rw[hle.live hk];exact h
  .simp at h
 .simp at h
theorem IY:∀(t:Ty){ls:U Leaf}{x},gath rd t ls=B x->gath cp t ls=B x:=by
 intro t;induction t with
 |unit=>intro ls x h;simpa[gath]using h
 |wrap a ih=>
  intro ls x h;simp only[gath]at h ⊢;split at h
  .rename_i hg;rw[ih hg];exact h
  .simp at h
 |pair a b ue uf=>
  intro ls x h;simp only[gath]at h ⊢;split at h
  .rename_i hg;rw[ue hg];dsimp only;split at h
   .rename_i iY;rw[uf iY];exact h
   .simp at h
  .simp at h
 |arr n a ih=>intro ls x h;simp[gath]at h
 |_=>
  intro ls x h;cases ls with
  |nil=>simp[gath]at h
  |cons l ls=>
   simp only[gath]at h ⊢;split at h
   .rename_i hl;rw[Wx hle hl];exact h
   .simp at h
theorem Nq{t:Ty}{c:Cel}{x}(h:rv rd t c=B x):rv cp t c=B x:=by
 unfold rv at h ⊢;split at h
 .split at h
  .simp at h
  .rename_i ha;simp only[ha,za,qe];split at h
   .rename_i hg;rw[IY hle _ hg];exact h
   .simp at h
 .split at h
  .rename_i ha;simp only[ha,if_true];split at h
   .rename_i hg;rw[IY hle _ hg];exact h
   .simp at h
  .simp at h
 .exact h
theorem jxO{ti:TyI}{l:Leaf}{x}(h:qD rd ti l=B x):qD cp ti l=B x:=by
 unfold qD at h ⊢;split at h
 .split at h
  .rename_i hk;rw[hle.live hk];exact h
  .rename_i hk;rw[hle.live hk];exact h
  .simp at h
 .split at h
  .rename_i hk;rw[hle.live hk];exact h
  .rename_i hk;rw[hle.live hk];exact h
  .simp at h
 .exact h
 .simp at h
theorem juF{ti:TyI}{i:G}{l:Leaf}{x}(h:ry rd ti i l=B x):ry cp ti i l=B x:=by
 unfold ry at h ⊢;split at h
 .split at h
  .split at h
   .rename_i hl;simp only[hle.isLive hl,if_true];exact h
   .simp at h
  .simp at h
 .split at h
  .split at h
   .rename_i hl;simp only[hle.isLive hl,if_true];exact h
   .simp at h
  .simp at h
 .exact h
 .simp at h
theorem juG{ti:TyI}{l i:Leaf}{x}(h:uQ rd ti l i=B x):uQ cp ti l i=B x:=by
 unfold uQ at h ⊢;split at h
 .split at h
  .rename_i hk;rw[hle.live hk];exact h
  .simp at h
 .exact h
 .split at h
  .rename_i hk;rw[hle.live hk];exact h
  .rename_i hk;rw[hle.live hk];exact h
  .simp at h
 .split at h
  .rename_i hk;rw[hle.live hk];exact h
  .simp at h
 .simp at h
theorem Wy(a:Ty):∀{ls:U Leaf}{x},uO rd a ls=B x->uO cp a ls=B x
 |[],_,h=>h
 |l::ls,x,h=>by
  simp only[uO]at h ⊢;split at h
  .rename_i h1 h2;rw[Wx hle h1,Wy a h2];exact h
  .simp at h
theorem juH{t:H Ty}{l:Leaf}{x}(h:uP rd t l=B x):uP cp t l=B x:=by
 unfold uP at h ⊢;split at h
 .split at h
  .split at h
   .rename_i hi;rw[if_pos hi];split at h
    .rename_i hk;rw[hle.live hk];exact h
    .simp at h
   .simp at h
  .simp at h
 .simp at h
theorem juI{ti:TyI}{l:Leaf}{c:Cel}(h:uP rd ti.ty l=Â)(hc:qD rd ti l=B c):uP cp ti.ty l=none:=by
 unfold uP at h ⊢;split at h
 .rename_i k;split at h
  .rename_i m el bM;split at h
   .rename_i hi;rw[if_pos hi];simp only[qD]at hc;split at hc
    .rename_i ls frz hk;rw[hle.live hk];cases frz with
     |true=>rfl
     |false=>rw[hk]at h;simp at h
    .rename_i hk;rw[hle.live hk]
    .simp at hc
   .rename_i hi;rw[if_neg hi]
  .rfl
 .rfl
theorem Nr(a:Ty):∀(ps:U (G×Cel)){xs:U a.den}{u:Ups}{x},lu rd a xs u ps=B x->lu cp a xs u ps=B x
 |[],_,_,_,h=>h
 |(i,c)::r,xs,u,x,h=>by
  simp only[lu]at h ⊢;split at h
  .rename_i hd;rw[Nq hle hd];dsimp only;split at h
   .rename_i hi;simp only[hi,if_true];exact Nr a r h
   .simp at h
  .simp at h
theorem jzw{t:H Ty}{l:Leaf}{x}(h:lenC rd t l=B x):lenC cp t l=B x:=by
 unfold lenC at h ⊢;split at h
 .exact h
 .split at h
  .rename_i hk;rw[hle.live hk];exact h
  .simp at h
 .exact h
 .exact h
 .split at h
  .rename_i hk;rw[hle.live hk];exact h
  .simp at h
 .split at h
  .rename_i hk;rw[hle.live hk];exact h
  .simp at h
 .simp at h
theorem jzx{e:G}{a:Ty}{s l:Leaf}{x}(h:appH rd e a s l=B x):appH cp e a s l=B x:=by
 unfold appH at h ⊢;split at h
 .split at h
  .rename_i cH;rw[if_pos cH];split at h
   .rename_i hk;rw[hle.live hk];exact h
   .simp at h
  .simp at h
 .simp at h
omit hle in
theorem jzy{e e':G}{a a':Ty}{s l:Leaf}{x}(h:appS rd e a s=B x):appH cp e' a' s l=none:=by
 unfold appS at h;split at h
 .rfl
 .rfl
 .simp at h
theorem juJ{ti:TyI}{l m:Leaf}{lo hi:H Leaf}{x}(h:BQ rd ti l lo hi m=B x):BQ cp ti l lo hi m=B x:=by
 unfold BQ at h ⊢;split at h
 .split at h
  .rename_i hk;rw[hle.live hk];exact h
  .simp at h
 .simp at h
theorem jzz{e:G}{a:Ty}{l:Leaf}{x}(h:appS rd e a l=B x):appS cp e a l=B x:=by
 unfold appS at h ⊢;split at h
 .split at h
  .rename_i hk;rw[hle.live hk];exact h
  .simp at h
 .exact h
 .simp at h
theorem Wz{a:Ty}{l:Leaf}{x}(h:appX rd a l=B x):appX cp a l=B x:=by
 unfold appX at h ⊢;split at h
 .split at h
  .rename_i hk;rw[hle.live hk];exact h
  .simp at h
 .exact h
 .exact h
 .split at h
  .rename_i hk;rw[hle.live hk];exact h
  .simp at h
 .simp at h
theorem jxP{t:H Ty}{l m:Leaf}{x}(h:BR rd t l m=B x):BR cp t l m=B x:=by
 unfold BR at h ⊢;split at h
 .split at h
  .rename_i hk;rw[hle.live hk];dsimp only;split at h
   .rename_i ht;rw[if_pos ht];split at h
    .rename_i hy;rw[Wz hle hy];exact h
    .simp at h
   .simp at h
  .simp at h
 .simp at h
theorem juK{t:H Ty}{l:Leaf}{x}(h:BT rd t l=B x):BT cp t l=B x:=by
 unfold BT at h ⊢;split at h
 .split at h
  .rename_i hk;rw[hle.live hk];exact h
  .simp at h
 .simp at h
theorem IZ:∀(ls:U Leaf){x},tvs rd ls=B x->tvs cp ls=B x
 |[],_,h=>h
 |l::ls,x,h=>by
  simp only[tvs]at h ⊢;split at h
  .rename_i hr;rw[IZ ls hr];dsimp only;split at h
   .exact h
   .split at h
    .rename_i hk;rw[hle.live hk];exact h
    .simp at h
   .simp at h
  .simp at h
theorem WA:∀(cs:U Cel){x},wP rd cs=B x->wP cp cs=B x
 |[],_,h=>h
 |c::cs,x,h=>by
  simp only[wP]at h ⊢;split at h
  .rename_i hr;rw[WA cs hr];dsimp only;split at h
   .exact h
   .split at h
    .rename_i hk;rw[hle.live hk];dsimp only;split at h
     .rename_i ht;rw[IZ hle _ ht];exact h
     .simp at h
    .simp at h
   .simp at h
  .simp at h
end
theorem juL{rd cp rdf iq:G->BS}(hle:RdLe rd cp)(gY:RdLe rdf iq){n:G}{c:Cel}{l:Leaf}{x}(h:wO rd rdf n c l=B x):wO cp iq n c l=B x:=by
 unfold wO at h ⊢;split at h
 .split at h
  .rename_i hk;rw[hle.live hk];exact h
  .rename_i hk;rw[hle.live hk];exact h
  .simp at h
 .split at h
  .rename_i hk;rw[hle.live hk];dsimp only;split at h
   .split at h
    .rename_i hi;rw[if_pos hi];split at h
     .rename_i hg;rw[IY gY _ hg];exact h
     .simp at h
    .simp at h
   .simp at h
  .rename_i hk;rw[hle.live hk];dsimp only;split at h
   .split at h
    .rename_i hi;rw[if_pos hi];split at h
     .rename_i hg;rw[IY gY _ hg];exact h
     .simp at h
    .simp at h
   .simp at h
  .simp at h
 .simp at h
theorem juM{par:G->Ç}{rd cp:G->BS}(hle:RdLe rd cp){ti:TyI}{n:G}{l:Leaf}{lo hi:H Leaf}{x}(h:BP par rd ti n l lo hi=B x):BP par cp ti n l lo hi=B x:=by
 unfold BP at h ⊢;split at h
 .exact h
 .split at h
  .split at h
   .rename_i hk;rw[hle.live hk];exact h
   .simp at h
  .split at h
   .rename_i hk;rw[hle.live hk];dsimp only;split at h
    .rename_i bM;rw[if_pos bM];split at h
     .split at h
      .rename_i hp;rw[if_pos hp];exact h
      .rename_i hp;rw[if_neg hp];split at h
       .rename_i hl;rw[if_pos hl];split at h
        .rename_i hf;rw[if_pos (hle.free hf)];exact h
        .simp at h
       .rename_i hl;rw[if_neg hl];exact h
     .simp at h
    .simp at h
   .simp at h
 .split at h
  .rename_i hk;rw[hle.live hk];exact h
  .simp at h
 .simp at h
theorem jxQ{rd cp rdf iq:G->BS}(hle:RdLe rd cp)(gY:RdLe rdf iq){t:H TyI}{mv rl:Ç}{c:Cel}{x}(h:wQ rd rdf t mv rl c=B x):wQ cp iq t mv rl c=B x:=by
 unfold wQ at h ⊢;split at h
 .split at h
  .rename_i hk;rw[hle.live hk];dsimp only;split at h
   .rename_i ht;rw[IZ gY _ ht];exact h
   .simp at h
  .rename_i hk;rw[hle.live hk];dsimp only;split at h
   .rename_i ht;rw[IZ gY _ ht];exact h
   .simp at h
  .simp at h
 .exact h
 .exact h
 .split at h
  .cases mv with
   |true=>
    simp only[j6]at h ⊢;split at h
    .rename_i hk;rw[gY.live hk];exact h
    .simp at h
   |false=>
    simp only[j7]at h ⊢;split at h
    .rename_i hk;rw[hle.live hk];exact h
    .simp at h
  .split at h
   .rename_i hk;rw[gY.live hk];exact h
   .simp at h
 .split at h
  .split at h
   .split at h
    .rename_i hd;rw[Nq gY hd];exact h
    .simp at h
   .simp at h
  .simp at h
theorem WB{rd cp rdf iq:G->BS}(hle:RdLe rd cp)(gY:RdLe rdf iq){T:G->H TyI}{mv:Ç}:∀(cs:U Cel){ts:U G}{ms:U Ç}{x},rz rd rdf T mv ts ms cs=B x->rz cp iq T mv ts ms cs=B x
 |[],_,_,_,h=>h
 |c::cs,ts,ms,x,h=>by
  simp only[rz]at h ⊢;split at h
  .rename_i ha;rw[jxQ hle gY ha];dsimp only;split at h
   .rename_i hr;rw[WB hle gY cs hr];exact h
   .simp at h
  .simp at h
theorem jzA{rd cp rdf iq:G->BS}(hle:RdLe rd cp)(gY:RdLe rdf iq){n m:G}{us:Ups}{fs:U Bk}{os:U Out}{x}(h:mkHd rd rdf n us fs m os=B x):mkHd cp iq n us fs m os=B x:=by
 unfold mkHd at h ⊢;split at h
 .split at h
  .split at h
   .rename_i hf;simp only[jd]at hf;rw[if_pos (by simp only[jd];exact⟨hle.free hf.1,gY.isLive hf.2⟩)];exact h
   .simp at h
  .simp at h
 .simp at h
theorem jxR{rd cp rdf iq:G->BS}(hle:RdLe rd cp)(gY:RdLe rdf iq){n:G}{us:Ups}{fs:U Bk}{r:Ret}{x}(h:yO rd rdf n us fs r=B x):yO cp iq n us fs r=B x:=by
 unfold yO at h ⊢;split at h
 .exact jzA hle gY h
 .split at h
  .split at h
   .split at h
    .rename_i hf;rw[if_pos (jz.2 λe he=>hle.free (jz.1 hf e he))];exact h
    .simp at h
   .simp at h
  .simp at h
inductive ActLe:Act->Act->Prop
 |val (lv:Ç) (s:Slot) (u:Ups):ActLe (.val lv s u) (.val lv s u)
 |call (f:G) (args:U Arg) (mk mk':Ret->H (Slot×Ups)):(∀r x,mk r=B x->mk' r=B x)->ActLe (.call f args mk) (.call f args mk')
theorem ActLe.refl(x:Act):ActLe x x:=by cases x with
 |val lv s u=>exact .val lv s u
 |call f args mk=>exact .call f args mk mk λ_ _ h=>h
theorem WC{x y:H Leaf}(h:∀z,x=B z->y=B z){r:Act}(hr:ox x=B r):ox y=B r:=by
 cases x with
 |none=>simp[ox]at hr
 |some z=>rw[h z rfl];exact hr
theorem jzB{x y:H (Ç×Leaf)}(h:∀z,x=B z->y=B z){r:Act}(hr:oChk x=B r):oChk y=B r:=by
 cases x with
 |none=>simp[oChk]at hr
 |some z=>rw[h z rfl];exact hr
theorem WD{rd cp:G->BS}(hle:RdLe rd cp){t:G}{k v:Ty}{x y:Leaf}{z}(h:mapC rd t k v x y=B z):mapC cp t k v x y=B z:=by
 unfold mapC at h ⊢;split at h
 .split at h
  .rename_i hb;simp only[hle.live hb];exact h
  .simp at h
 .simp at h
theorem WE{E:Env}{ev:Û->Slot}{rd cp:G->BS}(jH:RdLe rd cp){act:U (G×Ç)}{o:Æ}{A:Act}(h:eF E ev rd act o=B A):∃A',eF E ev cp act o=B A'/\ActLe A A':=by
 have hle:=jH.msk;have gY:=hle.rdf E.np;have same:eF E ev cp act o=B A->∃A',eF E ev cp act o=B A'/\ActLe A A':=λh=>⟨A,h,.refl A⟩;obtain⟨dst,op,type,pos,after,guard⟩:=o;cases op
 case alloc t=>
  refine same ?_;simp only[eF]at h ⊢;split at h
  .split at h
   .rename_i hf;simp only[hle.free hf,if_true];exact h
   .simp at h
  .simp at h
 case box t x=>
  refine same ?_;simp only[eF]at h ⊢;split at h
  .rename_i hf;simp only[hle.free hf,if_true];exact h
  .simp at h
 case build t ps=>
  refine same ?_;simp only[eF]at h ⊢;split at h
  .split at h
   .split at h
    .rename_i hi;simp only[hi,if_true];exact h
    rename_i hi;rw[if_neg hi];split at h
    .rename_i hb;rw[Nr gY _ _ hb];exact h
    .simp at h
   .exact h
   .simp at h
  .simp at h
 case buildSlice t n ps=>
  refine same ?_;simp only[eF]at h ⊢;split at h
  .split at h
   .split at h
    .simp at h
    .rename_i hn;simp only[hn,za];split at h
     .rename_i hb;rw[Nr gY _ _ hb];dsimp only;split at h
      .rename_i hf;simp only[hle.free hf,if_true];exact h
      .simp at h
     .simp at h
   .simp at h
  .simp at h
 case load t x=>
  refine same ?_;simp only[eF]at h ⊢;split at h
  .split at h
   .rename_i rR;split at h
    .rename_i hg;rw[juH hle rR];dsimp only;rw[Wy gY _ hg];exact h
    .simp at h
   .rename_i rR;cases u7:qD (mskM rd) _ (lf ((ev x).cel act)) with
    |none=>rw[u7]at h;simp[oCel]at h
    |some c=>rw[juI hle rR u7,jxO hle u7];rw[u7]at h;exact h
  .simp at h
 case store t x y=>
  refine same ?_;simp only[eF]at h ⊢;split at h
  .split at h
   .rename_i hs;rw[juL hle gY hs];exact h
   .simp at h
  .simp at h
 case nilCheck x=>
  refine same ?_;simp only[eF]at h ⊢;split at h
  .split at h
   .rename_i hl;simp only[hle.isLive hl,if_true];exact h
   .simp at h
  .split at h
   .rename_i hl;simp only[hle.isLive hl,if_true];exact h
   .simp at h
  .exact h
  .simp at h
 case makeFunc fn first captured=>
  refine same ?_;cases fn with
  |func f=>
   simp only[eF]at h ⊢;split at h
   .rename_i hf;simp only[hf,if_true];split at h
    .rename_i hc;rw[WA gY _ hc];exact h
    .simp at h
   .simp at h
  |_=>simp[eF]at h
 case fieldAddr t x i=>
  refine same ?_;simp only[eF]at h ⊢;split at h
  .exact WC (λz hz=>juF hle hz) h
  .simp at h
 case indexAddr t x i=>
  refine same ?_;simp only[eF]at h ⊢;split at h
  .exact jzB (λz hz=>juG hle hz) h
  .simp at h
 case call c=>
  simp only[eF]at h ⊢;cases hc:c.callee with
  |invoke r m=>simp[hc]at h
  |value f=>
   simp only[hc]at h ⊢;split at h
   .split at h
    .rename_i ha;rw[WB jH gY _ ha];dsimp only;split at h
     .rename_i hb;simp only[hb,if_true];simp only[j5]at h;subst h;exact⟨_,rfl,.call _ _ _ _ λr x hx=>jxR hle gY hx⟩
     .simp at h
    .simp at h
   .simp at h
  |builtin b=>
   simp only[hc]at h ⊢;cases b
   case len=>
    refine⟨A,?_,.refl A⟩;dsimp only at h ⊢;split at h
    .split at h
     .exact WC (λz hz=>jzw hle hz) h
     .simp at h
    .simp at h
   case append=>
    refine⟨A,?_,.refl A⟩;dsimp only at h ⊢;split at h
    .split at h
     .rename_i ht;rw[if_pos ht];split at h
      .split at h
       .rename_i bM;split at h
        .rename_i hh;rw[jzx hle hh];exact h
        split at h
        .rename_i h1 h2;rw[jzy h1];dsimp only;rw[jzz gY h1,Wz hle h2];dsimp only;split at h
         .rename_i hf;simp only[hle.free hf,if_true];exact h
         .simp at h
        .simp at h
       .simp at h
      .simp at h
     .simp at h
    .simp at h
   case copy=>
    refine⟨A,?_,.refl A⟩;dsimp only at h ⊢;split at h
    .split at h
     .rename_i ht;rw[if_pos ht];split at h
      .split at h
       .rename_i hq;rw[jxP hle hq];exact h
       .simp at h
      .simp at h
     .simp at h
    .simp at h
   case clear=>
    refine⟨A,?_,.refl A⟩;dsimp only at h ⊢;split at h
    .split at h
     .split at h
      .rename_i hq;rw[juK hle hq];exact h
      .simp at h
     .simp at h
    .simp at h
   all_goals exact⟨A,h,.refl A⟩
 case slice t x lo hi mx=>
  refine same ?_;cases mx with
  |some m=>
   simp only[eF]at h ⊢;split at h
   .split at h
    .rename_i hq;rw[juJ hle hq];exact h
    .simp at h
   .simp at h
  |none=>
   simp only[eF]at h ⊢;split at h
   .split at h
    .rename_i hq;rw[juM hle hq];exact h
    .simp at h
   .simp at h
 case makeMap t x=>
  refine same ?_;cases x with
  |some m=>simp[eF]at h
  |none=>
   simp only[eF]at h ⊢;split at h
   .split at h
    .rename_i hf;simp only[hle.free hf,if_true];exact h
    .simp at h
   .simp at h
 case lookup t x i ok=>
  refine same ?_;simp only[eF]at h ⊢;split at h
  .split at h
   .rename_i hq;rw[WD jH hq];exact h
   .simp at h
  .simp at h
 case mapUpdate t x i y=>
  refine same ?_;simp only[eF]at h ⊢;split at h
  .split at h
   .rename_i hq hd;rw[WD jH hq,Nq gY hd];exact h
   .simp at h
  .simp at h
 all_goals exact⟨A,h,.refl A⟩
section
variable{N:NT}{np:G}{S0:aU}{w0:Y}{refs:Refs}{σ:St}{a:Á}{w:Y}{S:aU}{γ:G->À}
def CFun(C:G->U Arg->(R:Type)->(Ret->H R)->H R):Prop:=
 ∀f args,∃o:H Ret,∀(R:Type)(k:Ret->H R),C f args R k=o.bind k
theorem WG{E:Env}{ev rU:Û->Slot}{rd:G->BS}{act:U (G×Ç)}{o:Æ}(h:∀x∈o.op.operands,ev x=rU x):eF E ev rd act o=eF E rU rd act o:=by
 have xx:∀ps:Ã (G×Û),(∀x∈ps.toList.map (·.2),ev x=rU x)->
   (ps.toList.map λp=>(p.1,(ev p.2).cel act))=(ps.toList.map λp=>(p.1,(rU p.2).cel act)):=λps hp=>
  zu λp hm=>by simp only[hp p.2 (jr.2 ⟨p,hm,rfl⟩)]
 have args:∀ps:Ã Û,(∀x∈ps,ev x=rU x)->(ps.toList.map λp=>(ev p).cel act)=(ps.toList.map λp=>(rU p).cel act):=λps hp=>
  zu λp hm=>by rw[hp p (by simpa using hm)]
 obtain⟨dst,op,type,pos,after,guard⟩:=o;cases op<;>simp only[Op.operands]at h<;>simp only[eF]
 case build t ps=>rw[xx ps λx hx=>h x (by simpa using hx)]
 case buildSlice t n ps=>rw[xx ps λx hx=>h x (by simpa using hx)]
 case makeFunc fn first captured=>
  have e:=args captured λx hx=>h x (by simp[hx]);cases fn with
  |func f=>simp only[e]
  |_=>rfl
 case call c=>
  have ha:=args c.args (λx hx=>h x (by simp[Call.operands,hx]));have qO:∀x∈c.args.toList,ev x=rU x:=λx hx=>h x (by simp[Call.operands];right;simpa using hx);simp only[ha];cases hc:c.callee with
  |value f=>have hf:ev f=rU f:=h f (by simp[Call.operands,hc]);simp only[hf]
  |invoke r m=>rfl
  |builtin b=>
   cases b<;>simp only
   case len=>
    split
    .rename_i x t gX pR;have:=qO x (by rw[gX];simp);simp only[this]
    .rfl
   case append=>
    split
    .rename_i t t' s x pR gX;have e1:=qO s (by rw[gX];simp);have e2:=qO x (by rw[gX];simp);simp only[e1,e2]
    .rfl
   case copy=>
    split
    .rename_i t t' s x pR gX;have e1:=qO s (by rw[gX];simp);have e2:=qO x (by rw[gX];simp);simp only[e1,e2]
    .rfl
   case clear=>
    split
    .rename_i t x pR gX;have e1:=qO x (by rw[gX];simp);simp only[e1]
    .rfl
 case slice t x lo hi mx=>
  have e1:=h x ae
  have eo:∀y:H Û,(∀z,y=B z->ev z=rU z)->(y.map λx=>lf ((ev x).cel act))=(y.map λx=>lf ((rU x).cel act)):=by
   intro y hy;cases y with
   |none=>rfl
   |some z=>simp only[qa,hy z rfl]
  have e2:=eo lo (λz hz=>h z (by simp[hz]));have e3:=eo hi (λz hz=>h z (by simp[hz]));cases mx with
  |some m=>have e4:=h m ae;simp only[e1,e2,e3,e4]
  |none=>simp only[e1,e2,e3]
 case makeMap t x=>cases x<;>rfl
 all_goals (first|rfl|(simp_all;done))
def ShEq:BS->BS->Prop
 |.live (.cell _ _),.live (.cell _ _)=>True
 |.live (.lst e a xs _),.live (.lst e' a' dD _)=>e=e'/\a=a'/\xs.length=dD.length
 |.live (.arr n a _),.live (.arr n' a' _)=>n=n'/\a=a'
 |.free,.free=>True
 |.gone,.gone=>True
 |_,_=>False
theorem ShEq.refl:∀b:BS,ShEq b b
 |.live (.cell _ _)=>trivial
 |.live (.lst _ _ _ _)=>⟨rfl,rfl,rfl⟩
 |.live (.arr _ _ _)=>⟨rfl,rfl⟩
 |.free=>trivial
 |.gone=>trivial
theorem ShEq.symm{b c:BS}(h:ShEq b c):ShEq c b:=by
 cases b with
 |free=>cases c<;>simp_all[ShEq]
 |gone=>cases c<;>simp_all[ShEq]
 |live b=>
  cases c with
  |free=>cases b<;>simp[ShEq]at h
  |gone=>cases b<;>simp[ShEq]at h
  |live c=>
   cases b<;>cases c<;>simp only[ShEq]at h ⊢
   .exact⟨h.1.symm,h.2.1.symm,h.2.2.symm⟩
   .exact⟨h.1.symm,h.2.symm⟩
theorem ShEq.trans{b c d:BS}(h:ShEq b c)(h':ShEq c d):ShEq b d:=by
 cases b with
 |free=>cases c with
  |free=>exact h'
  |gone=>simp[ShEq]at h
  |live c=>cases c<;>simp[ShEq]at h
 |gone=>cases c with
  |gone=>exact h'
  |free=>simp[ShEq]at h
  |live c=>cases c<;>simp[ShEq]at h
 |live b=>cases c with
  |free=>cases b<;>simp[ShEq]at h
  |gone=>cases b<;>simp[ShEq]at h
  |live c=>cases d with
   |free=>cases c<;>simp[ShEq]at h'
   |gone=>cases c<;>simp[ShEq]at h'
   |live d=>
    cases b<;>cases c<;>simp only[ShEq]at h<;>cases d<;>simp only[ShEq]at h' ⊢
    .exact⟨h.1.trans h'.1,h.2.1.trans h'.2.1,h.2.2.trans h'.2.2⟩
    .exact⟨h.1.trans h'.1,h.2.trans h'.2⟩
theorem ShEq.mask{rd cp:G->BS}{M:U G}(h:∀k,M.contains k=O->ShEq (rd k) (cp k))(k:G):ShEq (jY M rd k) (jY M cp k):=by
 unfold jY;split
 .trivial
 .rename_i hc;exact h k (by simpa using hc)
theorem I0{b c:BS}(h:ShEq b c):isLive b=isLive c:=by
 cases b with
 |free=>cases c<;>simp_all[ShEq,isLive]
 |gone=>cases c<;>simp_all[ShEq,isLive]
 |live b=>cases c with
  |free=>cases b<;>simp[ShEq]at h
  |gone=>cases b<;>simp[ShEq]at h
  |live c=>rfl
theorem jzC{rd cp:G->BS}(h:∀k,ShEq (rd k) (cp k))(ti:TyI)(l i:Leaf):uQ rd ti l i=uQ cp ti l i:=by
 unfold uQ;split
 .rename_i k _ _;have hk:=h k;generalize rd k=b at hk;generalize cp k=c at hk;cases b with
  |free=>cases c<;>simp_all[ShEq]
  |gone=>cases c<;>simp_all[ShEq]
  |live b=>cases c with
   |free=>cases b<;>simp[ShEq]at hk
   |gone=>cases b<;>simp[ShEq]at hk
   |live c=>
    cases b with
    |lst e a xs f=>cases c with
     |lst e' a' dD f'=>simp only[ShEq]at hk;obtain⟨rfl,rfl,hl⟩:=hk;dsimp only;rw[hl]
     |cell _ _=>simp[ShEq]at hk
     |arr _ _ _=>simp[ShEq]at hk
    |cell _ _=>cases c<;>first|rfl|(simp[ShEq]at hk)
    |arr _ _ _=>cases c<;>first|rfl|(simp[ShEq]at hk)
 .rfl
 .rename_i k _ _;have hk:=h k;generalize rd k=b at hk;generalize cp k=c at hk;cases b with
  |free=>cases c<;>simp_all[ShEq]
  |gone=>cases c<;>simp_all[ShEq]
  |live b=>cases c with
   |free=>cases b<;>simp[ShEq]at hk
   |gone=>cases b<;>simp[ShEq]at hk
   |live c=>
    cases b with
    |arr n a xs=>cases c with
     |arr n' a' dD=>simp only[ShEq]at hk;obtain⟨rfl,rfl⟩:=hk;rfl
     |cell _ _=>simp[ShEq]at hk
     |lst _ _ _ _=>simp[ShEq]at hk
    |cell _ _=>cases c<;>first|rfl|(simp[ShEq]at hk)
    |lst _ _ _ _=>cases c<;>first|rfl|(simp[ShEq]at hk)
 .rename_i k _ _ _;have hk:=h k;generalize rd k=b at hk;generalize cp k=c at hk;cases b with
  |free=>cases c<;>simp_all[ShEq]
  |gone=>cases c<;>simp_all[ShEq]
  |live b=>cases c with
   |free=>cases b<;>simp[ShEq]at hk
   |gone=>cases b<;>simp[ShEq]at hk
   |live c=>
    cases b with
    |lst e a xs f=>cases c with
     |lst e' a' dD f'=>simp only[ShEq]at hk;obtain⟨rfl,rfl,hl⟩:=hk;dsimp only;rw[hl]
     |cell _ _=>simp[ShEq]at hk
     |arr _ _ _=>simp[ShEq]at hk
    |cell _ _=>cases c<;>first|rfl|(simp[ShEq]at hk)
    |arr _ _ _=>cases c<;>first|rfl|(simp[ShEq]at hk)
 .rfl
theorem jzD{rd cp:G->BS}(h:∀k,ShEq (rd k) (cp k))(ti:TyI)(i:G)(l:Leaf):ry rd ti i l=ry cp ti i l:=by
 unfold ry;split
 .rw[I0 (h _)]
 .rw[I0 (h _)]
 .rfl
 .rfl
theorem ShEq.msk{rd cp:G->BS}{k:G}(h:ShEq (rd k) (cp k)):ShEq (mskM rd k) (mskM cp k):=by
 unfold mskM;generalize rd k=a at h;generalize cp k=b at h;cases a with
 |free=>cases b<;>simp_all[ShEq]
 |gone=>cases b<;>simp_all[ShEq]
 |live a=>
  cases b with
  |free=>cases a<;>simp[ShEq]at h
  |gone=>cases a<;>simp[ShEq]at h
  |live b=>
   cases a<;>cases b<;>simp only[ShEq]at h<;>dsimp only
   .trivial
   .obtain⟨rfl,rfl,h3⟩:=h;rename_i e _ _ _ _ _;cases isM e
    .exact⟨rfl,rfl,h3⟩
    .trivial
   .exact h
theorem jCv{E:Env}{ev:Û->Slot}{rd cp:G->BS}{act:U (G×Ç)}{o:Æ}(ha:sr o=X)(h:∀k,ShEq (rd k) (cp k)):eF E ev rd act o=eF E ev cp act o:=by
 have h:∀k,ShEq (mskM rd k) (mskM cp k):=λk=>(h k).msk;obtain⟨dst,op,type,pos,after,guard⟩:=o;cases op<;>simp only[sr,qe]at ha
 .simp only[eF];split
  .rw[I0 (h _)]
  .rw[I0 (h _)]
  .rfl
  .rfl
 .simp only[eF];split
  .rw[jzD h]
  .rfl
 .simp only[eF];split
  .rw[jzC h]
  .rfl
theorem WH:∀(u:Ups)(σ:St),(∀e∈u,ShEq (σ.bx e.1) e.2)->∀k,ShEq (σ.bx k) ((σ.upd u).bx k)
 |[],σ,_,k=>ShEq.refl _
 |e::u,σ,h,k=>by
  have h0:∀k,ShEq (σ.bx k) ((σ.setB e.1 e.2).bx k):=by
   intro k;simp only[St.setB];split
   .rename_i hk;rw[hk];exact h e ae
   .exact ShEq.refl _
  have h1:=WH u (σ.setB e.1 e.2) (λx hx=>(h0 x.1).symm.trans (h x (by simp[hx]))) k;exact(h0 k).trans h1
def UpSh(rd:G->BS)(u:Ups):Prop:=∀e∈u,ShEq (rd e.1) e.2/\isLive e.2=X
theorem jCw{rd:G->BS}{t:Ty}{l:Leaf}{v:t.den}{u:Ups}(h:lj rd t l=B (v,u)):UpSh rd u:=by
 unfold lj at h;split at h
 .split at h
  .simp only[j5,j9]at h;rw[<-h.2];intro e he;simp at he
  .simp at h
 .split at h
  .simp only[j5,j9]at h;rw[<-h.2];intro e he;simp at he
  .simp at h
 .split at h
  .rename_i hk;split at h
   .simp only[j5,j9]at h;rw[<-h.2];intro e he;simp only[kp]at he;subst he;dsimp only;rw[hk];exact⟨⟨rfl,rfl,rfl⟩,rfl⟩
   .simp at h
  .simp at h
 .simp at h
theorem UpSh.app{rd:G->BS}{u v:Ups}(h:UpSh rd u)(h':UpSh rd v):UpSh rd (u++v):=by
 intro e he;rcases jn.1 he with he|he
 .exact h e he
 .exact h' e he
theorem WI{rd:G->BS}:∀(t:Ty){ls:U Leaf}{v:t.den}{r:U Leaf}{u:Ups},gath rd t ls=B (v,r,u)->UpSh rd u:=by
 intro t;induction t with
 |unit=>intro ls v r u h;simp only[gath,j5,j9]at h;rw[<-h.2.2];intro e he;simp at he
 |wrap a ih=>
  intro ls v r u h;simp only[gath]at h;split at h
  .rename_i hg;simp only[j5,j9]at h;rw[<-h.2.2];exact ih hg
  .simp at h
 |pair a b ue uf=>
  intro ls v r u h;simp only[gath]at h;split at h
  .rename_i hg;split at h
   .rename_i iY;simp only[j5,j9]at h;rw[<-h.2.2];exact(ue hg).app (uf iY)
   .simp at h
  .simp at h
 |arr n a ih=>intro ls v r u h;simp[gath]at h
 |_=>
  intro ls v r u h;cases ls with
  |nil=>simp[gath]at h
  |cons l ls=>
   simp only[gath]at h;split at h
   .rename_i hl;simp only[j5,j9]at h;rw[<-h.2.2];exact jCw hl
   .simp at h
theorem jzF{rd rdf:G->BS}(bN:RdLe rdf rd){n:G}{c:Cel}{l:Leaf}{u:Ups}(h:wO rd rdf n c l=B u):UpSh rd u:=by
 have one:∀(k:G)(b b':Bx),rd k = .live b->ShEq (.live b) (.live b')->UpSh rd [(k,.live b')]:=by intro k b b' hk hs e he;simp only[kp]at he;subst he;exact⟨by rw[hk];exact hs,rfl⟩
 have lift:∀u,UpSh rdf u->UpSh rd u:=by
  intro u hu e he;obtain⟨h1,h2⟩:=hu e he;rcases bN e.1 with hq|hq
  .rw[hq]at h1;exact⟨h1,h2⟩
  .rw[hq]at h1;cases h3:e.2 with
   |free=>rw[h3]at h2;simp[isLive]at h2
   |gone=>rw[h3]at h2;simp[isLive]at h2
   |live b=>rw[h3]at h1;cases b<;>simp[ShEq]at h1
 unfold wO at h;split at h
 .split at h
  .rename_i hk;split at h
   .split at h
    .simp only[j5]at h;subst h;exact one _ _ _ hk trivial
    .simp at h
   .simp at h
  .rename_i hk;split at h
   .split at h
    .split at h
     .split at h
      .simp only[j5]at h;subst h;exact one _ _ _ hk ⟨rfl,rfl⟩
      .simp at h
     .simp at h
    .simp at h
   .simp at h
  .simp at h
 .split at h
  .rename_i hk;split at h
   .split at h
    .split at h
     .rename_i hg;split at h
      .simp at h
      .simp only[j5]at h;subst h;exact(lift _ (WI _ hg)).app (one _ _ _ hk ⟨rfl,rfl,ae⟩)
     .simp at h
    .simp at h
   .simp at h
  .rename_i hk;split at h
   .split at h
    .split at h
     .rename_i hg;split at h
      .simp at h
      .simp only[j5]at h;subst h;exact(lift _ (WI _ hg)).app (one _ _ _ hk ⟨rfl,rfl⟩)
     .simp at h
    .simp at h
   .simp at h
  .simp at h
 .simp at h
theorem jGh(np:G)(rd:G->BS):RdLe (λk=>if parK np k then .gone else rd k) rd:=by
 intro k;dsimp only;split
 .exact .inr rfl
 .exact .inl rfl
theorem UpSh.le{rd cp:G->BS}(hle:RdLe rd cp){u:Ups}(h:UpSh rd u):UpSh cp u:=by
 intro e he;obtain⟨h1,h2⟩:=h e he;rcases hle e.1 with hq|hq
 .rw[hq]at h1;exact⟨h1,h2⟩
 .rw[hq]at h1;cases h3:e.2 with
  |free=>rw[h3]at h2;simp[isLive]at h2
  |gone=>rw[h3]at h2;simp[isLive]at h2
  |live b=>rw[h3]at h1;cases b<;>simp[ShEq]at h1
theorem jF4(rd:G->BS):RdLe (mskM rd) rd:=λk=>Vk k
theorem juN{E:Env}{ev:Û->Slot}{rd:G->BS}{act:U (G×Ç)}{o:Æ}(ho:uS o=X){lv:Ç}{s:Slot}{u:Ups}(h:eF E ev rd act o=B (.val lv s u)):UpSh rd u:=by
 obtain⟨dst,op,type,pos,after,guard⟩:=o;cases op<;>simp only[uS,qe]at ho;simp only[eF]at h;split at h
 .split at h
  .rename_i hs;simp only[j5,Act.val.injEq]at h;rw[<-h.2.2];exact(jzF (jGh E.np (mskM rd)) hs).le (jF4 rd)
  .simp at h
 .simp at h
theorem jnI{E:Env}{ev:Û->Slot}{rd:G->BS}{act:U (G×Ç)}{o:Æ}(ho:uS o=X){f:G}{args:U Arg}{mk:Ret->H (Slot×Ups)}:eF E ev rd act o≠B (.call f args mk):=by
 obtain⟨dst,op,type,pos,after,guard⟩:=o;cases op<;>simp only[uS,qe]at ho;intro h;simp only[eF]at h;split at h
 .split at h
  .simp at h
  .simp at h
 .simp at h
theorem UpSh.unmask{rd:G->BS}{M:U G}{u:Ups}(h:UpSh (jY M rd) u):UpSh rd u:=by
 intro e he;obtain⟨h1,h2⟩:=h e he;rcases Np M rd e.1 with hq|hq
 .rw[hq]at h1;exact⟨h1,h2⟩
 .rw[hq]at h1;cases h3:e.2 with
  |free=>rw[h3]at h2;simp[isLive]at h2
  |gone=>rw[h3]at h2;simp[isLive]at h2
  |live b=>rw[h3]at h1;cases b<;>simp[ShEq]at h1
end
section
variable{N:NT}{np:G}{S0:aU}{w0:Y}{refs:Refs}{σ:St}{a:Á}{w:Y}{S:aU}{γ:G->À}
inductive Bef(ops:Ã Æ):G->G->Prop
 |dep {i j:G} {o:Æ}:ops[i]? = B o->j∈qG o->Bef ops i j
 |trans {i j k:G}:Bef ops i j->Bef ops j k->Bef ops i k
structure DOkR(ops:Ã Æ)(A:U (U G)):Prop where
 lt:∀i o,ops[i]? = B o->∀j∈qG o,j<i
 addr:∀i o,ops[i]? = B o->sr o=X->∀k,k∉A.getD i []
 dst:∀i j oi oj t,ops[i]? = B oi->ops[j]? = B oj->i≠j->oj.dst=B t->oi.dst≠B t/\(t∈oi.looksAt ops->Bef ops i j\/Bef ops j i)
 box:∀i j oi oj k,ops[i]? = B oi->ops[j]? = B oj->i≠j->k∈A.getD i []->k∈A.getD j []->Bef ops i j\/Bef ops j i
theorem DOkR.bef{ops:Ã Æ}{A:U (U G)}(h:DOkR ops A){i j:G}(hb:Bef ops i j):j<i:=by
 induction hb with
 |dep ho hj=>exact h.lt _ _ ho _ hj
 |trans _ _ h1 h2=>omega
def ClOk(ops:Ã Æ)(cl:U G):Prop:=∀i j,(cl.getD i 0).testBit j=X->Bef ops i j
theorem WJ{ops:Ã Æ}{cls:U G}(hc:ClOk ops cls){i:G}{o:Æ}(ho:ops[i]? = B o):∀(l:U G)(m:G),(∀j∈l,j∈qG o)->(∀j,m.testBit j=X->Bef ops i j)->
  ∀j,(l.foldl (λm j=>m|||(2^j|||cls.getD j 0)) m).testBit j=X->Bef ops i j
 |[],m,_,hm,j,h=>hm j h
 |x::l,m,hl,hm,j,h=>by
  refine WJ hc ho l _ (λj hj=>hl j (by simp[hj])) (λj hj=>?_) j h;simp only[Nat.testBit_or,zv,Nat.testBit_two_pow,jo]at hj;rcases hj with hj|hj|hj
  .exact hm j hj
  .subst hj;exact .dep ho (hl x ae)
  .exact .trans (.dep ho (hl x ae)) (hc x j hj)
theorem WK{ops:Ã Æ}:∀(l:U Æ)(cls:U G),ClOk ops cls->(∀k o,l[k]? = B o->ops[cls.length+k]? = B o)->ClOk ops (Dw l cls)
 |[],cls,hc,_=>hc
 |o::os,cls,hc,hl=>by
  have ho:ops[cls.length]? = B o:=by have:=hl 0 o rfl;simpa using this
  refine WK os _ ?_ (λk x hk=>by
   have:=hl (k+1) x (by simpa using hk);rw[jf,kf];rwa[show cls.length+1+k=cls.length+(k+1) by omega])
  intro i j dS;rcases yg i cls.length with hi|hi|hi
  .rw[Ë,Ô hi,<-Ë]at dS;exact hc i j dS
  .subst hi;rw[Ë,ko (jv _),Nat.sub_self]at dS;simp only[List.getElem?_cons_zero,v7]at dS;exact WJ hc ho (qG o) 0 (λ_ h=>h) (λj h=>by simp at h) j dS
  .rw[Ë,qw ax]at dS;simp at dS
theorem Ns{ops:Ã Æ}{cl:U G}(hc:ClOk ops cl){i j:G}(h:Dx cl i j=X):i=j\/Bef ops i j\/Bef ops j i:=by
 simp only[Dx,zv,zi]at h;rcases h with (h|h)|h
 .exact .inl h
 .exact .inr (.inl (hc i j h))
 .exact .inr (.inr (hc j i h))
theorem juO{ops:Ã Æ}{cl:U G}{A:U (U G)}(hc:ClOk ops cl)(bP:UZ ops cl A=X):DOkR ops A:=by
 have hz:∀{i:G}{o:Æ},ops[i]? = B o->(o,i)∈ops.toList.zipIdx:=by intro i o ho;rw[v6];exact⟨i,by rw[ì];simp[ho]⟩
 have qP:∀i k,k∈A.getD i []->A.isEmpty=false:=by
  intro i k hk;cases A with
  |nil=>simp at hk
  |cons _ _=>rfl
 have aC:∀{i:G}{o:Æ},ops[i]? = B o->(∀j∈qG o,j<i)/\(A.isEmpty || !sr o||(A.getD i []).isEmpty)=X/\∀j oj,ops[j]? = B oj->Ij ops cl A i o j oj=true:=by intro i o ho;have:=jz.1 bP (o,i) (hz ho);simp only[jd]at this;exact⟨λj hj=>by simpa using jz.1 this.1.1 j hj,this.1.2,λj oj lK=>jz.1 this.2 (oj,j) (hz lK)⟩
 refine⟨λi o ho=>(aC ho).1,λi o ho nv k hk=>?_,λi j oi oj t hi hj dS ht=>?_,λi j oi oj k hi hj dS hk bQ=>?_⟩
 .have:=(aC ho).2.1;rw[qP i k hk,nv]at this;simp only[jl,qu,List.isEmpty_iff]at this;rw[this]at hk;simp at hk
 .have:=(aC hi).2.2 j oj hj;simp only[Ij,ht,jd]at this;have h1:=this.1;simp only[zv,zi,dS,false_or,jd,bne_iff_ne,ne_eq,kz,qk,ku]at h1;refine⟨h1.1,λhm=>?_⟩;rcases h1.2 with h|h
  .exact absurd hm h
  .exact(Ns hc h).resolve_left dS
 .have:=(aC hi).2.2 j oj hj;simp only[Ij,jd]at this;have h2:=this.2;rw[qP i k hk]at h2;simp only[qu,zv]at h2;rcases h2 with h|h
  .exact(Ns hc h).resolve_left dS
  .have:=jz.1 h k hk;simp only[qk,kz,ku]at this;exact absurd bQ this
theorem WM{ops:Ã Æ}{cl:U G}{A:U (U G)}(hc:ClOk ops cl){i:G}{oi:Æ}{k:G}(hm:(uT ops cl A i oi).contains k=O){j:G}{oj:Æ}(hj:ops[j]? = B oj)(hk:k∈A.getD j []) :
  i=j\/Bef ops i j\/Bef ops j i\/(sr oi=X/\uS oj=X):=by
 have hz:(oj,j)∈ops.toList.zipIdx:=by rw[v6];exact⟨j,by rw[ì];simp[hj]⟩
 have bA:A.isEmpty=false:=by
  cases A with
  |nil=>simp at hk
  |cons _ _=>rfl
 unfold uT at hm;rw[bA]at hm;simp only[qe,za,qk,ku,qv,not_exists,not_and]at hm;have:=hm (oj,j) hz;dsimp only at this;split at this
 .rename_i h;simp only[zv,jd]at h;rcases h with h|h
  .rcases Ns hc h with h|h|h
   .exact .inl h
   .exact .inr (.inl h)
   .exact .inr (.inr (.inl h))
  .exact .inr (.inr (.inr h))
 .exact absurd hk this
inductive DStep(P:Å)(E:Env)(ops:Ã Æ)(M Ai:U G)(o:Æ)(σ:St):St->Prop
 |skip (s:G) (wn v:Ç):qC ops o=B (s,wn)->σ.sl s = .one (.one (.d .bool v))->v≠wn->DStep P E ops M Ai o σ (σ.setD o.dst .und)
 |skipU (s:G) (wn:Ç):qC ops o=B (s,wn)->σ.sl s = .und->DStep P E ops M Ai o σ (σ.setD o.dst .und)
 |val (s:Slot) (u:Ups):(o.guard=Â\/∃s wn,qC ops o=B (s,wn)/\σ.sl s = .one (.one (.d .bool wn)))->eF E σ.ev (jY M σ.bx) [] o=B (.val X s u)->(∀e∈u,e.1∈Ai)->
  DStep P E ops M Ai o σ ((σ.upd u).setD o.dst s)
 |call (f:G) (args:U Arg) (mk:Ret->H (Slot×Ups)) (ret:Ret) (s:Slot) (u:Ups):(o.guard=Â\/∃s wn,qC ops o=B (s,wn)/\σ.sl s = .one (.one (.d .bool wn)))->
  eF E σ.ev (jY M σ.bx) [] o=B (.call f args mk)->Fun P f->II P f args (λr=>r=ret)->mk ret=B (s,u)->(∀e∈u,e.1∈Ai)->DStep P E ops M Ai o σ ((σ.upd u).setD o.dst s)
theorem WN{s:G}{x:Slot}(h:σ.sl s=x):σ.setS s x=σ:=by
 unfold St.setS
 have:(λj=>if j=s then x else σ.sl j)=σ.sl:=by
  funext j
  split
  .rename_i hj;subst hj;exact h.symm
  .rfl
 rw[this]
theorem WO{u:Ups}{Ai:U G}(h:(u.all λe=>Ai.contains e.1)=X):∀e∈u,e.1∈Ai:=λe he=>by simpa using jz.1 h e he
theorem Nt{P:Å}{E:Env}(hC:kF P E.C)(hF:CFun E.C){ops:Ã Æ}{M Ai:U G}{o:Æ}{R:Type}{k:St->H R}{r:R}
  (hg:o.guard=Â\/∃s wn,qC ops o=B (s,wn)/\σ.sl s = .one (.one (.d .bool wn)))(h:runD E M Ai σ o k=B r):∃σ',DStep P E ops M Ai o σ σ'/\k σ'=B r:=by
 unfold runD at h;split at h
 .simp at h
 .rename_i lv s u ho;split at h
  .rename_i hb;cases lv with
   |false=>simp at h
   |true=>exact⟨_,.val s u hg ho (WO hb),h⟩
  .simp at h
 .rename_i f args mk ho;obtain⟨x,hx⟩:=hF f args;rw[hx]at h;cases x with
  |none=>simp at h
  |some ret=>
   simp only[j4]at h;obtain⟨hf,eQ⟩:=hC f args Ret B ret (by rw[hx];rfl);split at h
   .rename_i s u cV;split at h
    .rename_i hb
     exact⟨_,.call f args mk ret s u hg ho hf (by
      intro w S vals ha hn hS;refine(eQ w S vals ha hn hS).mono ?_
      rintro e w' ⟨r',vE,rest⟩
      exact⟨r',by simpa using vE,rest⟩) cV (WO hb),h⟩
    .simp at h
   .simp at h
theorem jF5{P:Å}{E:Env}(hC:kF P E.C)(hF:CFun E.C){ops:Ã Æ}{M Ai:U G}{o:Æ}{R:Type}{k:St->H R}{r:R}
  (h:Dy E ops M Ai σ o k=B r):∃σ',DStep P E ops M Ai o σ σ'/\k σ'=B r:=by
 unfold Dy at h;split at h
 .rename_i hg;exact Nt hC hF (.inl hg) h
 .split at h
  .rename_i s wn hg;split at h
   .rename_i v hv;cases v with
    |true=>
     rw[j6,WN hv]at h;cases wn with
     |true=>exact Nt hC hF (.inr ⟨s,X,hg,hv⟩) h
     |false=>exact⟨_,.skip s O X hg hv ae,h⟩
    |false=>
     rw[j7,WN hv]at h;cases wn with
     |false=>exact Nt hC hF (.inr ⟨s,O,hg,hv⟩) h
     |true=>exact⟨_,.skip s X O hg hv ae,h⟩
   .rename_i hv;exact⟨_,.skipU s wn hg hv,h⟩
   .simp at h
  .simp at h
theorem WQ{P:Å}{E:Env}(hC:kF P E.C)(hF:CFun E.C){ops:Ã Æ}{cl:U G}{A:U (U G)}{R:Type}{k:St->H R}{r:R}:∀(n i:G)(σ:St),i+n=ops.size->BV E ops cl A (ops.toList.drop i) i σ k=B r->
  ∃τ:G->St,τ i=σ/\k (τ ops.size)=B r/\∀j o,i<=j->ops[j]? = B o->mX E.N o=X/\DStep P E ops (uT ops cl A j o) (A.getD j []) o (τ j) (τ (j+1))
 |0,i,σ,hi,h=>by
  rw[jc ax]at h;refine⟨λ_=>σ,rfl,h,λj o hj ho=>?_⟩;have:=(ji.1 ho).1;omega
 |n+1,i,σ,hi,h=>by
  have an:i<ops.size:=aa;rw[jb (by simpa using an)]at h;simp only[BV]at h;split at h
  .rename_i hd;obtain⟨σ1,hs,hk⟩:=jF5 (P:=P) hC hF h;obtain⟨τ1,h1,h2,h3⟩:=WQ hC hF n (i+1) σ1 aa hk;refine⟨λj=>if j=i then σ else τ1 j,ae,?_,λj o hj ho=>?_⟩
   .simp only[show ops.size≠i by omega,za];exact h2
   .by_cases rV:j=i
    .subst rV;have uB:ops[j]? = B ops[j]:=jx an;rw[uB]at ho;simp only[j5]at ho;subst ho;refine⟨by simpa using hd,?_⟩;simp only[if_true,show j+1≠j by omega,za,h1];simpa using hs
    .simp only[rV,za,show j+1≠i by omega];exact h3 j o aa ho
  .simp at h
theorem Rel.drawn(hR:Rel N np S0 w0 refs σ a w S γ)(n:G):Rel N np S0 w0 refs σ a { w with drawn:=n } S γ:=
 Rel.step (bx':=σ.bx) (γ':=γ) hR (λ_ _ h=>⟨h,rfl⟩) (.refl _ _) (λk b hb=>fM.keep (w:=w) (w':={ w with drawn:=n }) (λ_ _ h=>⟨h,rfl⟩) (.refl _ _) rfl (λ_ _=>⟨rfl,λ_=>Iff.rfl⟩) (hR.box k b hb))
  hR.own hR.apart hR.new hR.here hR.below hR.grow hR.os hR.tape hR.output (λ_ _ _ h=>⟨rfl,h⟩)
theorem D_wp{P:Å}{E:Env}(hT:cT P E.T)(hR:Rel E.N E.np S0 w0 refs σ a w S γ)(hc:dH σ){ops:Ã Æ}{M Ai:U G}{i:G}{o:Æ}(ho:ops[i]? = B o)(hd:mX E.N o=X)
  {τ τ':St}(hs:DStep P E ops M Ai o τ τ')(fB:(∀k,jY M σ.bx k=jY M τ.bx k)\/(sr o=X/\∀k,ShEq (jY M σ.bx k) (jY M τ.bx k)))(sX:∀t,t∈o.looksAt ops->σ.sl t=τ.sl t){K:Á->Y->Prop}{Q:Ó->Á->Y->Prop}
  (hK:∀(s:Slot)(u:Ups)(a':Á)(w':Y)(S':aU)(γ':G->À),τ'=(τ.upd u).setD o.dst s->(∀e∈u,e.1∈Ai)->Rel E.N E.np S0 w0 refs ((σ.upd u).setD o.dst s) a' w' S' γ'->dH ((σ.upd u).setD o.dst s)->K a' w') :
  wpOp P ops Q i K a w:=by
 have vK:=Ae hd
 have nw:∀x∈o.op.operands,σ.ev x=τ.ev x:=by
  intro x hx;cases x with
  |tmp t=>exact sX t (ju _ (v8.2 ⟨.tmp t,by simpa using hx,rfl⟩))
  |_=>rfl
 have sH:∀s wn,qC ops o=B (s,wn)->s∈o.looksAt ops:=by
  intro s wn hg;refine jq _ ?_;unfold qC at hg;split at hg
  .simp at hg
  .rename_i j w' Nc;split at hg
   .rename_i oj lK;split at hg
    .rename_i s' dt;simp only[j5,j9]at hg;simp[Nc,lK,dt,hg.1]
    .simp at hg
   .simp at hg
 have vW:∀s v,qC ops o≠Â->s∈o.looksAt ops->τ.sl s = .one (.one (.d .bool v))->tm a s = .bool v:=by intro s v _ hm hv;have:=hR.slot s;rw[sX s hm,hv]at this;exact uc this
 have bg:eF E σ.ev (jY M σ.bx) [] o=eF E τ.ev (jY M τ.bx) [] o:=by
  rcases fB with fB|⟨nv,fB⟩
  .rw[show jY M σ.bx=jY M τ.bx from funext fB];exact WG nw
  .rw[jCv nv fB];exact WG nw
 have eJ:∀(s:Slot)(u:Ups)(v:À)(w':Y)(S':aU)(γ':G->À),τ'=(τ.upd u).setD o.dst s->(∀e∈u,e.1∈Ai)->Rel E.N E.np S0 w0 refs (σ.upd u) a w' S' γ'->
   jF S' w' γ' (σ.upd u).bx (tm a) s v->s.bare=X->K (a.put o.dst v) w':=by
  intro s u v w' S' γ' he hb cE dt cM;obtain⟨h1,h2⟩:=Cr cE (Wk hc) vK dt cM;exact hK s u _ w' S' γ' he hb h1 h2
 have xy:(o.guard=Â\/∃s wn,qC ops o=B (s,wn)/\τ.sl s = .one (.one (.d .bool wn)))->Ä o (yielded ops a.tmps)=true:=by
  rintro (hg|⟨s,wn,hg,hv⟩)
  .simp[Ä,hg]
  .exact(IW hg).2 (vW s wn (by rw[hg];simp) (sH s wn hg) hv)
 unfold wpOp;simp only[ho];cases hs with
 |skip s wn v hg hv bA=>
  have hw:¬Ä o (yielded ops a.tmps)=true:=λhw=>by
   have h1:=(IW hg).1 hw;rw[vW s v (by rw[hg];simp) (sH s wn hg) hv]at h1;exact bA (by simpa using h1)
  simp only[hw,za,qe];exact eJ .und [] undef w S γ rfl ae hR rfl rfl
 |skipU s wn hg hv=>
  have hu:tm a s=undef:=by have:=hR.slot s;rw[sX s (sH s wn hg),hv]at this;exact this
  have hw:¬Ä o (yielded ops a.tmps)=true:=λhw=>by
   have h1:=(IW hg).1 hw;rw[hu]at h1;simp[undef]at h1
  simp only[hw,za,qe];exact eJ .und [] undef w S γ rfl ae hR rfl rfl
 |val s u hg cD hb=>
  simp only[xy hg,if_true];rw[<-bg]at cD;obtain⟨A',Aj,hle⟩:=WE (Np M σ.bx) cD;cases hle;obtain⟨⟨v,w',S',γ',aP,cE,dt⟩,cM⟩:=M7 hT hR (act:=[]) (λg hg=>by simp at hg) (λ_=> .inl rfl) Aj;refine .inl ?_;unfold Ð;rcases aP with aP|⟨aP,rfl⟩
  .rw[aP,Ê];exact eJ s u v w' S' γ' rfl hb cE dt cM
  .rw[aP,ê];exact eJ s u undef w' S' γ' rfl hb cE dt cM
 |call f args mk ret s u hg cD hf eQ cV hb=>
  simp only[xy hg,if_true];rw[<-bg]at cD;obtain⟨A',Aj,hle⟩:=WE (Np M σ.bx) cD;cases hle with
  |call _ _ _ mk' Ez=>
   have EA:=Ez _ _ cV;obtain⟨vals,aP,oU,cM⟩:=Wh hR (act:=[]) (λg hg=>by simp at hg) (λ_=> .inl rfl) Aj hf eQ;refine .inl ?_;unfold Ð;rw[aP,Ø];refine oU.mono ?_
   rintro e w' ⟨ret',rfl,aC⟩
   obtain⟨v,S',γ',rfl,cE,dt⟩:=aC s u EA;exact eJ s u v w' S' γ' rfl hb cE dt (cM _ s u EA)
end
section
variable{S0:aU}{w0:Y}{refs:Refs}{σ:St}{a:Á}{w:Y}{S:aU}{γ:G->À}
theorem Nu{o:Æ}{j:G}:j∈qG o↔∃e∈o.after,Region.binds .any e=X/\e.on=j:=by
 simp only[qG,v8];constructor
 .rintro⟨e,he,h⟩
  split at h
  .rename_i hb;simp only[j5]at h;exact⟨e,by simpa using he,hb,h⟩
  .simp at h
 .rintro⟨e,he,hb,h⟩
  exact⟨e,by simpa using he,by simp[hb,h]⟩
theorem jxS{ops:Ã Æ}{aD:Ã Ç}{i:G}(h:i∈ñ .any ops aD) :
  aD.getD i X=O/\∃o,ops[i]? = B o/\∀j∈qG o,aD.getD j O=true:=by
 obtain⟨h0,o,ho,h1⟩:=mem_ready.1 h;exact⟨h0,o,ho,λj hj=>by obtain⟨e,he,hb,rfl⟩:=Nu.1 hj;exact h1 e he hb⟩
def vX(P:Å)(E:Env)(ops:Ã Æ)(cl:U G)(A:U (U G))(τ:G->St):Prop:=
 ∀j o,ops[j]? = B o->mX E.N o=X/\DStep P E ops (uT ops cl A j o) (A.getD j []) o (τ j) (τ (j+1))
theorem I1:∀(u:Ups)(σ:St)(t:G),(σ.upd u).sl t=σ.sl t
 |[],_,_=>rfl
 |e::u,σ,t=>I1 u (σ.setB e.1 e.2) t
theorem Ak(σ:St)(d:H G)(s:Slot):(σ.setD d s).bx=σ.bx:=by cases d<;>rfl
theorem Nv{σ:St}{d:H G}{s:Slot}{t:G}(h:d≠B t):(σ.setD d s).sl t=σ.sl t:=by
 cases d with
 |none=>rfl
 |some d=>have:t≠d:=λe=>h (by rw[e]);simp[St.setD,St.setS,this]
theorem WR{σ:St}{s:Slot}{t:G}:(σ.setD (B t) s).sl t=s:=by simp[St.setD,St.setS]
theorem I2:∀(u:Ups)(σ:St)(k:G),(∀e∈u,e.1≠k)->(σ.upd u).bx k=σ.bx k
 |[],_,_,_=>rfl
 |e::u,σ,k,h=>by
  have h1:=I2 u (σ.setB e.1 e.2) k (λx hx=>h x (by simp[hx]));show ((σ.setB e.1 e.2).upd u).bx k=_;rw[h1];have:=h e ae;have bA:¬k=e.1:=λhk=>this hk.symm;simp[St.setB,bA]
theorem WS:∀(u:Ups)(σ τ:St)(k:G),σ.bx k=τ.bx k->(σ.upd u).bx k=(τ.upd u).bx k
 |[],_,_,_,h=>h
 |e::u,σ,τ,k,h=>by
  refine WS u (σ.setB e.1 e.2) (τ.setB e.1 e.2) k ?_;simp only[St.setB];split
  .rfl
  .exact h
section
variable{P:Å}{E:Env}{ops:Ã Æ}{cl:U G}{A:U (U G)}{τ:G->St}
theorem Nw(h:vX P E ops cl A τ){j:G}{o:Æ}(ho:ops[j]? = B o):∃s u,τ (j+1)=((τ j).upd u).setD o.dst s/\(∀e∈u,e.1∈A.getD j [])/\(uS o=X->∀k,ShEq ((τ j).bx k) ((τ (j+1)).bx k)):=by
 obtain⟨_,hs⟩:=h j o ho;generalize hq:τ (j+1)=σ' at hs;cases hs with
 |skip s wn v hg hv bA=>exact⟨.und,[],rfl,ae,λ_ k=>by rw[Ak];exact ShEq.refl _⟩
 |skipU s wn hg hv=>exact⟨.und,[],rfl,ae,λ_ k=>by rw[Ak];exact ShEq.refl _⟩
 |val s u hg cD hb=>exact⟨s,u,rfl,hb,λaQ k=>by
  rw[Ak];exact WH u (τ j) (λe he=>((juN aQ cD).unmask e he).1) k⟩
 |call f args mk ret s u hg cD hf eQ cV hb=>exact⟨s,u,rfl,hb,λaQ=>absurd cD (jnI aQ)⟩
theorem jF6(h:vX P E ops cl A τ){j:G}{o:Æ}(ho:ops[j]? = B o){t:G}(ht:o.dst≠B t):(τ (j+1)).sl t=(τ j).sl t:=by
 obtain⟨s,u,he,_⟩:=Nw h ho;rw[he,Nv ht,I1]
theorem WT(h:vX P E ops cl A τ){j:G}{o:Æ}(ho:ops[j]? = B o){k:G}(hk:k∉A.getD j []):(τ (j+1)).bx k=(τ j).bx k:=by
 obtain⟨s,u,he,hu,_⟩:=Nw h ho;rw[he,Ak];exact I2 u _ k (λe hm uv=>hk (uv▸hu e hm))
theorem EB(h:vX P E ops cl A τ){t j:G}:∀n,j+n<=ops.size->(∀k o,j<=k->k<j+n->ops[k]? = B o->o.dst≠B t)->(τ (j+n)).sl t=(τ j).sl t
 |0,_,_=>rfl
 |n+1,hn,hk=>by
  have an:j+n<ops.size:=aa;have ho:ops[j+n]? = B ops[j+n]:=jx an;rw[<-ï,jF6 h ho (hk _ _ aa aa ho)];exact EB h n aa (λk o h1 h2=>hk k o h1 aa)
theorem EC(h:vX P E ops cl A τ){k j:G}:∀n,j+n<=ops.size->(∀i o,j<=i->i<j+n->ops[i]? = B o->k∉A.getD i [])->(τ (j+n)).bx k=(τ j).bx k
 |0,_,_=>rfl
 |n+1,hn,hk=>by
  have an:j+n<ops.size:=aa;have ho:ops[j+n]? = B ops[j+n]:=jx an;rw[<-ï,WT h ho (hk _ _ aa aa ho)];exact EC h n aa (λi o h1 h2=>hk i o h1 aa)
theorem I3(h:vX P E ops cl A τ){k j:G}:∀n,j+n<=ops.size->(∀i o,j<=i->i<j+n->ops[i]? = B o->k∈A.getD i []->uS o=X)->ShEq ((τ j).bx k) ((τ (j+n)).bx k)
 |0,_,_=>ShEq.refl _
 |n+1,hn,hk=>by
  have an:j+n<ops.size:=aa;have ho:ops[j+n]? = B ops[j+n]:=jx an;have ih:=I3 h n aa (λi o h1 h2=>hk i o h1 aa);refine ih.trans ?_;rw[<-ï];by_cases hm:k∈A.getD (j+n) []
  .obtain⟨_,_,_,_,aQ⟩:=Nw h ho;exact aQ (hk _ _ aa aa ho hm) k
  .rw[WT h ho hm];exact ShEq.refl _
structure Ph(ops:Ã Æ)(A:U (U G))(τ:G->St)(aD:Ã Ç)(σ:St):Prop where
 closed:∀j o,ops[j]? = B o->aD.getD j O=X->∀d∈qG o,aD.getD d O=X
 done:∀j o t,ops[j]? = B o->o.dst=B t->aD.getD j O=X->σ.sl t=(τ (j+1)).sl t
 rest:∀t,(∀j o,ops[j]? = B o->o.dst=B t->aD.getD j O=O)->σ.sl t=(τ 0).sl t
 bdone:∀j k,j<ops.size->k∈A.getD j []->aD.getD j O=X->(∀i,i<ops.size->k∈A.getD i []->aD.getD i O=X->i<=j)->σ.bx k=(τ (j+1)).bx k
 brest:∀k,(∀j,j<ops.size->k∈A.getD j []->aD.getD j O=O)->σ.bx k=(τ 0).bx k
theorem Ph.bef{aD:Ã Ç}(hp:Ph ops A τ aD σ){i j:G}(hb:Bef ops i j)(hi:aD.getD i O=X):aD.getD j O=true:=by
 induction hb with
 |dep ho hj=>exact hp.closed _ _ ho hi _ hj
 |trans _ _ h1 h2=>exact h2 (h1 hi)
theorem Ph.befd{aD:Ã Ç}(hp:Ph ops A τ aD σ){i j:G}{o:Æ}(ho:ops[i]? = B o)(hd:∀j∈qG o,aD.getD j O=X)(hb:Bef ops i j):aD.getD j O=true:=by
 induction hb with
 |dep uB hj=>rw[ho]at uB;simp only[j5]at uB;subst uB;exact hd _ hj
 |trans fc ib h1 h2=>exact hp.bef ib (h1 ho)
theorem I4(p:G->Prop):∀n,(∃j,j<n/\p j)->∃m,m<n/\p m/\∀j,j<n->p j->j<=m
 |0,h=>by obtain⟨j,hj,_⟩:=h;omega
 |n+1,h=>by
  by_cases hn:p n
  .exact⟨n,aa,hn,λj hj _=>aa⟩
  .obtain⟨j,hj,hp⟩:=h
   have xe:j<n:=by
    rcases zm j n with h|h
    .exact h
    .have:j=n:=aa;subst this;exact absurd hp hn
   obtain⟨m,hm,vY,aC⟩:=I4 p n ⟨j,xe,hp⟩;refine⟨m,aa,vY,λi hi WU=>?_⟩;rcases zm i n with h|h
   .exact aC i h WU
   .have:i=n:=aa;subst this;exact absurd WU hn
theorem WV{l:Ã Ç}{i:G}(h:l.getD i X=O):l.getD i O=false:=by
 rcases zm i l.size with h'|h'
 .simp[h']at h ⊢;exact h
 .simp[ç h']
theorem sY{l:Ã Ç}{i j:G}(hi:i<l.size):(l.setIfInBounds i X).getD j O=X↔j=i\/l.getD j O=true:=by
 by_cases h:i=j
 .subst h;simp[hi]
 .rw[getD_set_ne O h];exact⟨.inr,λhh=>hh.resolve_left λe=>h e.symm⟩
theorem ED{l:Ã Ç}{i:G}(h:¬l.getD i O=X):l.getD i O=false:=by
 cases hq:l.getD i O with
 |false=>rfl
 |true=>exact absurd hq h
section
variable(bP:DOkR ops A)(h:vX P E ops cl A τ){aD:Ã Ç}(hp:Ph ops A τ aD σ){i:G}{o:Æ}(hi:ops[i]? = B o)(mN:aD.getD i O=O)(eR:∀j∈qG o,aD.getD j O=X)
include bP h hp hi mN eR
theorem jF7:∀t,t∈o.looksAt ops->σ.sl t=(τ i).sl t:=by
 intro t zL;have mf:i<ops.size:=(ji.1 hi).1;have WW:∀j oj,ops[j]? = B oj->oj.dst=B t->j≠i->Bef ops i j\/Bef ops j i:=λj oj hj ht bA=>(bP.dst i j o oj t hi hj (λe=>bA e.symm) ht).2 zL;by_cases hex:∃(j:G)(oj:Æ),ops[j]? = B oj/\oj.dst=B t/\aD.getD j O=X
 .obtain⟨j,oj,hj,ht,pS⟩:=hex;have rV:j≠i:=λe=>by rw[e,mN]at pS;simp at pS
  have Al:Bef ops i j:=by
   rcases WW j oj hj ht rV with hd|hd
   .exact hd
   .have:=hp.bef hd pS;rw[mN]at this;simp at this
  have an:=bP.bef Al;rw[hp.done j oj t hj ht pS];have:=EB h (t:=t) (j:=j+1) (i-(j+1)) aa (λk ok h1 h2 hk=>(bP.dst k j ok oj t hk hj aa ht).1);rw[show j+1+(i-(j+1))=i by omega]at this;exact this.symm
 .rw[hp.rest t (λj oj hj ht=>ED λhq=>hex ⟨j,oj,hj,ht,hq⟩)]
  have:=EB h (t:=t) (j:=0) i aa (λk ok _ hk qQ uh=>by
   have nX:k≠i:=aa;rcases WW k ok qQ uh nX with hd|hd
   .exact hex ⟨k,ok,qQ,uh,hp.befd hi eR hd⟩
   .have:=bP.bef hd;omega)
  rw[ki]at this;exact this.symm
theorem WX{k:G}(hk:∀j oj,ops[j]? = B oj->k∈A.getD j []->i=j\/Bef ops i j\/Bef ops j i):σ.bx k=(τ i).bx k:=by
 have mf:i<ops.size:=(ji.1 hi).1;by_cases hex:∃j,j<ops.size/\(k∈A.getD j []/\aD.getD j O=X)
 .obtain⟨m,hm,⟨sZ,uC⟩,fo⟩:=I4 _ _ hex;have Nx:ops[m]? = B ops[m]:=jx hm;have Ny:i≠m:=λe=>by rw[<-e,mN]at uC;simp at uC
  have Al:Bef ops i m:=by
   rcases hk m _ Nx sZ with hd|hd|hd
   .exact absurd hd Ny
   .exact hd
   .have:=hp.bef hd uC;rw[mN]at this;simp at this
  have an:=bP.bef Al;rw[hp.bdone m k hm sZ uC (λj hj eV pS=>fo j hj ⟨eV,pS⟩)]
  have:=EC h (k:=k) (j:=m+1) (i-(m+1)) aa (λj oj h1 h2 hj eV=>by
   rcases hk j oj hj eV with hd|hd|hd
   .omega
   .have:=fo j aa ⟨eV,hp.befd hi eR hd⟩;omega
   .have:=bP.bef hd;omega)
  rw[show m+1+(i-(m+1))=i by omega]at this;exact this.symm
 .rw[hp.brest k (λj hj eV=>ED λhq=>hex ⟨j,hj,eV,hq⟩)]
  have:=EC h (k:=k) (j:=0) i aa (λj oj h1 h2 hj eV=>by
   rcases hk j oj hj eV with hd|hd|hd
   .omega
   .exact hex ⟨j,aa,eV,hp.befd hi eR hd⟩
   .have:=bP.bef hd;omega)
  rw[ki]at this;exact this.symm
theorem jI1(nv:sr o=X){k:G}(hk:∀j oj,ops[j]? = B oj->k∈A.getD j []->i=j\/Bef ops i j\/Bef ops j i\/uS oj=X):ShEq (σ.bx k) ((τ i).bx k):=by
 have mf:i<ops.size:=(ji.1 hi).1;by_cases hex:∃j,j<ops.size/\(k∈A.getD j []/\aD.getD j O=X)
 .obtain⟨m,hm,⟨sZ,uC⟩,fo⟩:=I4 _ _ hex;have Nx:ops[m]? = B ops[m]:=jx hm;rw[hp.bdone m k hm sZ uC (λj hj eV pS=>fo j hj ⟨eV,pS⟩)];rcases zm m i with Ny|Ny
  .have:=I3 h (k:=k) (j:=m+1) (i-(m+1)) aa (λj oj h1 h2 hj eV=>by
    rcases hk j oj hj eV with hd|hd|hd|hd
    .omega
    .have:=fo j aa ⟨eV,hp.befd hi eR hd⟩;omega
    .have:=bP.bef hd;omega
    .exact hd)
   rwa[show m+1+(i-(m+1))=i by omega]at this
  .have hmi':i≠m:=λe=>by rw[<-e,mN]at uC;simp at uC
   have:=I3 h (k:=k) (j:=i) (m+1-i) aa (λj oj h1 h2 hj eV=>by
    have pS:aD.getD j O=true:=by
     by_cases xz:j=m
     .rw[xz];exact uC
     .rcases bP.box j m oj ops[m] k hj Nx xz eV sZ with hd|hd
      .have:=bP.bef hd;omega
      .exact hp.bef hd uC
    rcases hk j oj hj eV with hd|hd|hd|hd
    .rw[<-hd,mN]at pS;simp at pS
    .have:=bP.bef hd;omega
    .have:=hp.bef hd pS;rw[mN]at this;simp at this
    .exact hd)
   rw[show i+(m+1-i)=m+1 by omega]at this;exact this.symm
 .rw[hp.brest k (λj hj eV=>ED λhq=>hex ⟨j,hj,eV,hq⟩)]
  have:=I3 h (k:=k) (j:=0) i aa (λj oj h1 h2 hj eV=>by
   rcases hk j oj hj eV with hd|hd|hd|hd
   .omega
   .exact absurd ⟨j,aa,eV,hp.befd hi eR hd⟩ hex
   .have:=bP.bef hd;omega
   .exact hd)
  rwa[ki]at this
theorem jF8(hc:ClOk ops cl):(∀k,jY (uT ops cl A i o) σ.bx k=jY (uT ops cl A i o) (τ i).bx k)\/(sr o=X/\∀k,ShEq (jY (uT ops cl A i o) σ.bx k) (jY (uT ops cl A i o) (τ i).bx k)):=by
 by_cases nv:sr o=X
 .refine .inr ⟨nv,ShEq.mask λk hk=>jI1 bP h hp hi mN eR nv λj oj hj eV=>?_⟩;rcases WM hc hk hj eV with hd|hd|hd|hd
  .exact .inl hd
  .exact .inr (.inl hd)
  .exact .inr (.inr (.inl hd))
  .exact .inr (.inr (.inr hd.2))
 .refine .inl λk=>?_;unfold jY;split
  .rfl
  .rename_i hk
   exact WX bP h hp hi mN eR λj oj hj eV=>by
    rcases WM hc (by simpa using hk) hj eV with hd|hd|hd|hd
    .exact .inl hd
    .exact .inr (.inl hd)
    .exact .inr (.inr hd)
    .exact absurd hd.1 nv
theorem jF9(bU:ops.size<=aD.size){s:Slot}{u:Ups}(he:τ (i+1)=((τ i).upd u).setD o.dst s)(hu:∀e∈u,e.1∈A.getD i []):Ph ops A τ (aD.setIfInBounds i X) ((σ.upd u).setD o.dst s):=by
 have mf:i<ops.size:=(ji.1 hi).1;have gH:i<aD.size:=aa
 have nu:∀k,k∈A.getD i []->σ.bx k=(τ i).bx k:=λk hk=>WX bP h hp hi mN eR λj oj hj eV=>by
  by_cases dS:i=j
  .exact .inl dS
  .exact .inr (bP.box i j o oj k hi hj dS hk eV)
 refine⟨?_,?_,?_,?_,?_⟩
 .intro j oj lK hj d qI;rcases (sY gH).1 hj with rfl|hj
  .rw[hi]at lK;simp only[j5]at lK;subst lK;exact(sY gH).2 (.inr (eR d qI))
  .exact(sY gH).2 (.inr (hp.closed j oj lK hj d qI))
 .intro j oj t lK ht hj;by_cases rV:j=i
  .subst rV;rw[hi]at lK;simp only[j5]at lK;subst lK;rw[he,ht,WR,WR]
  .rcases (sY gH).1 hj with hj|hj
   .exact absurd hj rV
   .rw[Nv (bP.dst i j o oj t hi lK (λe=>rV e.symm) ht).1,I1];exact hp.done j oj t lK ht hj
 .intro t aC
  have hot:o.dst≠B t:=λe=>by
   have:=aC i o hi e;have h2:=(sY (j:=i) gH).2 (.inl rfl);rw[this]at h2;simp at h2
  rw[Nv hot,I1]
  exact hp.rest t λj oj lK ht=>ED λhq=>by
   have:=aC j oj lK ht;have h2:=(sY (i:=i) gH).2 (.inr hq);rw[this]at h2;simp at h2
 .intro j k hj eV pS fo;rw[Ak];by_cases rV:j=i
  .subst rV;rw[he,Ak];exact WS u σ (τ j) k (nu k eV)
  .have EE:aD.getD j O=true:=by
    rcases (sY gH).1 pS with e|hh
    .exact absurd e rV
    .exact hh
   have nX:k∉A.getD i []:=λnX=>by
    have hle:=fo i mf nX ((sY gH).2 (.inl rfl));have lK:ops[j]? = B ops[j]:=jx hj;rcases bP.box i j o _ k hi lK (λe=>rV e.symm) nX eV with hd|hd
    .have:=bP.bef hd;omega
    .have:=hp.bef hd EE;rw[mN]at this;simp at this
   rw[I2 u σ k (λe hm uv=>nX (uv▸hu e hm))];exact hp.bdone j k hj eV EE (λi' br bQ oQ=>fo i' br bQ ((sY gH).2 (.inr oQ)))
 .intro k aC
  have nX:k∉A.getD i []:=λnX=>by
   have:=aC i mf nX;have h2:=(sY (j:=i) gH).2 (.inl rfl);rw[this]at h2;simp at h2
  rw[Ak,I2 u σ k (λe hm uv=>nX (uv▸hu e hm))]
  exact hp.brest k λj hj eV=>ED λhq=>by
   have:=aC j hj eV;have h2:=(sY (i:=i) gH).2 (.inr hq);rw[this]at h2;simp at h2
end
theorem jGj(bP:DOkR ops A)(h:vX P E ops cl A τ){aD:Ã Ç}(hp:Ph ops A τ aD σ)(aC:∀j,j<ops.size->aD.getD j O=X):σ=τ ops.size:=by
 have eP:σ.sl=(τ ops.size).sl:=by
  funext t
  by_cases hex:∃(j:G)(oj:Æ),ops[j]? = B oj/\oj.dst=B t
  .obtain⟨j,oj,hj,ht⟩:=hex;have an:j<ops.size:=(ji.1 hj).1;rw[hp.done j oj t hj ht (aC j an)];have:=EB h (t:=t) (j:=j+1) (ops.size-(j+1)) aa (λk ok h1 h2 hk=>(bP.dst k j ok oj t hk hj aa ht).1);rw[show j+1+(ops.size-(j+1))=ops.size by omega]at this;exact this.symm
  .rw[hp.rest t (λj oj hj ht=>absurd ⟨j,oj,hj,ht⟩ hex)];have:=EB h (t:=t) (j:=0) ops.size aa (λk ok _ hk qQ uh=>hex ⟨k,ok,qQ,uh⟩);rw[ki]at this;exact this.symm
 have fB:σ.bx=(τ ops.size).bx:=by
  funext k
  by_cases hex:∃j,j<ops.size/\k∈A.getD j []
  .obtain⟨m,hm,sZ,fo⟩:=I4 _ _ hex;rw[hp.bdone m k hm sZ (aC m hm) (λj hj eV _=>fo j hj eV)];have:=EC h (k:=k) (j:=m+1) (ops.size-(m+1)) aa (λj oj h1 h2 hj eV=>by have:=fo j aa eV;omega);rw[show m+1+(ops.size-(m+1))=ops.size by omega]at this;exact this.symm
  .rw[hp.brest k (λj hj eV=>absurd ⟨j,hj,eV⟩ hex)];have:=EC h (k:=k) (j:=0) ops.size aa (λj oj h1 h2 hj eV=>hex ⟨j,aa,eV⟩);rw[ki]at this;exact this.symm
 cases σ;cases hq:τ ops.size;rw[hq]at fB eP;simp only at fB eP;rw[fB,eP]
end
theorem jsO{l:Ã Ç}{i:G}(hi:l.getD i X=O):(l.setIfInBounds i X).toList.count O+1=l.toList.count false:=by
 have an:i<l.size:=by
  rcases zm i l.size with h|h
  .exact h
  .simp[ç h]at hi
 have hv:l.toList[i]'(by simpa using an)=false:=by simp[an]at hi;simpa using hi
 have bK:0<l.toList.count false:=List.count_pos_iff.2 (hv▸jg _);have hc:(l.toList.set i X).count O=l.toList.count O-(if l.toList[i]'(by simpa using an)==O then 1 else 0)+(if X==O then 1 else 0):=List.count_set (by simpa using an);rw[hv]at hc;rw[Array.toList_setIfInBounds];simp only[kq,if_true,show (X==O)=O from rfl,qe,za,Nat.add_zero]at hc;omega
theorem jxT{l:Ã Ç}(h:l.toList.count O=0){j:G}(hj:j<l.size):l.getD j O=true:=by
 have h0:O∉l.toList:=List.count_eq_zero.1 h;simp only[vg,jx hj,v7];cases hv:l[j]with
 |true=>rfl
 |false=>exact absurd (hv▸by simp:O∈l.toList) h0
theorem jzK{ops:Ã Æ}{A:U (U G)}(bP:DOkR ops A){aD:Ã Ç}(hs:aD.size=ops.size)(h:ñ .any ops aD=[]):∀j,j<ops.size->aD.getD j O=true:=by
 intro j;induction j using ü with
 |_ j ih=>
  intro hj;cases hq:aD.getD j O with
  |true=>rfl
  |false=>
   have ho:ops[j]? = B ops[j]:=jx hj
   have hm:j∈ñ .any ops aD:=mem_ready.2 ⟨by
    have iX:j<aD.size:=aa;simp[iX]at hq ⊢;exact hq,ops[j],ho,λe he hb=>ih _ (bP.lt j _ ho _ (Nu.2 ⟨e,he,hb,rfl⟩)) (Nat.lt_trans (bP.lt j _ ho _ (Nu.2 ⟨e,he,hb,rfl⟩)) hj)⟩
   rw[h]at hm;simp at hm
theorem jxU{P:Å}{E:Env}(hT:cT P E.T){ops:Ã Æ}{cl:U G}{A:U (U G)}(fk:ClOk ops cl)(bP:DOkR ops A){τ:G->St}(h:vX P E ops cl A τ)
  {Q:Ó->Á->Y->Prop}(hn:∀a' w' S' γ',Rel E.N E.np S0 w0 refs (τ ops.size) a' w' S' γ'->dH (τ ops.size)->Q .normal a' w') :
  ∀(fuel:G)(aD:Ã Ç){σ:St}{a:Á}{w:Y}{S:aU}{γ:G->À},aD.size=ops.size->aD.toList.count O<=fuel->Rel E.N E.np S0 w0 refs σ a w S γ->dH σ->
   Ph ops A τ aD σ->wpAny P .any ops Q fuel aD a w:=by
 have fg:∀(aD:Ã Ç){σ:St}{a:Á}{w:Y}{S:aU}{γ:G->À},Rel E.N E.np S0 w0 refs σ a w S γ->dH σ->Ph ops A τ aD σ->(∀j,j<ops.size->aD.getD j O=X)->Q .normal a w:=by intro aD σ a w S γ hR hc xA aC;have he:=jGj bP h xA aC;subst he;exact hn a w S γ hR hc
 intro fuel;induction fuel with
 |zero=>
  intro aD σ a w S γ hs EF hR hc xA;have aC:∀j,j<ops.size->aD.getD j O=true:=λj hj=>jxT aa aa;refine⟨?_,fg aD hR hc xA aC⟩;refine List.eq_nil_iff_forall_not_mem.2 λi hi=>?_;have h0:=(mem_ready.1 hi).1;have an:i<ops.size:=by obtain⟨_,o,ho,_⟩:=mem_ready.1 hi;exact(ji.1 ho).1
  have:=aC i an;rw[WV h0]at this;simp at this
 |succ fuel ih=>
  intro aD σ a w S γ hs EF hR hc xA;refine⟨λfF=>fg aD hR hc xA (jzK bP hs fF),λi hi=>?_⟩;obtain⟨mN,o,ho,eR⟩:=jxS hi;have Am:=WV mN;have dB:=jsO mN;have bU:(aD.setIfInBounds i X).size=ops.size:=by simpa using hs
  obtain⟨hd,fW⟩:=h i o ho;refine D_wp hT hR hc ho hd fW (jF8 bP h xA ho Am eR fk) (jF7 bP h xA ho Am eR) ?_;intro s u a' w' S' γ' he hu cE dK;exact ih _ bU aa cE dK (jF9 bP h xA ho Am eR (Nat.le_of_eq hs.symm) he hu)
theorem jxV{P:Å}{E:Env}(hT:cT P E.T)(hC:kF P E.C)(hF:CFun E.C)(hR:Rel E.N E.np S0 w0 refs σ a w S γ)(hc:dH σ){ops:Ã Æ}{A:U (U G)}
  {R:Type}{k:St->H R}{r:R}{Q:Ó->Á->Y->Prop}(hn:∀σ' a' w' S' γ',Rel E.N E.np S0 w0 refs σ' a' w' S' γ'->dH σ'->k σ'=B r->Q .normal a' w')(h:Dz E ops A σ k=B r) :
  wpAny P .any ops Q ops.size (Ý ops.size O) a { w with drawn:=w.drawn+1 }:=by
 unfold Dz at h;split at h
 .rename_i bP;obtain⟨τ,h1,h2,h3⟩:=WQ (P:=P) (ops:=ops) hC hF ops.size 0 σ (ki _) (by simpa using h)
  have oW:∀j,(Ý ops.size O).getD j O=false:=by
   intro j;rcases zm j ops.size with hj|hj
   .simp[hj]
   .simp[hj]
  have fk:ClOk ops (Dw ops.toList []):=WK ops.toList [] (λi j h=>by simp at h) (λk o hk=>by simpa using hk);refine jxU hT fk (juO fk bP) (τ:=τ) (λj o ho=>h3 j o (kn _) ho) (λa' w' S' γ' cE dK=>hn _ a' w' S' γ' cE dK h2) ops.size _ ae ae (hR.drawn _) hc ?_
  exact⟨λj o _ hj=>by rw[oW]at hj;simp at hj,λj o t _ _ hj=>by rw[oW]at hj;simp at hj,λt _=>by rw[h1],
   λj k _ _ hj=>by rw[oW]at hj;simp at hj,λk _=>by rw[h1]⟩
 .simp at h
end
def FR(ro:H G):Fence:={ å with round:=ro }
theorem WY(ro:H G)(n:G):(FR ro).room n:=λd h=>by simp[FR,å]at h
section
variable{P:Å}{ro:H G}{n:G}
theorem jFa{f:FuncId}{args:Ã À}{w:Y}{R:Ending->Y->Prop}(h:Calls P f args w R):CallsIn (FR ro) n P f args w R:=(callsIn_wide (n:=n)).2 h
theorem jFb{f:FuncId}{args:Ã À}{w:Y}{R:Ending->Y->Prop}(h:CallsIn (FR ro) n P f args w R):Calls P f args w R:=(callsIn_wide (n:=n)).1 h
theorem jGk{m:G}{c:Õ}{Q:Ó->Á->Y->Prop}{a:Á}{w:Y}(h:c.wpIn (FR ro) n P Q a w):c.wpIn (FR ro) m P Q a w:=
 λb k cs gK hb hr=>h b k cs gK hb (WY _ _)
theorem jGl{row:String}{args:Ã À}{w:Y}{R:À->Y->Prop}(h:Rows P row args w R):RowsIn (FR ro) n P row args w R:=
 λc cs _=>let ⟨v,w',r,s⟩:=h c cs;⟨v,w',r,stepsIn_wide.2 s⟩
theorem I5{o:Æ}(hp:ro=Â\/∀c,o.op ≠ .defer c){a:Á}{w:Y}{K K':Á->Y->Prop}{Q:Ó->Á->Y->Prop}(hK:∀a w,K a w->K' a w)
  (h:o.wp P a w K Q):o.wpIn (FR ro) n P a w K' Q:=by
 refine⟨λ_ _=>trivial,?_⟩
 have e:o.semAt (FR ro).round a.eval=execOp a.eval o:=by
  rcases hp with rfl|hp
  .rfl
  .exact Oper.semAt_eq _ _ _ hp
 rw[e];unfold Ð at h;revert h;cases (execOp a.eval o).run P w with
 |ok x w'=>
  cases x with
  |value v=>intro h;exact hK _ _ h
  |skip=>intro h;exact hK _ _ h
  |defer d=>intro h;exact hK _ _ h
  |enter f args=>
   intro h;refine⟨λhd=>by simp[FR,å]at hd,jFa (Calls.mono h λe yV he=>?_)⟩;cases e with
   |returned v=>exact hK _ _ he
   |panicked c=>exact he
   |outgrown=>exact he
  |row r args=>intro h;exact⟨λhd=>by simp[FR,å]at hd,jGl (Rows.mono h λv yV he=>hK _ _ he)⟩
  |round l f tmps x y=>intro h;exact h.elim
  |_=>intro h;exact h.elim
 |halt x w'=>cases x<;>intro h<;>exact h
theorem vZ{ops:Ã Æ}{Q:Ó->Á->Y->Prop}(hp:ro=Â\/∀o∈ops.toList,∀c,o.op ≠ .defer c)(du:¬ù Q):∀(l:U G)(a:Á)(w:Y),wpOps P ops Q l a w->wpOpsIn (FR ro) n P ops Q l a w
 |[],a,w,h=>h
 |i::r,a,w,h=>by
  simp only[wpOps]at h;simp only[wpOpsIn];cases ho:ops[i]? with
  |none=>simp only[ho]at h ⊢;exact vZ hp du r a w h
  |some o=>
   simp only[ho]at h ⊢;split
   .rename_i hw;simp only[hw,if_true]at h;rcases h with h|⟨_,h⟩
    .refine I5 (hp.imp id λhh=>hh o ?_) (λa w=>vZ hp du r a w) h;obtain⟨an,rfl⟩:=ji.1 ho;exact Array.mem_toList_iff.2 (ö an)
    .exact absurd h du
   .rename_i hw;simp only[hw]at h;exact⟨λ_ _=>trivial,vZ hp du r _ w h⟩
theorem I6{md:Region.Mode}{ops:Ã Æ}{Q:Ó->Á->Y->Prop}(hp:ro=Â\/∀o∈ops.toList,∀c,o.op ≠ .defer c)(du:¬ù Q) :
  ∀(fuel:G)(aD:Ã Ç)(a:Á)(w:Y),wpAny P md ops Q fuel aD a w->wpAnyIn (FR ro) n P md ops Q fuel aD a w
 |0,_,_,_,h=>h
 |fuel+1,aD,a,w,h=>by
  refine⟨h.1,λi hi=>?_⟩;have h2:=h.2 i hi;unfold wpOp at h2;unfold wpOpIn;cases ho:ops[i]? with
  |none=>simp only[ho]at h2 ⊢;exact I6 hp du fuel _ a w h2
  |some o=>
   simp only[ho]at h2 ⊢;split
   .rename_i hw;simp only[hw,if_true]at h2;rcases h2 with h2|⟨_,h2⟩
    .refine I5 (hp.imp id λhh=>hh o ?_) (λa w=>I6 hp du fuel _ a w) h2;obtain⟨an,rfl⟩:=ji.1 ho;exact Array.mem_toList_iff.2 (ö an)
    .exact absurd h2 du
   .rename_i hw;simp only[hw]at h2;exact⟨λ_ _=>trivial,I6 hp du fuel _ _ w h2⟩
end
section
variable{N:NT}{np:G}{S0:aU}{w0:Y}{refs:Refs}{σ:St}{a:Á}{w:Y}{S:aU}{γ:G->À}
theorem Rel.allocO(hR:Rel N np S0 w0 refs σ a w S γ)(o:Obj):Rel N np S0 w0 refs σ a (w.alloc o) S γ:=
 Rel.step (bx':=σ.bx) (γ':=γ) hR (Cb hR o) (.refl _ _) (λk b hb=>fM.keep (Cb hR o) (.refl _ _) rfl (λg hg=>⟨heap_alloc_old w o (mJ (hR.box k b hb) hg),λ_=>Iff.rfl⟩) (hR.box k b hb))
  hR.own hR.apart hR.new (λg i h=>by have:=hR.here g i h;simp;omega) (λg hg hr=>(heap_alloc_old w o (zh hg hR.grow)).trans (hR.below g hg hr)) (by have:=hR.grow;simp;omega) hR.os hR.tape hR.output
  (λg hg _ h=>⟨heap_alloc_old w o hg,h⟩)
structure Grew(w w':Y):Prop where
 old:∀g,g<w.heap.size->w'.heap[g]? = w.heap[g]?
 size:w.heap.size<=w'.heap.size
 os:w'.os=w.os
 tape:w'.tape=w.tape
 output:w'.output=w.output
structure Cv(S:aU)(w:Y)(S':aU)(w':Y):Prop where
 sub:∀g o,S g o->S' g o
 new:∀g o,S' g o->S g o\/w.heap.size<=g
 here:∀g o,S' g o->g<w'.heap.size
theorem Rel.grew(hR:Rel N np S0 w0 refs σ a w S γ){S':aU}{w':Y}(h:Grew w w')(hs:Cv S w S' w'):Rel N np S0 w0 refs σ a w' S' γ:=
 have aQ:ee S w S' w':=λg o hg=>⟨hs.sub g o hg,È (h.old g (hR.here g o hg))⟩
 Rel.step (bx':=σ.bx) (γ':=γ) hR aQ (.refl _ _) (λk b hb=>fM.keep aQ (.refl _ _) rfl (λg hg=>
   have hl:=mJ (hR.box k b hb) hg
   ⟨h.old g hl,λo=>⟨λh1=>(hs.new g o h1).resolve_right aa,hs.sub g o⟩⟩) (hR.box k b hb))
  hR.own hR.apart (λg o h1=>(hs.new g o h1).elim (hR.new g o) λh2=> .inr (.inl (kr hR.grow h2))) hs.here (λg hg hr=>(h.old g (zh hg hR.grow)).trans (hR.below g hg hr)) (kr hR.grow h.size) (h.os.trans hR.os) (h.tape.trans hR.tape) (h.output.trans hR.output)
  (λg hg _ hn=>⟨h.old g hg,hn⟩)
theorem Rel.swap(hR:Rel N np S0 w0 refs σ a w S γ){N':NT}{refs':Refs}{a':Á}(hb:refs'.blks=refs.blks)(hv:refs'.val=refs.val)(bU:a'.tmps.size=N'.n)(xB:a'.defers=refs'.ds)
  (s5:∀i,jF S w γ σ.bx (tm a') (σ.sl i) (tm a' i))(hk:∀g o,refs'.kw g=B o->w.heap[g]? = B o/\∀k b,σ.bx k = .live b->blk (γ k)≠B g)
  (hf:∀i v,refs'.fix i=B v->N'.pin i=X/\a'.tmps.getD i undef=v)(I7:refs'.mv=refs.mv:=by rfl):Rel N' np S0 w0 refs' σ a' w S γ:=
 have hm:∀g,g∈refs'↔g∈refs:=λg=>by show g∈refs'.blks↔g∈refs.blks;rw[hb]
 ⟨bU,xB,s5,hR.box,λk b g h h'=>(hR.own k b g h h').imp (λh=>Own.swap h hb I7) λh=>⟨(hm g).2 h.1,h.2⟩,hR.apart,hR.ext,λg o h=>(hR.new g o h).imp id λh=>Own.swap h hb I7,hR.here,λg h h'=>hR.below g h λh2=>h' ((hm g).2 h2),
  hR.grow,hR.os,hR.tape,hR.output,λk v h=>hR.par k v (hv▸h),hk,hf⟩
theorem I8{g o:G}{x:Obj}(h:w.heap[g]? = B x)(hc:x.isCells=O):w.cell? ⟨g,o,Â⟩=none:=by
 unfold World.cell?;simp only[h];cases x<;>first|rfl|(simp[Obj.isCells]at hc)
theorem Rel.putO(hR:Rel N np S0 w0 refs σ a w S γ){l:G}{o o':Obj}(hk:refs.kw l=B o)(hl:w0.heap.size<=l)(hc:o.isCells=O)(dK:o'.isCells=O) :
  Rel N np S0 w0 { refs with kw:=λg=>if g=l then B o' else refs.kw g } σ a (w.putObj l o') S γ:=by
 obtain⟨hw,du⟩:=hR.kept l o hk;have an:=(ji.1 hw).1
 have aQ:ee S w S (w.putObj l o'):=λg i h=>⟨h,by
  by_cases hg:g=l
  .subst hg;rw[I8 hw hc,I8 (Ù an) dK]
  .exact È (É hg)⟩
 have bO:Rel N np S0 w0 { refs with kw:=λg=>if g=l then Â else refs.kw g } σ a w S γ:=
  Rel.swap hR rfl rfl hR.size hR.defers hR.slot (λg x h=>by
   simp only at h;split at h
   .simp at h
   .exact hR.kept g x h) hR.fix
 have cU:Rel N np S0 w0 { refs with kw:=λg=>if g=l then Â else refs.kw g } σ a (w.putObj l o') S γ:=
  Rel.step (bx':=σ.bx) (γ':=γ) bO aQ (.refl _ _) (λk b hb=>fM.keep aQ (.refl _ _) rfl (λg hg=>⟨É (λe=>du k b hb (e▸hg)),λ_=>Iff.rfl⟩) (hR.box k b hb))
   bO.own bO.apart bO.new (λg i h=>by simpa using hR.here g i h) (λg hg hr=>(É aa).trans (bO.below g hg hr)) (by simpa using hR.grow) hR.os hR.tape hR.output
   (λg _ vC h=>⟨É (λe=>by subst e;simp at vC),h⟩)
 refine Rel.swap cU rfl rfl cU.size cU.defers cU.slot (λg x h=>?_) cU.fix;simp only at h;split at h
 .rename_i e;subst e;simp only[j5]at h;subst h;exact⟨Ù an,du⟩
 .rename_i e;have h1:=hR.kept g x h;exact⟨(É e).trans h1.1,h1.2⟩
theorem jzM(np:G)(K:Keep)(s:Snap)(i:G):(∃c,(cX np K s).sl i = .one c)/\(i∉K.slots->(cX np K s).sl i = .one (.one .dead)):=by
 have eP:(cX np K s).sl i=match K.slots.idxOf? i with
  |some j=>yS s[j]?
  |none=> .one (.one .dead):=rfl
 rw[eP];cases hq:K.slots.idxOf? i with
 |none=>exact⟨⟨_,rfl⟩,λ_=>rfl⟩
 |some j=>refine⟨?_,λh=>absurd (kg (rT hq)) h⟩;simp only;unfold yS;split<;>exact⟨_,rfl⟩
theorem Rel.frame{K:Keep}{s:Snap}(hR:Rel N np S0 w0 refs (cX np K s) a w S γ){N':NT}{refs':Refs}{a':Á}(hb:refs'.blks=refs.blks)(hv:refs'.val=refs.val)(bU:a'.tmps.size=N'.n)(xB:a'.defers=refs'.ds)
  (eP:∀i∈K.slots,tm a' i=tm a i)(hk:∀g o,refs'.kw g=B o->w.heap[g]? = B o/\∀k b,(cX np K s).bx k = .live b->blk (γ k)≠B g)
  (hf:∀i v,refs'.fix i=B v->N'.pin i=X/\a'.tmps.getD i undef=v)(I7:refs'.mv=refs.mv:=by rfl):Rel N' np S0 w0 refs' (cX np K s) a' w S γ:=by
 refine hR.swap hb hv bU xB (λi=>?_) hk hf I7;obtain⟨⟨c,hc⟩,hd⟩:=jzM np K s i;by_cases hi:i∈K.slots
 .have:=hR.slot i;rw[hc]at this ⊢;rw[eP i hi];exact this
 .rw[hd hi];exact⟨trivial,λh=>absurd rfl h⟩
end
section
variable{P:Å}{F:Fence}{n:G}{b:Frame}{a:Á}{k:U Go.Item}{cs:U Frame}{w:Y}{Q:Ó->Á->Y->Prop}
theorem Cw{c:Õ}:step P (lone (b.atR a (.code (.scope c)::k)) cs w) = .next (lone (b.atR a (.code c :: .inScope c::k)) cs w):=
 step_lone_go (by simp[stepG,stepG.exec,Frame.atR])
theorem jqP{c:Õ}:step P (lone (b.atR a (.inScope c::k)) cs w) = .next (lone (b.atR a k) cs w):=
 step_lone_go (by simp[stepG,stepG.exec,Frame.atR])
theorem jxX{c:Õ}(hng:∀l a w,¬Q (.goto l) a w)(h:c.wpIn F n P Q a w):(Code.scope c).wpIn F n P Q a w:=by
 intro b k cs gK hb hr;have h0:(lone (b.atR a (.code (.scope c)::k)) cs w).fenced P F:=fenced_calm hb hr rfl;obtain⟨e,a₁,w₁,hq,qR⟩:=h b (.inScope c::k) cs gK hb hr;cases e with
 |normal=>exact⟨.normal,a₁,w₁,hq,.head h0 Cw (StepsIn.trans qR (.one (fenced_calm hb hr rfl) jqP))⟩
 |exit id=>
  have hx:exitTo id (.inScope c::k)=exitTo id k:=by simp[exitTo]
  exact⟨_,a₁,w₁,hq,λk' hk=> .head h0 Cw (qR.1 k' (by rw[hx];exact hk)),
   λvE hk=>let ⟨k₁,h1,h2⟩:=qR.2 vE (by rw[hx];exact hk);⟨k₁,h1,.head h0 Cw h2⟩⟩
 |goto l=>exact absurd hq (hng l a₁ w₁)
 |ret=>exact⟨_,a₁,w₁,hq,.of_steps (.one h0 Cw) qR⟩
 |panic ch=>exact⟨_,a₁,w₁,hq,.of_steps (.one h0 Cw) qR⟩
 |outgrown=>exact⟨_,a₁,w₁,hq,.of_steps (.one h0 Cw) qR⟩
end
section
variable{N:NT}{np:G}{S0:aU}{w0:Y}{refs:Refs}{σ:St}{a:Á}{w:Y}{S:aU}{γ:G->À}
def exOf:Ex->Ó
 |.normal=> .normal
 |.exit i=> .exit i
 |.ret=> .ret
def gk:G->Õ->U (G×Õ)
 |b,.seq x y=>gk b x++gk b y
 |b,.cond _ x y=>gk b x++gk b y
 |_,.block id c=>gk id c
 |b,.loop c=>(b,c)::gk b c
 |b,.rangeFunc g ps x y=>[(b,.rangeFunc g ps x y)]
 |b,.scope c=>gk b c
 |_,_=>[]
def EG(E:Env)(b:G)(c:Õ):Prop:=
 ∀(s:Snap)(R:Type)(k:Ex->Snap->H R)(r:R),E.L b s R k=B r->∃n e s',loopN (Mh E b c) n s=B (e,s')/\k e s'=B r
def MrOK(E:Env)(b:G)(c:Õ):Prop:=
 ∀(m nm:G)(p:MrP),E.mr b=B (m,nm)->mrP b c=B p->∀(s:Snap)(R:Type)(k:Snap->H R)(r:R),E.M b s R k=B r->
  ∃(em:G)(v:Ty)(xs ys:U (Î×v.den)),isM em=X/\s=ia s em v xs/\
   (∀zs,(cX E.np (E.keep b) (ia s em v zs)).bx nm = .live (.lst em (.pair (.int .i64) v) zs O)/\(cX E.np (E.keep b) (ia s em v zs)).sl m = .one (.one (.ol nm)))/\
   All2 (λx y=>y.1=x.1/\∀zs,B2 E b p m (ia s em v zs) v x.1 x.2 B=B (ia s em v (@eD _ _ (Ty.int .i64).keq zs x.1 y.2))) xs ys/\k (ia s em v ys)=B r
theorem Cx(p:G->Prop):∀n,p n->∃m,p m/\∀j,p j->m<=j:=by
 intro n;induction n using ü with
 |_ n ih=>
  intro h;by_cases hj:∃j,j<n/\p j
  .obtain⟨j,hj,hp⟩:=hj;exact ih j hj hp
  .exact⟨n,h,λj hp=>Nat.le_of_not_lt λhl=>hj ⟨j,hl,hp⟩⟩
open Classical in
noncomputable def I9(p:G->Prop):Nat:=if h:∃n,p n then (Cx p h.choose h.choose_spec).choose else 0
theorem WZ{p:G->Prop}{n:G}(h:p n):p (I9 p)/\I9 p<=n:=by
 unfold I9;have hx:∃n,p n:=⟨n,h⟩;rw[dif_pos hx];exact⟨(Cx p hx.choose hx.choose_spec).choose_spec.1,(Cx p hx.choose hx.choose_spec).choose_spec.2 n h⟩
theorem W0{P:Å}{F:Fence}{n0:G}{Q:Ó->Á->Y->Prop}{c:Õ}(I:G->Á->Y->Prop){n:G}(h₀:I n a w)
  (round:∀n a w,I n a w->c.wpIn F n0 P (Exit.then (λa' w'=>∃m,m<n/\I m a' w') Q) a w):(Code.loop c).wpIn F n0 P Q a w:=by
 refine wpIn_loop (λa w=>∃n,I n a w) (λa w=>I9 λn=>I n a w) ⟨n,h₀⟩ (λa w hI=>?_);obtain⟨m,hm⟩:=hI;have hl:=(WZ (p:=λn=>I n a w) hm).1;refine wpIn_mono (round _ a w hl) (λe a' w' h=>?_);cases e with
 |normal=>obtain⟨m',an,Ja⟩:=h;exact⟨⟨m',Ja⟩,Nat.lt_of_le_of_lt (WZ (p:=λn=>I n a' w') Ja).2 an⟩
 |_=>exact h
def An(w0:Y)(refs:Refs):Prop:=
 refs.ds.Nodup/\∀d∈refs.ds,∃D,d={ target:= .collected D,args:=#[] }/\w0.heap.size<=D/\refs.kw D=B (.deferred (B []))
structure Ao(w0:Y)(refs refs':Refs):Prop where
 blks:refs'.blks=refs.blks
 val:refs'.val=refs.val
 fix:refs'.fix=refs.fix
 marks:An w0 refs'
 mv:refs'.mv=refs.mv
theorem Ao.trans{r r' W7:Refs}(h:Ao w0 r r')(h':Ao w0 r' W7):Ao w0 r W7:=⟨h'.blks.trans h.blks,h'.val.trans h.val,h'.fix.trans h.fix,h'.marks,h'.mv.trans h.mv⟩
def Post(E:Env)(S0:aU)(w0:Y)(refs:Refs)(pl:Ç){R:Type}(k:Ex->St->H R)(r:R):Ó->Á->Y->Prop:=
 λe a' w'=>∃refs' ex σ' S' γ',Ao w0 refs refs'/\(pl=X->refs'=refs)/\exOf ex=e/\Rel E.N E.np S0 w0 refs' σ' a' w' S' γ'/\dH σ'/\k ex σ'=B r
theorem Nz{E:Env}{pl:Ç}{R:Type}{k:Ex->St->H R}{r:R}:¬ù (Post E S0 w0 refs pl k r):=by
 rintro⟨a,w,refs',ex,_,_,_,_,_,he,_⟩
 cases ex<;>simp[exOf]at he
def BwOK(P:Å)(f:G)(t:Ty):Prop:=
 Fun P f/\∀(cv:Ã À)(m l:G)(J:G->aU->Y->Prop)(Jx:Y->Prop)(W:Y)(S:aU),
  (∀j S W S' W',Grew W W'->Cv S W S' W'->J j S W->J j S' W')->(∀W W',Grew W W'->Jx W->Jx W')->(∀j S W,J j S W->∀g o,S g o->g<W.heap.size)->
  (∀j S W,j<m->J j S W->∃xs:U t.den,All2 (kN S W) [.p [⟨.list t,xs⟩]] cv.toList/\m-1-j<xs.length/\∀S' W' x v,Grew W W'->Cv S W S' W'->xs[m-1-j]? = B x->VRep S' W' ⟨t,x⟩ v->
   YieldAt (FR Â) 0 P l #[.int .i64 ((m-1-j:G):Î),v] W' λe W'=>(e = .returned (.bool X)/\∃S',J (j+1) S' W')\/(e = .returned (.bool O)/\Jx W'))->
  (∃(S':aU)(xs:U t.den),xs.length=m/\(∀g o,S' g o->g<W.heap.size)/\All2 (kN S' W) [.p [⟨.list t,xs⟩]] cv.toList)->J 0 S W->
  CallsIn (FR Â) 0 P f (#[.func (.yield l) #[] #[]]++cv) W λe W'=>(∃v,e = .returned v)/\((∃S',J m S' W')\/Jx W')
def ItOK(P:Å)(f:G)(kd:Ç)(t:Ty):Prop:=
 Fun P f/\∀(cv:Ã À)(l:G)(J:Î->aU->Y->Prop)(Je Jx:Y->Prop)(W:Y)(S:aU)(iy:U t.den),
  (∀c S W S' W',Grew W W'->Cv S W S' W'->J c S W->J c S' W')->(∀W W',Grew W W'->Je W->Je W')->(∀W W',Grew W W'->Jx W->Jx W')->(∀c S W,J c S W->∀g o,S g o->g<W.heap.size)->
  (∀c S W,J c S W->∃xs:U t.den,All2 (kN S W) [.p [⟨.list t,xs⟩]] cv.toList/\(Mf kd xs.length c=X->Je W)/\
   (Mf kd xs.length c=O->itOk kd xs.length c=X/\∀S' W' vs,Grew W W'->Cv S W S' W'->All2 (VRep S' W') (DE kd t xs c) vs->
    YieldAt (FR Â) 0 P l vs.toArray W' λe W'=>(e = .returned (.bool X)/\∃S',J (DD kd c) S' W')\/(e = .returned (.bool O)/\Jx W')))->
  (∃S',(∀g o,S' g o->g<W.heap.size)/\All2 (kN S' W) [.p [⟨.list t,iy⟩]] cv.toList)->J (DC kd iy.length) S W->
  CallsIn (FR Â) 0 P f (#[.func (.yield l) #[] #[]]++cv) W λe W'=>(∃v,e = .returned v)/\(Je W'\/Jx W')
def NA(P:Å)(fK fS e:G):Prop:=Fun P fK/\Fun P fS/\∀(w:Y)(g:G)(es:Ã Ì)(clock:G)(ks:U Î),
 w.heap[g]? = B (.map es clock)->MapKept.Stamped es clock->es.toList.map (·.key)=ks.map (Í .i64)->(∀x∈ks, -9223372036854775808<=x/\x<=9223372036854775807)->ks.length<=1000000->
 Calls P fK #[.map (B g)] w λr w1=>∃c,r = .returned c/\Grew w w1/\Calls P fS #[c] w1 λr2 w2=>∃v,r2 = .returned v/\w2.ownsRow w1.heap.size e 1 v ks.length ((ow ks).map (Í .i64))/\Grew w1 w2
def NB(P:Å)(f e sz:G):Prop:=Fun P f/\∀(w:Y)(n:Î),0<=n->n<=1000000->
 Calls P f #[.slice Â 0 0,.int .i64 n] w λr w'=>∃v,r = .returned v/\w'.ownsRow w.heap.size e sz v 0 []/\Grew w w'
def BwK(P:Å)(f:G):Ç×Ty->Prop
 |(X,.arr fK (.arr e .bool))=>NA P fK f e
 |(X,.arr e (.arr sz .unit))=>NB P f e sz
 |(kd,t)=>ItOK P f kd t
theorem BwK.it{P:Å}{f:G}{kd:Ç}{t:Ty}(h:BwK P f (kd,t))(ht:kd=X->t=segT):ItOK P f kd t:=by
 cases kd with
 |false=>exact h
 |true=>obtain rfl:=ht rfl;exact h
section
variable{N:NT}{np:G}{S0:aU}{w0:Y}{refs:Refs}{σ:St}{a:Á}{w:Y}{S:aU}{γ:G->À}
theorem jCx(ks:U Î):(ow ks).length=ks.length:=by
 have hi:∀(x:Î)(l:U Î),(insI x l).length=l.length+1:=by
  intro x l;induction l with
  |nil=>rfl
  |cons y r ih=>unfold insI;cases decide (x<=y)<;>simp[ih]
 induction ks with
 |nil=>rfl
 |cons x r ih=>simp[ow,hi,ih]
theorem EH{vt:Ty}:∀{xs:U (Î×vt.den)}{l:U Ì},All2 (λ(x:(Ty.int .i64).den×vt.den)(e:Ì)=>Rep S w (.int .i64) x.1 [e.key]/\VRep S w ⟨vt,x.2⟩ e.val) xs l->
  l.map (·.key)=(xs.map λx=>x.1).map (Í .i64)
 |[],[],_=>rfl
 |[],_::_,h=>h.elim
 |_::_,[],h=>h.elim
 |y::r,z::q,h=>by
  have h1:[z.key]=[Í .i64 y.1]:=h.1.1;simp only[ke,List.cons.injEq];exact⟨by simpa using h1,EH h.2⟩
theorem jxZ{P:Å}{E:Env}(iZ:∀f t,E.bw f=B t->BwK P f t)(hR:Rel E.N E.np S0 w0 refs σ a w S γ)(hc:dH σ){o o2:Æ}(hd:mX E.N o=X)(gV:mX E.N o2=X)
  {σ':St}(h:Ma E σ o o2=B (X,σ')){next xC:Á->Y->Prop}{Q:Ó->Á->Y->Prop}
  (rW:∀a1 w1,o2.wp P a1 w1 next Q->xC a1 w1)(hn:∀a' w' S' γ',Rel E.N E.np S0 w0 refs σ' a' w' S' γ'->dH σ'->next a' w'):o.wp P a w xC Q:=by
 unfold Ma at h;split at h
 case h_2=>simp at h
 rename_i c1 c2 ho oP;split at h
 case h_2=>simp at h
 rename_i f1 x f2 d eX EI fA w6;split at h
 case h_2=>simp at h
 rename_i fK b fS qK hx u6;split at h
 case h_2=>simp at h
 rename_i Mb e em ta xs fr NC Ap;split at h
 case h_2=>simp at h
 rename_i cq ys uD;split at h
 case isFalse=>simp at h
 rename_i dR;obtain⟨rfl,EJ,vU,EK,bu⟩:=dR;simp only[j5,j9]at h;obtain⟨rfl,rfl⟩:=h;obtain⟨hFK,hFS,eQ⟩:NA P Mb fS e:=iZ _ _ NC;have EL:=mY hR x;rw[hx]at EL;have Cs:a.eval x=γ b:=EL.1.2.2 _ Ap;unfold UW at uD;split at uD
 case h_2=>simp at uD
 rename_i vt xs;simp only[j5,j9]at uD;obtain⟨bP,rfl⟩:=uD
 obtain⟨g,es,clock,hg,hh,aC,aQ⟩:DH S w (.pair (.int .i64) vt) xs (γ b):=by
  rcases (hR.box b _ Ap).1 with⟨hm,_⟩|⟨_,hm⟩
  .rw[vU]at hm;simp at hm
  .exact hm
 unfold Dt at bP;simp only[jd,jz,jo]at bP;have IE:xs.length<=1000000:=qy bP.1;have hks:es.toList.map (·.key)=(xs.map λx=>x.1).map (Í .i64):=by exact EH aC
 have dq:=eQ w g es clock (xs.map λx=>x.1) hh aQ.1 hks (λz hz=>by
  obtain⟨y,hy,rfl⟩:=jr.1 hz;exact bP.2 y hy) (by simpa using IE)
 have EM:=mY hR f1;rw[qK]at EM;obtain⟨cv,Cj,lI⟩:=EM.1
 obtain rfl:cv = #[]:=by
  have:cv.toList=[]:=by
   cases hq:cv.toList with
   |nil=>rfl
   |cons=>rw[hq]at lI;exact lI.elim
  exact vd.1 this
 have aP:=IP (w:=w) hFK ho eX Cj;have e1:c1.args.map a.eval ++ #[] = #[.map (B g)]:=by apply qs;simp[EI,Cs,hg]
 rw[e1]at aP;unfold Ð;rw[aP,Ø];refine dq.mono ?_
 rintro r w1 ⟨c,rfl,mK,ND⟩
 have bO:=hR.grew mK (S':=S) ⟨λ_ _ h=>h,λ_ _ h=> .inl h,λg o h=>zh (hR.here g o h) mK.size⟩;obtain⟨cU,NF⟩:=Cr bO hc (Ae hd) (s:= .one (.one .dead)) (v:=c) ⟨trivial,λh=>absurd rfl h⟩ rfl;have EN:=mY cU f2;rw[u6]at EN;obtain⟨cv,Cf,lI⟩:=EN.1
 obtain rfl:cv = #[]:=by
  have:cv.toList=[]:=by
   cases hq:cv.toList with
   |nil=>rfl
   |cons=>rw[hq]at lI;exact lI.elim
  exact vd.1 this
 have pT:=IP (w:=w1) hFS oP fA Cf;have hda:d<a.tmps.size:=by rw[hR.size];exact(Ae hd d EJ).1
 have e2:c2.args.map (a.put o.dst c).eval ++ #[] = #[c]:=by
  apply qs;have:(a.put o.dst c).eval (.tmp d)=c:=by show tm (a.put o.dst c) d=c;rw[EJ,oT hda,if_pos rfl]
  simp[w6,this]
 rw[e2]at pT;refine rW _ _ ?_;unfold Ð;rw[pT,Ø];refine ND.mono ?_
 rintro r2 w2 ⟨v,rfl,cI,qS⟩
 have iN:(σ.setD o.dst (.one (.one .dead))).bx ((o2.dst.getD 0)*64) = .free:=by
  rw[show (σ.setD o.dst (.one (.one .dead))).bx=σ.bx by rw[EJ];rfl];cases hq:σ.bx ((o2.dst.getD 0)*64) with
  |free=>rfl
  |gone=>rw[hq]at bu;simp[jK]at bu
  |live=>rw[hq]at bu;simp[jK]at bu
 have hblk:∀g',blk v=B g'->w1.heap.size<=g'/\g'<w2.heap.size:=by
  intro g' az;rcases cI.2 with⟨rfl,_⟩|⟨gb,cap,cur,rfl,gq,uw,_⟩
  .simp[blk]at az
  .simp[blk]at az;subst az;exact⟨gq,(ji.1 uw).1⟩
 have jS:w2.ownsRow 0 e (Ty.int .i64).size v (lh xs).length (((lh xs).map (λx=>[Í .i64 x])).flatten):=by
  have e3:((lh xs).map (λx=>[Í .i64 x])).flatten=(ow (xs.map λx=>x.1)).map (Í .i64):=by
   unfold lh;induction ow (xs.map λx=>x.1) with
   |nil=>rfl
   |cons y r ih=>simp only[ke,qd,ih];rfl
  rw[e3,show (lh xs).length=(xs.map λx=>x.1).length from jCx _];refine⟨cI.1,?_⟩;rcases cI.2 with hl|⟨gb,cap,cur,h1,h2,h3⟩
  .exact .inl hl
  .exact .inr ⟨gb,cap,cur,h1,kn _,h3⟩
 have NG:=Cd cU iN (w':=w2) (S':=S) (v':=v) (e:=e) EK (el:= .int .i64) (zs:=lh xs) (frz:=O) (css:=(lh xs).map λx=>[Í .i64 x])
  (λg' o' hs=>⟨hs,È (qS.old g' (cU.here g' o' hs))⟩) (λg' az _=>qS.old g' az) qS.size
  (λg' az=>⟨.inl (kr cU.grow (hblk g' az).1),λk b' aW hk=>by have:=mJ (cU.box k b' aW) hk;have:=(hblk g' az).1;omega,(hblk g' az).2⟩)
  (λ_ _ h=> .inl h) qS.os qS.tape qS.output jS (by
   generalize lh xs=l
   induction l with
   |nil=>trivial
   |cons y r ih=>exact⟨rfl,ih⟩)
  (λg' az=>⟨λ_ o' hs=>by have:=cU.here g' o' hs;have:=(hblk g' az).1;omega,λh=>by simp at h⟩) (λg' az=>cU.kw_new (hblk g' az).1)
 obtain⟨gI,oK⟩:=NG;obtain⟨nY,nZ⟩:=Cr gI (λi=>NF i) (Ae gV) (s:= .one (.one (.ol ((o2.dst.getD 0)*64)))) (v:=v) oK rfl;exact hn _ _ _ _ nY nZ
theorem jy0{P:Å}{E:Env}(iZ:∀f t,E.bw f=B t->BwK P f t)(hR:Rel E.N E.np S0 w0 refs σ a w S γ)(hc:dH σ){o:Æ}(hd:mX E.N o=X)
  {σ':St}(h:Mc E σ o=B (X,σ')){next:Á->Y->Prop}{Q:Ó->Á->Y->Prop}
  (hn:∀a' w' S' γ',Rel E.N E.np S0 w0 refs σ' a' w' S' γ'->dH σ'->next a' w'):o.wp P a w next Q:=by
 unfold Mc at h;split at h
 case h_2=>simp at h
 rename_i c1 ho;split at h
 case h_2=>simp at h
 rename_i f1 x y eX EI;split at h
 case h_2=>simp at h
 rename_i fG n qK hx hy;split at h
 case h_2=>simp at h
 rename_i e sz ti NC wZ;split at h
 case h_2=>simp at h
 rename_i ta bM;split at h
 case isFalse=>simp at h
 rename_i dR;obtain⟨rfl,EK,bu⟩:=dR;simp only[j5,j9,jd,jo]at h;obtain⟨⟨pJ,rW⟩,rfl⟩:=h;obtain⟨hFG,eQ⟩:NB P fG e ta.size:=iZ _ _ NC;have EL:=mY hR x;rw[hx]at EL;have Cs:a.eval x = .slice Â 0 0:=EL.1;have W8:=mY hR y;rw[hy]at W8;have Na:a.eval y = .int .i64 n:=uY W8;have EM:=mY hR f1;rw[qK]at EM;obtain⟨cv,Cj,lI⟩:=EM.1
 obtain rfl:cv = #[]:=by
  have:cv.toList=[]:=by
   cases hq:cv.toList with
   |nil=>rfl
   |cons=>rw[hq]at lI;exact lI.elim
  exact vd.1 this
 have aP:=IP (w:=w) hFG ho eX Cj;have e1:c1.args.map a.eval ++ #[] = #[.slice Â 0 0,.int .i64 n]:=by apply qs;simp[EI,Cs,Na]
 rw[e1]at aP;unfold Ð;rw[aP,Ø];refine(eQ w n pJ rW).mono ?_
 rintro r w1 ⟨v,rfl,cI,mK⟩
 have iN:σ.bx ((o.dst.getD 0)*64) = .free:=by
  cases hq:σ.bx ((o.dst.getD 0)*64) with
  |free=>rfl
  |gone=>rw[hq]at bu;simp[jK]at bu
  |live=>rw[hq]at bu;simp[jK]at bu
 have hblk:∀g',blk v=B g'->w.heap.size<=g'/\g'<w1.heap.size:=by
  intro g' az;rcases cI.2 with⟨rfl,_⟩|⟨gb,cap,cur,rfl,gq,uw,_⟩
  .simp[blk]at az
  .simp[blk]at az;subst az;exact⟨gq,(ji.1 uw).1⟩
 have jS:w1.ownsRow 0 e ta.size v ([]:U ta.den).length (([]:U (U À)).flatten):=by
  refine⟨cI.1,?_⟩;rcases cI.2 with hl|⟨gb,cap,cur,h1,h2,h3⟩
  .exact .inl hl
  .exact .inr ⟨gb,cap,cur,h1,kn _,h3⟩
 have NG:=Cd hR iN (w':=w1) (S':=S) (v':=v) (e:=e) EK (el:=ta) (zs:=[]) (frz:=O) (css:=[])
  (λg' o' hs=>⟨hs,È (mK.old g' (hR.here g' o' hs))⟩) (λg' az _=>mK.old g' az) mK.size
  (λg' az=>⟨.inl (kr hR.grow (hblk g' az).1),λk b' aW hk=>by have:=mJ (hR.box k b' aW) hk;have:=(hblk g' az).1;omega,(hblk g' az).2⟩)
  (λ_ _ h=> .inl h) mK.os mK.tape mK.output jS trivial
  (λg' az=>⟨λ_ o' hs=>by have:=hR.here g' o' hs;have:=(hblk g' az).1;omega,λh=>by simp at h⟩) (λg' az=>hR.kw_new (hblk g' az).1)
 obtain⟨gI,oK⟩:=NG;obtain⟨nY,nZ⟩:=Cr gI (λi=>hc i) (Ae hd) (s:= .one (.one (.ol ((o.dst.getD 0)*64)))) (v:=v) oK rfl;exact hn _ _ _ _ nY nZ
theorem W9{P:Å}{E:Env}(hT:cT P E.T)(hC:kF P E.C)(iZ:∀f t,E.bw f=B t->BwK P f t)(hR:Rel E.N E.np S0 w0 refs σ a w S γ)(hc:dH σ){o:Æ}(hd:mX E.N o=X){R:Type}{k:St->H R}{r:R}
  (h:runK E σ o k=B r){next:Á->Y->Prop}{Q:Ó->Á->Y->Prop}
  (hn:∀σ' a' w' S' γ',Rel E.N E.np S0 w0 refs σ' a' w' S' γ'->dH σ'->k σ'=B r->next a' w'):o.wp P a w next Q:=by
 unfold runK at h;split at h
 .rename_i c σ' hg;cases c with
  |false=>simp at h
  |true=>exact jy0 iZ hR hc hd hg (λa' w' S' γ' cE dK=>hn _ _ _ _ _ cE dK h)
 .exact Ct hT hC hR (act:=[]) (λg hg=>by simp at hg) (p:=O) (λ_=>hc) hd h (λσ' a' w' S' γ' cE dK hk=>hn _ _ _ _ _ cE (dK rfl) hk)
theorem NH{P:Å}{E:Env}(hT:cT P E.T)(hC:kF P E.C)(iZ:∀f t,E.bw f=B t->BwK P f t){ops:Ã Æ}(cM:bare ops=X){R:Type}{k:St->H R}{r:R}{Q:Ó->Á->Y->Prop}
  (hn:∀σ' a' w' S' γ',Rel E.N E.np S0 w0 refs σ' a' w' S' γ'->dH σ'->k σ'=B r->Q .normal a' w') :
  ∀(n i:G)(σ:St)(a:Á)(w:Y)(S:aU)(γ:G->À),i+n=ops.size->Rel E.N E.np S0 w0 refs σ a w S γ->dH σ->uR E (ops.toList.drop i) σ k=B r->
   wpOps P ops Q (é i n) a w
 |0,i,σ,a,w,S,γ,hi,hR,hc,h=>by
  rw[jc ax]at h;exact hn _ _ _ _ _ hR hc h
 |1,i,σ,a,w,S,γ,hi,hR,hc,h=>by
  have an:i<ops.size:=aa;rw[jb (by simpa using an),jc ax]at h;simp only[uR]at h;split at h
  .rename_i hd;have ho:ops[i]? = B ops[i]:=jx an;simp only[vj,wpOps,ho];have hg:ops[i].guard=none:=by have:=jz.1 cM ops[i] ae;simpa using this
   have hw:Ä ops[i] (yielded ops a.tmps)=true:=by simp[Ä,hg]
   simp only[hw,if_true];exact .inl (W9 hT hC iZ hR hc (by simpa using hd) (by simpa using h) (λσ' a' w' S' γ' cE dK hk=>hn _ _ _ _ _ cE dK hk))
  .simp at h
 |n+2,i,σ,a,w,S,γ,hi,hR,hc,h=>by
  have an:i<ops.size:=aa;have mo:i+1<ops.size:=aa;rw[jb (by simpa using an),jb (by simpa using mo)]at h;simp only[uR]at h;have ho:ops[i]? = B ops[i]:=jx an;have oP:ops[i+1]? = B ops[i+1]:=jx mo
  have hw:∀(j:G)(hj:j<ops.size)(a:Á),Ä ops[j] (yielded ops a.tmps)=true:=λj hj a=>by
   have hg:ops[j].guard=none:=by have:=jz.1 cM ops[j] ae;simpa using this
   simp[Ä,hg]
  split at h
  case isFalse=>simp at h
  rename_i hd;split at h
  .rename_i cq σ' hks;split at h
   case isFalse=>simp at h
   rename_i gV;cases cq with
   |false=>simp at h
   |true=>simp only[j6]at h;simp only[vj,wpOps,ho,oP,hw i an,hw (i+1) mo,if_true];refine .inl (jxZ iZ hR hc (by simpa using hd) (by simpa using gV) (by simpa using hks) (λa1 w1 hq=> .inl hq) (λa' w' S' γ' cE dK=>?_));exact NH hT hC iZ cM hn n (i+2) σ' a' w' S' γ' aa cE dK h
  .rw[vj];simp only[wpOps,ho,hw i an,if_true];refine .inl (W9 hT hC iZ hR hc (by simpa using hd) (by simpa using h) (λσ' a' w' S' γ' cE dK hk=>?_));refine NH hT hC iZ cM hn (n+1) (i+1) σ' a' w' S' γ' aa cE dK ?_;rw[jb (by simpa using mo)];simpa using hk
theorem jy1{P:Å}{E:Env}(hT:cT P E.T)(hC:kF P E.C)(iZ:∀f t,E.bw f=B t->BwK P f t)(hR:Rel E.N E.np S0 w0 refs σ a w S γ)(hc:dH σ){ops:Ã Æ}{R:Type}{k:St->H R}{r:R}
  {Q:Ó->Á->Y->Prop}(hn:∀σ' a' w' S' γ',Rel E.N E.np S0 w0 refs σ' a' w' S' γ'->dH σ'->k σ'=B r->Q .normal a' w')(h:Dv E ops σ k=B r) :
  wpOps P ops Q (List.range ops.size) a w:=by
 rw[Ñ];unfold Dv at h;split at h
 .rename_i hb;exact NH hT hC iZ hb hn ops.size 0 σ a w S γ aa hR hc (by simpa using h)
 .simp at h
end
theorem jI2{P:Å}{f:G}{t:Ty}(h:BwOK P f t):ItOK P f O t:=by
 refine⟨h.1,λcv l J Je Jx W S iy aQ Xa hsx hh hY dE uE=>?_⟩;obtain⟨S',wa,dK⟩:=dE;refine CallsIn.mono (h.2 cv iy.length l (λj S W=>j<=iy.length/\J ((iy.length:Î)-j) S W) Jx W S (λj S W S' W' hg hs hj=>⟨hj.1,aQ _ _ _ _ _ hg hs hj.2⟩) hsx (λj S W hj=>hh _ _ _ hj.2) ?_ ⟨S',iy,rfl,wa,dK⟩ ⟨kn _,?_⟩) ?_
 .rintro j S W hj ⟨_,hJ⟩
  obtain⟨xs,h1,_,h3⟩:=hY _ _ _ hJ;obtain⟨h4,h5⟩:=h3 (by show decide _=O;exact decide_eq_false aa);have h4:(iy.length:Î)-j<=Int.ofNat xs.length:=q7 h4;have h4:(iy.length:Î)-j<=(xs.length:Î):=h4;refine⟨xs,h1,aa,λS' W' x v hg hs hx hv=>?_⟩
  have Aq:All2 (VRep S' W') (DE O t xs ((iy.length:Î)-j)) [.int .i64 ((iy.length-1-j:G):Î),v]:=by
   refine⟨⟨?_,λhm=>absurd hm (show¬jM (.int .i64)=X by decide),λ_=>rfl⟩,?_,trivial⟩
   .show [Í .i64 ((iy.length-1-j:G):Î)]=[Í .i64 ((iy.length:Î)-j-1)];rw[show ((iy.length-1-j:G):Î)=(iy.length:Î)-j-1 by omega]
   .have e:List.getD xs ((iy.length:Î)-j-1).toNat t.dflt=x:=by rw[show ((iy.length:Î)-j-1).toNat=iy.length-1-j by omega];simp[List.getD,hx]
    rw[e];exact hv
  obtain⟨fn,tmps,as,bo,hy,hR⟩:=h5 S' W' _ hg hs Aq;refine⟨fn,tmps,as,bo,hy,hR.mono λe W' he=>?_⟩;rcases he with⟨h6,S6,h7⟩|h6
  .refine .inl ⟨h6,S6,aa,?_⟩;have e2:DD O ((iy.length:Î)-j)=(iy.length:Î)-((j+1:G):Î):=by show (iy.length:Î)-j-1=_;omega
   rw[<-e2];exact h7
  .exact .inr h6
 .have:((iy.length:Î)-((0:G):Î))=DC O iy.length:=by show _=Int.ofNat iy.length;simp
  rw[this];exact uE
 .rintro e W' ⟨hv,⟨S',_,hJ⟩|hx⟩
  .obtain⟨xs,_,h2,_⟩:=hY _ _ _ hJ;exact⟨hv,.inl (h2 (by show decide _=X;exact yl aa))⟩
  .exact⟨hv,.inr hx⟩
def Jb(P:Å)(E:Env)(ro:H G)(c:Õ):Prop:=
 ∀(b n:G){S0:aU}{w0:Y}{refs:Refs}{σ:St}{a:Á}{w:Y}{S:aU}{γ:G->À}{R:Type}{k:Ex->St->H R}{r:R},An w0 refs->
  (∀x∈gk b c,EG E x.1 x.2/\MrOK E x.1 x.2)->Rel E.N E.np S0 w0 refs σ a w S γ->dH σ->gp E b c σ k=B r->c.wpIn (FR ro) n P (Post E S0 w0 refs (ea c) k r) a w
theorem wb:∀(c:Õ)(b:G),ea c=X->gk b c=[]
 |.seq x y,b,h=>by simp only[ea,jd]at h;simp[gk,wb x b h.1,wb y b h.2]
 |.cond _ x y,b,h=>by simp only[ea,jd]at h;simp[gk,wb x b h.1,wb y b h.2]
 |.block id c,b,h=>by simp only[ea]at h;simp[gk,wb c id h]
 |.loop c,b,h=>by simp[ea]at h
 |.rangeFunc _ _ _ _,b,h=>by simp[ea]at h
 |.skip,_,_=>rfl
 |.region _ _ _,_,_=>rfl
 |.exit _,_,_=>rfl
 |.goto _,_,_=>rfl
 |.label _,_,_=>rfl
 |.ret,_,_=>rfl
 |.scope c,b,h=>by simp only[ea]at h;simp[gk,wb c b h]
theorem Xb:∀(L:U (G×À))(T:Ã À),rE (L.map (·.1))=X->(∀q∈L,q.1<T.size)->
  (∀q∈L,(L.foldl (λt (q:G×À)=>t.setIfInBounds q.1 q.2) T).getD q.1 undef=q.2)/\(∀i,i∉L.map (·.1)->(L.foldl (λt (q:G×À)=>t.setIfInBounds q.1 q.2) T).getD i undef=T.getD i undef)/\
  (L.foldl (λt (q:G×À)=>t.setIfInBounds q.1 q.2) T).size=T.size
 |[],T,_,_=>⟨λq h=>by simp at h,λ_ _=>rfl,rfl⟩
 |q::r,T,hn,hb=>by
  simp only[ke,rE,jd,kz,qk,ku]at hn;obtain⟨h1,h2,h3⟩:=Xb r (T.setIfInBounds q.1 q.2) hn.2 (λp hp=>by simpa using hb p (by simp[hp]));have hq:=hb q ae;refine⟨λp hp=>?_,λi hi=>?_,by simpa using h3⟩
  .rcases je.1 hp with rfl|hp
   .show (List.foldl (λt (q:G×À)=>t.setIfInBounds q.1 q.2) (T.setIfInBounds p.1 p.2) r).getD p.1 undef=_;rw[h2 p.1 hn.1];simp[Array.getD,hq]
   .exact h1 p hp
  .simp only[ke,je,not_or]at hi;show (List.foldl (λt (q:G×À)=>t.setIfInBounds q.1 q.2) (T.setIfInBounds q.1 q.2) r).getD i undef=_;rw[h2 i hi.2];rw[vg,Array.getElem?_setIfInBounds,if_neg (λh=>hi.1 h.symm),<-vg]
theorem Xc{N:NT}{np:G}:∀(L:U (G×TV)){σ:St},Rel N np S0 w0 refs σ a w S γ->dH σ->(∀q∈L,VRep S w q.2 (tm a q.1))->Rel N np S0 w0 refs (setL L σ) a w S γ/\dH (setL L σ)
 |[],_,hR,hc,_=>⟨hR,hc⟩
 |q::r,σ,hR,hc,hv=>by
  have h1:=Nf hR (s:=q.1) (x:= .one (pD q.2.t q.2.v)) (zS (hv q ae));refine Xc r h1 (λi=>?_) (λp hp=>hv p (by simp[hp]));simp only[St.setS];split
  .rfl
  .exact hc i
theorem Xd{S:aU}{w:Y}:∀{ps:U G}{xs:U TV}{vs:U À},All2 (VRep S w) xs vs->∀q∈ps.zip xs,∃v,(q.1,v)∈ps.zip vs/\VRep S w q.2 v
 |[],_,_,_,q,h=>by simp at h
 |p::ps,[],vs,_,q,h=>by simp at h
 |p::ps,x::xs,[],h2,q,h=>h2.elim
 |p::ps,x::xs,v::vs,h2,q,h=>by
  simp only[ð,je]at h;rcases h with rfl|h
  .exact⟨v,ae,h2.1⟩
  .obtain⟨u,h3,h4⟩:=Xd h2.2 q h;exact⟨u,by simp[h3],h4⟩
theorem Xe:∀(ps:U G)(vs:U À),rE ps=X->rE ((ps.zip vs).map (·.1))=X
 |[],_,_=>by simp[rE]
 |p::ps,[],_=>by simp[rE]
 |p::ps,v::vs,h=>by
  simp only[rE,jd,kz,qk,ku,ð,ke]at h ⊢;refine⟨λhm=>h.1 ?_,Xe ps vs h.2⟩;obtain⟨q,hq,he⟩:=jr.1 hm;rw[<-he];exact(è hq).1
theorem jFc{kd:Ç}{t:Ty}{xs:U t.den}{c:Î}(h:kd=X->t=segT):(DE kd t xs c).length=cond kd 1 2:=by
 cases kd with
 |false=>rfl
 |true=>have:=h rfl;subst this;rfl
theorem jCy{P:Å}{E:Env}(iZ:∀f t,E.bw f=B t->BwK P f t)(mq:E.N.pin=λ_=>O){b n:G}{g:Û}{ps:Ã G}{x y:Õ}
  (s7:∀l,ea x=X->Jb P (E.rnd ps x y) (B l) x)(s9:∀l,ea y=X->Jb P (E.rnd ps x y) (B l) y)
  (hLO:EG E b (.rangeFunc g ps x y)){R:Type}{k:Ex->St->H R}{r:R}(hm:An w0 refs)(hR:Rel E.N E.np S0 w0 refs σ a w S γ)(hc:dH σ)
  (h:gp E b (.rangeFunc g ps x y) σ k=B r) :
  (Code.rangeFunc g ps x y).wpIn (FR Â) n P (Post E S0 w0 refs (ea (.rangeFunc g ps x y)) k r) a w:=by
 refine jGk (n:=1) ?_;simp only[gp]at h;split at h
 case h_2=>simp at h
 rename_i f t xs nw;split at h
 case h_2=>simp at h
 rename_i kd bP;split at h
 case h_2=>simp at h
 rename_i s hs;obtain⟨fu0,e,s',EO,hk⟩:=hLO _ R _ r h;have bV:=mY hR g;rw[nw]at bV;obtain⟨⟨cv,Xf,lI⟩,_⟩:=bV;obtain⟨S1,γ1,bO,eX⟩:=uA hR hc hs
 have parts:∀f t kd,rfK E b f t ps x y=B kd->E.bw f=B (kd,t)/\(kd=X->t=segT)/\ps.toList.length=cond kd 1 2/\rE ps.toList=X/\(∀p∈ps.toList,p<E.N.n)/\ea x=X/\ea y=X/\pinK ps x y (E.keep b)=true:=by
  intro f t kd bP;unfold rfK at bP;split at bP
  case h_2=>simp at bP
  rename_i q hq;cases tc:(decide (q.2=t)&&(cond q.1 (decide (t=segT)) X&&(decide (ps.toList.length=cond q.1 1 2)&&(rE ps.toList&&(ps.toList.all (λp=>decide (p<E.N.n))&&(ea x&&(ea y&&pinK ps x y (E.keep b)))))))) with
  |false=>rw[tc]at bP;simp at bP
  |true=>
  rw[tc,j6,j5]at bP;subst bP;simp only[jd,jo,jz]at tc;obtain⟨h1,h0,h2,h3,h4,h5,h6,h7⟩:=tc;exact⟨by rw[hq,<-h1],λhk=>by rw[hk]at h0;exact q7 h0,h2,h3,h4,h5,h6,h7⟩
 obtain⟨Cm,Xg,h2,fN,an,Ar,As,Xh⟩:=parts f t kd bP;obtain⟨⟨Xi,NI,xD,cG⟩,xw⟩:=(iZ f _ Cm).it Xg
 have heg:∀args w,(callFunc f args).run P w = .ok (.enter f args) w:=λargs w=>by
  have ma:¬Xi.body=none:=λhn=>by rw[hn]at xD;simp at xD
  have xm : ¬ Xi.name = "runtime.NumGoroutine" := by simpa using cG
  simp[callFunc,NI,ma,xm]
 refine wpIn_rangeFunc λfn _=>?_;obtain⟨rec,gG⟩:∃rec:LoopState->H Õ->Loop,rec=λst pe=>{ state:=st,pending:=pe,fn,tmps:=a.tmps,params:=ps,assign:=x,body:=y,defers:=w.heap.size }:=⟨_,rfl⟩;obtain⟨W1,Cy⟩:∃W1,(w.alloc (.deferred (B []))).alloc (.loop (rec .ready Â))=W1:=⟨_,rfl⟩
 refine⟨w.heap.size+1,[{ target:= .collected w.heap.size,args:=#[] }],W1,{ target:= .fn (.func f) cv,args:=#[.func (.yield (w.heap.size+1)) #[] #[]] },W1,f,
  #[.func (.yield (w.heap.size+1)) #[] #[]]++cv,W1,?_,?_,λ_ _=>trivial,?_,λhd=>by simp[FR,å]at hd,?_⟩
 .rw[<-Cy,gG];exact run_enterLoop_outer _ _ _ _ _
 .simp only[resolve,Xf];simp[go_sem]
 .simp[invoke,go_sem,heg]
 obtain⟨l,hl⟩:∃l,l=w.heap.size+1:=⟨_,rfl⟩;rw[<-hl];let cQ:(G->H À)->Obj->Refs:=λfx o=>{ blks:=refs.blks,val:=refs.val,ds:=[],kw:=λg=>if g=l then B o else if g=w.heap.size then B (.deferred (B [])) else refs.kw g,fix:=fx,mv:=refs.mv }
 let fx:G->H Value:=λi=>if BZ ps x y i then B (a.tmps.getD i undef) else Â
 let aI:Go.Act:={ tmps:=a.tmps,defers:=[] }
 have jA:∀fx o,(cQ fx o).kw l=B o:=λfx o=>by simp[cQ]
 have iG:w0.heap.size<=l:=by have:=hR.grow;omega
 have cV:∀fx o,An w0 (cQ fx o):=λfx o=>⟨vc,λd hd=>by simp[cQ]at hd⟩
 have kS:∀{N:NT}{fx:G->H À}{o o':Obj}{σ:St}{a:Á}{W:Y}{S:aU}{γ:G->À},o.isCells=O->o'.isCells=O->Rel N E.np S0 w0 (cQ fx o) σ a W S γ->
   Rel N E.np S0 w0 (cQ fx o') σ a (W.putObj l o') S γ:=by
  intro N fx o o' σ a W S γ h1 h2 hR;have:=hR.putO (jA fx o) iG h1 h2;refine this.swap rfl rfl this.size this.defers this.slot (λg u hg=>this.kept g u ?_) this.fix;simp only[cQ]at hg ⊢;split
  .rename_i e;subst e;simpa using hg
  .rename_i e;simpa[e]using hg
 have td:∀{N N':NT}{fx NJ:G->H À}{o:Obj}{K:Keep}{s:Snap}{a a':Á}{W:Y}{S:aU}{γ:G->À},Rel N E.np S0 w0 (cQ fx o) (cX E.np K s) a W S γ->a'.tmps.size=N'.n->a'.defers=[]->
   (∀i∈K.slots,tm a' i=tm a i)->(∀i v,NJ i=B v->N'.pin i=X/\a'.tmps.getD i undef=v)->Rel N' E.np S0 w0 (cQ NJ o) (cX E.np K s) a' W S γ:=by
  intro N N' fx NJ o K s a a' W S γ hR h1 h2 h3 h4;exact hR.frame rfl rfl h1 h2 h3 (λg u hg=>hR.kept g u hg) h4
 have tg:∀i v,(λ_=>Â:G->H À) i=B v->E.N.pin i=X/\aI.tmps.getD i undef=v:=λi v h=>by simp at h
 let J:Î->aU->Y->Prop:=λc S W=>∃s γ fu,Rel E.N E.np S0 w0 (cQ (λ_=>Â) (.loop (rec .ready Â))) (cX E.np (E.keep b) s) aI W S γ/\dH (cX E.np (E.keep b) s)/\
  loopN (B1 E b g ps x y) fu (.s (.one (.d (.int .i64) c))::s)=B (e,s')
 let Je:Y->Prop:=λW=>∃S γ,Rel E.N E.np S0 w0 (cQ (λ_=>Â) (.loop (rec .ready Â))) (cX E.np (E.keepX b e) s') aI W S γ/\dH (cX E.np (E.keepX b e) s')/\e = .normal
 let Jx:Y->Prop:=λW=>∃S γ c,Rel E.N E.np S0 w0 (cQ (λ_=>Â) (.loop (rec .done (B c)))) (cX E.np (E.keepX b e) s') aI W S γ/\dH (cX E.np (E.keepX b e) s')/\
  ((e = .ret/\c = .ret)\/∃i,e = .exit i/\c = .exit i)
 have xE:∀K:Keep,pinK ps x y K=X->∀i∈K.slots,BZ ps x y i=true:=λK hK i hi=>jz.1 hK i hi;have xF:∀i,BZ ps x y i=X->i∉ps.toList:=by intro i hi;simp only[BZ,jd,kz,qk,ku]at hi;exact hi.1
 have uE:J (DC kd xs.length) S1 W1:=by
  refine⟨s,γ1,fu0,?_,eX,EO⟩;have hA:=(bO.allocO (.deferred (B []))).allocO (.loop (rec .ready Â));rw[Cy]at hA;refine hA.frame rfl rfl hR.size rfl (λi _=>rfl) (λg' u az=>?_) tg;simp only[cQ]at az;split at az
  .rename_i e';simp only[j5]at az;subst az;rw[e',hl];refine⟨?_,λk' b' aW dY=>?_⟩
   .rw[<-Cy];have:=Ò (w.alloc (.deferred (B []))) (.loop (rec .ready Â));rwa[World.size_alloc]at this
   .have:=mJ (bO.box k' b' aW) dY;omega
  .split at az
   .rename_i _ e';simp only[j5]at az;subst az;rw[e'];refine⟨?_,λk' b' aW dY=>?_⟩
    .rw[<-Cy];exact(heap_alloc_old _ _ ae).trans (Ò w _)
    .have:=mJ (bO.box k' b' aW) dY;omega
   .exact hA.kept g' u az
 have haI:aI.eval g=a.eval g:=by cases g<;>rfl
 have NK:aI.tmps.size=E.N.n:=hR.size
 have EP:∀{K:Keep}{s:Snap}{o:Obj}{W W':Y}{S:aU}{γ:G->À},Grew W W'->Rel E.N E.np S0 w0 (cQ (λ_=>Â) o) (cX E.np K s) aI W S γ->Rel E.N E.np S0 w0 (cQ (λ_=>Â) o) (cX E.np K s) aI W' S γ:=
  λhg h1=>h1.grew hg ⟨λ_ _ h=>h,λ_ _ h=> .inl h,λg o h=>zh (h1.here g o h) hg.size⟩
 refine CallsIn.mono (xw cv l J Je Jx W1 S1 xs (λc S W S' W' hg hs ⟨s,γ,fu,h1,h2,h3⟩=>⟨s,γ,fu,h1.grew hg hs,h2,h3⟩) (λW W' hg ⟨S,γ,h1,h2⟩=>⟨S,γ,EP hg h1,h2⟩) (λW W' hg ⟨S,γ,c,h1,h2⟩=>⟨S,γ,c,EP hg h1,h2⟩)
  (λc S W ⟨s,γ,fu,h1,_⟩=>h1.here) ?_ ?_ uE) ?_
 ·-- a round
  rintro cn S W ⟨s,γ,fu,Cz,Xj,uF⟩
  cases fu with
  |zero=>simp[loopN]at uF
  |succ fu=>
  simp only[loopN]at uF;cases aQ:B1 E b g ps x y (.s (.one (.d (.int .i64) cn))::s) with
  |none=>rw[aQ]at uF;simp at uF
  |some r0=>
  rw[aQ]at uF;unfold B1 DG at aQ;dsimp only at aQ;split at aQ
  case h_2=>simp at aQ
  rename_i f' t' dD Au;split at aQ
  case h_2=>simp at aQ
  rename_i kd' qQ;have ng:=mY Cz g;rw[Au,haI,Xf]at ng;obtain⟨⟨cv',ER,dE⟩,_⟩:=ng;simp only[Value.func.injEq,Fn.func.injEq,qr]at ER;obtain⟨rfl,rfl⟩:=ER;have ht:=(parts f t' kd' qQ).1;rw[Cm]at ht;simp only[j5,j9]at ht;obtain⟨rfl,rfl⟩:=ht;refine⟨dD,dE,λNL=>?_,λNL=>?_⟩
  .rw[NL,j6]at aQ;cases qT:pinK ps x y (E.keepX b .normal) with
   |false=>rw[qT]at aQ;simp at aQ
   |true=>
   rw[qT,j6]at aQ;split at aQ
   case h_2=>simp at aQ
   rename_i s3 hs3;simp only[j5]at aQ;subst aQ;simp only[j5,j9]at uF;obtain⟨rfl,rfl⟩:=uF;obtain⟨S5,γ5,oa,Av⟩:=uA Cz Xj hs3;exact⟨S5,γ5,oa,Av,rfl⟩
  rw[NL,j7]at aQ;cases hle:itOk kd dD.length cn with
  |false=>rw[hle]at aQ;simp at aQ
  |true=>
  rw[hle,j6]at aQ;refine⟨rfl,λSg Wg vs ES xG mL=>?_⟩;have Cz:=Cz.grew ES xG;have xc:vs.toArray.size=ps.size:=by have e1:=mL.length;rw[jFc Xg]at e1;simp only[yb];rw[<-e1,<-h2,qm]
  refine⟨fn,_,x,y,by have:=run_yield (P:=P) (args:=vs.toArray) (Cz.kept l _ (jA _ _)).1 (by rw[gG];exact xc);rw[gG]at this;exact this,roundIn_of_wpIn trivial ?_⟩;let a1:Go.Act:={ tmps:=(ps.zip vs.toArray).foldl (λt (q:G×À)=>t.setIfInBounds q.1 q.2) a.tmps,defers:=[] }
  have lE:(ps.zip vs.toArray).toList=ps.toList.zip vs:=ae;have EI:a1.tmps=(ps.toList.zip vs).foldl (λt (q:G×À)=>t.setIfInBounds q.1 q.2) a.tmps:=by show (ps.zip vs.toArray).foldl _ _=_;rw[<-Array.foldl_toList,lE]
  have il:∀i,i∈(ps.toList.zip vs).map (·.1)->i∈ps.toList:=λi hi=>by
   obtain⟨q,hq,rfl⟩:=jr.1 hi;exact(è hq).1
  have NM:rE ((ps.toList.zip vs).map (·.1))=true:=Xe _ _ fN;obtain⟨IQ,jN,Xk⟩:=Xb (ps.toList.zip vs) a.tmps NM (λq hq=>by rw[hR.size];exact an _ (è hq).1);rw[<-EI]at IQ jN Xk;have NN:a1.tmps.size=E.N.n:=Xk.trans hR.size;have vW:∀i,i∉ps.toList->tm a1 i=tm aI i:=λi hi=>jN i (λh=>hi (il i h))
  have hRa:Rel (E.rnd ps x y).N E.np S0 w0 (cQ fx (.loop (rec .ready Â))) (cX E.np (E.keep b) s) a1 Wg Sg γ:=td Cz NN rfl (λi hi=>vW i (xF i (xE _ Xh i hi))) (λi u hu=>by
   simp only[fx]at hu;split at hu
   .rename_i hp;simp only[j5]at hu;refine⟨hp,?_⟩;show tm a1 i=u;rw[vW i (xF i hp)];exact hu
   .simp at hu)
  obtain⟨hRc,uu⟩:=Xc (ps.toList.zip (DE kd t dD cn)) hRa Xj (λq hq=>by
   obtain⟨v,h3,h4⟩:=Xd mL q hq;have:=IQ _ h3;show VRep Sg Wg q.2 (a1.tmps.getD q.1 undef);rw[this];exact h4)
  refine wpIn_mono (s7 l Ar 0 0 (cV _ _) (by rw[wb x 0 Ar];simp) hRc uu aQ) ?_
  rintro e1 a2 w2 ⟨lO,ex,σ2,S2,γ2,_,lP,rfl,cU,fA,gi⟩
  have:=lP Ar;subst this;cases ex with
  |exit i=>simp at gi
  |ret=>simp at gi
  |normal=>
  refine⟨_,run_beginRound (cU.kept l _ (jA _ _)).1 (by rw[gG]),?_⟩;have gI:Rel (E.rnd ps x y).N E.np S0 w0 (cQ fx (.loop (rec .busy Â))) σ2 a2 (w2.putObj l (.loop { rec .ready Â with state:= .busy })) S2 γ2:=by have:=kS (o':= .loop (rec .busy Â)) rfl rfl cU;rw[gG]at this ⊢;exact this
  refine wpIn_mono (s9 l As 0 0 (cV _ _) (by rw[wb y 0 As];simp) gI fA gi) ?_
  rintro e1 a3 w3 ⟨Xl,ex,σ3,S3,γ3,_,lP,rfl,nY,nZ,Aw⟩
  have:=lP As;subst this
  have ny:∀{K:Keep}{s:Snap}{o:Obj}{W:Y}{S:aU}{γ:G->À},pinK ps x y K=X->Rel (E.rnd ps x y).N E.np S0 w0 (cQ fx o) (cX E.np K s) a3 W S γ->
    Rel E.N E.np S0 w0 (cQ (λ_=>Â) o) (cX E.np K s) aI W S γ:=λhK hR=>td hR NK rfl (λi hi=>by
   have:=(hR.fix i (a.tmps.getD i undef) (by simp only[cQ,fx];rw[if_pos (xE _ hK i hi)])).2;exact this.symm) tg
  have th:∀(ex:Ex)(c:Õ),((ex = .ret/\c = .ret)\/∃i,ex = .exit i/\c = .exit i)->
    (cond (pinK ps x y (E.keepX b ex)) (match jL E.np (E.keepX b ex) σ3 with
     |some s'=>B (Sum.inr (ex,s'))
     |none=>Â) Â:H (Snap ⊕ Ex×Snap))=B r0->
    ∃v w',(ý l (B c)).run P w3 = .ok v w'/\((Þ v = .returned (.bool X)/\∃S',J (DD kd cn) S' w')\/(Þ v = .returned (.bool O)/\Jx w')):=by
   intro ex c hex lQ;cases qT:pinK ps x y (E.keepX b ex) with
   |false=>rw[qT]at lQ;simp at lQ
   |true=>
   rw[qT,j6]at lQ;split at lQ
   case h_2=>simp at lQ
   rename_i s2 nf;simp only[j5]at lQ;subst lQ;simp only[j5,j9]at uF;obtain⟨rfl,rfl⟩:=uF;obtain⟨S5,γ5,oa,Av⟩:=uA nY nZ nf;refine⟨_,_,run_endRound (B c) (oa.kept l _ (jA _ _)).1,.inr ⟨rfl,S5,γ5,c,?_,Av,hex⟩⟩;have:=kS (o':= .loop (rec .done (B c))) rfl rfl (ny qT oa);rw[gG]at this ⊢;exact this
  cases ex with
  |normal=>
   dsimp only at Aw
   split at Aw
   case h_2=>simp at Aw
   rename_i s2 nf;simp only[j5]at Aw;subst Aw;obtain⟨S5,γ5,oa,Av⟩:=uA nY nZ nf;show∃v w',(ý l Â).run P w3 = .ok v w'/\_;refine⟨_,_,run_endRound Â (oa.kept l _ (jA _ _)).1,.inl ⟨rfl,S5,s2,γ5,fu,?_,Av,?_⟩⟩
   .have:=kS (o':= .loop (rec .ready Â)) rfl rfl (ny Xh oa);rw[gG]at this ⊢;exact this
   .exact uF
  |exit i=>exact th _ _ (.inr ⟨i,rfl,rfl⟩) Aw
  |ret=>exact th _ _ (.inl ⟨rfl,rfl⟩) Aw
 .refine⟨S,λg o h=>by rw[<-Cy];have:=hR.here g o h;simp;omega,lI.mono λx z hx=>?_⟩;rw[<-Cy]
  exact kN.keep (λg o h=>⟨h,by
   have:=hR.here g o h;rw[í _ _ _ ax,í _ _ _ this]⟩) hx
 .rintro e2 W2 ⟨⟨v,rfl⟩,fg⟩
  have ny:∀{K:Keep}{s:Snap}{o:Obj}{W:Y}{S:aU}{γ:G->À},Rel E.N E.np S0 w0 (cQ (λ_=>Â) o) (cX E.np K s) aI W S γ->
    ∃refs',Ao w0 refs refs'/\Rel E.N E.np S0 w0 refs' (cX E.np K s) { a with defers:=[{ target:= .collected w.heap.size,args:=#[] }]++a.defers } W S γ:=by
   intro K s o W S γ Xm;refine⟨{ blks:=refs.blks,val:=refs.val,ds:={ target:= .collected w.heap.size,args:=#[] }::refs.ds,kw:=λg=>if g=w.heap.size then B (.deferred (B [])) else refs.kw g,fix:=refs.fix,mv:=refs.mv },⟨rfl,rfl,rfl,⟨?_,?_⟩,rfl⟩,?_⟩
   .refine qh.2 ⟨λlL=>?_,hm.1⟩;obtain⟨D,hD,_,CA⟩:=hm.2 _ lL;simp only[Deferred.mk.injEq,Target.collected.injEq,and_true]at hD;rw[<-hD,hR.kw_new (jv _)]at CA;simp at CA
   .intro d hd;rcases je.1 hd with rfl|hd
    .exact⟨w.heap.size,rfl,hR.grow,ae⟩
    .obtain⟨D,rfl,h1,h2⟩:=hm.2 d hd;refine⟨D,rfl,h1,?_⟩;show (if D=w.heap.size then _ else refs.kw D)=_;rw[if_neg,h2]
     rintro rfl
     rw[hR.kw_new (jv _)]at h2;simp at h2
   .refine Xm.frame rfl rfl hR.size (by rw[hR.defers];rfl) (λi _=>rfl) (λg' u az=>Xm.kept g' u ?_) (λi v hv=>?_)
    .simp only[cQ]at az ⊢;by_cases h1:g'=l
     .exfalso;subst h1;rw[if_neg aa,hR.kw_new aa]at az;simp at az
     .rw[if_neg h1];exact az
    .have:=(hR.fix i v hv).1;rw[mq]at this;simp at this
  rcases fg with⟨S2,γ2,wc,hce,rfl⟩|⟨S2,γ2,c,vQ,IA,hex⟩
  .refine⟨Â,_,by have:=run_endLoop (P:=P) (wc.kept l _ (jA _ _)).1 (by rw[gG];simp);rw[gG]at this;exact this,?_⟩;have qU:=kS (o':= .loop { rec .ready Â with state:= .exhausted }) rfl rfl wc;obtain⟨refs',hle,wc⟩:=ny qU;rw[gG]at wc;exact⟨refs',.normal,_,S2,γ2,hle,λhf=>by simp[ea]at hf,rfl,wc,hce,hk⟩
  .have qU:=kS (o':= .loop { rec .done (B c) with state:= .exhausted }) rfl rfl vQ;obtain⟨refs',hle,wc⟩:=ny qU;refine⟨B c,_,by have:=run_endLoop (P:=P) (vQ.kept l _ (jA _ _)).1 (by rw[gG];simp);rw[gG]at this;exact this,?_⟩;rw[gG]at wc;rcases hex with⟨rfl,rfl⟩|⟨i,rfl,rfl⟩
   .exact wpIn_ret ⟨refs',.ret,_,S2,γ2,hle,λhf=>by simp[ea]at hf,rfl,wc,IA,hk⟩
   .exact wpIn_exit ⟨refs',.exit i,_,S2,γ2,hle,λhf=>by simp[ea]at hf,rfl,wc,IA,hk⟩
def MrS(P:Å)(CB:G->H (G×G)):Prop:=
 ∀{E:Env},E.mr=CB->cT P E.T->kF P E.C->CFun E.C->(∀f t,E.bw f=B t->BwK P f t)->(E.N.pin=λ_=>O)->
  ∀(x y:Õ)(b n:G)(pl:Ç){S0:aU}{w0:Y}{refs:Refs}{σ:St}{a:Á}{w:Y}{S:aU}{γ:G->À}{R:Type}{k:Ex->St->H R}{r:R},An w0 refs->
   (∀z∈gk b y,MrOK E z.1 z.2)->Rel E.N E.np S0 w0 refs σ a w S γ->dH σ->B0 E x y=X->DF E x y σ k=B r->(Code.seq x y).wpIn (FR Â) n P (Post E S0 w0 refs pl k r) a w
theorem jsT{E:Env}{x y:Õ}(h:B0 E x y=X):ea (.seq x y)=false:=by
 unfold B0 at h;split at h
 .simp[ea]
 .simp at h
theorem Xn{P:Å}(ir:P.follows .mixedOrders=X){CB:G->H (G×G)}(ET:MrS P CB):∀(c:Õ){E:Env}{ro:H G},cT P E.T->kF P E.C->CFun E.C->E.mr=CB->
  (∀f t,E.bw f=B t->BwK P f t)->(ea c=X\/(ro=Â/\E.N.pin=λ_=>O))->Jb P E ro c:=by
 intro c;induction c with
 |skip=>intro E ro hT hC hF hE gK hp b n S0 w0 refs σ a w S γ R k r hm hL hR hc h;exact wpIn_skip ⟨refs,.normal,σ,S,γ,⟨rfl,rfl,rfl,hm,rfl⟩,λ_=>rfl,rfl,hR,hc,h⟩
 |label l=>intro E ro hT hC hF hE gK hp b n S0 w0 refs σ a w S γ R k r hm hL hR hc h;exact wpIn_label ⟨refs,.normal,σ,S,γ,⟨rfl,rfl,rfl,hm,rfl⟩,λ_=>rfl,rfl,hR,hc,h⟩
 |region tj ops draw=>
  intro E ro hT hC hF hE gK hp b n S0 w0 refs σ a w S γ R k r hm hL hR hc h
  have Ax:ro=Â\/∀o∈ops.toList,∀c,o.op ≠ .defer c:=hp.elim (λhp=> .inr λo ho c hd=>by
   have:=jz.1 hp o ho;simp[U0,hd]at this) λh=> .inl h.1
  cases draw with
  |true=>simp only[gp]at h;exact wpIn_region_any ir (I6 Ax Nz _ _ _ _ (jxV hT hC hF hR hc (λσ' a' w' S' γ' cE dK hk=>⟨refs,.normal,σ',S',γ',⟨rfl,rfl,rfl,hm,rfl⟩,λ_=>rfl,rfl,cE,dK,hk⟩) h))
  |false=>
   simp only[gp]at h;cases hks:E.ks tj with
   |true=>rw[hks,j6]at h;exact wpIn_region (vZ Ax Nz _ _ _ (jy1 hT hC gK hR hc (λσ' a' w' S' γ' cE dK hk=>⟨refs,.normal,σ',S',γ',⟨rfl,rfl,rfl,hm,rfl⟩,λ_=>rfl,rfl,cE,dK,hk⟩) h))
   |false=>rw[hks,j7]at h;exact wpIn_region (vZ Ax Nz _ _ _ (Wo hT hC hR hc (λσ' a' w' S' γ' cE dK hk=>⟨refs,.normal,σ',S',γ',⟨rfl,rfl,rfl,hm,rfl⟩,λ_=>rfl,rfl,cE,dK,hk⟩) h))
 |seq x y s7 s9=>
  intro E ro hT hC hF hE gK hp b n S0 w0 refs σ a w S γ R k r hm hL hR hc h;simp only[gp]at h;cases Jc:B0 E x y with
  |true=>rw[Jc,j6]at h;obtain⟨rfl,mq⟩:=hp.resolve_left (by rw[jsT Jc];simp);exact ET hE hT hC hF gK mq x y b n _ hm (λz hz=>(hL z (by simp[gk,hz])).2) hR hc Jc h
  |false=>
  rw[Jc,j7]at h;have Ar:ea x=X\/(ro=Â/\E.N.pin=λ_=>O):=hp.imp (λh=>by simp only[ea,jd]at h;exact h.1) id;have As:ea y=X\/(ro=Â/\E.N.pin=λ_=>O):=hp.imp (λh=>by simp only[ea,jd]at h;exact h.2) id;refine wpIn_seq (wpIn_mono (s7 hT hC hF hE gK Ar b n hm (λz hz=>hL z (by simp[gk,hz])) hR hc h) ?_)
  rintro e a' w' ⟨refs',ex,σ',S',γ',hle,lP,rfl,cE,dK,hk⟩
  have hx:ea (.seq x y)=X->refs'=refs:=λh=>by simp only[ea,jd]at h;exact lP h.1
  cases ex with
  |normal=>
   refine wpIn_mono (s9 hT hC hF hE gK As b n hle.marks (λz hz=>hL z (by simp[gk,hz])) cE dK hk) ?_
   rintro e2 a2 w2 ⟨lO,ex,σ2,S2,γ2,kQ,NO,rfl,cU,fA,gi⟩
   refine⟨lO,ex,σ2,S2,γ2,hle.trans kQ,λh=>?_,rfl,cU,fA,gi⟩;have h1:=hx h;simp only[ea,jd]at h;rw[NO h.2,h1]
  |exit i=>exact⟨refs',.exit i,σ',S',γ',hle,hx,rfl,cE,dK,hk⟩
  |ret=>exact⟨refs',.ret,σ',S',γ',hle,hx,rfl,cE,dK,hk⟩
 |cond c x y s7 s9=>
  intro E ro hT hC hF hE gK hp b n S0 w0 refs σ a w S γ R k r hm hL hR hc h;simp only[gp]at h;have Ar:ea x=X\/(ro=Â/\E.N.pin=λ_=>O):=hp.imp (λh=>by simp only[ea,jd]at h;exact h.1) id;have As:ea y=X\/(ro=Â/\E.N.pin=λ_=>O):=hp.imp (λh=>by simp only[ea,jd]at h;exact h.2) id;split at h
  .rename_i v hv;have nw:=mY hR c;rw[hv]at nw;have xH:a.eval c = .bool v:=uc nw;refine wpIn_cond xH ?_;cases v with
   |true=>
    refine wpIn_mono (s7 hT hC hF hE gK Ar b n hm (λz hz=>hL z (by simp[gk,hz])) hR hc h) ?_
    rintro e a' w' ⟨refs',ex,σ',S',γ',hle,lP,he,hr⟩
    exact⟨refs',ex,σ',S',γ',hle,λh=>by simp only[ea,jd]at h;exact lP h.1,he,hr⟩
   |false=>
    refine wpIn_mono (s9 hT hC hF hE gK As b n hm (λz hz=>hL z (by simp[gk,hz])) hR hc h) ?_
    rintro e a' w' ⟨refs',ex,σ',S',γ',hle,lP,he,hr⟩
    exact⟨refs',ex,σ',S',γ',hle,λh=>by simp only[ea,jd]at h;exact lP h.2,he,hr⟩
  .simp at h
 |block id c ih=>
  intro E ro hT hC hF hE gK hp b n S0 w0 refs σ a w S γ R k r hm hL hR hc h;simp only[gp]at h;refine wpIn_block (wpIn_mono (ih hT hC hF hE gK hp id n hm (λz hz=>hL z (by simpa[gk]using hz)) hR hc h) ?_)
  rintro e a' w' ⟨refs',ex,σ',S',γ',hle,lP,rfl,cE,dK,hk⟩
  cases ex with
  |normal=>exact⟨refs',.normal,σ',S',γ',hle,lP,rfl,cE,dK,hk⟩
  |exit i=>
   simp only[exOf,æ];simp only at hk;split
   .rename_i hi;rw[if_pos hi]at hk;exact⟨refs',.normal,σ',S',γ',hle,lP,rfl,cE,dK,hk⟩
   .rename_i hi;rw[if_neg hi]at hk;exact⟨refs',.exit i,σ',S',γ',hle,lP,rfl,cE,dK,hk⟩
  |ret=>exact⟨refs',.ret,σ',S',γ',hle,lP,rfl,cE,dK,hk⟩
 |scope c ih=>intro E ro hT hC hF hE gK hp b n S0 w0 refs σ a w S γ R k r hm hL hR hc h;simp only[gp]at h;refine jxX (λl a w hq=>?_) (ih hT hC hF hE gK hp b n hm (λz hz=>hL z (by simpa[gk]using hz)) hR hc h);obtain⟨_,ex,_,_,_,_,_,he,_⟩:=hq;cases ex<;>simp[exOf]at he
 |loop c ih=>
  intro E ro hT hC hF hE gK hp b n S0 w0 refs σ a w S γ R k r hm hL hR hc h;have hrn:=hp.resolve_left (by simp[ea]);simp only[gp]at h;cases NP:isRf c with
  |true=>rw[NP]at h;simp at h
  |false=>
  rw[NP,j7]at h;split at h
  .rename_i s hs;obtain⟨n1,e,s',hn,hk⟩:=(hL (b,c) (by simp[gk])).1 s R _ r h
   have fW:Mh E b c=yT E b c:=by
    funext s
    cases c<;>first|rfl|simp[isRf]at NP
   rw[fW]at hn;obtain⟨S1,γ1,bO,eX⟩:=uA hR hc hs;refine W0 (λn a w=>∃refs' s S γ,Ao w0 refs refs'/\Rel E.N E.np S0 w0 refs' (cX E.np (E.keep b) s) a w S γ/\dH (cX E.np (E.keep b) s)/\loopN (yT E b c) n s=B (e,s')) ⟨refs,s,S1,γ1,⟨rfl,rfl,rfl,hm,rfl⟩,bO,eX,hn⟩ ?_
   rintro m a1 w1 ⟨Xo,s1,S2,γ2,oI,cU,fA,lL⟩
   cases m with
   |zero=>simp[loopN]at lL
   |succ m=>
    simp only[loopN]at lL;cases aQ:yT E b c s1 with
    |none=>simp[aQ]at lL
    |some out=>
     rw[aQ]at lL;unfold yT at aQ;refine wpIn_mono (ih hT hC hF hE gK (.inr hrn) b n oI.marks (λz hz=>hL z (by simp[gk,hz])) cU fA aQ) ?_
     rintro e2 a2 w2 ⟨lO,ex,σ2,S3,γ3,kQ,_,rfl,gI,Ey,mu⟩
     cases ex with
     |normal=>
      simp only at mu;split at mu
      .rename_i s2 nf;simp only[j5]at mu;subst mu;obtain⟨S4,γ4,nY,nZ⟩:=uA gI Ey nf;exact⟨m,Nat.lt_succ_self m,lO,s2,S4,γ4,oI.trans kQ,nY,nZ,lL⟩
      .simp at mu
     |exit i=>
      simp only at mu;split at mu
      .rename_i s2 nf;simp only[j5]at mu;subst mu;obtain⟨S4,γ4,nY,nZ⟩:=uA gI Ey nf;simp only[j5,j9]at lL;obtain⟨rfl,rfl⟩:=lL;exact⟨lO,.exit i,_,S4,γ4,oI.trans kQ,λhf=>by simp[ea]at hf,rfl,nY,nZ,hk⟩
      .simp at mu
     |ret=>
      simp only at mu;split at mu
      .rename_i s2 nf;simp only[j5]at mu;subst mu;obtain⟨S4,γ4,nY,nZ⟩:=uA gI Ey nf;simp only[j5,j9]at lL;obtain⟨rfl,rfl⟩:=lL;exact⟨lO,.ret,_,S4,γ4,oI.trans kQ,λhf=>by simp[ea]at hf,rfl,nY,nZ,hk⟩
      .simp at mu
  .simp at h
 |rangeFunc g ps x y s7 s9=>
  intro E ro hT hC hF hE gK hp b n S0 w0 refs σ a w S γ R k r hm hL hR hc h;obtain⟨rfl,mq⟩:=hp.resolve_left (by simp[ea])
  exact jCy gK mq (λl hx=>s7 (E:=E.rnd ps x y) hT hC hF hE gK (.inl hx)) (λl hy=>s9 (E:=E.rnd ps x y) hT hC hF hE gK (.inl hy))
   (hL (b,.rangeFunc g ps x y) (by simp[gk])).1 hm hR hc h
 |exit i=>intro E ro hT hC hF hE gK hp b n S0 w0 refs σ a w S γ R k r hm hL hR hc h;exact wpIn_exit ⟨refs,.exit i,σ,S,γ,⟨rfl,rfl,rfl,hm,rfl⟩,λ_=>rfl,rfl,hR,hc,h⟩
 |ret=>intro E ro hT hC hF hE gK hp b n S0 w0 refs σ a w S γ R k r hm hL hR hc h;exact wpIn_ret ⟨refs,.ret,σ,S,γ,⟨rfl,rfl,rfl,hm,rfl⟩,λ_=>rfl,rfl,hR,hc,h⟩
 |goto l=>intro E ro hT hC hF hE gK hp b n S0 w0 refs σ a w S γ R k r hm hL hR hc h;simp[gp]at h
 |refuse y=>intro E ro hT hC hF hE gK hp b n S0 w0 refs σ a w S γ R k r hm hL hR hc h;simp[gp]at h
end
def keyB(es:Ã Ì):U (À×G):=es.toList.map λe=>(e.key,e.born)
theorem Xp{α:Type}{p q:α->Ç}(h:∀x,q x=X->p x=X):∀l:U α,(l.filter q).length<=(l.filter p).length
 |[]=>jv _
 |x::r=>by
  have ih:=Xp h r;rw[Ü,Ü];by_cases hq:q x=X
  .rw[if_pos hq,if_pos (h x hq)];simp only[jk];omega
  .rw[if_neg hq];split
   .simp only[jk];omega
   .exact ih
theorem Xq{α:Type}{p q:α->Ç}(h:∀x,q x=X->p x=X):∀l:U α,(∃x∈l,p x=X/\q x≠X)->(l.filter q).length<(l.filter p).length
 |[],hx=>by obtain⟨x,hx,_⟩:=hx;simp at hx
 |y::r,hx=>by
  obtain⟨x,hx,h1,h2⟩:=hx;have hle:=Xp h r;rw[Ü,Ü];rcases je.1 hx with rfl|hx
  .rw[if_neg h2,if_pos h1];simp only[jk];omega
  .have ih:=Xq h r ⟨x,hx,h1,h2⟩;by_cases hq:q y=X
   .rw[if_pos hq,if_pos (h y hq)];simp only[jk];omega
   .rw[if_neg hq];split
    .simp only[jk];omega
    .exact ih
theorem EU(seen:Ã G)(b x:G):(seen.push b).contains x=X↔seen.contains x=X\/x=b:=by
 simp
theorem jzQ{ks:U (À×G)}{seen:Ã G}{b:G}(h:∃q∈ks,q.2=b/\seen.contains q.2=O):(ks.filter λq=> !(seen.push b).contains q.2).length<(ks.filter λq=> !seen.contains q.2).length:=by
 refine Xq (λx hx=>?_) ks ?_
 .rw[kz]at hx ⊢;cases hs:seen.contains x.2 with
  |false=>rfl
  |true=>have:=(EU seen b x.2).2 (.inl hs);rw[hx]at this;simp at this
 .obtain⟨q,hq,h1,h2⟩:=h;refine⟨q,hq,by rw[h2];rfl,?_⟩;rw[(EU seen b q.2).2 (.inr h1)];simp
structure AtR(g r it since clock:G)(ks:U (À×G))(es:Ã Ì)(seen:Ã G)(a:Á)(w:Y):Prop where
 map:w.heap[g]? = B (.map es clock)
 ks:keyB es=ks
 iter:w.heap[r]? = B (.mapIter (B g) since seen clock)
 ptr:tm a it = .pointer (B ⟨r,0,Â⟩)
theorem jy2{P:Å}{ro:H G}(gK:ro=Â){n0 g r it d1 c2 b since clock tj:G}{ks:U (À×G)}{o1 o2:Æ}{body:Õ}{Q:Ó->Á->Y->Prop}
  (kG:o1.op = .next (.tmp it) O)(pG:o1.dst=B d1)(vB:o1.guard=Â)(oP:o2.op = .extract (.tmp d1) 0)(gV:o2.dst=B c2)(iY:o2.guard=Â)(hi1:it≠d1)(hi2:it≠c2)(mK:g≠r)
  (lR:since<=clock)(hold:∀q∈ks,q.2<since)(N:G)(rW:d1<N)(CC:c2<N)
  (J:Ã Ì->Ã G->Á->Y->Prop)(hJ:∀es seen a w,J es seen a w->a.tmps.size=N)
  (fg:∀es seen a w v v',AtR g r it since clock ks es seen a w->J es seen a w->(∀x∈es.toList,seen.contains x.born=X)->Q (.exit b) ((a.put (B d1) v).put (B c2) v') w)
  (fW:∀es seen a w w1 v v' e,AtR g r it since clock ks es seen a w->J es seen a w->e∈es.toList->seen.contains e.born=O->(w1=w\/w1=w.drew)->
   AtR g r it since clock ks es (seen.push e.born) ((a.put (B d1) v).put (B c2) v') (Ö w1 r (.mapIter (B g) since (seen.push e.born) clock))->
   body.wpIn (FR ro) n0 P (Exit.then (λa' w'=>∃es',AtR g r it since clock ks es' (seen.push e.born) a' w'/\J es' (seen.push e.born) a' w') Q) ((a.put (B d1) v).put (B c2) v') (Ö w1 r (.mapIter (B g) since (seen.push e.born) clock)))
  {es:Ã Ì} {seen:Ã G} {a:Á} {w:Y} (h0:AtR g r it since clock ks es seen a w) (uE:J es seen a w) :
  (Code.loop ((Code.region tj #[o1,o2] O).seq ((Code.cond (.tmp c2) .skip (.exit b)).seq body))).wpIn (FR ro) n0 P Q a w:=by
 refine W0 (λn a w=>∃es seen,AtR g r it since clock ks es seen a w/\J es seen a w/\n=(ks.filter λq=> !seen.contains q.2).length) ⟨es,seen,h0,uE,rfl⟩ ?_
 rintro n a w ⟨es,seen,hA,NQ,rfl⟩
 subst gK;have bU:=hJ _ _ _ _ NQ
 have EV:∀x∈es.toList,x.born<since:=λx hx=>by
  have:(x.key,x.born)∈keyB es:=jr.2 ⟨x,hx,rfl⟩;rw[hA.ks]at this;exact hold _ this
 have nw:a.eval (.tmp it) = .pointer (B ⟨r,0,Â⟩):=hA.ptr
 have two:∀(v v':À)(w':Y),(execOp a.eval o1).run P w = .ok (.value v) w'->(execOp (a.put (B d1) v).eval o2).run P w' = .ok (.value v') w'->
   ((Code.cond (.tmp c2) .skip (.exit b)).seq body).wpIn (FR Â) n0 P (Exit.then (λa' w'=>∃m,m<(ks.filter λq=> !seen.contains q.2).length/\∃es seen,AtR g r it since clock ks es seen a' w'/\J es seen a' w'/\m=(ks.filter λq=> !seen.contains q.2).length) Q) ((a.put (B d1) v).put (B c2) v') w'->
   ((Code.region tj #[o1,o2] O).seq ((Code.cond (.tmp c2) .skip (.exit b)).seq body)).wpIn (FR Â) n0 P (Exit.then (λa' w'=>∃m,m<(ks.filter λq=> !seen.contains q.2).length/\∃es seen,AtR g r it since clock ks es seen a' w'/\J es seen a' w'/\m=(ks.filter λq=> !seen.contains q.2).length) Q) a w:=by
  intro v v' w' h1 h2 h3;refine wpIn_seq (wpIn_mono (Q:=λe a' yV=>e = .normal/\a'=(a.put (B d1) v).put (B c2) v'/\yV=w') (wpIn_region (vZ (.inl rfl) (by rintro⟨a,w,h,_⟩;cases h) _ _ _ ?_)) ?_)
  .show wpOps P #[o1,o2] _ [0,1] a w;have e0:(#[o1,o2]:Ã Æ)[0]? = B o1:=rfl;have e1:(#[o1,o2]:Ã Æ)[1]? = B o2:=rfl;have w0:∀tm,Ä o1 (yielded #[o1,o2] tm)=true:=λtm=>by simp[Ä,vB]
   have w1:∀tm,Ä o2 (yielded #[o1,o2] tm)=true:=λtm=>by simp[Ä,iY]
   simp only[wpOps,e0,e1,w0,w1,if_true];refine .inl ?_;unfold Ð;rw[h1,Ê,pG];refine .inl ?_;rw[h2,Ê,gV];exact⟨trivial,rfl,rfl⟩
  .rintro e a' yV ⟨rfl,rfl,rfl⟩
   exact h3
 have EW:∀(v:À)(t:Ã À)(w':Y)(x:À),v = .tuple t->t[0]? = B x->(execOp (a.put (B d1) v).eval o2).run P w' = .ok (.value x) w':=by
  intro v t w' x hv ht;have:(a.put (B d1) v).eval (.tmp d1)=v:=by show tm (a.put (B d1) v) d1=v;rw[oT aa,if_pos rfl]
  subst hv;simp only[execOp,oP,this,Instr.extract,ht];simp
 have lI:∀v v',(((a.put (B d1) v).put (B c2) v').eval (.tmp c2))=v':=λv v'=>by
  show tm _ c2=v';rw[oT (by rw[rS];omega),if_pos rfl]
 rcases run_next_at (P:=P) w o1.type r g since clock seen es clock hA.iter hA.map EV lR with⟨h0,aP⟩|⟨e,he,w1,nt,aP⟩
 .refine two (.tuple #[.bool O]) (.bool O) w (by simp[execOp,kG,nw,aP,ß]) (EW (.tuple #[.bool O]) #[.bool O] w (.bool O) rfl rfl) (wpIn_seq (wpIn_cond_false (lI _ _) (wpIn_exit ?_)));refine fg es seen a w _ _ hA NQ (λx hx=>?_);cases hs:seen.contains x.born with
  |true=>rfl
  |false=>
   have ob:x∈(leftOf es seen).toList:=by unfold leftOf;rw[Array.toList_filter];exact zf.2 ⟨hx,by rw[hs];rfl⟩
   have:(leftOf es seen).toList=[]:=qg.1 (by simpa using h0);rw[this]at ob;simp at ob
 .have fE:e∈es.toList/\seen.contains e.born=false:=by unfold leftOf at he;simpa using he
  have lT:AtR g r it since clock ks es (seen.push e.born) ((a.put (B d1) (.tuple #[.bool X,e.key,e.val])).put (B c2) (.bool X)) (Ö w1 r (.mapIter (B g) since (seen.push e.born) clock)):=by
   have fH:w1.heap[g]? = B (.map es clock):=by rcases nt with rfl|rfl<;>exact hA.map
   have NR:w1.heap[r]? = B (.mapIter (B g) since seen clock):=by rcases nt with rfl|rfl<;>exact hA.iter
   have an:r<w1.heap.size:=(ji.1 NR).1;refine⟨?_,hA.ks,?_,?_⟩
   .show (w1.heap.setIfInBounds r _)[g]? = _;rw[Ú (Ne.symm mK)];exact fH
   .show (w1.heap.setIfInBounds r _)[r]? = _;rw[Array.getElem?_setIfInBounds_self_of_lt an]
   .rw[oT (by rw[rS];omega),if_neg hi2,oT aa,if_neg hi1];exact hA.ptr
  refine two (.tuple #[.bool X,e.key,e.val]) (.bool X) (Ö w1 r (.mapIter (B g) since (seen.push e.born) clock)) (by simp[execOp,kG,nw,aP,ß]) (EW (.tuple #[.bool X,e.key,e.val]) #[.bool X,e.key,e.val] _ (.bool X) rfl rfl) (wpIn_seq (wpIn_cond_true (lI _ _) (wpIn_skip ?_)));refine wpIn_mono (fW es seen a w w1 _ _ e hA NQ fE.1 fE.2 nt lT) ?_;intro ex a' w' hq;cases ex with
  |normal=>obtain⟨es',q1,q2⟩:=hq;exact⟨_,jzQ (ks:=ks) (seen:=seen) (b:=e.born) ⟨(e.key,e.born),by rw[<-hA.ks];exact jr.2 ⟨e,fE.1,rfl⟩,rfl,fE.2⟩,es',seen.push e.born,q1,q2,rfl⟩
  |_=>exact hq
section
variable{N:NT}{np:G}{S0:aU}{w0:Y}{refs:Refs}{σ:St}{a:Á}{w:Y}{S:aU}{γ:G->À}
theorem Xr{P:Å}{E:Env}(hT:cT P E.T)(hC:kF P E.C){ops:Ã Æ}(cM:bare ops=X){R:Type}{k:St->H R}{r:R}{Q:Ó->Á->Y->Prop}{rest:U G}
  (hn:∀σ' a' w' S' γ',Rel E.N E.np S0 w0 refs σ' a' w' S' γ'->dH σ'->k σ'=B r->wpOps P ops Q rest a' w') :
  ∀(n i:G)(σ:St)(a:Á)(w:Y)(S:aU)(γ:G->À),i+n<=ops.size->Rel E.N E.np S0 w0 refs σ a w S γ->dH σ->nO E ((ops.toList.drop i).take n) σ k=B r->
   wpOps P ops Q (é i n++rest) a w
 |0,i,σ,a,w,S,γ,hi,hR,hc,h=>by
  rw[List.take_zero]at h;exact hn _ _ _ _ _ hR hc h
 |n+1,i,σ,a,w,S,γ,hi,hR,hc,h=>by
  have an:i<ops.size:=aa;rw[jb (by simpa using an),List.take_succ_cons]at h;simp only[nO]at h;split at h
  .rename_i hd;have ho:ops[i]? = B ops[i]:=jx an;simp only[vj,z7,wpOps,ho];have hg:ops[i].guard=none:=by have:=jz.1 cM ops[i] ae;simpa using this
   have hw:Ä ops[i] (yielded ops a.tmps)=true:=by simp[Ä,hg]
   simp only[hw,if_true];refine .inl (Ct hT hC hR (act:=[]) (λg hg=>by simp at hg) (p:=O) (λ_=>hc) (by simpa using hd) (by simpa using h) (λσ' a' w' S' γ' cE dK hk=>?_));exact Xr hT hC cM hn n (i+1) σ' a' w' S' γ' aa cE (dK rfl) hk
  .simp at h
theorem Xs{β:Type}:∀{zs:U (Î×β)}{j:G}{x:Î×β},(zs.map λx=>x.1).Nodup->zs[j]? = B x->∀y,@eD _ _ (Ty.int .i64).keq zs x.1 y=zs.set j (x.1,y)
 |[],j,x,_,h,y=>by simp at h
 |z::r,0,x,_,h,y=>by
  have h:z=x:=by simpa using h
  subst h;show cond ((z.1:Î)==z.1) ((z.1,y)::r) _=(z.1,y)::r;rw[kq];rfl
 |z::r,j+1,x,hn,h,y=>by
  have h:r[j]? = B x:=by simpa using h
  have hc:=qh.1 (show (z.1::r.map λx=>x.1).Nodup from hn);have bA:¬(x.1:Î)=z.1:=λhe=>hc.1 (he▸jr.2 ⟨x,kg h,rfl⟩);show cond ((x.1:Î)==z.1) _ (z::@eD _ _ (Ty.int .i64).keq r x.1 y)=z::r.set j (x.1,y);rw[beq_false_of_ne bA,j7,Xs hc.2 h y]
theorem Xt(hR:Rel N np S0 w0 refs σ a w S γ){nm em:G}{v:Ty}{zs:U (Î×v.den)}(vU:isM em=X)(hb:σ.bx nm = .live (.lst em (.pair (.int .i64) v) zs O)) :
  ∃g es clock,γ nm = .map (B g)/\w.heap[g]? = B (.map es clock)/\All2 (Aa S w (.int .i64) v) zs es.toList/\wX es clock:=by
 rcases (hR.box nm _ hb).1 with⟨hm,_⟩|⟨_,hm⟩
 .rw[vU]at hm;simp at hm
 .exact hm
theorem Xu{es:Ã Ì}{clock:G}(h:wX es clock){j:G}{e:Ì}(he:es.toList[j]? = B e):e.born=j:=by
 have h1:(es.toList.map (·.born))[j]? = B e.born:=by simp[he]
 rw[h.2]at h1;have h2:=(jy.1 h1).2;simpa using h2.symm
theorem EX{es:Ã Ì}{clock:G}(h:wX es clock):es.toList.length=clock:=by
 have:=js à h.2;simpa using this
theorem jFd{es es':Ã Ì}(h1:es'.toList.map (·.key)=es.toList.map (·.key))(h2:es'.toList.map (·.born)=es.toList.map (·.born)):keyB es'=keyB es:=by
 have hz:∀es:Ã Ì,keyB es=(es.toList.map (·.key)).zip (es.toList.map (·.born)):=λes=>by
  unfold keyB;rw[List.zip_map']
 rw[hz,hz,h1,h2]
structure Mix{β:Type}(xs ys:U (Î×β))(seen:Ã G)(zs:U (Î×β)):Prop where
 len:zs.length=xs.length
 get:∀i,zs[i]? = if seen.contains i=X then ys[i]? else xs[i]?
theorem jzR{β:Type}{Z:Î×β->Î×β->Prop}:∀{xs ys:U (Î×β)},All2 (λx y=>y.1=x.1/\Z x y) xs ys->xs.length=ys.length/\∀(j:G)(x:Î×β),xs[j]? = B x->∃y,ys[j]? = B y/\y.1=x.1/\Z x y:=
 λh=>⟨h.length,λj x hx=>h.get j x hx⟩
theorem jGm{b:G}{c:Õ}{p:MrP}(h:mrP b c=B p):∃tj r3 o1 o2 o3,c = .seq (.region tj #[o1,o2] O) (.seq (.cond (.tmp p.c2) .skip (.exit b)) (.block p.b6 (.seq (.region r3 p.ops O) p.rest)))/\
  o1.op = .next (.tmp p.it) O/\o1.dst=B p.d1/\o1.guard=Â/\o2.op = .extract (.tmp p.d1) 0/\o2.dst=B p.c2/\o2.guard=Â/\p.ops[0]? = B o3/\o3.op = .entry (.tmp p.it)/\o3.dst=B p.d3/\o3.guard=none:=by
 unfold mrP at h;split at h
 case h_2=>simp at h
 rename_i tj ops c b' b6 r3 uU rest;split at h
 case h_2=>simp at h
 rename_i o1 o2 o3 l3 oX EY;split at h
 case h_2=>simp at h
 rename_i it d1 U2 c2 U3 d3 h1 h2 h3;split at h
 case isFalse=>simp at h
 rename_i dR;obtain⟨rfl,rfl,rfl,rfl⟩:=dR;simp only[j5]at h;subst h;have oX:ops = #[o1,o2]:=qs (by simpa using oX);subst oX;have e3:uU[0]? = B o3:=by rw[<-qf,EY];rfl
 unfold U1 at h1;split at h1
 case h_2=>simp at h1
 rename_i q1 q2 q3;simp only[j5,j9]at h1;obtain⟨rfl,rfl⟩:=h1;unfold fstO at h2;split at h2
 case h_2=>simp at h2
 rename_i p1 p2 p3;simp only[j5,j9]at h2;obtain⟨rfl,rfl⟩:=h2;unfold entO at h3;split at h3
 case h_2=>simp at h3
 rename_i s1 s2 s3;simp only[j5,j9]at h3;obtain⟨rfl,rfl⟩:=h3;exact⟨tj,r3,o1,o2,o3,rfl,q1,q2,q3,p1,p2,p3,e3,s1,s2,s3⟩
theorem nbeq{i j:G}(h:á i j=O):i≠j:=by
 rintro rfl
 rw[ò]at h;simp at h
theorem beqF{i j:G}(h:i≠j):á i j=false:=by
 cases hq:á i j with
 |false=>rfl
 |true=>exact absurd (Ï hq) h
theorem jCz{P:Å}(ir:P.follows .mixedOrders=X)(CB:G->H (G×G)):MrS P CB:=by
 intro E hE hT hC hF iZ mq x y b n pl S0 w0 refs σ a w S γ R k r hm hMO hR hc tn h;unfold DF at h;split at h
 case h_2=>simp at h
 rename_i tj ops bl c;split at h
 case h_2=>simp at h
 rename_i m nm p o ET hp dm;split at h
 case h_2=>simp at h
 rename_i t m1 it cD EJ;cases oz:(bare ops&&(á it p.it&&(mrC E bl p m&&(sj E.T t).isSome))) with
 |false=>rw[oz]at h;simp at h
 |true=>
 rw[oz,j6]at h;simp only[jd]at oz;obtain⟨cM,xw,Cc,bM⟩:=oz;obtain rfl:it=p.it:=Ï xw;have hMK:=hMO (bl,c) (by simp[gk]) m nm p ET hp;unfold mrC at Cc;simp only[jd,kz,qk,ku]at Cc;obtain⟨hb3,EZ,n1,n2,n3,n4,n5,n6,n7,l1,l2,l3,l4,k1,k2,k3⟩:=Cc;have n1:=nbeq n1;have n2:=nbeq n2;have n3:=nbeq n3;have n4:=nbeq n4;have n5:=nbeq n5;have n6:=nbeq n6;have n7:=nbeq n7;have l1:p.it<E.N.n:=qy l1;have l2:p.d1<E.N.n:=qy l2;have l3:p.c2<E.N.n:=qy l3;have l4:p.d3<E.N.n:=qy l4;obtain⟨rid1,r3,o1,o2,o3,NS,q1,q2,q3,p1,p2,p3,e3,s1,s2,s3⟩:=jGm hp;refine wpIn_seq (wpIn_mono (Q:=λe a2 w2=>e = .normal/\(Code.block bl (.loop c)).wpIn (FR Â) n P (Post E S0 w0 refs pl k r) a2 w2) (wpIn_region (vZ (.inl rfl) (by rintro⟨a,w,h,_⟩;cases h) _ _ _ ?_)) ?_)
 rotate_left
 .rintro e a2 w2 ⟨rfl,h⟩;exact h
 obtain⟨pre,tp⟩:=List.getLast?_eq_some_iff.1 dm;have bU:ops.size=pre.length+1:=by rw[<-qm,tp];simp
 rw[Ñ,bU,List.range'_concat];refine Xr hT hC cM (k:=mrGo E bl m m1 k) (r:=r) (λσ1 a1 w1 S1 γ1 bO eX pO=>?_) pre.length 0 σ a w S γ aa hR hc (by rw[tp,yi]at h;rw[tp,jm,List.take_left'];exact h;rfl);have ho:ops[0+1*pre.length]? = B o:=by rw[<-qf,tp];simp
 have hg:o.guard=none:=by have:=jz.1 cM o (by rw[tp];simp);simpa using this
 have hw:Ä o (yielded ops a1.tmps)=true:=by simp[Ä,hg]
 simp only[wpOps,ho,hw,if_true];refine .inl ?_;unfold mrGo at pO;split at pO
 case h_2=>simp at pO
 rename_i bm Xv fH hmm;cases xH:(á bm Xv&&Mg (σ1.bx bm)) with
 |false=>rw[xH]at pO;simp at pO
 |true=>
 rw[xH,j6]at pO;simp only[jd]at xH;obtain⟨Ap,NU⟩:=xH;obtain rfl:bm=Xv:=Ï Ap;split at pO
 case h_2=>simp at pO
 rename_i s hs;obtain⟨em,v,xs,ys,vU,Xa,CD,iP,hk⟩:=hMK s R _ r pO;obtain⟨S2,γ2,cU,fA⟩:=uA bO eX hs;rw[Xa]at cU fA;obtain⟨g,es,clock,iY,Jd,E0,cZ⟩:=Xt cU vU (CD xs).1
 have hlv:∃bx,σ1.bx bm = .live bx:=by
  unfold Mg at NU;split at NU
  .rename_i hb;exact⟨_,hb⟩
  .simp at NU
 obtain⟨bx,fB⟩:=hlv;have Ef:tm a1 m1=γ1 bm:=by have:=bO.slot m1;rw[fH]at this;exact this.1.2.2 _ fB
 have Aq:tm a1 m=γ1 bm:=by have:=bO.slot m;rw[hmm]at this;exact this.1.2.2 _ fB
 have hv3:tm a1 m=γ2 nm:=by have:=cU.slot m;rw[(CD xs).2]at this;exact this.1.2.2 _ (CD xs).1
 have IM:tm a1 m = .map (B g):=hv3.trans iY;have nw:a1.eval (.tmp m1) = .map (B g):=Ef.trans (Aq.symm.trans IM)
 obtain⟨ky,kv,hkv⟩:∃ky kv,sj E.T t=B (ky,kv):=by
  cases hq:sj E.T t with
  |none=>rw[hq]at bM;simp at bM
  |some q=>exact⟨q.1,q.2,rfl⟩
 obtain⟨kt,vt,tv,gL,_⟩:=M3 hT hkv;have aP:=run_range_map (P:=P) w1 t kt vt g es clock gL Jd;obtain⟨rr,NV⟩:∃rr,rr=w1.heap.size:=⟨_,rfl⟩;rw[<-NV]at aP;have pT:(execOp a1.eval o).run P w1 = .ok (.value (.pointer (B ⟨rr,0,Â⟩))) (w1.alloc (.mapIter (B g) clock #[] clock)):=by simp[execOp,cD,nw,aP,ß]
 unfold Ð;rw[pT,Ê,EJ];refine⟨trivial,?_⟩;let fx:G->H Value:=λi=>if i=p.it then B (.pointer (B ⟨rr,0,Â⟩)) else if i=m then B (.map (B g)) else Â
 let fD:Ã G->Refs:=λseen=>{ blks:=refs.blks,val:=refs.val,ds:=refs.ds,kw:=λx=>if x=rr then B (.mapIter (B g) clock seen clock) else refs.kw x,fix:=fx,mv:=refs.mv }
 let N':NT:=(E.mrE p.it m).N
 have vC:refs.kw rr=none:=bO.kw_new aa;have hwr:w0.heap.size<=rr:=by have:=bO.grow;omega
 have cV:∀seen,An w0 (fD seen):=λseen=>⟨hm.1,λd hd=>by
  obtain⟨D,hD,CE,CA⟩:=hm.2 d hd;refine⟨D,hD,CE,?_⟩;show (if D=rr then _ else refs.kw D)=_;rw[if_neg,CA]
  rintro rfl
  rw[vC]at CA;simp at CA⟩
 have mK:g≠rr:=by have:=(ji.1 Jd).1;omega
 have kS:∀{seen seen':Ã G}{σ:St}{a:Á}{W:Y}{S:aU}{γ:G->À},Rel N' E.np S0 w0 (fD seen) σ a W S γ->Rel N' E.np S0 w0 (fD seen') σ a (W.putObj rr (.mapIter (B g) clock seen' clock)) S γ:=by
  intro seen seen' σ a W S γ hR;have:=hR.putO (l:=rr) (o:= .mapIter (B g) clock seen clock) (o':= .mapIter (B g) clock seen' clock) (by simp[fD]) hwr rfl rfl;refine this.swap rfl rfl this.size this.defers this.slot (λg u hg=>this.kept g u ?_) this.fix;simp only[fD]at hg ⊢;split
  .rename_i e;subst e;simpa using hg
  .rename_i e;simpa[e]using hg
 have NW:N'.pin p.it=true:=by show (á p.it p.it||Nat.beq p.it m)=X;rw[ò];rfl
 have vY:N'.pin m=true:=by show (á m p.it||Nat.beq m m)=X;rw[ò,Bool.or_true]
 have Xw:∀{a':Á},tm a' p.it = .pointer (B ⟨rr,0,Â⟩)->tm a' m = .map (B g)->∀i u,fx i=B u->N'.pin i=X/\a'.tmps.getD i undef=u:=by
  intro a' h1 h2 i u hu;simp only[fx]at hu;split at hu
  .rename_i e;subst e;simp only[j5]at hu;exact⟨NW,h1.trans hu⟩
  .split at hu
   .rename_i e;subst e;simp only[j5]at hu;exact⟨vY,h2.trans hu⟩
   .simp at hu
 have NX:a1.tmps.size=E.N.n:=bO.size;let a2:Go.Act:=a1.put (B p.it) (.pointer (B ⟨rr,0,Â⟩))
 have CF:∀j,tm a2 j=if j=p.it then .pointer (B ⟨rr,0,Â⟩) else tm a1 j:=λj=>oT aa _ j
 have hRL:Rel N' E.np S0 w0 (fD #[]) (cX E.np (E.keep bl) (ia s em v xs)) a2 (w1.alloc (.mapIter (B g) clock #[] clock)) S2 γ2:=by
  have hA:=cU.allocO (.mapIter (B g) clock #[] clock);refine hA.frame rfl rfl ((rS _ _).trans NX) ((xq _ _).trans bO.defers) (λi hi=>?_) (λg' u az=>?_) (Xw ?_ ?_)
  .have z:i≠p.it:=λe=>k1 (e▸hi);rw[CF,if_neg z]
  .simp only[fD]at az;split at az
   .rename_i e';simp only[j5]at az;subst az;rw[e',NV];refine⟨Ò _ _,λk' b' aW dY=>?_⟩;have:=mJ (cU.box k' b' aW) dY;omega
   .exact hA.kept g' u az
  .rw[CF,if_pos rfl]
  .rw[CF,if_neg n4];exact IM
 have NY:AtR g rr p.it clock clock (keyB es) es #[] a2 (w1.alloc (.mapIter (B g) clock #[] clock)):=by
  refine⟨(heap_alloc_old _ _ (ji.1 Jd).1).trans Jd,rfl,?_,?_⟩
  .rw[NV];exact Ò _ _
  .rw[CF,if_pos rfl]
 let J:Ã Ì->Ã G->Á->Y->Prop:=λes' seen a w=>∃(zs:U (Î×v.den))(S:aU)(γ:G->À),Rel N' E.np S0 w0 (fD seen) (cX E.np (E.keep bl) (ia s em v zs)) a w S γ/\
  dH (cX E.np (E.keep bl) (ia s em v zs))/\Mix xs ys seen zs/\wX es' clock
 have nV:xs.length=clock:=by rw[E0.length,EX cZ]
 obtain⟨hxyl,NZ⟩:=jzR iP;have uE:J es #[] a2 (w1.alloc (.mapIter (B g) clock #[] clock)):=⟨xs,S2,γ2,hRL,fA,⟨rfl,λi=>ae⟩,cZ⟩
 have Xx:∀{es':Ã Ì}{seen:Ã G}{a:Á}{w:Y}{zs:U (Î×v.den)}{S:aU}{γ:G->À},Rel N' E.np S0 w0 (fD seen) (cX E.np (E.keep bl) (ia s em v zs)) a w S γ->
   ∃es' fp,γ nm = .map (B g)/\w.heap[g]? = B (.map es' fp)/\All2 (Aa S w (.int .i64) v) zs es'.toList/\wX es' fp:=by
  intro es' seen a w zs S γ hR;obtain⟨g',es',fp,h1,h2,h3,h4⟩:=Xt hR vU (CD zs).1;have h5:tm a m=γ nm:=by have:=hR.slot m;rw[(CD zs).2]at this;exact this.1.2.2 _ (CD zs).1
  have h6:tm a m = .map (B g):=(hR.fix m (.map (B g)) (by show (if m=p.it then _ else if m=m then _ else _)=_;rw[if_neg n4,if_pos rfl])).2;have:g'=g:=by rw[h5,h1]at h6;simpa using h6
  subst this;exact⟨es',fp,h1,h2,h3,h4⟩
 subst NS
 refine wpIn_block (wpIn_mono (jy2 (P:=P) (ro:=Â) rfl (Q:=λe a' w'=>e = .exit bl/\∃S' γ',Rel E.N E.np S0 w0 refs (cX E.np (E.keep bl) (ia s em v ys)) a' w' S' γ'/\dH (cX E.np (E.keep bl) (ia s em v ys)))
  q1 q2 q3 p1 p2 p3 n1 n2 mK (jv clock) (λq hq=>?_) E.N.n l2 l3 J (λes' seen a' w' hJ=>?_) ?_ ?_ NY uE) ?_)
 .obtain⟨e,he,rfl⟩:=jr.1 hq;exact cZ.1.1 e he
 .obtain⟨zs,S',γ',cE,_⟩:=hJ;exact cE.size
 ·-- the end
  rintro es' seen a' w' u u' hA ⟨zs,S',γ',cE,dK,jT,sE⟩ eu
  have Ei:zs=ys:=by
   refine ve λi=>?_;rw[jT.get i];split
   .rfl
   .rename_i N0;by_cases hi:i<clock
    .exfalso;have an:i<es'.toList.length:=by rw[EX sE];exact hi
     have hb:=Xu sE (jp an);have:=eu _ (jg an);rw[hb]at this;exact N0 this
    .rw[qw aa,qw aa]
  subst Ei;refine⟨rfl,S',γ',cE.frame rfl rfl ?_ ?_ (λi hi=>?_) (λg' o' az=>?_) (λi u hu=>?_),dK⟩
  .rw[rS,rS];exact cE.size
  .rw[xq,xq];exact cE.defers
  .have z1:i≠p.c2:=λe=>k3 (e▸hi);have z2:i≠p.d1:=λe=>k2 (e▸hi);have z3:a'.tmps.size=E.N.n:=cE.size;rw[oT (by rw[rS];omega),if_neg z1,oT aa,if_neg z2]
  .refine cE.kept g' o' ?_;show (if g'=rr then _ else refs.kw g')=_;rw[if_neg]
   .exact az
   .rintro rfl
    rw[vC]at az;simp at az
  .have:=(hR.fix i u hu).1;rw[mq]at this;simp at this
 ·-- a round
  rintro es' seen a' w' E3 u u' e hA ⟨zs,S',γ',cE,dK,jT,sE⟩ he N0 nt lT
  have N1:a'.tmps.size=E.N.n:=cE.size;obtain⟨Jf,dU,hg2',N2,eu,lU⟩:=Xx (es':=es') cE;have:Jf=es'/\dU=clock:=by have:=hA.map;rw[N2]at this;simpa using this
  obtain⟨rfl,rfl⟩:=this;obtain⟨j,hj⟩:=v6.1 he;have Ay:e.born=j:=Xu lU hj;have oE:j<xs.length:=by have:=(jy.1 hj).1;rw[nV,<-EX lU];exact this
  have Ac:zs[j]? = xs[j]? := by
   rw[jT.get j,if_neg];rw[<-Ay,N0];simp
  obtain⟨x,hx⟩:∃x,xs[j]? = B x:=⟨_,jp oE⟩;obtain⟨e',Co,CG,uj⟩:=eu.get j x (Ac.trans hx);obtain rfl:e'=e:=by rw[hj]at Co;exact(Option.some.inj Co).symm
  obtain⟨y,hy,Xy,Au⟩:=NZ j x hx;have fN:(zs.map λx=>x.1).Nodup:=by have h1:=lU.1.2.2;rw[EH eu]at h1;exact(vf.1 h1).imp λh e=>h (by rw[e])
  have Xz:Rel N' E.np S0 w0 (fD seen) (cX E.np (E.keep bl) (ia s em v zs)) a' E3 S' γ':=by
   rcases nt with rfl|rfl
   .exact cE
   .exact cE.drawn _
  have N3:VRep S' E3 ⟨v,x.2⟩ e'.val:=by
   rcases nt with rfl|rfl
   .exact uj
   .exact VRep.keep (S:=S') (w:=w') (S':=S') (w':=w'.drew) (λg o hs=>⟨hs,rfl⟩) uj
  have N4:=kS (seen':=seen.push e'.born) Xz;obtain⟨w2,xI⟩:∃w2,E3.putObj rr (.mapIter (B g) dU (seen.push e'.born) dU)=w2:=⟨_,rfl⟩;have lT:AtR g rr p.it dU dU (keyB es) Jf (seen.push e'.born) ((a'.put (B p.d1) u).put (B p.c2) u') w2:=by rw[<-xI];exact lT
  show (Code.block p.b6 _).wpIn (FR Â) n P _ _ (E3.putObj rr (.mapIter (B g) dU (seen.push e'.born) dU));rw[xI]at N4 ⊢;obtain⟨a3,Jg⟩:∃a3,(a'.put (B p.d1) u).put (B p.c2) u'=a3:=⟨_,rfl⟩;rw[Jg]at lT ⊢
  have N5:∀j,tm a3 j=if j=p.c2 then u' else if j=p.d1 then u else tm a' j:=λj=>by
   rw[<-Jg,oT (by rw[rS];omega),oT aa]
  have N6:a3.tmps.size=E.N.n:=by rw[<-Jg,rS,rS];exact N1
  have wZ:tm a' p.it = .pointer (B ⟨rr,0,Â⟩):=hA.ptr;have vW:tm a' m = .map (B g):=(cE.fix m (.map (B g)) (by show (if m=p.it then _ else if m=m then _ else _)=_;rw[if_neg n4,if_pos rfl])).2
  have gI:Rel N' E.np S0 w0 (fD (seen.push e'.born)) (cX E.np (E.keep bl) (ia s em v zs)) a3 w2 S' γ':=by
   refine N4.frame rfl rfl N6 (by rw[<-Jg,xq,xq];exact cE.defers) (λi hi=>?_) (λg' o' az=>N4.kept g' o' az) (Xw ?_ ?_)
   .have z1:i≠p.c2:=λe=>k3 (e▸hi);have z2:i≠p.d1:=λe=>k2 (e▸hi);rw[N5,if_neg z1,if_neg z2]
   .rw[N5,if_neg n2,if_neg n1];exact wZ
   .rw[N5,if_neg n6,if_neg n5];exact vW
  have vL:ee S' E3 S' w2:=λg' o' dt=>by
   refine⟨dt,?_⟩;have hq:=(Xz.kept rr (.mapIter (B g) dU seen dU) (by show (if rr=rr then _ else _)=_;rw[if_pos rfl])).1;by_cases sH:g'=rr
   .subst sH;rw[I8 hq rfl,<-xI,I8 (Ù (ji.1 hq).1) rfl]
   .rw[<-xI];exact È (É sH)
  have oY:e'.key = .int .i64 x.1:=by have:[e'.key]=[Í .i64 x.1]:=CG;simpa using this
  have N7:=run_entry_at (P:=P) w2 rr g dU seen Jf dU e' lT.iter lT.map he lU.1.2.1;have N8:a3.eval (.tmp p.it) = .pointer (B ⟨rr,0,Â⟩):=lT.ptr;have E4:(execOp a3.eval o3).run P w2 = .ok (.value (.tuple #[e'.key,e'.val])) w2:=by simp[execOp,s1,N8,N7,ß]
  obtain⟨nY,nZ⟩:=Cr gI dK (dst:=B p.d3) (λd hd=>by
   simp only[j5]at hd;subst hd;refine⟨l4,?_⟩;show (á p.d3 p.it||Nat.beq p.d3 m)=O;rw[yh];exact⟨beqF (Ne.symm n3),beqF (Ne.symm n7)⟩) (s:= .tup [.one (.d (.int .i64) x.1),pD v x.2]) (v:= .tuple #[e'.key,e'.val]) (by
   refine⟨#[e'.key,e'.val],rfl,⟨CG,λ_=>by rw[oY];rfl⟩,?_,trivial⟩;exact zS (x:=⟨v,x.2⟩) (VRep.keep vL N3)) rfl
  have E5:=Au zs;unfold B2 at E5;have N9:p.ops.size=(p.ops.size-1)+1:=by have:=(ji.1 e3).1;omega
  have hw3:Ä o3 (yielded p.ops a3.tmps)=true:=by simp[Ä,s3]
  have Oa:MrS P (λ_=>Â):=by
   intro E hE _ _ _ _ _ x y _ _ _ _ _ _ _ _ _ _ _ _ _ _ _ _ _ _ tn _;unfold B0 at tn;split at tn
   .rw[hE]at tn;simp at tn
   .simp at tn
  have dy:=Xn ir Oa p.rest (E:=E.mrE p.it m) (ro:=Â) hT hC hF rfl iZ (.inl EZ)
  refine wpIn_block (wpIn_seq (wpIn_mono (Q:=λe4 a4 w4=>e4 = .normal/\p.rest.wpIn (FR Â) n P (Post (E.mrE p.it m) S0 w0 (fD (seen.push e'.born)) (ea p.rest) (λe σ2=>cond (mrNx p.b6 e) (match jL E.np (E.keep bl) σ2 with
   |some s'=>B s'
   |none=>Â) Â) (ia s em v (@eD _ _ (Ty.int .i64).keq zs x.1 y.2))) a4 w4) (wpIn_region (vZ (.inl rfl) (by rintro⟨a,w,h,_⟩;cases h) _ _ _ ?_)) ?_))
  .rw[Ñ,N9,vj];simp only[wpOps,e3,hw3,if_true];refine .inl ?_;unfold Ð;rw[E4,Ê,s2];refine Nb (E:=E.mrE p.it m) hT hC hb3 (λσ' a' w' S' γ' h1 h2 h3=>⟨rfl,dy p.b6 n (cV _) (by rw[wb _ _ EZ];simp) h1 h2 h3⟩) (p.ops.size-1) 1 _ _ _ _ _ aa nY nZ ?_;rw[List.drop_one];exact E5
  rintro e4 a4 w4 ⟨rfl,h4⟩
  refine wpIn_mono h4 ?_
  rintro e5 a5 w5 ⟨XA,ex,σ5,S5,γ5,_,Ob,rfl,oa,Av,lQ⟩
  have:=Ob EZ;subst this;dsimp only at lQ;cases we:mrNx p.b6 ex with
  |false=>rw[we]at lQ;simp at lQ
  |true=>
  rw[we,j6]at lQ;split at lQ
  case h_2=>simp at lQ
  rename_i s6 hs6;simp only[j5]at lQ;subst lQ;obtain⟨S6,γ6,qU,hc6⟩:=uA oa Av hs6
  have vD:∀Q:Ó->Á->Y->Prop,Q .normal a5 w5->æ p.b6 Q (exOf ex) a5 w5:=by
   intro Q hQ;cases ex with
   |normal=>exact hQ
   |exit i=>have:i=p.b6:=Ï we;simp only[exOf,æ,this,if_true];exact hQ
   |ret=>simp[mrNx]at we
  refine vD _ ?_;obtain⟨es3,oZ,IG,hh3,xJ,tq⟩:=Xx (es':=Jf) qU;have kP:@eD _ _ (Ty.int .i64).keq zs x.1 y.2=zs.set j y:=by rw[Xs fN (Ac.trans hx) y.2,<-Xy]
  have mu:(@eD _ _ (Ty.int .i64).keq zs x.1 y.2).map (λx=>x.1)=zs.map λx=>x.1:=by
   rw[kP,List.map_set,Xy];refine ve λi=>?_;rw[ø];split
   .rename_i dS;subst dS;rw[qp,Ac.trans hx];rw[if_pos (by rw[kj,jT.len];exact oE)];rfl
   .rfl
  have xK:oZ=dU:=by rw[<-EX tq,<-xJ.length,<-EX lU,<-eu.length,kP,y8]
  subst xK;refine⟨es3,⟨hh3,?_,?_,?_⟩,_,S6,γ6,qU,hc6,⟨?_,λi=>?_⟩,tq⟩
  .rw[<-hA.ks];exact jFd (by rw[EH xJ,EH eu,mu]) (by rw[tq.2,lU.2])
  .exact(qU.kept rr (.mapIter (B g) oZ (seen.push e'.born) oZ) (by show (if rr=rr then _ else _)=_;rw[if_pos rfl])).1
  .exact(qU.fix p.it (.pointer (B ⟨rr,0,Â⟩)) (by show (if p.it=p.it then _ else _)=_;rw[if_pos rfl])).2
  .rw[kP,y8];exact jT.len
  .rw[kP,ø];by_cases dS:j=i
   .subst dS;rw[if_pos rfl,if_pos (by rw[jT.len];exact oE),if_pos ((EU _ _ _).2 (.inr Ay.symm))];exact hy.symm
   .rw[if_neg dS,jT.get i];by_cases Jh:seen.contains i=X
    .rw[if_pos Jh,if_pos ((EU _ _ _).2 (.inl Jh))]
    .rw[if_neg Jh,if_neg];intro hq;rcases (EU _ _ _).1 hq with hq|hq
     .exact Jh hq
     .exact dS (by rw[hq,Ay])
 .rintro e a' w' ⟨rfl,S',γ',cE,dK⟩
  simp only[æ,if_true];exact⟨refs,.normal,_,S',γ',⟨rfl,rfl,rfl,hm,rfl⟩,λ_=>rfl,rfl,cE,dK,hk⟩
theorem jy3{P:Å}(ir:P.follows .mixedOrders=X)(c:Õ){E:Env}{ro:H G}(hT:cT P E.T)(hC:kF P E.C)(hF:CFun E.C)(iZ:∀f t,E.bw f=B t->BwK P f t)
 (hq:ea c=X\/(ro=Â/\E.N.pin=λ_=>O)):Jb P E ro c:=Xn ir (jCz ir E.mr) c hT hC hF rfl iZ hq
end
section
variable{N:NT}{np:G}{S0:aU}{w0:Y}{refs:Refs}{σ:St}{a:Á}{w:Y}{S:aU}{γ:G->À}
def Az:Arg->Ç
 |.ref _=>X
 |.rl _ _=>X
 |_=>O
def E6(args:U Arg)(vals:U À)(k:G):H Value:=
 if k%64=0 then match args[k/64]? with
  |some x=>if Az x then vals[k/64]? else Â
  |none=>Â
 else Â
def rX(args:U Arg)(vals:U À):Refs:={ blks:=eY args vals,val:=E6 args vals,mv:=mvOf args vals }
def γ0(vals:U À)(k:G):Value:=vals.getD (k/64) undef
theorem E7:∀{as:U Arg}{us:U À}{i:G}{x:Arg}{u:À}{g:G},as[i]? = B x->us[i]? = B u->mi x u=B g->g∈eY as us
 |y::as,v::us,0,x,u,g,h,h',hg=>by
  simp at h h';subst h;subst h';simp[eY,hg]
 |y::as,v::us,i+1,x,u,g,h,h',hg=>by
  have:=E7 (as:=as) (us:=us) (i:=i) (by simpa using h) (by simpa using h') hg;simp[eY,this]
 |[],_,_,_,_,_,h,_,_=>by simp at h
 |_::_,[],_,_,_,_,_,h',_=>by simp at h'
theorem XB:∀{as:U Arg}{us:U À}{i j:G}{x y:Arg}{u v:À}{g:G},(eY as us).Nodup->as[i]? = B x->us[i]? = B u->as[j]? = B y->us[j]? = B v->
  mi x u=B g->mi y v=B g->i=j
 |z::as,t::us,0,0,_,_,_,_,_,_,_,_,_,_,_,_=>rfl
 |z::as,t::us,0,j+1,x,y,u,v,g,hn,hx,hu,hy,hv,h1,h2=>by
  simp at hx hu;subst hx;subst hu;have:=E7 (as:=as) (us:=us) (i:=j) (by simpa using hy) (by simpa using hv) h2;simp[eY,h1]at hn;exact absurd this hn.1
 |z::as,t::us,i+1,0,x,y,u,v,g,hn,hx,hu,hy,hv,h1,h2=>by
  simp at hy hv;subst hy;subst hv;have:=E7 (as:=as) (us:=us) (i:=i) (by simpa using hx) (by simpa using hu) h1;simp[eY,h2]at hn;exact absurd this hn.1
 |z::as,t::us,i+1,j+1,x,y,u,v,g,hn,hx,hu,hy,hv,h1,h2=>by
  have Nk:(eY as us).Nodup:=by simp only[eY]at hn;exact(List.nodup_append.1 hn).2.1
  rw[XB Nk (i:=i) (j:=j) (by simpa using hx) (by simpa using hu) (by simpa using hy) (by simpa using hv) h1 h2]
 |[],_,_,_,_,_,_,_,_,_,h,_,_,_,_,_=>by simp at h
 |_::_,[],_,_,_,_,_,_,_,_,_,h,_,_,_,_=>by simp at h
theorem XC:∀{as:U Arg}{us:U À}{i e:G}{x:TV}{u:À}{g:G},as[i]? = B (.mv e x)->us[i]? = B u->blk u=B g->g∈mvOf as us
 |y::as,v::us,0,e,x,u,g,h,h',hg=>by
  simp at h h';subst h;subst h';simp[mvOf,hg]
 |y::as,v::us,i+1,e,x,u,g,h,h',hg=>by
  have:=XC (as:=as) (us:=us) (i:=i) (by simpa using h) (by simpa using h') hg;cases y<;>simp[mvOf,this]
 |[],_,_,_,_,_,_,h,_,_=>by simp at h
 |_::_,[],_,_,_,_,_,_,h',_=>by simp at h'
theorem jCA{args:U Arg}{vals:U À}(ha:All2 (pM S w) args vals)(fN:(eY args vals).Nodup)(hS:∀g o,S g o->g<w.heap.size)(hlen:args.length=np)(hN:np<=N.n) :
  Rel N np S w (rX args vals) (St.init args) ⟨vals.toArray++Ý (N.n-vals.toArray.size) undef,[]⟩ w S (γ0 vals)/\dH (St.init args):=by
 have xc:vals.length=np:=by rw[<-ha.length,hlen]
 have vW:∀i u,vals[i]? = B u->(vals.toArray++Ý (N.n-vals.toArray.size) undef).getD i undef=u:=by intro i u hu;have hi:i<vals.length:=(jy.1 hu).1;rw[vg,Array.getElem?_append_left (by simpa using hi)];simp[hu]
 have mc:∀i u,vals[i]? = B u->γ0 vals (i*64)=u:=by intro i u hu;simp only[γ0];rw[yw _ aa];simp[hu]
 have wg:∀i u,vals[i]? = B u->γ0 vals (i*64+63)=u:=by intro i u hu;simp only[γ0];rw[show (i*64+63)/64=i by omega];simp[hu]
 have fB:∀k b,(St.init args).bx k = .live b->∃i x u,args[i]? = B x/\vals[i]? = B u/\pM S w x u/\((k=i*64/\nP (B x) = .live b)\/(k=i*64+63/\uV (B x) = .live b)):=by
  intro k b hb;simp only[St.init]at hb;split at hb
  .rename_i hk;cases hx:args[k/64]? with
   |none=>simp[hx,nP]at hb
   |some x=>obtain⟨u,hu,jI⟩:=ha.get _ x hx;exact⟨k/64,x,u,hx,hu,jI,.inl ⟨aa,by rw[hx]at hb;exact hb⟩⟩
  .split at hb
   .rename_i hk;cases hx:args[k/64]? with
    |none=>simp[hx,uV]at hb
    |some x=>obtain⟨u,hu,jI⟩:=ha.get _ x hx;exact⟨k/64,x,u,hx,hu,jI,.inr ⟨aa,by rw[hx]at hb;exact hb⟩⟩
   .simp at hb
 have tt:∀{x:Arg}{b:Bx},uV (B x) = .live b->∃e t xs,x = .mv e ⟨.list t,xs⟩/\b = .lst e t xs false:=by
  intro x b hb;cases x with
  |mv e y=>obtain⟨t,v⟩:=y;cases t<;>simp[uV]at hb;exact⟨_,_,_,rfl,hb.symm⟩
  |_=>simp[uV]at hb
 have E8:∀i x,args[i]? = B x->(St.init args).bx (i*64+63)=uV (B x):=by intro i x hx;simp only[St.init];rw[if_neg aa,if_pos aa,show (i*64+63)/64=i by omega,hx]
 have E9:∀i x,args[i]? = B x->(St.init args).bx (i*64)=nP (B x):=by intro i x hx;simp only[St.init];rw[if_pos aa,yw _ aa,hx]
 have hblk:∀x u b,nP (B x) = .live b->mi x u=blk u:=by intro x u b hb;cases x<;>first|rfl|simp[nP]at hb
 refine⟨⟨?_,rfl,?_,?_,?_,?_,λ_ _ h=>h,λ_ _ h=> .inl h,hS,λ_ _ _=>rfl,jv _,rfl,rfl,rfl,?_,λg o h=>by simp[rX]at h,λi v h=>by simp[rX]at h⟩,?_⟩
 .simp;omega
 .intro i
  have eP:(St.init args).sl i=match args[i]? with
   |some a=> .one (Il i a)
   |none=> .one (.one .dead):=rfl
  rw[eP];cases hx:args[i]? with
  |none=>exact⟨trivial,λh=>absurd rfl h⟩
  |some x=>
   obtain⟨u,hu,jI⟩:=ha.get i x hx;show cF S w (γ0 vals) (St.init args).bx (Il i x) _;rw[vW i u hu];have hb:=E9 i x hx;cases x with
   |v x=>exact zS jI
   |ref ls=>obtain⟨g,cur,e,h1,_⟩:=id jI;exact⟨⟨by rw[hb];simp[nP],by rw[h1];rfl,λb _=>⟨g,(mc i u hu).trans h1,h1⟩⟩,λ_=>by rw[h1];rfl⟩
   |rl e x=>obtain⟨t,xs,rfl,cI,_⟩:=id jI;have dQ:One u:=cI.one;exact⟨⟨by rw[hb];simp[nP],dQ,λb _=>(mc i u hu).symm⟩,λ_=>dQ⟩
   |ip ls=>obtain⟨g,o,cs,h1,_⟩:=id jI;exact⟨jI,λ_=>by rw[h1];rfl⟩
   |clo f bT=>obtain⟨cv,h1,_⟩:=id jI;exact⟨jI,λ_=>by rw[h1];rfl⟩
   |mv e x=>obtain⟨t,xs,rfl,cI,_⟩:=id jI.1;have dQ:One u:=cI.one;have aW:=E8 i _ hx;exact⟨⟨by rw[aW];simp[uV],dQ,λb _=>(wg i u hu).symm⟩,λ_=>dQ⟩
 .intro k b hb;obtain⟨i,x,u,hx,hu,jI,⟨rfl,cY⟩|⟨rfl,cY⟩⟩:=fB k b hb
  .cases x with
   |ref ls=>simp only[nP,BS.live.injEq]at cY;subst cY;exact MT (mc i u hu) jI
   |rl e x=>obtain⟨t,xs,rfl,_⟩:=id jI;simp only[nP,BS.live.injEq]at cY;subst cY;exact D6 (mc i u hu) jI
   |_=>simp[nP]at cY
  .obtain⟨e,t,xs,rfl,rfl⟩:=tt cY;exact D6 (wg i u hu) jI.1
 .intro k b g hb hg;obtain⟨i,x,u,hx,hu,jI,⟨rfl,cY⟩|⟨rfl,cY⟩⟩:=fB k b hb
  .rw[mc i u hu,<-hblk x u b cY]at hg;refine .inr ⟨E7 hx hu hg,?_⟩;have:i<args.length:=(jy.1 hx).1;simp[parK];omega
  .obtain⟨e,t,xs,rfl,rfl⟩:=tt cY;rw[wg i u hu]at hg;exact .inl (.inr ⟨XC hx hu hg,E7 (x:= .mv e ⟨.list t,xs⟩) hx hu hg⟩)
 .intro k k' b b' g bA hb aW hg az
  have XE:∀k b g,(St.init args).bx k = .live b->blk (γ0 vals k)=B g->∃i x u,args[i]? = B x/\vals[i]? = B u/\mi x u=B g/\((k=i*64/\nP (B x) = .live b)\/(k=i*64+63/\uV (B x) = .live b)):=by
   intro k b g hb hg;obtain⟨i,x,u,hx,hu,jI,⟨rfl,cY⟩|⟨rfl,cY⟩⟩:=fB k b hb
   .rw[mc i u hu,<-hblk x u b cY]at hg;exact⟨i,x,u,hx,hu,hg,.inl ⟨rfl,cY⟩⟩
   .obtain⟨e,t,xs,rfl,rfl⟩:=tt cY;rw[wg i u hu]at hg;exact⟨i,_,u,hx,hu,hg,.inr ⟨rfl,cY⟩⟩
  obtain⟨i,x,u,hx,hu,h1,h2⟩:=XE k b g hb hg;obtain⟨j,y,v,hy,hv,h3,h4⟩:=XE k' b' g aW az;have dS:=XB fN hx hu hy hv h1 h3;subst dS;rw[hx]at hy;cases hy;rcases h2 with⟨rfl,h2⟩|⟨rfl,h2⟩<;>rcases h4 with⟨rfl,h4⟩|⟨rfl,h4⟩
  .exact bA rfl
  .obtain⟨e,t,xs,rfl,rfl⟩:=tt h4;simp[nP]at h2
  .obtain⟨e,t,xs,rfl,rfl⟩:=tt h2;simp[nP]at h4
  .exact bA rfl
 .intro k v hv;simp only[rX,E6]at hv;split at hv
  .rename_i hk;split at hv
   .rename_i x hx;split at hv
    .rename_i hr;have hi:k/64<args.length:=(jy.1 hx).1;have bQ:k=(k/64)*64:=aa;refine⟨by simp[parK,hk];omega,?_,?_⟩
     .rw[bQ,E9 _ x hx];cases x with
      |rl e y=>obtain⟨u,hu,jI⟩:=ha.get _ _ hx;obtain⟨t,xs,rfl,_⟩:=jI;simp[nP]
      |ref ls=>simp[nP]
      |_=>simp[Az]at hr
     .rw[bQ];exact mc _ v hv
    .simp at hv
   .simp at hv
  .simp at hv
 .intro i;show ((match args[i]? with|some a=>Slot.one (Il i a)|none=> .one (.one .dead)):Slot).bare=X;split<;>rfl
theorem Oc{α β:Type}{P:Å}(f:α->Sem β):∀{rs:U α}{zs:U β},All2 (λr z=>(f r).run P w = .ok z w) rs zs->(rs.mapM f).run P w = .ok zs w
 |[],[],_=>ae
 |r::rs,z::zs,h=>by
  simp only[vq,ó,h.1,â,Oc f h.2,ô]
 |[],_::_,h=>h.elim
 |_::_,[],h=>h.elim
def Uns(b:Bx):Prop:=(∃ls,b = .cell ls O)\/∃e t xs,b = .lst e t xs O
theorem Od{P:Å}{E:Env}(hT:cT P E.T)(hR:Rel N np S0 w0 refs σ a w S γ){r:ã}{c:Cel}(h:B3 E σ r=B c) :
  ∃z,((match r with
   |.tmp t=>pure (a.tmps.getD t undef)
   |.cell x t=>do loadVar t (<-asAddr (a.tmps.getD x undef)):Sem À)).run P w = .ok z w/\cF S w γ σ.bx c z:=by
 cases r with
 |tmp t=>
  simp only[B3]at h;split at h
  .rename_i c' hc;simp only[j5]at h;subst h;have:=hR.slot t;rw[hc]at this;exact⟨_,ae,this⟩
  .simp at h
 |cell x t=>
  simp only[B3]at h;split at h
  .rename_i ti y ht hy;have:=hR.slot x;rw[hy]at this;obtain⟨z,hz,kO⟩:=Vl hT hR (RdR.msk λ_=> .inl rfl) ht h this.1;refine⟨z,?_,kO⟩;show (do loadVar t (<-asAddr (a.tmps.getD x undef)):Sem À).run P w=_
   have hu:∃ad,a.tmps.getD x undef = .pointer (B ad):=by
    generalize a.tmps.getD x undef=u at hz
    cases u with
    |pointer o=>
     cases o with
     |some ad=>exact⟨ad,rfl⟩
     |none=>simp[õ,ë]at hz
    |_=>simp[õ,ë]at hz
   obtain⟨ad,hu⟩:=hu;rw[hu]at hz ⊢;simpa[õ,ë,asAddr]using hz
  .simp at h
theorem jGn{P:Å}{E:Env}(hT:cT P E.T)(hR:Rel N E.np S0 w0 refs σ a w S γ){rd:G->BS}(bj:RdF E.np σ rd){own:Ç}{t:G}{c:Cel}{v:RV}{ks:U G}{u:Ups}{z:À}(h:rvOf E rd own t c=B (v,ks,u))(hc:cF S w γ σ.bx c z) :
  FrzL E.np σ.bx u/\(∀k∈ks,(∃b,σ.bx k = .live b/\Uns b)/\parK E.np k=O)/\(nW v z).toList=(ks.filterMap λk=>blk (γ k))/\
   ∀S',ee S w S' w->Froz σ.bx γ S' w u->(∀k∈ks,∀g,blk (γ k)=B g->∀o,¬S' g o)->rO S' w v z:=by
 unfold rvOf at h;split at h
 .rename_i k;split at h
  .rename_i ls hk;split at h
   .rename_i xs u1 h1;simp only[j5,j9]at h;obtain⟨rfl,rfl,rfl⟩:=h;have hp:=bj.par hk;have hk:=bj.ok.live hk;obtain⟨g,hg,hz⟩:=hc.1.2.2 _ hk;obtain⟨g',cur,e,az,hh,eG,_⟩:=hR.box k _ hk;rw[hg]at az;simp at az;subst az;obtain⟨hf,xg⟩:=Cg bj h1 eG;refine⟨hf,λk' bQ=>by simp at bQ;subst bQ;exact⟨⟨_,hk,.inl ⟨_,rfl⟩⟩,hp⟩,?_,λS' aQ fQ hn=>⟨g,cur,e,hz,hh,by rw[Io eG (xg S' w aQ fQ)];exact xg S' w aQ fQ,?_⟩⟩
    .simp[nW,hz,hg,blk]
    .exact hn k ae g (by rw[hg];rfl)
   .simp at h
  .simp at h
 .rename_i f bT;simp only[j5,j9]at h;obtain⟨rfl,rfl,rfl⟩:=h;obtain⟨⟨cv,hz,aC⟩,_⟩:=hc;exact⟨.nil,ae,by simp[nW],λS' aQ _ _=>⟨cv,hz,aC.mono λ_ _ h=>kN.keep aQ h⟩⟩
 .split at h
  .rename_i ti ht;split at h
   .rename_i ty bM;split at h
    .split at h
     .rename_i el du _;simp only[j5,j9]at h;obtain⟨rfl,rfl,rfl⟩:=h;have hz:z = .slice Â 0 0:=hc.1;subst hz;exact⟨.nil,ae,by simp[nW,blk],λS' _ _ _=>⟨el,[],rfl,.inl ⟨Mk hT ht,[],⟨ae,.inl ⟨rfl,rfl⟩⟩,trivial⟩,λg hg=>by simp[blk]at hg⟩⟩
     .rename_i k du _;split at h
      .rename_i e el xs hk;simp only[j5,j9]at h;obtain⟨rfl,rfl,rfl⟩:=h;have hp:=bj.par hk;have cG:=bj.ok.nm hk;have hk:=bj.ok.live hk;have hz:=hc.1.2.2 _ hk;obtain⟨css,aZ,aC,_⟩:=kA cG (hR.box k _ hk);refine⟨.nil,λk' bQ=>by simp at bQ;subst bQ;exact⟨⟨_,hk,.inr ⟨_,_,_,rfl⟩⟩,hp⟩,?_,λS' aQ _ hn=>⟨el,xs,rfl,by rw[hz];exact(hR.box k _ hk).1.keep aQ (λ_ _=>rfl),λg hg=>hn k ae g (by rw[<-hz];exact hg)⟩⟩;simp only[nW,hz,qn,List.filterMap_nil];cases blk (γ k)<;>rfl
      .simp at h
     .simp at h
    .split at h
     .rename_i x u1 hx;simp only[j5,j9]at h;obtain⟨rfl,rfl,rfl⟩:=h;obtain⟨hf,hp,_⟩:=DQ bj hR.box hx hc;exact⟨hf,ae,by simp[nW],λS' aQ fQ _=>hp S' w aQ fQ⟩
     .simp at h
   .simp at h
  .simp at h
theorem XF{P:Å}{E:Env}(hT:cT P E.T)(hR:Rel N E.np S0 w0 refs σ a w S γ):∀{os:U Ç}{rs:U ã}{ts:U G}{vs:U RV}{ks:U G}{u:Ups},uW E σ os rs ts=B (vs,ks,u)->
  ∃zs,All2 (λ(r:ã) z=>((match r with
   |.tmp t=>pure (a.tmps.getD t undef)
   |.cell x t=>do loadVar t (<-asAddr (a.tmps.getD x undef)):Sem À)).run P w = .ok z w) rs zs/\
  FrzL E.np σ.bx u/\(∀k∈ks,(∃b,σ.bx k = .live b/\Uns b)/\parK E.np k=O)/\gZ vs zs=(ks.filterMap λk=>blk (γ k))/\
   ∀S',ee S w S' w->Froz σ.bx γ S' w u->(∀k∈ks,∀g,blk (γ k)=B g->∀o,¬S' g o)->All2 (rO S' w) vs zs
 |os,[],ts,vs,ks,u,h=>by
  simp[uW]at h;obtain⟨rfl,rfl,rfl⟩:=h;exact⟨[],trivial,.nil,ae,rfl,λ_ _ _ _=>trivial⟩
 |os,r::rs,ts,vs,ks,u,h=>by
  simp only[uW]at h;split at h
  .rename_i c hc;split at h
   .rename_i v k1 u1 hv;split at h
    .rename_i mG k2 u2 mL;simp only[j5,j9]at h;obtain⟨rfl,rfl,rfl⟩:=h;obtain⟨z,hz,kO⟩:=Od hT hR hc;obtain⟨f1,p1,n1,r1⟩:=jGn hT hR (Ek (RdR.msk λ_=> .inl rfl)) hv kO;obtain⟨zs,kE,f2,p2,n2,r2⟩:=XF hT hR mL;refine⟨z::zs,⟨hz,kE⟩,FrzL.app.2 ⟨f1,f2⟩,λk hk=>?_,?_,λS' aQ fQ hn=>?_⟩
     .rcases jn.1 hk with hk|hk
      .exact p1 k hk
      .exact p2 k hk
     .simp[gZ,n1,n2]
     .obtain⟨g1,g2⟩:=Froz.app.1 fQ;exact⟨r1 S' aQ g1 (λk hk=>hn k (by simp[hk])),r2 S' aQ g2 (λk hk=>hn k (by simp[hk]))⟩
    .simp at h
   .simp at h
  .simp at h
theorem Oe(hR:Rel N np S0 w0 refs σ a w S γ):∀{as:U Arg}{us:U À}{i:G}{os:U Out}{u:Ups},outs np σ i as=B (os,u)->as.length=us.length->
  (∀(j:G)(x:Arg)(v:À),as[j]? = B x->us[j]? = B v->Az x=X->γ ((i+j)*64)=v)->
  FrzL np σ.bx u/\∀S',ee S w S' w->Froz σ.bx γ S' w u->(∀(j:G)(x:Arg)(v:À)(g:G),as[j]? = B x->us[j]? = B v->Az x=X->(∃b,σ.bx ((i+j)*64) = .live b/\Uns b)->blk v=B g->∀o,¬S' g o)->mM S' w as us os
 |[],us,i,os,u,h,hl,_=>by
  simp[outs]at h;obtain⟨rfl,rfl⟩:=h;cases us with
  |nil=>exact⟨.nil,λ_ _ _ _=>trivial⟩
  |cons _ _=>simp at hl
 |x::as,[],i,os,u,h,hl,_=>by simp at hl
 |x::as,v::us,i,os,u,h,hl,hg=>by
  simp only[outs]at h;split at h
  .rename_i rQ u' h'
   obtain⟨f1,r1⟩:=Oe hR (i:=i+1) h' (by simpa using hl) (λj y z hy hz hr=>by
    have:=hg (j+1) y z (by simpa using hy) (by simpa using hz) hr;rwa[show i+1+j=i+(j+1) by omega])
   have dy:∀S',ee S w S' w->Froz σ.bx γ S' w u'->(∀(j:G)(x':Arg)(v':À)(g:G),(x::as)[j]? = B x'->(v::us)[j]? = B v'->Az x'=X->(∃b,σ.bx ((i+j)*64) = .live b/\Uns b)->blk v'=B g->∀o,¬S' g o)->mM S' w as us rQ:=by intro S' aQ fQ hn;refine r1 S' aQ fQ (λj y z g hy hz hr hb Of=>?_);exact hn (j+1) y z g (by simpa using hy) (by simpa using hz) hr (by rwa[show i+(j+1)=i+1+j by omega]) Of
   split at h
   .rename_i ls;have Og:γ (i*64)=v:=hg 0 _ v rfl rfl rfl;split at h
    .rename_i gr hb;split at h
     .rename_i xs u2 hx;simp only[j5,j9]at h;obtain⟨rfl,rfl⟩:=h;obtain⟨g,cur,e,h1,h2,h3,_⟩:=hR.box _ _ hb;obtain⟨f2,r2⟩:=Cg (Ek (RdR.msk λ_=> .inl rfl)) hx h3;refine⟨FrzL.app.2 ⟨f2,f1⟩,λS' aQ fQ hn=>?_⟩;obtain⟨g1,g2⟩:=Froz.app.1 fQ;have XG:v = .pointer (B ⟨g,0,Â⟩):=by rw[<-Og];exact h1
      exact⟨⟨g,cur,e,XG,h2,by rw[Io h3 (r2 S' w aQ g1)];exact r2 S' w aQ g1,hn 0 _ v g rfl rfl rfl ⟨_,hb,.inl ⟨gr,rfl⟩⟩ (by rw[XG];rfl)⟩,dy S' aQ g2 hn⟩
     .simp at h
    .simp at h
   .rename_i e y;have Og:γ (i*64)=v:=hg 0 _ v rfl rfl rfl;split at h
    .rename_i e' t xs hb;split at h
     .rename_i dR;obtain⟨rfl,CH⟩:=dR;simp only[j5,j9]at h;obtain⟨rfl,rfl⟩:=h;have aZ:=(hR.box _ _ hb).1;rw[Og]at aZ;refine⟨f1,λS' aQ fQ hn=>⟨⟨t,xs,rfl,aZ.keep aQ (λ_ _=>rfl),λg az=>hn 0 _ v g rfl rfl rfl ⟨_,hb,.inr ⟨_,t,xs,rfl⟩⟩ az⟩,CH.symm,dy S' aQ fQ hn⟩⟩
     .simp at h
    .simp at h
   .rename_i Oh Oi;simp only[j5,j9]at h;obtain⟨rfl,rfl⟩:=h;refine⟨f1,λS' aQ fQ hn=>?_⟩;have:=dy S' aQ fQ hn;cases x with
    |ref ls=>exact absurd rfl (Oh ls)
    |rl e y=>exact absurd rfl (Oi e y)
    |_=>exact this
  .simp at h
theorem XH{x:Arg}{u:À}{g:G}(h:pM S w x u)(hr:mi x u=B g):∀o,¬S g o:=by
 cases x with
 |ref ls=>obtain⟨g',cur,e,h1,_,_,h4⟩:=h;have vE:blk u=B g:=hr;rw[h1]at vE;simp[blk]at vE;subst vE;exact h4
 |rl e y=>obtain⟨t,xs,_,_,h4⟩:=h;exact h4 g hr
 |mv e y=>obtain⟨⟨t,xs,_,_,h4⟩,_⟩:=h;exact h4 g hr
 |_=>simp[mi]at hr
theorem Oj:∀{as:U Arg}{us:U À}{g:G},g∈eY as us->∃(i:G)(x:Arg)(u:À),as[i]? = B x/\us[i]? = B u/\mi x u=B g
 |[],_,_,h=>by simp[eY]at h
 |_::_,[],_,h=>by simp[eY]at h
 |x::as,u::us,g,h=>by
  simp only[eY,jn,Option.mem_toList]at h;rcases h with h|h
  .exact⟨0,x,u,rfl,rfl,h⟩
  .obtain⟨i,y,v,h1,h2,h3⟩:=Oj h;exact⟨i+1,y,v,by simpa using h1,by simpa using h2,h3⟩
theorem XI(zs:U À):(if h:zs.toArray.size=1 then zs.toArray[0] else .tuple zs.toArray)=uq zs:=by
 match zs with
 |[]=>rfl
 |[z]=>rfl
 |z::z'::zs=>simp[uq]
theorem jCB{P:Å}{E:Env}(hT:cT P E.T)(hR:Rel N np S0 w0 refs σ a w S γ){rs:U ã}{vs mG:U RV}{zs:U À}
  (kE:All2 (λ(r:ã) z=>((match r with
   |.tmp t=>pure (a.tmps.getD t undef)
   |.cell x t=>do loadVar t (<-asAddr (a.tmps.getD x undef)):Sem À)).run P w = .ok z w) rs zs) (h:nilV E σ rs vs=B mG) :
  (∀S' w',All2 (rO S' w') vs zs->All2 (rO S' w') mG zs)/\gZ mG zs=gZ vs zs/\∀m,mG=[.hd m]->vs=[.hd m]:=by
 unfold nilV at h;split at h
 .simp only[j5]at h;subst h;exact⟨λ_ _ h=>h,rfl,λ_ h=>h⟩
 .split at h
  .rename_i r x;split at h
   .rename_i ls hc;split at h
    .rename_i hn;simp only[j5]at h;subst h;obtain⟨z,hz,kO⟩:=Od hT hR hc;cases zs with
     |nil=>exact kE.elim
     |cons z' zs=>
      cases zs with
      |cons _ _=>exact kE.2.elim
      |nil=>
       have vA:z'=z:=by have h1:=hz.symm.trans kE.1;simp only[Result.ok.injEq]at h1;exact h1.1.symm
       subst vA;obtain⟨cs,hu,aC,_⟩:=kO;refine⟨λS' w' hv=>⟨⟨hv.1,λEb o5 i hi z hzi=>?_⟩,trivial⟩,rfl,λm hm=>by simp at hm⟩;rw[hu]at o5;simp only[Value.agg.injEq]at o5;subst o5;have hl:=jz.1 hn i hi;cases Ol:ls[i]? with
       |none=>rw[Ol]at hl;simp at hl
       |some l=>rw[Ol]at hl;obtain⟨z2,Om,rM⟩:=aC.get i l Ol;rw[hzi]at Om;simp only[j5]at Om;subst Om;cases l<;>first|exact rM|simp at hl
    .simp at h
   .simp at h
  .simp at h
theorem jqT{E:Env}{os:U Ç}{rs:U ã}{ts:U G}{vs:U RV}{ks:U G}{u:Ups}(h:uW E σ os rs ts=B (vs,ks,u))(m:G):vs≠[.hd m]:=by
 cases rs with
 |nil=>simp[uW]at h;rw[<-h.1];simp
 |cons r rs=>
  simp only[uW]at h;split at h
  .split at h
   .rename_i v k1 u1 hv;split at h
    .simp only[j5,j9]at h;rw[<-h.1];intro he;have:v = .hd m:=by simpa using (List.cons.inj he).1
     subst this;unfold rvOf at hv;split at hv
     .split at hv
      .split at hv<;>simp at hv
      .simp at hv
     .simp at hv
     .split at hv
      .split at hv
       .split at hv
        .split at hv
         .simp at hv
         .split at hv<;>simp at hv
         .simp at hv
        .split at hv<;>simp at hv
       .simp at hv
      .simp at hv
    .simp at h
   .simp at h
  .simp at h
theorem jGo{P:Å}{E:Env}(hT:cT P E.T){fn:Func}{args:U Arg}{vals:U À}{σ':St}{a':Á}{w':Y}{S':aU}{γ':G->À}(hR:Rel N E.np S w (rX args vals) σ' a' w' S' γ')
  (ha:All2 (pM S w) args vals)(hS:∀g o,S g o->g<w.heap.size)(tn:E.hd=X){ret:Ret}(dr:yU E fn args σ'=B ret){R:Type}{k:Ret->H R}{r:R}(hk:k ret=B r) :
  ∃v,(results fn a'.tmps).run P w' = .ok v w'/\∃ret,k ret=B r/\∃v' S' vs,Þ v = .returned v'/\MR w S args vals ret v' w' S' vs:=by
 have dJ:∀(j:G)(x:Arg)(v:À),args[j]? = B x->vals[j]? = B v->Az x=X->γ' ((0+j)*64)=v:=by intro j x v hx hv hr;refine(hR.par ((0+j)*64) v ?_).2.2;simp only[rX,E6];rw[if_pos aa,yw _ aa,ki,hx];simp[hr,hv]
 unfold yU at dr;rw[if_pos tn]at dr;unfold U5 at dr;split at dr
 .rename_i e x as r0 nA;split at dr
  .rename_i l os u' hc rP;split at dr
   .rename_i m hm;simp only[j5]at dr;subst dr;obtain⟨z,hz,kO⟩:=Od (P:=P) hT hR hc;obtain⟨f2,r2⟩:=Oe hR rP ha.length dJ;obtain⟨S2,cU,cZ,sM,dZ⟩:=qJ u' σ' S' hR f2;cases vals with
    |nil=>exact ha.elim
    |cons v0 vs0=>
    have h0:γ' 0=v0:=by have:=dJ 0 _ v0 rfl rfl rfl;simpa using this
    have mj:∀k,parK E.np k=X->u'.any (λy=>y.1==k)=false:=by intro k hk;rw[qz];intro y hy he;simp only[zi]at he;have:=(f2 y hy).1;rw[he,hk]at this;simp at this
    have qM:∀k b,u'.any (λy=>y.1==k)=O->σ'.bx k = .live b->Uns b->∀g,blk (γ' k)=B g->∀o,¬S2 g o:=by
     intro k b hk hb nh g hg o;have ib:(σ'.upd u').bx k = .live b:=(pH _ _ hk).trans hb;have cY:=cU.box k b ib;rcases nh with⟨ls,rfl⟩|⟨e,t,xs,rfl⟩
     .obtain⟨g',cur,e,az,_,_,_,hS,_⟩:=cY;rw[az]at hg;simp[blk]at hg;subst hg;exact hS rfl o
     .exact(cY.2 g hg).1 rfl o
    have fU:=r2 S2 cZ sM (λj x v g hx hv hr On hg=>by
     obtain⟨b,hb,hu⟩:=On;have hp:parK E.np ((0+j)*64)=true:=by refine(hR.par ((0+j)*64) v ?_).1;simp only[rX,E6];rw[if_pos aa,yw _ aa,ki,hx];simp[hr,hv]
     exact qM ((0+j)*64) b (mj _ hp) hb hu g (by rw[dJ j x v hx hv hr];exact hg))
    have dQ:One z:=kO.2 (by rintro rfl;simp[hdOf]at hm)
    have sR:∃ad len cap,v0 = .slice ad len cap/\m<=len/\z = .slice ad m cap:=by
     unfold hdOf at hm;split at hm
     .split at hm
      .rename_i e1 t1 IF hb;split at hm
       .simp at hm
       .rename_i cG;simp only[j5]at hm;subst hm;obtain⟨css,aZ,_⟩:=kA (by simpa using cG) (hR.box 0 _ hb);have vA:=kO.1.2.2 _ hb;rcases aZ.2 with⟨hg,hn⟩|⟨g,cap,cur,hg,_⟩
        .exact⟨Â,0,0,by rw[<-h0,hg],aa,by rw[vA,hg,hn]⟩
        .exact⟨_,_,cap,by rw[<-h0,hg],jv _,by rw[vA,hg]⟩
      .simp at hm
     .split at hm
      .rename_i i e1 t1 IF hb;simp only[j5]at hm;subst hm;obtain⟨_,hi,ad,cap,hg,vA⟩:=kO.1.2.2 _ hb;exact⟨ad,_,cap,by rw[<-h0,hg],hi,vA⟩
      .simp at hm
     .simp at hm
    have aP:(results fn a'.tmps).run P w' = .ok (uq [z]) w':=by
     have hm:=Oc (P:=P) (w:=w') (rs:=[r0]) (zs:=[z]) (λr=>((match r with
      |.tmp t=>pure (a'.tmps.getD t undef)
      |.cell x t=>do loadVar t (<-asAddr (a'.tmps.getD x undef)):Sem À))) ⟨hz,trivial⟩
     unfold results;rw[ä,nA];simp only[ó,Sem.run_map]
     erw [hm]
     simp only[â,ô];exact js (Result.ok · w') (XI [z])
    refine⟨uq [z],aP,⟨[.hd m],os⟩,hk,uq [z],S2,[z],rfl,⟨rfl,⟨dQ,trivial⟩,λg hg=>by simp[gZ,nW]at hg,by simp[gZ,nW],fU,λg o hs=>⟨cU.ext g o hs,?_⟩,λg o h=>(cU.new g o h).imp id (λh=>h.imp id And.left),cU.here,cU.below,cU.grow,cU.os,cU.tape,cU.output,?_⟩⟩
    .refine È (cU.below g (hS g o hs) (λhm=>?_));obtain⟨i,x,v,hx,hv,hb⟩:=Oj hm;obtain⟨v',ig,Oo⟩:=ha.get i x hx;rw[hv]at ig;simp at ig;subst ig;exact XH Oo hb o hs
    .intro m' lL;have:m'=m:=by simpa using lL.symm
     subst this;obtain⟨ad,len,cap,h1,h2,h3⟩:=sR;exact⟨ad,len,cap,by rw[h1];rfl,h2,by rw[h3]⟩
   .simp at dr
  .simp at dr
 .simp at dr
theorem Oq{P:Å}{fn:Func}{n:G}{R:Ending->Y->Prop}:∀(ds:U Deferred){refs:Refs}{σ:St}{a:Á}{w:Y}{S:aU}{γ:G->À},refs.ds=ds->An w0 refs->Rel N np S0 w0 refs σ a w S γ->
  (∀w2,Rel N np S0 w0 ⟨refs.blks,refs.val,[],λ_=>Â,λ_=>Â,refs.mv⟩ σ { a with defers:=[] } w2 S γ->LeavesIn (FR Â) n P fn a.tmps R [] .returning w2)->LeavesInM (FR Â) n P fn a.tmps R ds .returning w
 |[],refs,σ,a,w,S,γ,hd,hm,hR,h=>h w (hR.swap rfl rfl hR.size rfl hR.slot (λg o h=>by simp at h) (λi v h=>by simp at h))
 |d::ds,refs,σ,a,w,S,γ,hd,hm,hR,h=>by
  obtain⟨fN,aC⟩:=hm;rw[hd]at fN;obtain⟨D,rfl,h1,h2⟩:=aC d (by rw[hd];simp);refine⟨ae,.inl ⟨D,_,rfl,run_takeDeferred (hR.kept D _ h2).1,?_⟩⟩;have bO:=hR.putO (o':= .deferred Â) h2 h1 rfl rfl
  have cU:=bO.swap (a':={ a with defers:=ds }) (refs':=⟨refs.blks,refs.val,ds,λg=>if g=D then Â else refs.kw g,refs.fix,refs.mv⟩) rfl rfl hR.size rfl bO.slot (λg o hg=>bO.kept g o (by
   simp only at hg ⊢;split at hg
   .simp at hg
   .rename_i e;rw[if_neg e];exact hg)) bO.fix
  refine Oq (a:={ a with defers:=ds }) (refs:=⟨refs.blks,refs.val,ds,λg=>if g=D then Â else refs.kw g,refs.fix,refs.mv⟩) ds rfl ⟨(qh.1 fN).2,λd' gU=>?_⟩ cU (λw2 hw=>h w2 hw);obtain⟨D',rfl,q1,q2⟩:=aC d' (by rw[hd];simp[gU]);refine⟨D',rfl,q1,?_⟩;show (if D'=D then Â else refs.kw D')=_;rw[if_neg,q2]
  rintro rfl
  exact(qh.1 fN).1 gU
theorem XJ{P:Å}{E:Env}(hT:cT P E.T)(hC:kF P E.C)(hF:CFun E.C)(ir:P.follows .mixedOrders=X){f:G}{fn:Func}{c:Õ}(hf:P.funcs[f]? = B fn)(hb:fn.body=B c)(hN:fn.ntmps=E.N.n)(mq:E.N.pin=λ_=>O)(iZ:∀f t,E.bw f=B t->BwK P f t)(nB:E.np<=E.N.n)
  (cG : (fn.name == "runtime.NumGoroutine") = O) (hL : ∀ x ∈ gk 0 c, EG E x.1 x.2 ∧ MrOK E x.1 x.2) : FnOK P f (fun args _ k => uX E fn args k) := by
 intro args R k r h;refine⟨⟨fn,hf,by rw[hb];rfl,cG⟩,?_⟩;intro w S vals ha fN hS;by_cases hlen:args.length=E.np
 case neg=>simp[uX,hlen]at h
 case pos=>
 simp only[uX,hb,hlen,if_true]at h;have xc:vals.length=E.np:=by rw[<-ha.length,hlen]
 obtain⟨hR0,jO⟩:=jCA (N:=E.N) ha fN hS hlen nB;refine jFb (n:=0) (ro:=Â) (callsIn_of_wp_marks hf hb trivial ?_);rw[hN];refine wpIn_mono (jy3 ir c (ro:=Â) hT hC hF iZ (.inr ⟨rfl,mq⟩) 0 0 ⟨vc,λd hd=>by simp[rX]at hd⟩ hL hR0 jO h) ?_
 rintro e a0 w1 ⟨refs',ex,σ',S',γ',hle,_,rfl,bO,gz,hk⟩
 have fg:∀(hk:(match yU E fn args σ' with|some r=>k r|none=>Â)=B r)(w':Y),Rel E.N E.np S w ⟨refs'.blks,refs'.val,[],λ_=>Â,λ_=>Â,refs'.mv⟩ σ' { a0 with defers:=[] } w' S' γ'->∃v,(results fn a0.tmps).run P w' = .ok v w'/\
   ∃ret,k ret=B r/\∃v' S' vs,Þ v = .returned v'/\MR w S args vals ret v' w' S' vs:=by
  intro hk w' hR;have hR:Rel E.N E.np S w (rX args vals) σ' { a0 with defers:=[] } w' S' γ':=hR.swap hle.blks.symm hle.val.symm hR.size rfl hR.slot (λg o h=>by simp[rX]at h) (λi v h=>by simp[rX]at h) hle.mv.symm;generalize CI:({ a0 with defers:=[] }:Á)=a' at hR;have qN:a0.tmps=a'.tmps:=by rw[<-CI]
  rw[qN];cases dr:yU E fn args σ' with
  |none=>simp[dr]at hk
  |some ret=>
  simp only[dr]at hk;by_cases tn:E.hd=X
  .exact jGo hT hR ha hS tn dr hk
  have AA:∃vs ks u os u',uW E σ' E.ro fn.results.toList fn.resultTypes.toList=B (vs,ks,u)/\outs E.np σ' 0 args=B (os,u')/\
    rA ks=X/\(u++u').all (λe=> !ks.contains e.1)=X/\∃mG,nilV E σ' fn.results.toList vs=B mG/\ret=⟨mG,os⟩:=by
   unfold yU at dr;rw[if_neg tn]at dr;split at dr
   .rename_i vs ks u os u' mL rP;split at dr
    .rename_i dR;split at dr
     .rename_i mG AB;simp only[j5]at dr;simp only[jd]at dR;exact⟨vs,ks,u,os,u',mL,rP,dR.1,dR.2,mG,AB,dr.symm⟩
     .simp at dr
    .simp at dr
   .simp at dr
  obtain⟨vs,ks,u,os,u',mL,rP,ug,zV,mG,AB,rfl⟩:=AA;obtain⟨zs,kE,f1,p1,n1,r1⟩:=XF hT hR mL;have fF:(∀S' w',All2 (rO S' w') vs zs->All2 (rO S' w') mG zs)/\gZ mG zs=gZ vs zs/\∀m,mG=[.hd m]->vs=[.hd m]:=jCB hT hR kE AB;have dJ:∀(j:G)(x:Arg)(v:À),args[j]? = B x->vals[j]? = B v->Az x=X->γ' ((0+j)*64)=v:=by intro j x v hx hv hr;refine(hR.par ((0+j)*64) v ?_).2.2;simp only[rX,E6];rw[if_pos aa,yw _ aa,ki,hx];simp[hr,hv]
  obtain⟨f2,r2⟩:=Oe hR rP ha.length dJ;obtain⟨S2,cU,cZ,sM,dZ⟩:=qJ (u++u') σ' S' hR (FrzL.app.2 ⟨f1,f2⟩);obtain⟨Ot,Ou⟩:=Froz.app.1 sM
  have qM:∀k b,(u++u').any (λy=>y.1==k)=O->σ'.bx k = .live b->Uns b->∀g,blk (γ' k)=B g->∀o,¬S2 g o:=by
   intro k b hk hb nh g hg o;have ib:(σ'.upd (u++u')).bx k = .live b:=(pH _ _ hk).trans hb;have cY:=cU.box k b ib;rcases nh with⟨ls,rfl⟩|⟨e,t,xs,rfl⟩
   .obtain⟨g',cur,e,az,_,_,_,hS,_⟩:=cY;rw[az]at hg;simp[blk]at hg;subst hg;exact hS rfl o
   .exact(cY.2 g hg).1 rfl o
  have wh:∀k∈ks,(u++u').any (λy=>y.1==k)=false:=by intro k hk;rw[qz];intro y hy he;have:=jz.1 zV y hy;simp only[zi]at he;rw[he]at this;simp[hk]at this
  have mj:∀k,parK E.np k=X->(u++u').any (λy=>y.1==k)=false:=by intro k hk;rw[qz];intro y hy he;simp only[zi]at he;have:=(FrzL.app.2 ⟨f1,f2⟩ y hy).1;rw[he,hk]at this;simp at this
  have Fa:=r1 S2 cZ Ot (λk hk g hg=>by
   obtain⟨⟨b,hb,hu⟩,_⟩:=p1 k hk;exact qM k b (wh k hk) hb hu g hg)
  have fU:=r2 S2 cZ Ou (λj x v g hx hv hr On hg=>by
   obtain⟨b,hb,hu⟩:=On;have hj:j<args.length:=(jy.1 hx).1;exact qM ((0+j)*64) b (mj _ (by simp[parK];omega)) hb hu g (by rw[dJ j x v hx hv hr];exact hg))
  have aP:(results fn a'.tmps).run P w' = .ok (uq zs) w':=by
   have hm:=Oc (P:=P) (w:=w') _ kE;unfold results;rw[ä];simp only[ó,Sem.run_map]
   erw [hm]
   simp only[â,ô];exact js (Result.ok · w') (XI zs)
  have hnh:∀m,mG=[.hd m]->∃ad len cap,IH args vals=B (.slice ad len cap)/\m<=len/\zs=[.slice ad m cap]:=λm hm=>by
   exact absurd (fF.2.2 m hm) (jqT mL m)
  refine⟨uq zs,aP,⟨mG,os⟩,hk,uq zs,S2,zs,rfl,⟨rfl,fF.1 _ _ Fa,λg hg=>?_,?_,fU,λg o hs=>⟨cU.ext g o hs,?_⟩,λg o h=>(cU.new g o h).imp id (λh=>h.imp id And.left),cU.here,cU.below,cU.grow,cU.os,cU.tape,cU.output,hnh⟩⟩
  .rw[fF.2.1,n1]at hg;obtain⟨k,bQ,hkg⟩:=v8.1 hg;obtain⟨⟨b,hb,_⟩,hp⟩:=p1 k bQ;rcases hR.own k b g hb hkg with h|h
   .exact h.imp id And.left
   .rw[hp]at h;simp at h
  .rw[fF.2.1,n1];exact MS hR (D4 ug) (λk bQ=>by obtain⟨⟨b,hb,_⟩,_⟩:=p1 k bQ;exact⟨b,hb⟩)
  .refine È (cU.below g (hS g o hs) (λhm=>?_));obtain⟨i,x,v,hx,hv,hb⟩:=Oj hm;obtain⟨v',ig,Oo⟩:=ha.get i x hx;rw[hv]at ig;simp at ig;subst ig;exact XH Oo hb o hs
 cases ex with
 |exit i=>simp at hk
 |normal=>exact Oq a0.defers bO.defers.symm hle.marks bO (λw2 hw=>fg hk w2 hw)
 |ret=>exact Oq a0.defers bO.defers.symm hle.marks bO (λw2 hw=>fg hk w2 hw)
end
section
variable{E:Env}
def LFun(L:G->Snap->(R:Type)->(Ex->Snap->H R)->H R):Prop:=
 ∀b s,∃o:H (Ex×Snap),∀(R:Type)(k:Ex->Snap->H R),L b s R k=o.bind λx=>k x.1 x.2
def MFun(M:G->Snap->(R:Type)->(Snap->H R)->H R):Prop:=∀b s,∃o:H Snap,∀(R:Type)(k:Snap->H R),M b s R k=o.bind k
def Det{α:Type}(f:(R:Type)->(α->H R)->H R):Prop:=∃o:H α,∀(R:Type)(k:α->H R),f R k=o.bind k
theorem Det.val{α:Type}(x:α):Det (λ_ k=>k x):=⟨B x,λ_ _=>rfl⟩
theorem Det.no{α:Type}:Det (λR (_:α->H R)=>Â):=⟨Â,λ_ _=>rfl⟩
theorem Det.cond{α:Type}{f g:(R:Type)->(α->H R)->H R}(b:Ç)(h:Det f)(h':Det g):Det (λR k=>cond b (f R k) (g R k)):=by
 cases b with
 |true=>exact h
 |false=>exact h'
theorem Det.bind{α β:Type}{f:(R:Type)->(α->H R)->H R}{g:α->(R:Type)->(β->H R)->H R}(h:Det f)(h':∀a,Det (g a)):Det (λR k=>f R λa=>g a R k):=by
 obtain⟨o,ho⟩:=h;cases o with
 |none=>exact⟨Â,λR k=>ho R _⟩
 |some a=>obtain⟨o',uB⟩:=h' a;exact⟨o',λR k=>(ho R _).trans (uB R k)⟩
theorem Det.congr{α:Type}{f g:(R:Type)->(α->H R)->H R}(h:Det f)(e:∀R k,g R k=f R k):Det g:=by
 obtain⟨o,ho⟩:=h;exact⟨o,λR k=>(e R k).trans (ho R k)⟩
theorem Ji(hF:CFun E.C)(hz:E.nz=O)(p:Ç)(σ:St)(act:U (G×Ç))(o:Æ):Det (λR (k:St->H R)=>run1 E p σ act o k):=by
 unfold run1;simp only[hz,j7];split
 .exact .no
 .exact .cond _ (.val _) .no
 .rename_i f args mk _;refine Det.bind (f:=λR k=>E.C f args R k) (hF f args) λret=>?_;split
  .exact .val _
  .exact .no
theorem XK:∀(l:U (G×Ç))(σ:St),Det (λR (k:St×Ç->H R)=>wS l σ λa b=>k (a,b))
 |[],σ=> .val _
 |(s,w)::r,σ=>by
  simp only[wS]
  refine(Det.bind (XK r σ) (g:=λx R k=>match x.2 with
   |true=>match L9 r x.1 s with
    |some v=>cond v (k (x.1.setS s (.one (.one (.d .bool X))),w)) (k (x.1.setS s (.one (.one (.d .bool O))), !w))
    |none=>Â
   |false=>k (x.1,O)) λx=>?_).congr λR k=>rfl
  obtain⟨σ1,a⟩:=x;cases a with
  |true=>
   dsimp only
   split
   .exact .cond _ (.val _) (.val _)
   .exact .no
  |false=>exact .val _
theorem jzT(hF:CFun E.C)(hz:E.nz=O)(ops:Ã Æ)(σ:St)(o:Æ):Det (λR (k:St->H R)=>Du E ops σ o k):=by
 unfold Du;split
 .split
  .exact Ji hF hz _ _ _ _
  .exact .no
 .rename_i g _
  have sk:Det (λR (k:St->H R)=>wS (σ.chain 40 g) σ λσ' a=>match a with
    |true=>run1 E X σ' (σ.chain 40 g) o k
    |false=>k (σ'.put o.dst (.one (.one .dead)))):=by
   refine(Det.bind (XK (σ.chain 40 g) σ) (g:=λx R k=>match x.2 with
    |true=>run1 E X x.1 (σ.chain 40 g) o k
    |false=>k (x.1.put o.dst (.one (.one .dead)))) λx=>?_).congr λR k=>rfl
   obtain⟨σ1,a⟩:=x;cases a with
   |true=>exact Ji hF hz _ _ _ _
   |false=>exact .val _
  dsimp only
  split
  .split
   .exact .cond _ (.val _) .no
   .exact sk
  .exact sk
theorem Jj(hF:CFun E.C)(hz:E.nz=O):∀(l:U Æ)(σ:St),Det (λR (k:St->H R)=>nO E l σ k)
 |[],σ=> .val _
 |o::os,σ=>by
  simp only[nO];split
  .exact Det.bind (Ji hF hz O σ [] o) λσ'=>Jj hF hz os σ'
  .exact .no
theorem XL(hF:CFun E.C)(hz:E.nz=O)(ops:Ã Æ):∀(l:U Æ)(σ:St),Det (λR (k:St->H R)=>BU E ops l σ k)
 |[],σ=> .val _
 |o::os,σ=>by
  simp only[BU];split
  .exact Det.bind (jzT hF hz ops σ o) λσ'=>XL hF hz ops os σ'
  .exact .no
theorem juR(hF:CFun E.C)(hz:E.nz=O)(ops:Ã Æ)(σ:St):Det (λR (k:St->H R)=>rB E ops σ k):=by
 unfold rB;split
 .exact Jj hF hz _ _
 .exact XL hF hz _ _ _
theorem XM(hF:CFun E.C)(hz:E.nz=O)(σ:St)(o:Æ):Det (λR (k:St->H R)=>runK E σ o k):=by
 unfold runK;split
 .rename_i c σ' _;exact .cond c (.val σ') .no
 .exact Ji hF hz O σ [] o
theorem Ov(hF:CFun E.C)(hz:E.nz=O):∀(l:U Æ)(σ:St),Det (λR (k:St->H R)=>uR E l σ k)
 |[],σ=> .val σ
 |[o],σ=>by
  simp only[uR];split
  .exact XM hF hz σ o
  .exact .no
 |o::o2::os,σ=>by
  simp only[uR];split
  .split
   .split
    .exact .cond _ (Ov hF hz os _) .no
    .exact .no
   .exact Det.bind (XM hF hz σ o) λσ'=>Ov hF hz (o2::os) σ'
  .exact .no
theorem jzU(hF:CFun E.C)(hz:E.nz=O)(ops:Ã Æ)(σ:St):Det (λR (k:St->H R)=>Dv E ops σ k):=by
 unfold Dv;split
 .exact Ov hF hz _ _
 .exact .no
theorem Ow(hF:CFun E.C)(hz:E.nz=O)(M Ai:U G)(σ:St)(o:Æ):Det (λR (k:St->H R)=>runD E M Ai σ o k):=by
 unfold runD;split
 .exact .no
 .split
  .exact .cond _ (.val _) .no
  .exact .no
 .rename_i f args mk _;refine Det.bind (f:=λR k=>E.C f args R k) (hF f args) λret=>?_;split
  .split
   .exact .val _
   .exact .no
  .exact .no
theorem jy4(hF:CFun E.C)(hz:E.nz=O)(ops:Ã Æ)(M Ai:U G)(σ:St)(o:Æ):Det (λR (k:St->H R)=>Dy E ops M Ai σ o k):=by
 unfold Dy;split
 .exact Ow hF hz _ _ _ _
 .split
  .split
   .exact .cond _ (.cond _ (Ow hF hz _ _ _ _) (.val _)) (.cond _ (.val _) (Ow hF hz _ _ _ _))
   .exact .val _
   .exact .no
  .exact .no
theorem XN(hF:CFun E.C)(hz:E.nz=O)(ops:Ã Æ)(cl:U G)(A:U (U G)):∀(l:U Æ)(i:G)(σ:St),Det (λR (k:St->H R)=>BV E ops cl A l i σ k)
 |[],_,σ=> .val _
 |o::os,i,σ=>by
  simp only[BV];split
  .exact Det.bind (jy4 hF hz ops _ _ σ o) λσ'=>XN hF hz ops cl A os (i+1) σ'
  .exact .no
theorem jsY(hF:CFun E.C)(hz:E.nz=O)(ops:Ã Æ)(A:U (U G))(σ:St):Det (λR (k:St->H R)=>Dz E ops A σ k):=by
 unfold Dz;split
 .exact XN hF hz _ _ _ _ _ _
 .exact .no
theorem jy5(hF:CFun E.C)(hz:E.nz=O)(hM:MFun E.M)(x y:Õ)(σ:St):Det (λR (k:Ex×St->H R)=>DF E x y σ λe σ'=>k (e,σ')):=by
 unfold DF;split
 .rename_i b _;split
  .split
   .refine .cond _ (Det.bind (Jj hF hz _ σ) λσ1=>?_) .no;unfold mrGo;split
    .refine .cond _ ?_ .no;split
     .rename_i s _;obtain⟨o,ho⟩:=hM b s;exact Det.bind (f:=λR k=>E.M b s R k) ⟨o,λR k=>ho R _⟩ (g:=λs' R k=>k (Ex.normal,cX E.np (E.keep b) s')) λz=> .val (Ex.normal,cX E.np (E.keep b) z)
     .exact .no
    .exact .no
   .exact .no
  .exact .no
 .exact .no
theorem Fb(hF:CFun E.C)(hz:E.nz=O)(hL:LFun E.L/\MFun E.M):∀(c:Õ)(b:G)(σ:St),Det (λR (k:Ex×St->H R)=>gp E b c σ λe σ'=>k (e,σ')):=by
 intro c;induction c with
 |skip=>intro b σ;exact .val _
 |region id ops draw=>
  intro b σ;cases draw with
  |true=>exact Det.bind (jsY hF hz ops (E.dw id) σ) λσ'=> .val (Ex.normal,σ')
  |false=>exact .cond _ (Det.bind (jzU hF hz ops σ) λσ'=> .val (Ex.normal,σ')) (Det.bind (juR hF hz ops σ) λσ'=> .val (Ex.normal,σ'))
 |seq x y s7 s9=>
  intro b σ;simp only[gp];refine .cond _ (jy5 hF hz hL.2 x y σ) ?_
  refine(Det.bind (s7 b σ) (g:=λz R k=>match z.1 with
   |.normal=>gp E b y z.2 λe σ'=>k (e,σ')
   |e=>k (e,z.2)) λz=>?_).congr λR k=>by
    congr 1
    try (funext e σ';cases e<;>rfl)
  obtain⟨e,σ'⟩:=z;cases e with
  |normal=>exact s9 b σ'
  |exit i=>exact .val _
  |ret=>exact .val _
 |cond c x y s7 s9=>
  intro b σ;simp only[gp];split
  .exact .cond _ (s7 b σ) (s9 b σ)
  .exact .no
 |block id c ih=>
  intro b σ
  refine(Det.bind (ih id σ) (g:=λz R k=>match z.1 with
   |.exit i=>if i=id then k (.normal,z.2) else k (.exit i,z.2)
   |e=>k (e,z.2)) λz=>?_).congr λR k=>by
    simp only[gp];congr 1;try (funext e σ';cases e<;>rfl)
  obtain⟨e,σ'⟩:=z;cases e with
  |normal=>exact .val _
  |exit i=>
   dsimp only
   split
   .exact .val _
   .exact .val _
  |ret=>exact .val _
 |loop c ih=>
  intro b σ;simp only[gp];refine .cond _ .no ?_;split
  .rename_i s _;obtain⟨o,ho⟩:=hL.1 b s;exact Det.bind (f:=λR k=>E.L b s R λe s'=>k (e,s')) ⟨o,λR k=>ho R _⟩ (g:=λz R k=>k (z.1,cX E.np (E.keepX b z.1) z.2)) λz=> .val _
  .exact .no
 |rangeFunc g ps x y _ _=>
  intro b σ;simp only[gp];split
  .split
   .rename_i kd _;split
    .rename_i s _;obtain⟨o,ho⟩:=hL.1 b (.s (.one (.d (.int .i64) (DC kd (à _))))::s);exact Det.bind (f:=λR k=>E.L b _ R λe s'=>k (e,s')) ⟨o,λR k=>ho R _⟩ (g:=λz R k=>k (z.1,cX E.np (E.keepX b z.1) z.2)) λz=> .val _
    .exact .no
   .exact .no
  .exact .no
 |scope c ih=>intro b σ;exact ih b σ
 |label l=>intro b σ;exact .val _
 |exit i=>intro b σ;exact .val _
 |ret=>intro b σ;exact .val _
 |_=>intro b σ;exact .no
theorem juS(hF:CFun E.C)(hz:E.nz=O)(hL:LFun E.L/\MFun E.M)(b:G)(g:Û)(ps:Ã G)(x y:Õ)(s:Snap) :
  Det (λR (k:H (U Item)×Ex×St->H R)=>DG E b g ps x y s λp e σ'=>k (p,e,σ')):=by
 unfold DG;split
 .rename_i n s0;split
  .split
   .rename_i kd _;refine .cond _ (.val _) (.cond _ ?_ .no)
    refine(Det.bind (Fb (E:=E.rnd ps x y) hF hz hL x 0 _) (g:=λz R k=>match z.1 with
     |.normal=>gp (E.rnd ps x y) 0 y z.2 λe σ'=>k (B [.s (.one (.d (.int .i64) (DD kd n)))],e,σ')
     |_=>Â) λz=>?_).congr λR k=>by
      congr 1
      try (funext e σ';cases e<;>rfl)
    obtain⟨e,σ'⟩:=z;cases e with
    |normal=>exact Det.bind (Fb (E:=E.rnd ps x y) hF hz hL y 0 σ') λz=> .val (_,z)
    |exit i=>exact .no
    |ret=>exact .no
   .exact .no
  .exact .no
 .exact .no
theorem jy6(hF:CFun E.C)(hz:E.nz=O)(hL:LFun E.L/\MFun E.M)(b:G)(p:MrP)(m:G)(s:Snap)(v:Ty)(q:Î)(z:v.den):Det (λR (k:Snap->H R)=>B2 E b p m s v q z k):=by
 unfold B2;refine Det.bind (Jj (E:=E.mrE p.it m) hF hz _ _) λσ1=>?_
 refine(Det.bind (Fb (E:=E.mrE p.it m) hF hz hL p.rest p.b6 σ1) (g:=λz R k=>cond (mrNx p.b6 z.1) (match jL E.np (E.keep b) z.2 with
  |some s'=>k s'
  |none=>Â) Â) λz=> .cond _ ?_ .no).congr λR k=>rfl
 split
 .exact .val _
 .exact .no
theorem jy7(hF:CFun E.C)(hz:E.nz=O)(hL:LFun E.L/\MFun E.M)(fn:Func)(args:U Arg):Det (λR (k:Ret->H R)=>uX E fn args k):=by
 unfold uX;split
 .split
  .rename_i c _
   refine(Det.bind (Fb hF hz hL c 0 (St.init args)) (g:=λz R k=>match z.1 with
    |.exit _=>Â
    |_=>match yU E fn args z.2 with
     |some r=>k r
     |none=>Â) λz=>?_).congr λR k=>rfl
   obtain⟨e,σ'⟩:=z;cases e<;>dsimp only<;>(try split)<;>first|exact .no|exact .val _
  .exact .no
 .exact .no
end
end Go.Lft
