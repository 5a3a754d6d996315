/- Hv: what Mg do is what the o5 says. -/
import Derived.Test.YtmccfdihkphfaaaGreatRELB
import Derived.Laws.Cover3
import Derived.RangeFuncNested
import Derived.OrdersIn
import Derived.Maps.Range
open Option renaming some->B,none->Â
open _root_ renaming Nat->G,List->H,Option->O,Array->Ã,Bool->Æ,Int->Ù
open Bool renaming false->U,true->X,not_eq_true->Û
open Go renaming Value->Y,World->Z,Act->À,Program->Á,Oper->Ä,ResultVar->Í,Exit->Ò,Code->Ó,Operand->Õ,MapEntry->ì,LetsOut->ñ,CallsIn->û,Calls->ÿ
open Go.Region renaming wanted->Å,ready->í
open Go.World renaming cell?_of_block->Ç,putObj_heap_other->È,putObj_heap_same->ß,alloc_heap_new->ç,cell?_alloc_lt->è
open List renaming drop_of_length_le->É,getD_eq_getElem?_getD->Ê,getElem?_append_left->Ì,zip_cons_cons->Ú,of_mem_zip->à,length->á,range_eq_range'->å,getElem?_zipIdx->æ,map_congr_left->é,range'->ð,idxOf?_cons->ò,flatMap_def->ó,map_map->ý
open Go.Value renaming int->Ë
open Array renaming mapM_eq_mapM_toList->Î,replicate->Ø,getElem?_eq_none->Þ,getElem_mem->ï
open Go.Oper renaming upon_enter->Ï,wp->Ô,upon_value->Ö,upon_skip->ã
open Go.Ending renaming returned->Ð
open Go.Result renaming andThen_ok->Ñ
open Go.Sem renaming run_bind->Ü,run_pure->Ý,run_map->õ
open Nat renaming eq_of_beq_eq_true->â,lt_succ_self->ô,strongRecOn->ö
open Go.Instr renaming sureAddr->ä,loadAt->î,endRound->ù
set_option linter.unusedVariables false
namespace Go.Lft
section
variable{N:NT}{np:G}{S0:aY}{w0:Z}{refs:Refs}{σ:St}{a:À}{w:Z}{S:aY}{γ:G->Y}
def dq(σ:St):Prop:=∀i,(σ.sl i).bare=X
theorem uJ{d:G}(hd:d<a.tmps.size)(v:Y)(j:G):tm (a.put (B d) v) j=if j=d then v else tm a j:=by
 unfold tm Go.Act.put;by_cases h:j=d
 .subst h;simp[hd]
 .have h':d≠j:=λe=>h e.symm;simp[h,Array.getElem?_setIfInBounds_ne h']
theorem Vj{bx:G->BS}{d:G}(hd:d<a.tmps.size){v u:Y}{x:Slot}(h:iA S w γ bx (tm a) x u):iA S w γ bx (tm (a.put (B d) v)) (kill d x) u:=by
 cases x with
 |one c=>exact h
 |tup l=>exact h
 |und=>exact h
 |cnd s b c=>
  simp only[kill];split
  .exact⟨trivial,λh=>absurd rfl h⟩
  .rename_i br;simp only[iA,uJ hd,if_neg br];exact h
theorem D1(dst:O G)(v:Y):(a.put dst v).tmps.size=a.tmps.size:=by cases dst<;>simp[Go.Act.put]
theorem D2(dst:O G)(v:Y):(a.put dst v).defers=a.defers:=by cases dst<;>rfl
theorem D3(hR:Rel N np S0 w0 refs σ a w S γ){dst:O G}(hd:∀d,dst=B d->N.ok d){s:Slot}{v:Y}(hs:iA S w γ σ.bx (tm a) s v) :
  Rel N np S0 w0 refs (σ.put dst s) (a.put dst v) w S γ:=by
 cases dst with
 |none=>exact hR
 |some d=>
  have h9:d<a.tmps.size:=by rw[hR.size];exact(hd d rfl).1
  refine⟨(D1 _ _).trans hR.size,(D2 _ _).trans hR.defers,λi=>?_,hR.box,hR.own,hR.apart,hR.ext,hR.new,hR.here,hR.below,hR.grow,hR.os,hR.tape,hR.output,hR.par,hR.kept,λi u h=>?_⟩
  .show iA S w γ σ.bx (tm (a.put (B d) v)) (kill d (if i=d then s else σ.sl i)) (tm (a.put (B d) v) i);rw[uJ h9];split
   .exact Vj h9 hs
   .exact Vj h9 (hR.slot i)
  .obtain⟨h1,h2⟩:=hR.fix i u h;refine⟨h1,?_⟩;show tm (a.put (B d) v) i=u;rw[uJ h9,if_neg]
   .exact h2
   .rintro rfl
    have:=(hd i rfl).2;rw[h1]at this;simp at this
theorem Vk{d:G}{x:Slot}(h:x.bare=X):kill d x=x:=by cases x<;>first|rfl|simp[Slot.bare]at h
theorem D4(hR:Rel N np S0 w0 refs σ a w S γ)(hc:dq σ){dst:O G}(hd:∀d,dst=B d->N.ok d){s:Slot}{v:Y}(hs:iA S w γ σ.bx (tm a) s v)(hb:s.bare=X) :
  Rel N np S0 w0 refs (σ.setD dst s) (a.put dst v) w S γ/\dq (σ.setD dst s):=by
 have he:σ.setD dst s=σ.put dst s:=by
  cases dst with
  |none=>rfl
  |some d=>
   simp only[St.setD,St.setS,St.put];congr 1;funext j;split
   .exact(Vk hb).symm
   .exact(Vk (hc j)).symm
 refine⟨he▸D3 hR hd hs,λi=>?_⟩;cases dst with
 |none=>exact hc i
 |some d=>
  simp only[St.setD,St.setS];split
  .exact hb
  .exact hc i
theorem yG{o:Ä}(h:mF N o=X):∀d,o.dst=B d->N.ok d:=by
 intro d hd;simpa[mF,hd,NT.ok]using h
theorem Vl{u:Ups}(h:dq σ):dq (σ.upd u):=by
 intro i;rw[uf];exact h i
theorem jwX{P:Á}{E:Env}(hT:cJ P E.T)(hR:Rel E.N E.np S0 w0 refs σ a w S γ){o:Ä}{e:Æ}(h:nilT E σ o=B e) :
  ∃v b,(execOp a.eval o).run P w = .ok (.value v) w/\v = .bool b/\(b=X->e=X):=by
 unfold nilT at h;split at h
 .rename_i t x y ty cj;split at h
  .rename_i el xs ti hx hy Bj;split at h
   .rename_i hl;simp only[j5]at h;subst h;have ex:=mI hR x;have ey:=mI hR y;rw[hx]at ex;rw[hy]at ey;obtain⟨ad,cap,c9,hlen,_,D5,_⟩:=ex.1;have BK:a.eval x = .slice ad (á xs) cap:=by simpa using c9
    have Mq:a.eval y = .slice Â 0 0:=ey.1;obtain⟨a',bG⟩:=LD hl;obtain⟨hd,_⟩:=nN hT Bj bG;refine⟨.bool ad.isNone,ad.isNone,?_,rfl,λhb=>?_⟩
    .simp only[execOp,cj,BK,Mq,eqGuard,binOp];simp[run_equal_slice_nil w t ti.elem ad (á xs) cap hd]
    .have:ad=none:=by cases ad<;>simp_all
     have:=D5 this;have:á xs=0:=aa;cases xs with
     |nil=>rfl
     |cons=>simp at this
   .simp at h
  .simp at h
 .simp at h
theorem D6{P:Á}{E:Env}(hT:cJ P E.T)(hC:kD P E.C)(hR:Rel E.N E.np S0 w0 refs σ a w S γ){act:H (G×Æ)}(bg:re (tm a) act){p:Æ}
  (hc:p=U->dq σ){o:Ä}(hd:mF E.N o=X){R:Type}{k:St->O R}{r:R}(h:run1 E p σ act o k=B r){next:À->Z->Prop}{Q:Ò->À->Z->Prop}
  (hn:∀σ' a' w' S' γ',Rel E.N E.np S0 w0 refs σ' a' w' S' γ'->(p=U->dq σ')->k σ'=B r->next a' w'):o.wp P a w next Q:=by
 have hd:=yG hd
 have dP:∀(u:Ups)(s:Slot)(v:Y)(w':Z)(S':aY)(γ':G->Y),Rel E.N E.np S0 w0 refs (σ.upd u) a w' S' γ'->iA S' w' γ' (σ.upd u).bx (tm a) s v->s.bare=X->
   k (cond p ((σ.upd u).put o.dst s) ((σ.upd u).setD o.dst s))=B r->next (a.put o.dst v) w':=by
  intro u s v w' S' γ' cT hs hb hk;cases p with
  |true=>exact hn _ _ _ _ _ (D3 cT hd hs) ae hk
  |false=>obtain⟨h1,h2⟩:=D4 cT (Vl (hc rfl)) hd hs hb;exact hn _ _ _ _ _ h1 (λ_=>h2) hk
 unfold run1 at h
 replace h:=TS h
 split at h
 .rename_i e he
  have he:nilT E σ o=B e:=by
   cases hz:E.nz with
   |true=>rw[hz]at he;exact he
   |false=>rw[hz]at he;simp at he
  obtain⟨v,b,aR,rfl,hb⟩:=jwX (P:=P) hT hR he;obtain⟨h1,h2⟩:=ġ h;unfold Ô;rw[aR,Ö];cases b with
  |true=>exact dP [] (.one (.one (.d .bool X))) (.bool X) w S γ hR ⟨rfl,λ_=>rfl⟩ rfl (h2 (hb rfl))
  |false=>exact dP [] (.one (.one (.d .bool U))) (.bool U) w S γ hR ⟨rfl,λ_=>rfl⟩ rfl h1
 split at h
 .simp at h
 .rename_i chk s u ho;cases chk with
  |false=>simp at h
  |true=>
   obtain⟨⟨v,w',S',γ',aR,cT,hs⟩,hb⟩:=Mn hT hR bg (λ_=> .inl rfl) ho;unfold Ô;rcases aR with aR|⟨aR,rfl⟩
   .rw[aR,Ö];exact dP u s v w' S' γ' cT hs hb h
   .rw[aR,ã];exact dP u s undef w' S' γ' cT hs hb h
 .rename_i f args mk ho;obtain⟨hf,ej⟩:=hC f args R _ r h;obtain⟨vals,aR,oh,hb⟩:=Vi hR bg (λ_=> .inl rfl) ho hf ej;unfold Ô;rw[aR,Ï];refine oh.mono ?_
  rintro e w' ⟨ret,hk,ay⟩
  split at hk
  .rename_i s u bR;obtain⟨v,S',γ',rfl,cT,hs⟩:=ay s u bR;exact dP u s v w' S' γ' cT hs (hb ret s u bR) hk
  .simp at hk
theorem Vm{P:Á}{E:Env}(hT:cJ P E.T)(hC:kD P E.C){ops:Ã Ä}(cu:bare ops=X){R:Type}{k:St->O R}{r:R}{Q:Ò->À->Z->Prop}
  (hn:∀σ' a' w' S' γ',Rel E.N E.np S0 w0 refs σ' a' w' S' γ'->dq σ'->k σ'=B r->Q .normal a' w') :
  ∀(n i:G)(σ:St)(a:À)(w:Z)(S:aY)(γ:G->Y),i+n=ops.size->Rel E.N E.np S0 w0 refs σ a w S γ->dq σ->nM E (ops.toList.drop i) σ k=B r->
   wpOps P ops Q (ð i n) a w
 |0,i,σ,a,w,S,γ,hi,hR,hc,h=>by
  rw[É az]at h;exact hn _ _ _ _ _ hR hc h
 |n+1,i,σ,a,w,S,γ,hi,hR,hc,h=>by
  have aq:i<ops.size:=aa;rw[jb (by simpa using aq)]at h;simp only[nM]at h;split at h
  .rename_i hd;have ho:ops[i]? = B ops[i]:=jt aq;simp only[y9,wpOps,ho];have hg:ops[i].guard=none:=by have:=jv.1 cu ops[i] ae;simpa using this
   have hw:Å ops[i] (yielded ops a.tmps)=true:=by simp[Å,hg]
   simp only[hw,if_true];refine .inl (D6 hT hC hR (act:=[]) (λg hg=>by simp at hg) (p:=U) (λ_=>hc) (by simpa using hd) (by simpa using h) (λσ' a' w' S' γ' cT dz hk=>?_));exact Vm hT hC cu hn n (i+1) σ' a' w' S' γ' aa cT (dz rfl) hk
  .simp at h
theorem Hw{ops:Ã Ä}{o:Ä}{g:G×Æ}(h:o9 ops o=B g):Å o (yielded ops a.tmps)=X↔tm a g.1 = .bool g.2:=by
 unfold o9 at h;split at h
 .simp at h
 .rename_i j wn Mr;split at h
  .rename_i oj lv;split at h
   .rename_i s hs;simp only[j5]at h;subst h;simp only[Å,Mr,yielded,lv,j4,hs,tm];cases hq:a.tmps[s]? with
    |none=>
     have:a.tmps.getD s undef=undef:=by simp[hq]
     rw[this];simp[undef]
    |some v=>
     have:a.tmps.getD s undef=v:=by simp[hq]
     rw[this];cases v<;>simp
   .simp at h
  .simp at h
theorem Ms(hR:Rel N np S0 w0 refs σ a w S γ):∀(n:G)(g:G×Æ),tm a g.1 = .bool g.2->re (tm a) (σ.chain n g)
 |0,g,h=>by intro x hx;simp only[St.chain,ki]at hx;subst hx;exact h
 |n+1,g,h=>by
  simp only[St.chain];have hs:=hR.slot g.1;split
  .rename_i s b c hc;rw[hc]at hs
   have h2:tm a s = .bool b:=by
    rcases hs with hs|hs
    .exact hs.1
    .have:tm a g.1=undef:=hs.2;rw[h]at this;simp[undef]at this
   intro x hx;rcases je.1 hx with rfl|hx
   .exact h
   .exact Ms hR n (s,b) h2 x hx
  .intro x hx;simp only[ki]at hx;subst hx;exact h
theorem jyA:∀(n:G)(g:G×Æ),g∈σ.chain n g
 |0,g=>by simp[St.chain]
 |n+1,g=>by simp only[St.chain];split<;>simp
theorem Vn(hR:Rel N np S0 w0 refs σ a w S γ):∀{l:H (G×Æ)}{b:Æ},actB σ l=B b->re (tm a) l->b=X
 |[],b,h,_=>by simp[actB]at h;exact h
 |(s,wn)::r,b,h,ha=>by
  have ht:tm a s = .bool wn:=ha (s,wn) ae;simp only[actB]at h;split at h
  .rename_i v hv
   have hvv:v=wn:=by
    have hs:=hR.slot s;unfold gval at hv;split at hv
    .rename_i v' eL;simp only[j5]at hv;subst hv;rw[eL]at hs;have:tm a s = .bool v':=sX hs;rw[ht]at this;simpa using this.symm
    .rename_i s' b' v' eL;simp only[j5]at hv;subst hv;rw[eL]at hs;rcases hs with hs|hs
     .have:tm a s = .bool v':=sX hs.2;rw[ht]at this;simpa using this.symm
     .have:tm a s=undef:=hs.2;rw[ht]at this;simp[undef]at this
    .simp at hv
   subst hvv;split at h
   .simp only[j5]at h;rw[<-h];cases v<;>rfl
   .split at h
    .rename_i b2 eI;simp only[j5]at h;have:=Vn hR eI (λg hg=>ha g (by simp[hg]));rw[<-h,this];cases v<;>rfl
    .simp at h
  .simp at h
theorem Mt(hR:Rel N np S0 w0 refs σ a w S γ){s:G}{x:Slot}(h:iA S w γ σ.bx (tm a) x (tm a s)):Rel N np S0 w0 refs (σ.setS s x) a w S γ:=by
 refine⟨hR.size,hR.defers,λi=>?_,hR.box,hR.own,hR.apart,hR.ext,hR.new,hR.here,hR.below,hR.grow,hR.os,hR.tape,hR.output,hR.par,hR.kept,hR.fix⟩;simp only[St.setS];split
 .rename_i hi;subst hi;exact h
 .exact hR.slot i
theorem Vo{R:Type}:∀(l:H (G×Æ)){σ:St}{k:St->Æ->O R}{r:R},Rel N np S0 w0 refs σ a w S γ->vT l σ k=B r->
  ∃σ' b,Rel N np S0 w0 refs σ' a w S γ/\k σ' b=B r/\(b=X↔re (tm a) l)
 |[],σ,k,r,hR,h=>⟨σ,X,hR,h,by simp[re]⟩
 |(s,wn)::l,σ,k,r,hR,h=>by
  simp only[vT]at h;obtain⟨σ1,b1,bu,dj,dF⟩:=Vo l hR h;cases b1 with
  |false=>
   refine⟨σ1,U,bu,dj,?_⟩;simp only[ku,false_iff]at dF ⊢
   exactλha=>dF (λg hg=>ha g (by simp[hg]))
  |true=>
   have uK:=dF.1 rfl;simp only at dj;split at dj
   .rename_i v hv
    have ht:tm a s = .bool v:=by
     have hs:=bu.slot s;unfold Li at hv;split at hv
     .rename_i v' eL;simp only[j5]at hv;subst hv;rw[eL]at hs;exact sX hs
     .rename_i s' b' v' eL;split at hv
      .rename_i hm;simp only[j5]at hv;subst hv;rw[eL]at hs;have kO:(s',b')∈l:=by simpa using hm
       have:=uK _ kO;rcases hs with hs|hs
       .exact sX hs.2
       .exact absurd this hs.1
      .simp at hv
     .simp at hv
    have D7:∀b,b=v->Rel N np S0 w0 refs (σ1.setS s (.one (.one (.d .bool b)))) a w S γ:=by
     rintro b rfl
     refine Mt bu ⟨?_,λ_=>?_⟩
     .show Rep S w .bool b [tm a s];rw[ht];rfl
     .rw[ht];rfl
    cases v with
    |true=>
     simp only[j6]at dj;refine⟨_,wn,D7 X rfl,dj,?_⟩;constructor
     .rintro rfl g hg
      rcases je.1 hg with rfl|hg
      .exact ht
      .exact uK g hg
     .intro ha;have:=ha (s,wn) ae;rw[ht]at this;simpa using this.symm
    |false=>
     simp only[j7]at dj;refine⟨_, !wn,D7 U rfl,dj,?_⟩;constructor
     .intro hw g hg;have D8:wn=false:=by simpa using hw
      subst D8;rcases je.1 hg with rfl|hg
      .exact ht
      .exact uK g hg
     .intro ha;have:=ha (s,wn) ae;rw[ht]at this;have:U=wn:=by simpa using this
      rw[<-this];rfl
   .simp at dj
theorem jDI{P:Á}{E:Env}(hT:cJ P E.T)(hC:kD P E.C)(hR:Rel E.N E.np S0 w0 refs σ a w S γ){ops:Ã Ä}{o:Ä}(hd:mF E.N o=X)
  {R:Type}{k:St->O R}{r:R}(h:C4 E ops σ o k=B r){next:À->Z->Prop}{Q:Ò->À->Z->Prop}
  (hn:∀σ' a' w' S' γ',Rel E.N E.np S0 w0 refs σ' a' w' S' γ'->k σ'=B r->next a' w') :
  if Å o (yielded ops a.tmps) then o.wp P a w next Q\/(o.asks P a w/\ñ Q) else next (a.put o.dst undef) w:=by
 have uv:=yG hd;unfold C4 at h;split at h
 .split at h
  .rename_i hg;have hw:Å o (yielded ops a.tmps)=true:=by simp[Å,hg]
   simp only[hw,if_true];exact .inl (D6 hT hC hR (act:=[]) (λg hg=>by simp at hg) (p:=X) ae hd h (λσ' a' w' S' γ' cT _ hk=>hn σ' a' w' S' γ' cT hk))
  .simp at h
 .rename_i g hg;dsimp only at h;have D9:=Hw (a:=a) hg
  have wM:vT (σ.chain 40 g) σ (λσ' a=>match a with
    |true=>run1 E X σ' (σ.chain 40 g) o k
    |false=>k (σ'.put o.dst (.one (.one .dead))))=B r->
    if Å o (yielded ops a.tmps) then o.wp P a w next Q\/(o.asks P a w/\ñ Q) else next (a.put o.dst undef) w:=by
   intro hs;obtain⟨σ',b,cT,hk,hb⟩:=Vo _ hR hs;cases b with
   |true=>have bg:=hb.1 rfl;have hw:=D9.2 (bg g (jyA 40 g));simp only[hw,if_true];exact .inl (D6 hT hC cT bg (p:=X) ae hd hk (λσ' a' w' S' γ' cT _ hk=>hn σ' a' w' S' γ' cT hk))
   |false=>
    have hw:¬Å o (yielded ops a.tmps)=true:=λhw=>by
     have:=hb.2 (Ms hR 40 g (D9.1 hw));simp at this
    simp only[hw];exact hn _ _ _ _ _ (D3 cT uv (s:= .one (.one .dead)) (v:=undef) ⟨trivial,λh=>absurd rfl h⟩) hk
  split at h
  .rename_i chk c ho;split at h
   .rename_i ab cF;by_cases hw:Å o (yielded ops a.tmps)=X
    .have bg:=Ms hR 40 g (D9.1 hw);have:=Vn hR cF bg;subst this;simp only[hw,if_true];cases chk with
     |false=>simp at h
     |true=>
      simp only[jc,Bool.or_false,j6]at h;obtain⟨⟨v,w',S',γ',aR,cT,hs⟩,hb⟩:=Mn hT hR bg (λ_=> .inl rfl) ho;have kP:=D3 cT uv (s:= .cnd g.1 g.2 c) (v:=v) (.inl ⟨D9.1 hw,hs⟩);refine .inl ?_;unfold Ô;rcases aR with aR|⟨aR,rfl⟩
      .rw[aR,Ö];exact hn _ _ _ _ _ kP h
      .rw[aR,ã];exact hn _ _ _ _ _ kP h
    .simp only[hw]
     have hk:k (σ.put o.dst (.cnd g.1 g.2 c))=B r:=by
      cases hc:(chk || !ab) with
      |true=>rw[hc]at h;exact h
      |false=>rw[hc]at h;simp at h
     exact hn _ _ _ _ _ (D3 hR uv (s:= .cnd g.1 g.2 c) (v:=undef) (.inr ⟨λhh=>hw (D9.2 hh),rfl⟩)) hk
   .exact wM h
  .exact wM h
theorem jyC(hR:Rel N np S0 w0 refs σ a w S γ):Rel N np S0 w0 refs σ.clear a w S γ/\dq σ.clear:=by
 refine⟨⟨hR.size,hR.defers,λi=>?_,hR.box,hR.own,hR.apart,hR.ext,hR.new,hR.here,hR.below,hR.grow,hR.os,hR.tape,hR.output,hR.par,hR.kept,hR.fix⟩,λi=>?_⟩
 .have:=hR.slot i;simp only[St.clear];cases hs:σ.sl i with
  |one c=>rw[hs]at this;exact this
  |tup l=>rw[hs]at this;exact this
  |und=>rw[hs]at this;exact this
  |cnd s b c=>exact⟨trivial,λh=>absurd rfl h⟩
 .simp only[St.clear];cases σ.sl i<;>rfl
theorem Vp{P:Á}{E:Env}(hT:cJ P E.T)(hC:kD P E.C){ops:Ã Ä}{R:Type}{k:St->O R}{r:R}{Q:Ò->À->Z->Prop}
  (hn:∀σ' a' w' S' γ',Rel E.N E.np S0 w0 refs σ' a' w' S' γ'->dq σ'->k σ'=B r->Q .normal a' w') :
  ∀(n i:G)(σ:St)(a:À)(w:Z)(S:aY)(γ:G->Y),i+n=ops.size->Rel E.N E.np S0 w0 refs σ a w S γ->AY E ops (ops.toList.drop i) σ k=B r->
   wpOps P ops Q (ð i n) a w
 |0,i,σ,a,w,S,γ,hi,hR,h=>by
  rw[É az]at h;obtain⟨h1,h2⟩:=jyC hR;exact hn _ _ _ _ _ h1 h2 h
 |n+1,i,σ,a,w,S,γ,hi,hR,h=>by
  have aq:i<ops.size:=aa;rw[jb (by simpa using aq)]at h;simp only[AY]at h;split at h
  .rename_i hd;have ho:ops[i]? = B ops[i]:=jt aq;simp only[y9,wpOps,ho];exact jDI hT hC hR (by simpa using hd) (by simpa using h) (λσ' a' w' S' γ' cT hk=>Vp hT hC hn n (i+1) σ' a' w' S' γ' aa cT hk)
  .simp at h
theorem Mu{P:Á}{E:Env}(hT:cJ P E.T)(hC:kD P E.C)(hR:Rel E.N E.np S0 w0 refs σ a w S γ)(hc:dq σ){ops:Ã Ä}{R:Type}{k:St->O R}{r:R}
  {Q:Ò->À->Z->Prop}(hn:∀σ' a' w' S' γ',Rel E.N E.np S0 w0 refs σ' a' w' S' γ'->dq σ'->k σ'=B r->Q .normal a' w')(h:lJ E ops σ k=B r) :
  wpOps P ops Q (List.range ops.size) a w:=by
 rw[å];unfold lJ at h;split at h
 .rename_i hb;exact Vm hT hC hb hn ops.size 0 σ a w S γ aa hR hc (by simpa using h)
 .exact Vp hT hC hn ops.size 0 σ a w S γ aa hR (by simpa using h)
end
section
variable{N:NT}{np:G}{S0:aY}{w0:Z}{refs:Refs}{σ:St}{a:À}{w:Z}{S:aY}{γ:G->Y}
theorem Mv(hR:Rel N np S0 w0 refs σ a w S γ){k:G}{b b':Bx}(hk:σ.bx k = .live b)(oH:kZ b b')(dn:∀bx',BxLe γ σ.bx γ bx'->eZ S w γ bx' k b') :
  Rel N np S0 w0 refs (σ.setB k (.live b')) a w S γ:=by
 have hle:BxLe γ σ.bx γ (σ.setB k (.live b')).bx:=by
  intro k' bn;by_cases h:k'=k
  .subst h;rw[fD];exact⟨ae,rfl,λx hx=>by simp at hx;subst hx;exact⟨b,hk,oH⟩⟩
  .rw[cE σ _ h];exact⟨bn,rfl,λx hx=>⟨x,hx,.refl x⟩⟩
 have bS:∀k' x,(σ.setB k (.live b')).bx k' = .live x->∃x',σ.bx k' = .live x':=by
  intro k' x hx;by_cases h:k'=k
  .subst h;exact⟨b,hk⟩
  .rw[cE σ _ h]at hx;exact⟨x,hx⟩
 refine Rel.step (bx':=(σ.setB k (.live b')).bx) hR (.refl S w) hle ?_ ?_ ?_ hR.new hR.here hR.below hR.grow hR.os hR.tape hR.output (λg _ _ h=>⟨rfl,λk' b' aU=>by obtain⟨b2,eI⟩:=bS k' b' aU;exact h k' b2 eI⟩)
 .intro k' x hx;by_cases h:k'=k
  .subst h;rw[fD]at hx;simp at hx;subst hx;exact dn _ hle
  .rw[cE σ _ h]at hx;exact eZ.keep (.refl S w) hle rfl (λg hg=>⟨rfl,λ_=>Iff.rfl⟩) (hR.box k' x hx)
 .intro k' x g hx hg;obtain⟨x',ny⟩:=bS k' x hx;exact hR.own k' x' g ny hg
 .intro k1 k2 x1 x2 g br h1 h2 hg;obtain⟨y1,yH⟩:=bS k1 x1 h1;obtain⟨y2,uL⟩:=bS k2 x2 h2;exact hR.apart k1 k2 y1 y2 g br yH uL hg
theorem All2.set_left{α β:Type}{R:α->β->Prop}:∀{as:H α}{bs:H β},All2 R as bs->∀(i:G)(x:α)(b:β),bs[i]? = B b->R x b->All2 R (as.set i x) bs
 |[],[],_,i,x,b,hb,_=>by simp at hb
 |_::_,_::_,h,0,x,b,hb,hr=>by simp at hb;subst hb;exact⟨hr,h.2⟩
 |_::_,_::_,h,i+1,x,b,hb,hr=>⟨h.1,All2.set_left h.2 i x b (by simpa using hb) hr⟩
 |[],_::_,h,_,_,_,_,_=>h.elim
 |_::_,[],h,_,_,_,_,_=>h.elim
theorem Mw:∀(l:H (Loc×Ty))(σ σ':St)(S:aY),Rel N np S0 w0 refs σ a w S γ->dq σ->Bb np l σ=B σ'->∃S',Rel N np S0 w0 refs σ' a w S' γ/\dq σ'
 |[],σ,σ',S,hR,hc,h=>by simp[Bb]at h;subst h;exact⟨S,hR,hc⟩
 |(l,t)::r,σ,σ',S,hR,hc,h=>by
  simp only[Bb]at h;split at h
  .rename_i v u hv;have bz:=yE (np:=np) (σ:=σ) (rd:=mskM σ.bx) (RdR.msk λ_=> .inl rfl)
   suffices hs:∃S',Rel N np S0 w0 refs (xI (σ.upd u) l (.d t v)) a w S' γ/\dq (xI (σ.upd u) l (.d t v)) by
    obtain⟨S1,bu,eU⟩:=hs;exact Mw r _ σ' S1 bu eU h
   cases l with
   |slot i=>
    cases eL:σ.sl i with
    |tup x=>simp only[jI,eL]at hv;simp[kG,mn,lenL,kY]at hv
    |cnd x y z=>simp only[jI,eL]at hv;simp[kG,mn,lenL,kY]at hv
    |und=>simp only[jI,eL]at hv;simp[kG,mn,lenL,kY]at hv
    |one c=>
     cases c with
     |st ls=>simp only[jI,eL]at hv;simp[kG,mn,lenL,kY]at hv
     |av n b xs=>simp only[jI,eL]at hv;simp[kG,mn,lenL,kY]at hv
     |one x=>
      simp only[jI,eL]at hv;have wN:=hR.slot i;rw[eL]at wN;obtain⟨fB,hp⟩:=wk bz hR.box hv wN.1;obtain⟨S1,bu,cS,gE,_⟩:=nR u σ S hR fB;have bO:=hp S1 w cS gE;refine⟨S1,?_,?_⟩
      .simp only[xI,uf,eL];exact Mt bu ⟨bO,λ_=>Rep.one _ _ _ bO _ (ki.2 rfl)⟩
      .intro j;simp only[xI,uf,eL,St.setS];split
       .rfl
       .exact hc j
   |cell k c=>
    have mS:jI σ (.cell k c) ≠ .dead:=λhd=>by rw[hd]at hv;simp[kG,mn,lenL,kY]at hv
    cases fq:σ.bx k with
    |free=>simp[jI,fq]at mS
    |gone=>simp[jI,fq]at mS
    |live b=>
     cases b with
     |lst e b xs f=>simp[jI,fq]at mS
     |arr n b xs=>simp[jI,fq]at mS
     |row e b n ls=>simp[jI,fq]at mS
     |cell ls f=>
      cases f with
      |true=>simp[jI,fq]at mS
      |false=>
       have hl:jI σ (.cell k c)=ls.getD c .dead:=by simp[jI,fq]
       rw[hl]at hv mS;obtain⟨g,cur,e,h1,h2,h3,h4,h5,h6⟩:=hR.box k _ fq;cases hg:ls[c]? with
       |none=>simp[hg]at mS
       |some x=>
        have LY:ls.getD c .dead=x:=by simp[hg]
        rw[LY]at hv;obtain⟨z,hz,BL⟩:=h3.get c x hg;obtain⟨fB,hp⟩:=wk bz hR.box hv BL;obtain⟨S1,bu,cS,gE,dt⟩:=nR u σ S hR fB;have bO:=hp S1 w cS gE;have uM:=dt.cell fq;refine⟨S1,?_,?_⟩
        .simp only[xI,uM];refine Mv bu uM trivial (λbx' hle=>?_);obtain⟨g',jL,e',nw,lP,rM,h4',h5',h6'⟩:=bu.box k _ uM;rw[h1]at nw;simp at nw;subst nw;rw[h2]at lP;simp at lP;obtain⟨rfl,rfl⟩:=lP;exact⟨g,cur,e,h1,h2,by rw[zu];exact All2.set_left (rM.mono (λx u hx=>bF.keep (.refl S1 w) hle hx)) c (.d t v) z hz bO,by rw[zu];exact h4',h5',ae⟩
        .intro j;simp only[xI,uM];show ((σ.upd u).sl j).bare=X;rw[uf];exact hc j
  .simp at h
theorem Ea:∀(l:H o8)(σ σ':St)(S:aY),Rel N np S0 w0 refs σ a w S γ->dq σ->vW np l σ=B σ'->∃S',Rel N np S0 w0 refs σ' a w S' γ/\dq σ'
 |[],σ,σ',S,hR,hc,h=>by simp[vW]at h;subst h;exact⟨S,hR,hc⟩
 |x::r,σ,σ',S,hR,hc,h=>by
  simp only[vW]at h;split at h
  .split at h
   .split at h
    .split at h
     .rename_i e b xs f fq;split at h
      .simp at h
      .rename_i hp;simp only[qk,not_or,Û]at hp;obtain⟨S1,bu,_⟩:=LG hR hp.2 fq hp.1;exact Ea r _ σ' S1 bu (λi=>hc i) h
     .simp at h
    .exact Ea r σ σ' S hR hc h
   .exact Ea r σ σ' S hR hc h
  .exact Ea r σ σ' S hR hc h
theorem qI:∀{l:H G}{i j:G},l.idxOf? i=B j->l[j]? = B i
 |[],i,j,h=>by simp at h
 |x::l,i,j,h=>by
  rw[ò]at h;split at h
  .rename_i he;simp at h he;subst h;subst he;rfl
  .cases hq:l.idxOf? i with
   |none=>simp[hq]at h
   |some j'=>simp[hq]at h;subst h;simpa using qI hq
theorem Mx:∀{l:H G}{i:G},l.idxOf? i=Â->i∉l
 |[],i,_=>ae
 |x::l,i,h=>by
  rw[ò]at h;split at h
  .simp at h
  .rename_i he;have hq:l.idxOf? i=none:=by simpa using h
   have:=Mx hq;simp only[je,not_or];exact⟨λe=>he (by simp[e]),this⟩
theorem My{e:G}{t:Ty}{l:Loc}{k:O G}{xs:H t.den}{f:Æ}(h:A9 σ e t l=B (k,xs,f)) :
  (k=Â/\isM e=U/\xs=[]/\jI σ l = .nil)\/∃k0,k=B k0/\jI σ l = .ol k0/\σ.bx k0 = .live (.lst e t xs f):=by
 unfold A9 at h;split at h
 .rename_i hl;split at h
  .simp at h
  .rename_i hm;simp only[j5,j9]at h;exact .inl ⟨h.1.symm,by simpa using hm,h.2.1.symm,hl⟩
 .rename_i k0 hl;split at h
  .rename_i e' t' du f' hb;split at h
   .rename_i v iD;split at h
    .rename_i he;simp only[j5,j9]at h;obtain⟨rfl,rfl,rfl⟩:=h;have:=nv iD;cases this;subst he;exact .inr ⟨k0,rfl,hl,hb⟩
    .simp at h
   .simp at h
  .simp at h
 .simp at h
theorem Hx{e:G}{t:Ty}:∀{ls:H Loc}{k:O G}{xs:H t.den}{f:Æ},xH σ e t ls=B (k,xs,f)->
  (∃l∈ls,A9 σ e t l=B (k,xs,f))/\∀l∈ls,∃du f',A9 σ e t l=B (k,du,f')
 |[],_,_,_,h=>by simp[xH]at h
 |[l],k,xs,f,h=>by
  simp only[xH]at h;exact⟨⟨l,ae,h⟩,λl' oO=>by simp at oO;subst oO;exact⟨_,_,h⟩⟩
 |l::l2::ls,k,xs,f,h=>by
  simp only[xH]at h;split at h
  .rename_i k1 Hj f1 k2 Ui f2 h1 h2;split at h
   .rename_i hk;simp only[j5,j9]at h;obtain⟨rfl,rfl,rfl⟩:=h;subst hk;obtain⟨_,ay⟩:=Hx h2;refine⟨⟨l,ae,h1⟩,λl' oO=>?_⟩;rcases je.1 oO with rfl|oO
    .exact⟨_,_,h1⟩
    .exact ay l' oO
   .simp at h
  .simp at h
def Vq(np:G)(σ:St)(bs:H G)(x:o8)(it:Item)(src:O G):Prop:=
 ∃xs f f',xH σ x.e x.a x.locs=B (src,xs,f)/\it = .b (.live (.lst x.e x.a xs f'))/\∀k0,src=B k0->f'=f/\k0∉bs/\parK np k0=U
theorem Vr{bs:H G}:∀{L:H o8}{is:H Item}{ks:H G},Ba np σ bs L=B (is,ks)->
  ∃gf:H (O G),ks=gf.filterMap id/\ks.Nodup/\∀(j:G)(x:o8),L[j]? = B x->∃it src,is[j]? = B it/\gf[j]? = B src/\Vq np σ bs x it src
 |[],is,ks,h=>by
  simp[Ba]at h;obtain⟨rfl,rfl⟩:=h;exact⟨[],rfl,y8,λj x hx=>by simp at hx⟩
 |x::L,is,ks,h=>by
  simp only[Ba]at h;split at h
  .rename_i k xs f is' Lp h1 h2;obtain⟨gf,e1,e2,e3⟩:=Vr h2;split at h
   .simp only[j5,j9]at h;obtain⟨rfl,rfl⟩:=h;refine⟨Â::gf,by simp[e1],e2,λj y hy=>?_⟩;cases j with
    |zero=>simp at hy;subst hy;exact⟨_,Â,rfl,rfl,xs,f,x.frz,h1,rfl,ae⟩
    |succ j=>exact e3 j y (by simpa using hy)
   .rename_i k0;split at h
    .simp at h
    .rename_i hn;simp only[qk,not_or,Û,qj,jj]at hn;simp only[j5,j9]at h;obtain⟨rfl,rfl⟩:=h;refine⟨B k0::gf,by simp[e1],qo.2 ⟨hn.1.1,e2⟩,λj y hy=>?_⟩;cases j with
     |zero=>simp at hy;subst hy;exact⟨_,B k0,rfl,rfl,xs,f,f,h1,rfl,λk1 dj=>by simp at dj;subst dj;exact⟨rfl,hn.1.2,hn.2⟩⟩
     |succ j=>exact e3 j y (by simpa using hy)
  .simp at h
theorem Vs:∀{gf:H (O G)},(gf.filterMap id).Nodup->∀{j j' k:G},gf[j]? = B (B k)->gf[j']? = B (B k)->j=j'
 |[],_,j,_,_,h,_=>by simp at h
 |s::gf,hn,j,j',k,h,h'=>by
  have iN:∀{i:G},gf[i]? = B (B k)->k∈gf.filterMap id:=λhi=>vj.2 ⟨B k,k9 hi,rfl⟩
  have Mz:(gf.filterMap id).Nodup:=by
   cases s with
   |none=>simpa using hn
   |some y=>simp at hn;exact hn.2
  cases j with
  |zero=>
   cases j' with
   |zero=>rfl
   |succ j'=>simp at h h';subst h;simp at hn;exact absurd (by simpa using iN h') hn.1
  |succ j=>
   cases j' with
   |zero=>simp at h h';subst h';simp at hn;exact absurd (by simpa using iN h) hn.1
   |succ j'=>have:=Vs Mz (j:=j) (j':=j') (k:=k) (by simpa using h) (by simpa using h');omega
theorem Vt:∀{l:H G},l.Nodup->∀{i j n:G},l[i]? = B n->l[j]? = B n->i=j
 |[],_,i,_,_,hi,_=>by simp at hi
 |x::l,h,i,j,n,hi,hj=>by
  obtain⟨h1,h2⟩:=qo.1 h;cases i with
  |zero=>
   cases j with
   |zero=>rfl
   |succ j=>simp at hi hj;subst hi;exact absurd (k9 hj) h1
  |succ i=>
   cases j with
   |zero=>simp at hi hj;subst hj;exact absurd (k9 hi) h1
   |succ j=>rw[Vt h2 (i:=i) (j:=j) (n:=n) (by simpa using hi) (by simpa using hj)]
end
section
variable{N:NT}{np:G}{S0:aY}{w0:Z}{refs:Refs}{σ:St}{a:À}{w:Z}{S:aY}{γ:G->Y}
theorem jtX{K:Keep}{l:Loc}{n:G}(h:C8 K l=B n):∃(j:G)(x:o8),K.lists[j]? = B x/\x.name=n/\l∈x.locs:=by
 unfold C8 at h;obtain⟨x,hq,hn⟩:=Option.map_eq_some_iff.1 h;have h1:=List.find?_some hq;obtain⟨j,hj⟩:=zj.1 (List.mem_of_find?_eq_some hq);exact⟨j,x,hj,hn,by simpa using h1⟩
theorem BM{K:Keep}{k:G}{x:BS}{b:Bx}(h:vV K k x = .live b):∃b0,x = .live b0/\kZ b0 b:=by
 unfold vV at h;split at h
 .simp only[BS.live.injEq]at h;subst h;exact⟨_,rfl,trivial⟩
 .simp only[BS.live.injEq]at h;subst h;exact⟨_,rfl,.refl _⟩
 .simp only[BS.live.injEq]at h;subst h;exact⟨_,rfl,.refl _⟩
 .simp at h
theorem BN{K:Keep}{k:G}{x:BS}:vV K k x ≠ .free:=by
 unfold vV;split<;>simp
theorem Vu{R:Leaf->Y->Prop}{f:Leaf×G->Leaf}:∀{ls:H Leaf}{cs:H Y}(n:G),(∀(j:G)(x:Leaf)(u:Y),ls[j]? = B x->cs[j]? = B u->R (f (x,n+j)) u)->ls.length=cs.length->
  All2 R ((ls.zipIdx n).map f) cs
 |[],[],_,_,_=>trivial
 |x::ls,c::cs,n,h,hl=>by
  refine⟨h 0 x c rfl rfl,Vu (n+1) (λj y u hy hu=>?_) (by simpa using hl)⟩;have:=h (j+1) y u (by simpa using hy) (by simpa using hu);rwa[show n+1+j=n+(j+1) by omega]
 |[],_::_,_,_,hl=>by simp at hl
 |_::_,[],_,_,hl=>by simp at hl
theorem jBm{K:Keep}{s:Snap}(hR:Rel N np S0 w0 refs σ a w S γ)(hs:Ln np K σ=B s):∃γ',Rel N np S0 w0 refs (dD np K s) a w S γ'/\dq (dD np K s):=by
 unfold Ln at hs;cases hL:Ba np σ K.boxes K.lists with
 |none=>simp[hL]at hs
 |some p=>
 obtain⟨is,ks⟩:=p;simp only[hL]at hs;cases bT:K.ok np with
 |false=>simp[bT]at hs
 |true=>
 simp only[bT,if_true,j5]at hs;obtain⟨gf,hks,dZ,Eb⟩:=Vr hL;rw[hks]at dZ;simp only[Keep.ok,jd]at bT;have yI:=yu bT.1;have DZ:∀(j:G)(x:o8),K.lists[j]? = B x->x.name∉K.boxes:=by intro j x hx;have:=jv.1 bT.2 x (k9 hx);simp only[jd]at this;simpa using this.1
 have wO:∀(j:G)(x:o8),K.lists[j]? = B x->parK np x.name=false:=by intro j x hx;have:=jv.1 bT.2 x (k9 hx);simp only[jd]at this;simpa using this.2
 let γ':G->Value:=λn=>match K.boxes.idxOf? n with
  |some _=>γ n
  |none=>match (K.lists.map (·.name)).idxOf? n with
   |some j=>match gf[j]? with
    |some (B k)=>γ k
    |_=> .slice Â 0 0
   |none=>γ n
 have fq:(dD np K s).bx=λn=>match K.boxes.idxOf? n with
  |some j=>vX s[K.slots.length+j]?
  |none=>match (K.lists.map (·.name)).idxOf? n with
   |some j=>vX s[K.slots.length+K.boxes.length+j]?
   |none=>if parK np n then .gone else .free:=rfl
 have hB:∀n,n∈K.boxes->(dD np K s).bx n=vV K n (σ.bx n)/\γ' n=γ n:=by
  intro n hn;rw[fq];cases hq:K.boxes.idxOf? n with
  |none=>exact absurd hn (Mx hq)
  |some j=>have hj:=qI hq;refine⟨?_,by simp only[γ',hq]⟩;simp only[hq,<-hs];rw[ke ae];simp only[kc,Nat.add_sub_cancel_left];rw[Ì (by simp;exact(List.getElem?_eq_some_iff.1 hj).1)];simp[hj,vX]
 have MA:∀(j:G)(x:o8),K.lists[j]? = B x->∃it src,gf[j]? = B src/\Vq np σ K.boxes x it src/\(dD np K s).bx x.name=vX (B it)/\
   γ' x.name=(match src with|some k=>γ k|none=> .slice Â 0 0):=by
  intro j x hx;obtain⟨it,src,h1,h2,h3⟩:=Eb j x hx
  have wP:K.boxes.idxOf? x.name=none:=by
   cases hq:K.boxes.idxOf? x.name with
   |none=>rfl
   |some i=>exact absurd (k9 (qI hq)) (DZ j x hx)
  have wz:(K.lists.map (·.name))[j]? = B x.name:=by simp[hx]
  cases hq:(K.lists.map (·.name)).idxOf? x.name with
  |none=>exact absurd (k9 wz) (Mx hq)
  |some i=>
   have hi:=Vt yI (qI hq) wz;subst hi;refine⟨it,src,h2,h3,?_,?_⟩
   .rw[fq];simp only[wP,hq,<-hs];rw[ke az,ke az];have:K.slots.length+K.boxes.length+i-(K.slots.map λi=>Item.s (GZ K i (σ.sl i))).length-(K.boxes.map λk=>Item.b (vV K k (σ.bx k))).length=i:=az;rw[this,h1]
   .simp only[γ',wP,hq,h2];cases src<;>rfl
 have hF:∀n b,(dD np K s).bx n = .live b->n∈K.boxes\/∃(j:G)(x:o8),K.lists[j]? = B x/\x.name=n:=by
  intro n b hb;by_cases hn:n∈K.boxes
  .exact .inl hn
  .right;rw[fq]at hb
   have wP:K.boxes.idxOf? n=none:=by
    cases hq:K.boxes.idxOf? n with
    |none=>rfl
    |some i=>exact absurd (k9 (qI hq)) hn
   simp only[wP]at hb;split at hb
   .rename_i j hq;have hj:=qI hq;simp only[qg]at hj;cases hx:K.lists[j]? with
    |none=>simp[hx]at hj
    |some x=>simp[hx]at hj;exact⟨j,x,hx,hj⟩
   .split at hb<;>simp at hb
 have lg:∀(loc:O Loc)(x:Leaf)(u:Y),bF S w γ σ.bx x u->(x ≠ .dead->One u)->(∀l,loc=B l->jI σ l=x)->
   bF S w γ' (dD np K s).bx (po K loc x) u/\(po K loc x ≠ .dead->One u):=by
  intro loc x u hl h1 yJ;have jQ:bF S w γ' (dD np K s).bx .dead u/\(Leaf.dead ≠ .dead->One u):=⟨trivial,λh=>absurd rfl h⟩
  have ln:∀n,loc.bind (C8 K)=B n->∀(hu:(x = .nil)\/∃k,x = .ol k),bF S w γ' (dD np K s).bx (.ol n) u/\(Leaf.ol n ≠ .dead->One u):=by
   intro n hn hu;cases loc with
   |none=>simp at hn
   |some l=>
    simp only[j4]at hn;have pB:=yJ l rfl;obtain⟨j,y,hy,hyn,LO⟩:=jtX hn;obtain⟨it,src,_,⟨xs,f,f',jR,BO,yK⟩,yL,tu⟩:=MA j y hy;obtain⟨_,ay⟩:=Hx jR;obtain⟨du,f1,rQ⟩:=ay l LO;have cZ:One u:=h1 (by rcases hu with rfl|⟨k,rfl⟩<;>simp);rw[hyn]at yL tu;refine⟨⟨by rw[yL,BO];simp[vX],cZ,λb _=>?_⟩,λ_=>cZ⟩;rw[tu];rcases My rQ with⟨rfl,_,_,dO⟩|⟨k0,rfl,yM,dm⟩
    .rw[pB]at dO;subst dO;exact hl
    .rw[pB]at yM;subst yM;exact hl.2.2 _ dm
  cases x with
  |dead=>exact jQ
  |nil=>
   simp only[po];split
   .rename_i n hn;exact ln n hn (.inl rfl)
   .exact⟨hl,h1⟩
  |d t v=>exact⟨hl,h1⟩
  |ip ls=>exact⟨hl,h1⟩
  |clo f caps=>exact⟨hl,h1⟩
  |clr f ks=>
   simp only[po];split
   .rename_i hks;obtain⟨cv,hu,ha⟩:=hl;refine⟨⟨cv,hu,?_⟩,λ_=>h1 ae⟩
    have go:∀(ks:H G)(zs:H Y),ks.all (λk=>K.boxes.contains k)=X->All2 (Di γ σ.bx) ks zs->All2 (Di γ' (dD np K s).bx) ks zs:=by
     intro ks;induction ks with
     |nil=>intro zs _ h;cases zs with|nil=>trivial|cons _ _=>exact h.elim
     |cons k ks ih=>
      intro zs hc h;cases zs with
      |nil=>exact h.elim
      |cons z zs=>simp only[zb,jd]at hc;obtain⟨dF,eI⟩:=hB k (by simpa using hc.1);refine⟨⟨by rw[dF];exact BN,h.1.2.1,λb hb=>?_⟩,ih zs hc.2 h.2⟩;rw[dF]at hb;obtain⟨b0,fA,_⟩:=BM hb;rw[eI];exact h.1.2.2 b0 fA
    exact go ks cv.toList hks ha
   .exact jQ
  |ep k i c=>exact jQ
  |tl k i=>
   simp only[po];split
   .rename_i hk;obtain⟨dF,eI⟩:=hB k (by simpa using hk);refine⟨⟨by rw[dF];exact BN,hl.2.1,λb hb=>?_⟩,λ_=>hl.2.1⟩;rw[dF]at hb;obtain⟨b0,fA,jD⟩:=BM hb;have h3:=hl.2.2 b0 fA;rw[eI]
    cases b0<;>cases b<;>simp only[kZ]at jD<;>first
     |exact jD.elim
     |exact h3.elim
     |(obtain⟨rfl,rfl,oO⟩:=jD;simp only at h3 ⊢;obtain⟨hm,h3⟩:=h3;rw[<-oO hm];exact⟨hm,h3⟩)
   .exact jQ
  |hd k i=>
   simp only[po];split
   .rename_i hk;obtain⟨dF,eI⟩:=hB k (by simpa using hk);refine⟨⟨by rw[dF];exact BN,hl.2.1,λb hb=>?_⟩,λ_=>hl.2.1⟩;rw[dF]at hb;obtain⟨b0,fA,jD⟩:=BM hb;have h3:=hl.2.2 b0 fA;rw[eI]
    cases b0<;>cases b<;>simp only[kZ]at jD<;>first
     |exact jD.elim
     |exact h3.elim
     |(obtain⟨rfl,rfl,oO⟩:=jD;simp only at h3 ⊢;obtain⟨hm,h3⟩:=h3;rw[<-oO hm];exact⟨hm,h3⟩)
   .exact jQ
  |ol k=>
   simp only[po];split
   .rename_i hk;obtain⟨dF,eI⟩:=hB k (by simpa using hk);refine⟨⟨by rw[dF];exact BN,hl.2.1,λb hb=>?_⟩,λ_=>hl.2.1⟩;rw[dF]at hb;obtain⟨b0,fA,_⟩:=BM hb;rw[eI];exact hl.2.2 b0 fA
   .split
    .rename_i n hn;exact ln n hn (.inr ⟨k,rfl⟩)
    .exact jQ
  |bp k c=>
   simp only[po];split
   .rename_i hk;obtain⟨dF,eI⟩:=hB k (by simpa using hk);refine⟨⟨by rw[dF];exact BN,hl.2.1,λb hb=>?_⟩,λ_=>hl.2.1⟩;rw[dF]at hb;obtain⟨b0,fA,_⟩:=BM hb;rw[eI];exact hl.2.2 b0 fA
   .exact jQ
 have gW:∀n b,(dD np K s).bx n = .live b->(n∈K.boxes/\γ' n=γ n/\∃b0,σ.bx n = .live b0)\/(blk (γ' n)=Â)\/
   ∃(j:G)(x:o8)(k:G)(b0:Bx),K.lists[j]? = B x/\x.name=n/\gf[j]? = B (B k)/\γ' n=γ k/\σ.bx k = .live b0/\k∉K.boxes/\parK np k=false:=by
  intro n b hb;rcases hF n b hb with hn|⟨j,x,hx,rfl⟩
  .obtain⟨h1,h2⟩:=hB n hn;rw[h1]at hb;obtain⟨b0,fA,_⟩:=BM hb;exact .inl ⟨hn,h2,b0,fA⟩
  .obtain⟨it,src,yK,⟨xs,f,f',jR,BO,lk⟩,yL,tu⟩:=MA j x hx;obtain⟨⟨l,_,rQ⟩,_⟩:=Hx jR;rcases My rQ with⟨rfl,_,_,_⟩|⟨k,rfl,_,dm⟩
   .exact .inr (.inl (by rw[tu];rfl))
   .obtain⟨_,h2,h3⟩:=lk k rfl;exact .inr (.inr ⟨j,x,k,_,hx,rfl,yK,tu,dm,h2,h3⟩)
 refine⟨γ',⟨hR.size,hR.defers,?_,?_,?_,?_,hR.ext,hR.new,hR.here,hR.below,hR.grow,hR.os,hR.tape,hR.output,?_,λg o h=>⟨(hR.kept g o h).1,λn b hb dm=>by
  have cY:=(hR.kept g o h).2;rcases gW n b hb with⟨_,e,b0,fA⟩|e|⟨j,x,k,b0,_,_,_,e,fA,_⟩
  .rw[e]at dm;exact cY n b0 fA dm
  .rw[e]at dm;simp at dm
  .rw[e]at dm;exact cY k b0 fA dm⟩,hR.fix⟩,?_⟩
 ·-- slots
  intro i
  have eL:(dD np K s).sl i=match K.slots.idxOf? i with
   |some j=>xJ s[j]?
   |none=> .one (.one .dead):=rfl
  rw[eL];cases hq:K.slots.idxOf? i with
  |none=>exact⟨trivial,λh=>absurd rfl h⟩
  |some j=>
   have hj:=qI hq;have Ec:s[j]? = B (.s (GZ K i (σ.sl i))):=by rw[<-hs,Ì (by simp;exact(List.getElem?_eq_some_iff.1 hj).1)];simp[hj]
   simp only[Ec,xJ];have wN:=hR.slot i;show bQ S w γ' (dD np K s).bx (GZ K i (σ.sl i)) _;cases lb:σ.sl i with
   |tup l=>exact⟨trivial,λh=>absurd rfl h⟩
   |cnd x y z=>exact⟨trivial,λh=>absurd rfl h⟩
   |und=>exact⟨trivial,λh=>absurd rfl h⟩
   |one c=>
    rw[lb]at wN;cases c with
    |one x=>exact lg (B (.slot i)) x _ wN.1 wN.2 (λl hl=>by simp at hl;subst hl;simp[jI,lb])
    |st ls=>
     obtain⟨cs,hu,ay,h1⟩:=wN;refine⟨cs,hu,?_,h1⟩;refine All2.map_left.2 ?_
     have:∀{ls:H Leaf}{cs:H Y},All2 (bF S w γ σ.bx) ls cs->(∀u∈cs,One u)->All2 (λx u=>bF S w γ' (dD np K s).bx (po K Â x) u) ls cs:=by
      intro ls;induction ls with
      |nil=>intro cs h _;cases cs with|nil=>trivial|cons _ _=>exact h.elim
      |cons x ls ih=>
       intro cs h h1;cases cs with
       |nil=>exact h.elim
       |cons u cs=>exact⟨(lg Â x u h.1 (λ_=>h1 u ae) ae).1,ih h.2 (λv hv=>h1 v (by simp[hv]))⟩
     exact this ay h1
    |av n b xs=>obtain⟨cs,hu,bO⟩:=wN;exact⟨cs,hu,bO⟩
 ·-- boxes
  intro n b hb;rcases hF n b hb with hn|⟨j,x,hx,rfl⟩
  .obtain⟨h1,h2⟩:=hB n hn;rw[h1]at hb;unfold vV at hb;split at hb
   .rename_i ls frz mT;simp only[BS.live.injEq]at hb;subst hb;obtain⟨g,cur,e,q1,q2,q3,q4,q5,q6⟩:=hR.box n _ mT;have tn:(ls.zipIdx.map λx=>po K (if frz=X then Â else B (Loc.cell n x.2)) x.1).length=ls.length:=ae;refine⟨g,cur,e,h2.trans q1,q2,?_,by rw[tn];exact q4,q5,q6⟩;rw[tn];refine Vu 0 (λj x u hx hu=>?_) q3.length;obtain⟨u',eb,kF⟩:=q3.get j x hx;rw[hu]at eb;simp at eb;subst eb;refine(lg _ x u kF (λ_=>q4 u (k9 hu)) (λl hl=>?_)).1;cases frz with
    |true=>simp at hl
    |false=>simp at hl;subst hl;simp[jI,mT,hx]
   .rename_i m t xs mT;simp only[BS.live.injEq]at hb;subst hb;obtain⟨g,cur,e,q1,q2,q3,q4⟩:=hR.box n _ mT;exact⟨g,cur,e,h2.trans q1,q2,q3,q4⟩
   .rename_i e t xs frz mT;simp only[BS.live.injEq]at hb;subst hb;obtain⟨q1,q3⟩:=hR.box n _ mT;exact⟨by rw[h2];exact q1,by rw[h2];exact q3⟩
   .simp at hb
  .obtain⟨it,src,yK,⟨xs,f,f',jR,BO,lk⟩,yL,tu⟩:=MA j x hx;obtain⟨⟨l,_,rQ⟩,_⟩:=Hx jR;rw[yL,BO]at hb;simp only[vX,BS.live.injEq]at hb;subst hb;rcases My rQ with⟨rfl,ca,rfl,_⟩|⟨k,rfl,_,dm⟩
   .refine Bf ca ⟨[],?_,trivial,λg hg=>?_⟩
    .rw[tu];exact⟨ae,.inl ⟨rfl,rfl⟩⟩
    .rw[tu]at hg;simp[blk]at hg
   .obtain⟨rfl,_,_⟩:=lk k rfl;obtain⟨q1,q3⟩:=hR.box k _ dm;exact⟨by rw[tu];exact q1,by rw[tu];exact q3⟩
 ·-- own
  intro n b g hb hg;rcases gW n b hb with⟨_,h2,b0,h3⟩|h|⟨j,x,k,b0,_,_,_,h2,h3,_,h5⟩
  .rw[h2]at hg;exact hR.own n b0 g h3 hg
  .rw[h]at hg;simp at hg
  .rw[h2]at hg;rcases hR.own k b0 g h3 hg with h|h
   .exact .inl h
   .rw[h5]at h;simp at h
 ·-- apart
  intro n n' b b' g br hb aU hg aC;rcases gW n b hb with⟨m1,h2,b0,h3⟩|h|⟨j,x,k,b0,hx,hxn,hj,h2,h3,h4,_⟩
  .rw[h2]at hg;rcases gW n' b' aU with⟨_,i2,b1,i3⟩|i|⟨j',x',k',b1,_,_,_,i2,i3,i4,_⟩
   .rw[i2]at aC;exact hR.apart n n' b0 b1 g br h3 i3 hg aC
   .rw[i]at aC;simp at aC
   .rw[i2]at aC;exact hR.apart n k' b0 b1 g (by rintro rfl;exact i4 m1) h3 i3 hg aC
  .rw[h]at hg;simp at hg
  .rw[h2]at hg;rcases gW n' b' aU with⟨m1,i2,b1,i3⟩|i|⟨j',x',k',b1,ny,MB,im,i2,i3,i4,_⟩
   .rw[i2]at aC;exact hR.apart k n' b0 b1 g (by rintro rfl;exact h4 m1) h3 i3 hg aC
   .rw[i]at aC;simp at aC
   .rw[i2]at aC;by_cases cg:k=k'
    .subst cg;have:=Vs dZ hj im;subst this;rw[hx]at ny;simp at ny;subst ny;exact br (hxn.symm.trans MB)
    .exact hR.apart k k' b0 b1 g cg h3 i3 hg aC
 ·-- parameters
  intro k v hv;obtain⟨p1,p2,p3⟩:=hR.par k v hv;refine⟨p1,?_,?_⟩
  .by_cases hk:k∈K.boxes
   .rw[(hB k hk).1];exact BN
   .rw[fq]
    have wP:K.boxes.idxOf? k=none:=by
     cases hq:K.boxes.idxOf? k with
     |none=>rfl
     |some i=>exact absurd (k9 (qI hq)) hk
    simp only[wP];split
    .rename_i j hq;have hj:=qI hq;simp only[qg]at hj;cases hx:K.lists[j]? with
     |none=>simp[hx]at hj
     |some x=>simp[hx]at hj;have:=wO j x hx;rw[hj,p1]at this;simp at this
    .simp[p1]
  .by_cases hk:k∈K.boxes
   .rw[(hB k hk).2];exact p3
   .have wP:K.boxes.idxOf? k=none:=by
     cases hq:K.boxes.idxOf? k with
     |none=>rfl
     |some i=>exact absurd (k9 (qI hq)) hk
    simp only[γ',wP];split
    .rename_i j hq;have hj:=qI hq;simp only[qg]at hj;cases hx:K.lists[j]? with
     |none=>simp[hx]at hj
     |some x=>simp[hx]at hj;have:=wO j x hx;rw[hj,p1]at this;simp at this
    .exact p3
 .intro i;show ((match K.slots.idxOf? i with|some j=>xJ s[j]?|none=>Slot.one (.one .dead)):Slot).bare=X;split
  .unfold xJ;split<;>rfl
  .rfl
theorem wQ{K:Keep}{s:Snap}(hR:Rel N np S0 w0 refs σ a w S γ)(hc:dq σ)(hs:kH np K σ=B s):∃S' γ',Rel N np S0 w0 refs (dD np K s) a w S' γ'/\dq (dD np K s):=by
 unfold kH at hs;split at hs
 .rename_i σ1 h1;split at hs
  .rename_i σ2 h2;obtain⟨S1,bu,eU⟩:=Mw _ _ _ _ hR hc h1;obtain⟨S2,cI,fC⟩:=Ea _ _ _ _ bu eU h2;obtain⟨γ',dU,tw⟩:=jBm cI hs;exact⟨S2,γ',dU,tw⟩
  .simp at hs
 .simp at hs
end
def RdLe(rd bN:G->BS):Prop:=∀k,rd k=bN k\/rd k = .gone
theorem RdLe.live{rd bN:G->BS}(h:RdLe rd bN){k:G}{b:Bx}(hk:rd k = .live b):bN k = .live b:=by
 rcases h k with h|h
 .rw[<-h];exact hk
 .rw[h]at hk;simp at hk
theorem RdLe.free{rd bN:G->BS}(h:RdLe rd bN){k:G}(hk:iz (rd k)=X):iz (bN k)=true:=by
 rcases h k with h|h
 .rw[<-h];exact hk
 .rw[h]at hk;simp[iz]at hk
theorem RdLe.isLive{rd bN:G->BS}(h:RdLe rd bN){k:G}(hk:isLive (rd k)=X):isLive (bN k)=true:=by
 rcases h k with h|h
 .rw[<-h];exact hk
 .rw[h]at hk;simp[Lft.isLive]at hk
theorem RdLe.rdf{rd bN:G->BS}(h:RdLe rd bN)(np:G):RdLe (λk=>if parK np k then .gone else rd k) (λk=>if parK np k then .gone else bN k):=by
 intro k;dsimp only;split
 .exact .inl rfl
 .exact h k
theorem RdLe.msk{rd bN:G->BS}(h:RdLe rd bN):RdLe (mskM rd) (mskM bN):=by
 intro k;rcases h k with h|h
 .left;unfold mskM;rw[h]
 .right;unfold mskM;rw[h]
theorem MC(M:H G)(rd:G->BS):RdLe (kB M rd) rd:=by
 intro k;unfold kB;split
 .exact .inr rfl
 .exact .inl rfl
section
variable{rd bN:G->BS}(hle:RdLe rd bN)
include hle
theorem jtY{t:Ty}{l:Leaf}{x}(h:kY rd t l=B x):kY bN t l=B x:=by
 unfold kY at h ⊢;split at h
 .exact h
 .exact h
 .split at h
  .rename_i hk;rw[hle.live hk];exact h
  .simp at h
 .simp at h
theorem jyD{l:Leaf}{n:G}(h:lenL rd l=B n):lenL bN l=B n:=by
 unfold lenL at h ⊢;split at h
 .simp at h
 .exact h
 .split at h
  .rename_i hk;rw[hle.live hk];exact h
  .rename_i hk;rw[hle.live hk];exact h
  .simp at h
 .simp at h
theorem jDJ{t:Ty}{l:Leaf}{x}(h:kY rd t l=B x):lenL bN l=lenL rd l:=by
 cases l with
 |ol k=>
  simp only[kY]at h;split at h
  .rename_i hk;simp only[lenL,hk,hle.live hk]
  .simp at h
 |d t' v=>cases t'<;>first|rfl|(rename_i b;cases b<;>rfl)
 |_=>rfl
theorem Vv{t:Ty}{l:Leaf}{x}(h:kG rd t l=B x):kG bN t l=B x:=by
 unfold kG at h ⊢;cases hH:mn rd t l with
 |some v=>
  rw[hH]at h
  have:mn bN t l=B v:=by
   unfold mn at hH ⊢;split at hH
   .rename_i n hn;rw[jyD hle hn];exact hH
   .simp at hH
  rw[this];exact h
 |none=>
  rw[hH]at h;have:mn bN t l=none:=by unfold mn at hH ⊢;rw[jDJ hle h];exact hH
  rw[this];exact jtY hle h
theorem Hy:∀(t:Ty){ls:H Leaf}{x},gath rd t ls=B x->gath bN t ls=B x:=by
 intro t;induction t with
 |unit=>intro ls x h;simpa[gath]using h
 |wrap a ih=>
  intro ls x h;simp only[gath]at h ⊢;split at h
  .rename_i hg;rw[ih hg];exact h
  .simp at h
 |pair a b sZ s9=>
  intro ls x h;simp only[gath]at h ⊢;split at h
  .rename_i hg;rw[sZ hg];dsimp only;split at h
   .rename_i gw;rw[s9 gw];exact h
   .simp at h
  .simp at h
 |arr n a ih=>intro ls x h;simp[gath]at h
 |_=>
  intro ls x h;cases ls with
  |nil=>simp[gath]at h
  |cons l ls=>
   simp only[gath]at h ⊢;split at h
   .rename_i hl;rw[Vv hle hl];exact h
   .simp at h
theorem MD{t:Ty}{c:Cel}{x}(h:oE rd t c=B x):oE bN t c=B x:=by
 unfold oE at h ⊢;split at h
 .split at h
  .simp at h
  .rename_i ha;simp only[ha,qz,ku];split at h
   .rename_i hg;rw[Hy hle _ hg];exact h
   .simp at h
 .split at h
  .rename_i ha;simp only[ha,if_true];split at h
   .rename_i hg;rw[Hy hle _ hg];exact h
   .simp at h
  .simp at h
 .exact h
theorem jwY{ti:TyI}{l:Leaf}{x}(h:pd rd ti l=B x):pd bN ti l=B x:=by
 unfold pd at h ⊢;split at h
 .split at h
  .rename_i hk;rw[hle.live hk];exact h
  .rename_i hk;rw[hle.live hk];exact h
  .simp at h
 .split at h
  .rename_i hk;rw[hle.live hk];exact h
  .rename_i hk;rw[hle.live hk];exact h
  .rename_i hk;rw[hle.live hk];exact h
  .simp at h
 .exact h
 .simp at h
theorem jtZ{ti:TyI}{i:G}{l:Leaf}{x}(h:p9 rd ti i l=B x):p9 bN ti i l=B x:=by
 unfold p9 at h ⊢;split at h
 .split at h
  .split at h
   .rename_i hl;simp only[hle.isLive hl,if_true];exact h
   .simp at h
  .simp at h
 .split at h
  .split at h
   .rename_i hl;simp only[hle.isLive hl,if_true];exact h
   .simp at h
  .simp at h
 .exact h
 .simp at h
theorem ju0{ti:TyI}{l i:Leaf}{x}(h:tR rd ti l i=B x):tR bN ti l i=B x:=by
 unfold tR at h ⊢;split at h
 .split at h
  .rename_i hk;rw[hle.live hk];exact h
  .rename_i hk;rw[hle.live hk];exact h
  .simp at h
 .exact h
 .split at h
  .rename_i hk;rw[hle.live hk];exact h
  .rename_i hk;rw[hle.live hk];exact h
  .simp at h
 .split at h
  .rename_i hk;rw[hle.live hk];exact h
  .simp at h
 .simp at h
theorem Vw(a:Ty):∀{ls:H Leaf}{x},tP rd a ls=B x->tP bN a ls=B x
 |[],_,h=>h
 |l::ls,x,h=>by
  simp only[tP]at h ⊢;split at h
  .rename_i h1 h2;rw[Vv hle h1,Vw a h2];exact h
  .simp at h
theorem ju1{t:O Ty}{l:Leaf}{x}(h:tQ rd t l=B x):tQ bN t l=B x:=by
 unfold tQ at h ⊢;split at h
 .split at h
  .split at h
   .rename_i hi;rw[if_pos hi];split at h
    .rename_i hk;rw[hle.live hk];exact h
    .simp at h
   .simp at h
  .simp at h
 .simp at h
theorem ju2{ti:TyI}{l:Leaf}{c:Cel}(h:tQ rd ti.ty l=Â)(hc:pd rd ti l=B c):tQ bN ti.ty l=none:=by
 unfold tQ at h ⊢;split at h
 .rename_i k;split at h
  .rename_i m el bG;split at h
   .rename_i hi;rw[if_pos hi];simp only[pd]at hc;split at hc
    .rename_i ls frz hk;rw[hle.live hk];cases frz with
     |true=>rfl
     |false=>rw[hk]at h;simp at h
    .rename_i hk;rw[hle.live hk]
    .simp at hc
   .rename_i hi;rw[if_neg hi]
  .rfl
 .rfl
theorem ME(a:Ty):∀(ps:H (G×Cel)){xs:H a.den}{u:Ups}{x},lI rd a xs u ps=B x->lI bN a xs u ps=B x
 |[],_,_,_,h=>h
 |(i,c)::r,xs,u,x,h=>by
  simp only[lI]at h ⊢;split at h
  .rename_i hd;rw[MD hle hd];dsimp only;split at h
   .rename_i hi;simp only[hi,if_true];exact ME a r h
   .simp at h
  .simp at h
theorem jyE{t:O Ty}{l:Leaf}{x}(h:lenC rd t l=B x):lenC bN t l=B x:=by
 unfold lenC at h ⊢;split at h
 .exact h
 .split at h
  .rename_i hk;rw[hle.live hk];exact h
  .rename_i hk;rw[hle.live hk];exact h
  .simp at h
 .exact h
 .exact h
 .split at h
  .rename_i hk;rw[hle.live hk];exact h
  .simp at h
 .split at h
  .rename_i hk;rw[hle.live hk];exact h
  .simp at h
 .simp at h
theorem jyF{e:G}{a:Ty}{s l:Leaf}{x}(h:appH rd e a s l=B x):appH bN e a s l=B x:=by
 unfold appH at h ⊢;split at h
 .split at h
  .rename_i cg;rw[if_pos cg];split at h
   .rename_i hk;rw[hle.live hk];exact h
   .simp at h
  .simp at h
 .simp at h
omit hle in
theorem jyG{e e':G}{a a':Ty}{s l:Leaf}{x}(h:appS rd e a s=B x):appH bN e' a' s l=none:=by
 unfold appS at h;split at h
 .rfl
 .rfl
 .simp at h
omit hle in
theorem jyH{fr Vx:Æ}(hf:fr=X->Vx=X){e:G}{a:Ty}{n len:G}{ps:H (G×Cel)}{x}(h:one1 fr e a n len ps=B x):one1 Vx e a n len ps=B x:=by
 unfold one1 at h ⊢;split at h
 .split at h
  .split at h
   .rename_i hc;rw[if_pos ⟨hc.1,hc.2.1,hc.2.2.1,hf hc.2.2.2.1,hc.2.2.2.2⟩];exact h
   .simp at h
  .simp at h
 .simp at h
omit hle in
theorem jyI{rdf dV:G->BS}(fi:RdLe rdf dV){e:G}{a:Ty}{l:Leaf}{x}(h:rowS rdf e a l=B x):rowS dV e a l=B x:=by
 unfold rowS at h ⊢;split at h
 .exact h
 .split at h
  .rename_i hk;rw[fi.live hk];exact h
  .simp at h
 .simp at h
theorem jyJ{rdf dV:G->BS}(fi:RdLe rdf dV){e:G}{a:Ty}{n:G}{s l:Leaf}{x}(h:appN rd rdf e a n s l=B x):appN bN dV e a n s l=B x:=by
 unfold appN at h ⊢;split at h
 .split at h
  .rename_i hk;rw[fi.live hk];dsimp only;split at h
   .rename_i hr;rw[jyI fi hr];dsimp only;split at h
    .rename_i hc;rw[if_pos ⟨hc.1,hc.2.1,hc.2.2.1,hle.free hc.2.2.2⟩];exact h
    .simp at h
   .simp at h
  .simp at h
 .simp at h
omit hle in
theorem jwZ{rdf:G->BS}{e e':G}{a a':Ty}{n:G}{s l:Leaf}{x}(h:appN rd rdf e a n s l=B x):appH bN e' a' s l=none:=by
 unfold appN at h;split at h
 .unfold appH;split
  .rename_i hc;cases hc
  .rfl
 .simp at h
omit hle in
theorem jyK{dV Vy:G->BS}(fj:∀k,dV k = .gone\/dV k=Vy k){e:G}{a a':Ty}{n:G}{s l:Leaf}{x}(h:appX Vy a l=B x):appN rd dV e a' n s l=none:=by
 unfold appN;split
 .rename_i k;unfold appX at h;dsimp only at h;split at h
  .rename_i hk;rcases fj k with h1|h1
   .rw[h1]
   .rw[h1,hk]
  .simp at h
 .rfl
theorem ju3{ti:TyI}{l m:Leaf}{lo hi:O Leaf}{x}(h:AV rd ti l lo hi m=B x):AV bN ti l lo hi m=B x:=by
 unfold AV at h ⊢;split at h
 .split at h
  .rename_i hk;rw[hle.live hk];exact h
  .simp at h
 .simp at h
theorem jyL{e:G}{a:Ty}{l:Leaf}{x}(h:appS rd e a l=B x):appS bN e a l=B x:=by
 unfold appS at h ⊢;split at h
 .split at h
  .rename_i hk;rw[hle.live hk];exact h
  .simp at h
 .exact h
 .simp at h
theorem MF{a:Ty}{l:Leaf}{x}(h:appX rd a l=B x):appX bN a l=B x:=by
 unfold appX at h ⊢;split at h
 .split at h
  .rename_i hk;rw[hle.live hk];exact h
  .simp at h
 .exact h
 .exact h
 .split at h
  .rename_i hk;rw[hle.live hk];exact h
  .simp at h
 .simp at h
theorem jx0{t:O Ty}{l m:Leaf}{x}(h:AW rd t l m=B x):AW bN t l m=B x:=by
 unfold AW at h ⊢;split at h
 .split at h
  .rename_i hk;rw[hle.live hk];dsimp only;split at h
   .rename_i ht;rw[if_pos ht];split at h
    .rename_i hy;rw[MF hle hy];exact h
    .simp at h
   .simp at h
  .simp at h
 .simp at h
theorem ju4{t:O Ty}{l:Leaf}{x}(h:AX rd t l=B x):AX bN t l=B x:=by
 unfold AX at h ⊢;split at h
 .split at h
  .rename_i hk;rw[hle.live hk];exact h
  .simp at h
 .simp at h
theorem Hz:∀(ls:H Leaf){x},tvs rd ls=B x->tvs bN ls=B x
 |[],_,h=>h
 |l::ls,x,h=>by
  simp only[tvs]at h ⊢;split at h
  .rename_i hr;rw[Hz ls hr];dsimp only;split at h
   .exact h
   .split at h
    .rename_i hk;rw[hle.live hk];exact h
    .simp at h
   .simp at h
  .simp at h
theorem Vz:∀(cs:H Cel){x},vQ rd cs=B x->vQ bN cs=B x
 |[],_,h=>h
 |c::cs,x,h=>by
  simp only[vQ]at h ⊢;split at h
  .rename_i hr;rw[Vz cs hr];dsimp only;split at h
   .exact h
   .split at h
    .rename_i hk;rw[hle.live hk];dsimp only;split at h
     .rename_i ht;rw[Hz hle _ ht];exact h
     .simp at h
    .simp at h
   .simp at h
  .simp at h
end
theorem ju5{rd bN rdf dV:G->BS}(hle:RdLe rd bN)(fi:RdLe rdf dV){n:G}{c:Cel}{l:Leaf}{x}(h:vP rd rdf n c l=B x):vP bN dV n c l=B x:=by
 unfold vP at h ⊢;split at h
 .split at h
  .rename_i hk;rw[hle.live hk];exact h
  .rename_i hk;rw[hle.live hk];exact h
  .simp at h
 .split at h
  .rename_i hk;rw[hle.live hk];dsimp only;split at h
   .split at h
    .rename_i hi;rw[if_pos hi];split at h
     .rename_i hg;rw[Hy fi _ hg];exact h
     .simp at h
    .simp at h
   .simp at h
  .rename_i hk;rw[hle.live hk];dsimp only;split at h
   .split at h
    .rename_i hi;rw[if_pos hi];split at h
     .rename_i hg;rw[Hy fi _ hg];exact h
     .simp at h
    .simp at h
   .simp at h
  .rename_i hk;rw[hle.live hk];exact h
  .simp at h
 .simp at h
theorem ju6{par:G->Æ}{rd bN:G->BS}(hle:RdLe rd bN){ti:TyI}{n:G}{l:Leaf}{lo hi:O Leaf}{x}(h:AU par rd ti n l lo hi=B x):AU par bN ti n l lo hi=B x:=by
 unfold AU at h ⊢;split at h
 .exact h
 .split at h
  .split at h
   .rename_i hk;rw[hle.live hk];exact h
   .simp at h
  .split at h
   .rename_i hk;rw[hle.live hk];dsimp only;split at h
    .rename_i bG;rw[if_pos bG];split at h
     .split at h
      .rename_i hp;rw[if_pos hp];exact h
      .rename_i hp;rw[if_neg hp];split at h
       .rename_i hl;rw[if_pos hl];split at h
        .rename_i hf;rw[if_pos (hle.free hf)];exact h
        .simp at h
       .rename_i hl;rw[if_neg hl];exact h
     .simp at h
    .simp at h
   .simp at h
 .split at h
  .rename_i hk;rw[hle.live hk];exact h
  .simp at h
 .simp at h
theorem jx1{rd bN rdf dV:G->BS}(hle:RdLe rd bN)(fi:RdLe rdf dV){t:O TyI}{mv rl:Æ}{c:Cel}{x}(h:vR rd rdf t mv rl c=B x):vR bN dV t mv rl c=B x:=by
 unfold vR at h ⊢;split at h
 .split at h
  .rename_i hk;rw[hle.live hk];dsimp only;split at h
   .rename_i ht;rw[Hz fi _ ht];exact h
   .simp at h
  .rename_i hk;rw[hle.live hk];dsimp only;split at h
   .rename_i ht;rw[Hz fi _ ht];exact h
   .simp at h
  .simp at h
 .exact h
 .exact h
 .split at h
  .cases mv with
   |true=>
    simp only[j6]at h ⊢;split at h
    .rename_i hk;rw[fi.live hk];exact h
    .simp at h
   |false=>
    simp only[j7]at h ⊢;split at h
    .rename_i hk;rw[hle.live hk];exact h
    .simp at h
  .split at h
   .rename_i hk;rw[fi.live hk];exact h
   .simp at h
 .split at h
  .split at h
   .split at h
    .rename_i hd;rw[MD fi hd];exact h
    .simp at h
   .simp at h
  .simp at h
theorem MG{rd bN rdf dV:G->BS}(hle:RdLe rd bN)(fi:RdLe rdf dV){T:G->O TyI}{mv:Æ}:∀(cs:H Cel){ts:H G}{ms:H Æ}{x},pj rd rdf T mv ts ms cs=B x->pj bN dV T mv ts ms cs=B x
 |[],_,_,_,h=>h
 |c::cs,ts,ms,x,h=>by
  simp only[pj]at h ⊢;split at h
  .rename_i ha;rw[jx1 hle fi ha];dsimp only;split at h
   .rename_i hr;rw[MG hle fi cs hr];exact h
   .simp at h
  .simp at h
theorem jyM{rd bN rdf dV:G->BS}(hle:RdLe rd bN)(fi:RdLe rdf dV){n m:G}{us:Ups}{fs:H Bk}{os:H Out}{x}(h:mkHd rd rdf n us fs m os=B x):mkHd bN dV n us fs m os=B x:=by
 unfold mkHd at h ⊢;split at h
 .split at h
  .split at h
   .rename_i hf;simp only[jd]at hf;rw[if_pos (by simp only[jd];exact⟨hle.free hf.1,fi.isLive hf.2⟩)];exact h
   .simp at h
  .simp at h
 .simp at h
theorem VA{rd bN rdf dV:G->BS}(hle:RdLe rd bN)(fi:RdLe rdf dV){n:G}{us:Ups}{fs:H Bk}{r:Ret}{x}(h:tS rd rdf n us fs r=B x):tS bN dV n us fs r=B x:=by
 unfold tS at h ⊢;split at h
 .exact jyM hle fi h
 .unfold C3 at h ⊢;split at h
  .split at h
   .rename_i hf;simp only[jd]at hf;rw[if_pos (by simp only[jd];exact⟨hf.1,jv.2 λe he=>hle.free (jv.1 hf.2 e he)⟩)];exact h
   .simp at h
  .simp at h
 .split at h
  .split at h
   .split at h
    .rename_i hf;rw[if_pos (jv.2 λe he=>hle.free (jv.1 hf e he))];exact h
    .simp at h
   .simp at h
  .simp at h
inductive ActLe:Act->Act->Prop
 |val (chk:Æ) (s:Slot) (u:Ups):ActLe (.val chk s u) (.val chk s u)
 |call (f:G) (args:H Arg) (mk mk':Ret->O (Slot×Ups)):(∀r x,mk r=B x->mk' r=B x)->ActLe (.call f args mk) (.call f args mk')
theorem ActLe.refl(x:Act):ActLe x x:=by cases x with
 |val chk s u=>exact .val chk s u
 |call f args mk=>exact .call f args mk mk λ_ _ h=>h
theorem VC{x y:O Leaf}(h:∀z,x=B z->y=B z){r:Act}(hr:nL x=B r):nL y=B r:=by
 cases x with
 |none=>simp[nL]at hr
 |some z=>rw[h z rfl];exact hr
theorem jyN{x y:O (Æ×Leaf)}(h:∀z,x=B z->y=B z){r:Act}(hr:oChk x=B r):oChk y=B r:=by
 cases x with
 |none=>simp[oChk]at hr
 |some z=>rw[h z rfl];exact hr
theorem VD{rd bN:G->BS}(hle:RdLe rd bN){t:G}{k v:Ty}{x y:Leaf}{z}(h:mapC rd t k v x y=B z):mapC bN t k v x y=B z:=by
 unfold mapC at h ⊢;split at h
 .split at h
  .rename_i hb;simp only[hle.live hb];exact h
  .simp at h
 .simp at h
theorem VE{E:Env}{ev:Õ->Slot}{rd bN:G->BS}(gv:RdLe rd bN){act:H (G×Æ)}{o:Ä}{A:Act}(h:eG E ev rd act o=B A):∃A',eG E ev bN act o=B A'/\ActLe A A':=by
 have hle:=gv.msk;have fi:=hle.rdf E.np;have fj:∀k,(if parK E.np k then BS.gone else mskM bN k) = .gone\/(if parK E.np k then BS.gone else mskM bN k)=mskM bN k:=λk=>by by_cases hp:parK E.np k=X<;>simp[hp]
 have same:eG E ev bN act o=B A->∃A',eG E ev bN act o=B A'/\ActLe A A':=λh=>⟨A,h,.refl A⟩;obtain⟨dst,op,type,pos,after,guard⟩:=o;cases op
 case alloc t=>
  refine same ?_;simp only[eG]at h ⊢;split at h
  .split at h
   .rename_i hf;simp only[hle.free hf,if_true];exact h
   .simp at h
  .simp at h
 case box t x=>
  refine same ?_;simp only[eG]at h ⊢;split at h
  .rename_i hf;simp only[hle.free hf,if_true];exact h
  .simp at h
 case build t ps=>
  refine same ?_;simp only[eG]at h ⊢;split at h
  .split at h
   .split at h
    .rename_i hi;simp only[hi,if_true];exact h
    rename_i hi;rw[if_neg hi];split at h
    .rename_i hb;rw[ME fi _ _ hb];exact h
    .simp at h
   .exact h
   .simp at h
  .simp at h
 case buildSlice t n ps=>
  refine same ?_;simp only[eG]at h ⊢;split at h
  .split at h
   .split at h
    .rename_i dF;rw[if_pos dF];exact jyH hle.free h
    rename_i dF;rw[if_neg dF];split at h
    .simp at h
    .rename_i hn;simp only[hn,qz];split at h
     .rename_i hb;rw[ME fi _ _ hb];dsimp only;split at h
      .rename_i hf;simp only[hle.free hf,if_true];exact h
      .simp at h
     .simp at h
   .simp at h
  .simp at h
 case load t x=>
  refine same ?_;simp only[eG]at h ⊢;split at h
  .split at h
   .rename_i rQ;split at h
    .rename_i hg;rw[ju1 hle rQ];dsimp only;rw[Vw fi _ hg];exact h
    .simp at h
   .rename_i rQ;cases ug:pd (mskM rd) _ (lf ((ev x).cel act)) with
    |none=>rw[ug]at h;simp[oCel]at h
    |some c=>rw[ju2 hle rQ ug,jwY hle ug];rw[ug]at h;exact h
  .simp at h
 case store t x y=>
  refine same ?_;simp only[eG]at h ⊢;split at h
  .split at h
   .rename_i hs;rw[ju5 hle fi hs];exact h
   .simp at h
  .simp at h
 case nilCheck x=>
  refine same ?_;simp only[eG]at h ⊢;split at h
  .split at h
   .rename_i hl;simp only[hle.isLive hl,if_true];exact h
   .simp at h
  .split at h
   .rename_i hl;simp only[hle.isLive hl,if_true];exact h
   .simp at h
  .exact h
  .simp at h
 case makeFunc fn first captured=>
  refine same ?_;cases fn with
  |func f=>
   simp only[eG]at h ⊢;split at h
   .rename_i hf;simp only[hf,if_true];split at h
    .rename_i rF;simp only[rF,if_true];exact h
    .rename_i rF;simp only[rF];split at h
     .rename_i hc;rw[Vz fi _ hc];exact h
     .simp at h
   .simp at h
  |_=>simp[eG]at h
 case fieldAddr t x i=>
  refine same ?_;simp only[eG]at h ⊢;split at h
  .exact VC (λz hz=>jtZ hle hz) h
  .simp at h
 case indexAddr t x i=>
  refine same ?_;simp only[eG]at h ⊢;split at h
  .exact jyN (λz hz=>ju0 hle hz) h
  .simp at h
 case call c=>
  simp only[eG]at h ⊢;cases hc:c.callee with
  |invoke r m=>simp[hc]at h
  |value f=>
   simp only[hc]at h ⊢;split at h
   .split at h
    .rename_i ha;rw[MG gv fi _ ha];dsimp only;split at h
     .rename_i hb;simp only[hb,if_true];simp only[j5]at h;subst h;exact⟨_,rfl,.call _ _ _ _ λr x hx=>VA hle fi hx⟩
     .simp at h
    .simp at h
   .split at h
    .rename_i ha;rw[MG gv fi _ ha];dsimp only;split at h
     .rename_i hb;simp only[hb,if_true];simp only[j5]at h;subst h;exact⟨_,rfl,.call _ _ _ _ λr x hx=>VA hle fi hx⟩
     .simp at h
    .simp at h
   .simp at h
  |builtin b=>
   simp only[hc]at h ⊢;cases b
   case len=>
    refine⟨A,?_,.refl A⟩;dsimp only at h ⊢;split at h
    .split at h
     .exact VC (λz hz=>jyE hle hz) h
     .simp at h
    .simp at h
   case append=>
    refine⟨A,?_,.refl A⟩;dsimp only at h ⊢;split at h
    .split at h
     .rename_i ht;rw[if_pos ht];split at h
      .split at h
       .rename_i bG;split at h
        .rename_i hh;rw[jyF hle hh];exact h
        split at h
        .rename_i hh;rw[jwZ hh];dsimp only;rw[jyJ hle fi hh];exact h
        split at h
        .rename_i h1 h2;rw[jyG h1];dsimp only;rw[jyK fj (MF hle h2),jyL fi h1,MF hle h2];dsimp only;split at h
         .rename_i hf;simp only[hle.free hf,if_true];exact h
         .simp at h
        .simp at h
       .simp at h
      .simp at h
     .simp at h
    .simp at h
   case copy=>
    refine⟨A,?_,.refl A⟩;dsimp only at h ⊢;split at h
    .split at h
     .rename_i ht;rw[if_pos ht];split at h
      .split at h
       .rename_i hq;rw[jx0 hle hq];exact h
       .simp at h
      .simp at h
     .simp at h
    .simp at h
   case clear=>
    refine⟨A,?_,.refl A⟩;dsimp only at h ⊢;split at h
    .split at h
     .split at h
      .rename_i hq;rw[ju4 hle hq];exact h
      .simp at h
     .simp at h
    .simp at h
   all_goals exact⟨A,h,.refl A⟩
 case slice t x lo hi mx=>
  refine same ?_;cases mx with
  |some m=>
   simp only[eG]at h ⊢;split at h
   .split at h
    .rename_i hq;rw[ju3 hle hq];exact h
    .simp at h
   .simp at h
  |none=>
   simp only[eG]at h ⊢;split at h
   .split at h
    .rename_i hq;rw[ju6 hle hq];exact h
    .simp at h
   .simp at h
 case makeMap t x=>
  refine same ?_;cases x with
  |some m=>simp[eG]at h
  |none=>
   simp only[eG]at h ⊢;split at h
   .split at h
    .rename_i hf;simp only[hle.free hf,if_true];exact h
    .simp at h
   .simp at h
 case lookup t x i ok=>
  refine same ?_;simp only[eG]at h ⊢;split at h
  .split at h
   .rename_i hq;rw[VD gv hq];exact h
   .simp at h
  .simp at h
 case mapUpdate t x i y=>
  refine same ?_;simp only[eG]at h ⊢;split at h
  .split at h
   .rename_i hq hd;rw[VD gv hq,MD fi hd];exact h
   .simp at h
  .simp at h
 all_goals exact⟨A,h,.refl A⟩
section
variable{N:NT}{np:G}{S0:aY}{w0:Z}{refs:Refs}{σ:St}{a:À}{w:Z}{S:aY}{γ:G->Y}
def CFun(C:G->H Arg->(R:Type)->(Ret->O R)->O R):Prop:=
 ∀f args,∃o:O Ret,∀(R:Type)(k:Ret->O R),C f args R k=o.bind k
theorem VF{E:Env}{ev qJ:Õ->Slot}{rd:G->BS}{act:H (G×Æ)}{o:Ä}(h:∀x∈o.op.operands,ev x=qJ x):eG E ev rd act o=eG E qJ rd act o:=by
 have wR:∀ps:Ã (G×Õ),(∀x∈ps.toList.map (·.2),ev x=qJ x)->
   (ps.toList.map λp=>(p.1,(ev p.2).cel act))=(ps.toList.map λp=>(p.1,(qJ p.2).cel act)):=λps hp=>
  é λp hm=>by simp only[hp p.2 (jx.2 ⟨p,hm,rfl⟩)]
 have args:∀ps:Ã Õ,(∀x∈ps,ev x=qJ x)->(ps.toList.map λp=>(ev p).cel act)=(ps.toList.map λp=>(qJ p).cel act):=λps hp=>
  é λp hm=>by rw[hp p (by simpa using hm)]
 obtain⟨dst,op,type,pos,after,guard⟩:=o;cases op<;>simp only[Op.operands]at h<;>simp only[eG]
 case build t ps=>rw[wR ps λx hx=>h x (by simpa using hx)]
 case buildSlice t n ps=>rw[wR ps λx hx=>h x (by simpa using hx)]
 case makeFunc fn first captured=>
  have e:=args captured λx hx=>h x (by simp[hx]);cases fn with
  |func f=>simp only[e]
  |_=>rfl
 case call c=>
  have ha:=args c.args (λx hx=>h x (by simp[Call.operands,hx]));have pD:∀x∈c.args.toList,ev x=qJ x:=λx hx=>h x (by simp[Call.operands];right;simpa using hx);simp only[ha];cases hc:c.callee with
  |value f=>have hf:ev f=qJ f:=h f (by simp[Call.operands,hc]);simp only[hf]
  |invoke r m=>rfl
  |builtin b=>
   cases b<;>simp only
   case len=>
    split
    .rename_i x t il uI;have:=pD x (by rw[il];simp);simp only[this]
    .rfl
   case append=>
    split
    .rename_i t t' s x uI il;have e1:=pD s (by rw[il];simp);have e2:=pD x (by rw[il];simp);simp only[e1,e2]
    .rfl
   case copy=>
    split
    .rename_i t t' s x uI il;have e1:=pD s (by rw[il];simp);have e2:=pD x (by rw[il];simp);simp only[e1,e2]
    .rfl
   case clear=>
    split
    .rename_i t x uI il;have e1:=pD x (by rw[il];simp);simp only[e1]
    .rfl
 case slice t x lo hi mx=>
  have e1:=h x ae
  have eo:∀y:O Õ,(∀z,y=B z->ev z=qJ z)->(y.map λx=>lf ((ev x).cel act))=(y.map λx=>lf ((qJ x).cel act)):=by
   intro y hy;cases y with
   |none=>rfl
   |some z=>simp only[kn,hy z rfl]
  have e2:=eo lo (λz hz=>h z (by simp[hz]));have e3:=eo hi (λz hz=>h z (by simp[hz]));cases mx with
  |some m=>have e4:=h m ae;simp only[e1,e2,e3,e4]
  |none=>simp only[e1,e2,e3]
 case makeMap t x=>cases x<;>rfl
 all_goals (first|rfl|(simp_all;done))
def ShEq:BS->BS->Prop
 |.live (.cell _ _),.live (.cell _ _)=>True
 |.live (.lst e a xs _),.live (.lst e' a' du _)=>e=e'/\a=a'/\xs.length=du.length
 |.live (.arr n a _),.live (.arr n' a' _)=>n=n'/\a=a'
 |.live (.row e a n _),.live (.row e' a' n' _)=>e=e'/\a=a'/\n=n'
 |.free,.free=>True
 |.gone,.gone=>True
 |_,_=>False
theorem ShEq.refl:∀b:BS,ShEq b b
 |.live (.cell _ _)=>trivial
 |.live (.lst _ _ _ _)=>⟨rfl,rfl,rfl⟩
 |.live (.arr _ _ _)=>⟨rfl,rfl⟩
 |.live (.row _ _ _ _)=>⟨rfl,rfl,rfl⟩
 |.free=>trivial
 |.gone=>trivial
theorem ShEq.symm{b c:BS}(h:ShEq b c):ShEq c b:=by
 cases b with
 |free=>cases c<;>simp_all[ShEq]
 |gone=>cases c<;>simp_all[ShEq]
 |live b=>
  cases c with
  |free=>cases b<;>simp[ShEq]at h
  |gone=>cases b<;>simp[ShEq]at h
  |live c=>
   cases b<;>cases c<;>simp only[ShEq]at h ⊢
   .exact⟨h.1.symm,h.2.1.symm,h.2.2.symm⟩
   .exact⟨h.1.symm,h.2.symm⟩
   .exact⟨h.1.symm,h.2.1.symm,h.2.2.symm⟩
theorem ShEq.trans{b c d:BS}(h:ShEq b c)(h':ShEq c d):ShEq b d:=by
 cases b with
 |free=>cases c with
  |free=>exact h'
  |gone=>simp[ShEq]at h
  |live c=>cases c<;>simp[ShEq]at h
 |gone=>cases c with
  |gone=>exact h'
  |free=>simp[ShEq]at h
  |live c=>cases c<;>simp[ShEq]at h
 |live b=>cases c with
  |free=>cases b<;>simp[ShEq]at h
  |gone=>cases b<;>simp[ShEq]at h
  |live c=>cases d with
   |free=>cases c<;>simp[ShEq]at h'
   |gone=>cases c<;>simp[ShEq]at h'
   |live d=>
    cases b<;>cases c<;>simp only[ShEq]at h<;>cases d<;>simp only[ShEq]at h' ⊢
    .exact⟨h.1.trans h'.1,h.2.1.trans h'.2.1,h.2.2.trans h'.2.2⟩
    .exact⟨h.1.trans h'.1,h.2.trans h'.2⟩
    .exact⟨h.1.trans h'.1,h.2.1.trans h'.2.1,h.2.2.trans h'.2.2⟩
theorem ShEq.mask{rd bN:G->BS}{M:H G}(h:∀k,M.contains k=U->ShEq (rd k) (bN k))(k:G):ShEq (kB M rd k) (kB M bN k):=by
 unfold kB;split
 .trivial
 .rename_i hc;exact h k (by simpa using hc)
theorem HA{b c:BS}(h:ShEq b c):isLive b=isLive c:=by
 cases b with
 |free=>cases c<;>simp_all[ShEq,isLive]
 |gone=>cases c<;>simp_all[ShEq,isLive]
 |live b=>cases c with
  |free=>cases b<;>simp[ShEq]at h
  |gone=>cases b<;>simp[ShEq]at h
  |live c=>rfl
theorem jyO{rd bN:G->BS}(h:∀k,ShEq (rd k) (bN k))(ti:TyI)(l i:Leaf):tR rd ti l i=tR bN ti l i:=by
 unfold tR;split
 .rename_i k _ _;have hk:=h k;generalize rd k=b at hk;generalize bN k=c at hk;cases b with
  |free=>cases c<;>simp_all[ShEq]
  |gone=>cases c<;>simp_all[ShEq]
  |live b=>cases c with
   |free=>cases b<;>simp[ShEq]at hk
   |gone=>cases b<;>simp[ShEq]at hk
   |live c=>
    cases b with
    |lst e a xs f=>cases c with
     |lst e' a' du f'=>simp only[ShEq]at hk;obtain⟨rfl,rfl,hl⟩:=hk;dsimp only;rw[hl]
     |cell _ _=>simp[ShEq]at hk
     |arr _ _ _=>simp[ShEq]at hk
     |row _ _ _ _=>simp[ShEq]at hk
    |cell _ _=>cases c<;>first|rfl|(simp[ShEq]at hk)
    |arr _ _ _=>cases c<;>first|rfl|(simp[ShEq]at hk)
    |row e a n _=>cases c with
     |row e' a' n' _=>simp only[ShEq]at hk;obtain⟨rfl,rfl,rfl⟩:=hk;rfl
     |_=>simp[ShEq]at hk
 .rfl
 .rename_i k _ _;have hk:=h k;generalize rd k=b at hk;generalize bN k=c at hk;cases b with
  |free=>cases c<;>simp_all[ShEq]
  |gone=>cases c<;>simp_all[ShEq]
  |live b=>cases c with
   |free=>cases b<;>simp[ShEq]at hk
   |gone=>cases b<;>simp[ShEq]at hk
   |live c=>
    cases b with
    |arr n a xs=>cases c with
     |arr n' a' du=>simp only[ShEq]at hk;obtain⟨rfl,rfl⟩:=hk;rfl
     |cell _ _=>simp[ShEq]at hk
     |lst _ _ _ _=>simp[ShEq]at hk
     |row _ _ _ _=>simp[ShEq]at hk
    |cell _ _=>cases c<;>first|rfl|(simp[ShEq]at hk)
    |lst _ _ _ _=>cases c<;>first|rfl|(simp[ShEq]at hk)
    |row _ _ _ _=>cases c<;>first|rfl|(simp[ShEq]at hk)
 .rename_i k _ _ _;have hk:=h k;generalize rd k=b at hk;generalize bN k=c at hk;cases b with
  |free=>cases c<;>simp_all[ShEq]
  |gone=>cases c<;>simp_all[ShEq]
  |live b=>cases c with
   |free=>cases b<;>simp[ShEq]at hk
   |gone=>cases b<;>simp[ShEq]at hk
   |live c=>
    cases b with
    |lst e a xs f=>cases c with
     |lst e' a' du f'=>simp only[ShEq]at hk;obtain⟨rfl,rfl,hl⟩:=hk;dsimp only;rw[hl]
     |cell _ _=>simp[ShEq]at hk
     |arr _ _ _=>simp[ShEq]at hk
     |row _ _ _ _=>simp[ShEq]at hk
    |cell _ _=>cases c<;>first|rfl|(simp[ShEq]at hk)
    |arr _ _ _=>cases c<;>first|rfl|(simp[ShEq]at hk)
    |row _ _ _ _=>cases c<;>first|rfl|(simp[ShEq]at hk)
 .rfl
theorem jyP{rd bN:G->BS}(h:∀k,ShEq (rd k) (bN k))(ti:TyI)(i:G)(l:Leaf):p9 rd ti i l=p9 bN ti i l:=by
 unfold p9;split
 .rw[HA (h _)]
 .rw[HA (h _)]
 .rfl
 .rfl
theorem ShEq.msk{rd bN:G->BS}{k:G}(h:ShEq (rd k) (bN k)):ShEq (mskM rd k) (mskM bN k):=by
 unfold mskM;generalize rd k=a at h;generalize bN k=b at h;cases a with
 |free=>cases b<;>simp_all[ShEq]
 |gone=>cases b<;>simp_all[ShEq]
 |live a=>
  cases b with
  |free=>cases a<;>simp[ShEq]at h
  |gone=>cases a<;>simp[ShEq]at h
  |live b=>
   cases a<;>cases b<;>simp only[ShEq]at h<;>dsimp only
   .trivial
   .obtain⟨rfl,rfl,h3⟩:=h;rename_i e _ _ _ _ _;cases isM e
    .exact⟨rfl,rfl,h3⟩
    .trivial
   .exact h
   .exact h
theorem jBn{E:Env}{ev:Õ->Slot}{rd bN:G->BS}{act:H (G×Æ)}{o:Ä}(ha:qZ o=X)(h:∀k,ShEq (rd k) (bN k)):eG E ev rd act o=eG E ev bN act o:=by
 have h:∀k,ShEq (mskM rd k) (mskM bN k):=λk=>(h k).msk;obtain⟨dst,op,type,pos,after,guard⟩:=o;cases op<;>simp only[qZ,ku]at ha
 .simp only[eG];split
  .rw[HA (h _)]
  .rw[HA (h _)]
  .rfl
  .rfl
 .simp only[eG];split
  .rw[jyP h]
  .rfl
 .simp only[eG];split
  .rw[jyO h]
  .rfl
theorem VG:∀(u:Ups)(σ:St),(∀e∈u,ShEq (σ.bx e.1) e.2)->∀k,ShEq (σ.bx k) ((σ.upd u).bx k)
 |[],σ,_,k=>ShEq.refl _
 |e::u,σ,h,k=>by
  have h0:∀k,ShEq (σ.bx k) ((σ.setB e.1 e.2).bx k):=by
   intro k;simp only[St.setB];split
   .rename_i hk;rw[hk];exact h e ae
   .exact ShEq.refl _
  have h1:=VG u (σ.setB e.1 e.2) (λx hx=>(h0 x.1).symm.trans (h x (by simp[hx]))) k;exact(h0 k).trans h1
def UpSh(rd:G->BS)(u:Ups):Prop:=∀e∈u,ShEq (rd e.1) e.2/\isLive e.2=X
theorem jyQ{rd:G->BS}{t:Ty}{l:Leaf}{v:t.den}{u:Ups}(h:kY rd t l=B (v,u)):UpSh rd u:=by
 unfold kY at h;split at h
 .split at h
  .simp only[j5,j9]at h;rw[<-h.2];intro e he;simp at he
  .simp at h
 .split at h
  .simp only[j5,j9]at h;rw[<-h.2];intro e he;simp at he
  .simp at h
 .split at h
  .rename_i hk;split at h
   .simp only[j5,j9]at h;rw[<-h.2];intro e he;simp only[ki]at he;subst he;dsimp only;rw[hk];exact⟨⟨rfl,rfl,rfl⟩,rfl⟩
   .simp at h
  .simp at h
 .simp at h
theorem jBo{rd:G->BS}{t:Ty}{l:Leaf}{v:t.den}{u:Ups}(h:kG rd t l=B (v,u)):UpSh rd u:=by
 unfold kG at h;split at h
 .simp only[j5,j9]at h;rw[<-h.2];intro e he;simp at he
 .exact jyQ h
theorem UpSh.app{rd:G->BS}{u v:Ups}(h:UpSh rd u)(h':UpSh rd v):UpSh rd (u++v):=by
 intro e he;rcases jm.1 he with he|he
 .exact h e he
 .exact h' e he
theorem VH{rd:G->BS}:∀(t:Ty){ls:H Leaf}{v:t.den}{r:H Leaf}{u:Ups},gath rd t ls=B (v,r,u)->UpSh rd u:=by
 intro t;induction t with
 |unit=>intro ls v r u h;simp only[gath,j5,j9]at h;rw[<-h.2.2];intro e he;simp at he
 |wrap a ih=>
  intro ls v r u h;simp only[gath]at h;split at h
  .rename_i hg;simp only[j5,j9]at h;rw[<-h.2.2];exact ih hg
  .simp at h
 |pair a b sZ s9=>
  intro ls v r u h;simp only[gath]at h;split at h
  .rename_i hg;split at h
   .rename_i gw;simp only[j5,j9]at h;rw[<-h.2.2];exact(sZ hg).app (s9 gw)
   .simp at h
  .simp at h
 |arr n a ih=>intro ls v r u h;simp[gath]at h
 |_=>
  intro ls v r u h;cases ls with
  |nil=>simp[gath]at h
  |cons l ls=>
   simp only[gath]at h;split at h
   .rename_i hl;simp only[j5,j9]at h;rw[<-h.2.2];exact jBo hl
   .simp at h
theorem jyS{rd rdf:G->BS}(bz:RdLe rdf rd){n:G}{c:Cel}{l:Leaf}{u:Ups}(h:vP rd rdf n c l=B u):UpSh rd u:=by
 have one:∀(k:G)(b b':Bx),rd k = .live b->ShEq (.live b) (.live b')->UpSh rd [(k,.live b')]:=by intro k b b' hk hs e he;simp only[ki]at he;subst he;exact⟨by rw[hk];exact hs,rfl⟩
 have lift:∀u,UpSh rdf u->UpSh rd u:=by
  intro u hu e he;obtain⟨h1,h2⟩:=hu e he;rcases bz e.1 with hq|hq
  .rw[hq]at h1;exact⟨h1,h2⟩
  .rw[hq]at h1;cases h3:e.2 with
   |free=>rw[h3]at h2;simp[isLive]at h2
   |gone=>rw[h3]at h2;simp[isLive]at h2
   |live b=>rw[h3]at h1;cases b<;>simp[ShEq]at h1
 unfold vP at h;split at h
 .split at h
  .rename_i hk;split at h
   .split at h
    .simp only[j5]at h;subst h;exact one _ _ _ hk trivial
    .simp at h
   .simp at h
  .rename_i hk;split at h
   .split at h
    .split at h
     .split at h
      .simp only[j5]at h;subst h;exact one _ _ _ hk ⟨rfl,rfl⟩
      .simp at h
     .simp at h
    .simp at h
   .simp at h
  .simp at h
 .split at h
  .rename_i hk;split at h
   .split at h
    .split at h
     .rename_i hg;split at h
      .simp at h
      .simp only[j5]at h;subst h;exact(lift _ (VH _ hg)).app (one _ _ _ hk ⟨rfl,rfl,ae⟩)
     .simp at h
    .simp at h
   .simp at h
  .rename_i hk;split at h
   .split at h
    .split at h
     .rename_i hg;split at h
      .simp at h
      .simp only[j5]at h;subst h;exact(lift _ (VH _ hg)).app (one _ _ _ hk ⟨rfl,rfl⟩)
     .simp at h
    .simp at h
   .simp at h
  .rename_i hk;split at h
   .split at h
    .simp only[j5]at h;subst h;exact one _ _ _ hk ⟨rfl,rfl,rfl⟩
    .simp at h
   .simp at h
  .simp at h
 .simp at h
theorem jF2(np:G)(rd:G->BS):RdLe (λk=>if parK np k then .gone else rd k) rd:=by
 intro k;dsimp only;split
 .exact .inr rfl
 .exact .inl rfl
theorem UpSh.le{rd bN:G->BS}(hle:RdLe rd bN){u:Ups}(h:UpSh rd u):UpSh bN u:=by
 intro e he;obtain⟨h1,h2⟩:=h e he;rcases hle e.1 with hq|hq
 .rw[hq]at h1;exact⟨h1,h2⟩
 .rw[hq]at h1;cases h3:e.2 with
  |free=>rw[h3]at h2;simp[isLive]at h2
  |gone=>rw[h3]at h2;simp[isLive]at h2
  |live b=>rw[h3]at h1;cases b<;>simp[ShEq]at h1
theorem jDK(rd:G->BS):RdLe (mskM rd) rd:=λk=>Ue k
theorem ju7{E:Env}{ev:Õ->Slot}{rd:G->BS}{act:H (G×Æ)}{o:Ä}(ho:tU o=X){chk:Æ}{s:Slot}{u:Ups}(h:eG E ev rd act o=B (.val chk s u)):UpSh rd u:=by
 obtain⟨dst,op,type,pos,after,guard⟩:=o;cases op<;>simp only[tU,ku]at ho;simp only[eG]at h;split at h
 .split at h
  .rename_i hs;simp only[j5,Act.val.injEq]at h;rw[<-h.2.2];exact(jyS (jF2 E.np (mskM rd)) hs).le (jDK rd)
  .simp at h
 .simp at h
theorem jnv{E:Env}{ev:Õ->Slot}{rd:G->BS}{act:H (G×Æ)}{o:Ä}(ho:tU o=X){f:G}{args:H Arg}{mk:Ret->O (Slot×Ups)}:eG E ev rd act o≠B (.call f args mk):=by
 obtain⟨dst,op,type,pos,after,guard⟩:=o;cases op<;>simp only[tU,ku]at ho;intro h;simp only[eG]at h;split at h
 .split at h
  .simp at h
  .simp at h
 .simp at h
theorem UpSh.unmask{rd:G->BS}{M:H G}{u:Ups}(h:UpSh (kB M rd) u):UpSh rd u:=by
 intro e he;obtain⟨h1,h2⟩:=h e he;rcases MC M rd e.1 with hq|hq
 .rw[hq]at h1;exact⟨h1,h2⟩
 .rw[hq]at h1;cases h3:e.2 with
  |free=>rw[h3]at h2;simp[isLive]at h2
  |gone=>rw[h3]at h2;simp[isLive]at h2
  |live b=>rw[h3]at h1;cases b<;>simp[ShEq]at h1
end
section
variable{N:NT}{np:G}{S0:aY}{w0:Z}{refs:Refs}{σ:St}{a:À}{w:Z}{S:aY}{γ:G->Y}
inductive Bef(ops:Ã Ä):G->G->Prop
 |dep {i j:G} {o:Ä}:ops[i]? = B o->j∈gR o->Bef ops i j
 |trans {i j k:G}:Bef ops i j->Bef ops j k->Bef ops i k
structure DOkR(ops:Ã Ä)(A:H (H G)):Prop where
 lt:∀i o,ops[i]? = B o->∀j∈gR o,j<i
 addr:∀i o,ops[i]? = B o->qZ o=X->∀k,k∉A.getD i []
 dst:∀i j oi oj t,ops[i]? = B oi->ops[j]? = B oj->i≠j->oj.dst=B t->oi.dst≠B t/\(t∈oi.looksAt ops->Bef ops i j\/Bef ops j i)
 box:∀i j oi oj k,ops[i]? = B oi->ops[j]? = B oj->i≠j->k∈A.getD i []->k∈A.getD j []->Bef ops i j\/Bef ops j i
theorem DOkR.bef{ops:Ã Ä}{A:H (H G)}(h:DOkR ops A){i j:G}(hb:Bef ops i j):j<i:=by
 induction hb with
 |dep ho hj=>exact h.lt _ _ ho _ hj
 |trans _ _ h1 h2=>omega
def ClOk(ops:Ã Ä)(cl:H G):Prop:=∀i j,(cl.getD i 0).testBit j=X->Bef ops i j
theorem VI{ops:Ã Ä}{cls:H G}(hc:ClOk ops cls){i:G}{o:Ä}(ho:ops[i]? = B o):∀(l:H G)(m:G),(∀j∈l,j∈gR o)->(∀j,m.testBit j=X->Bef ops i j)->
  ∀j,(l.foldl (λm j=>m|||(2^j|||cls.getD j 0)) m).testBit j=X->Bef ops i j
 |[],m,_,hm,j,h=>hm j h
 |x::l,m,hl,hm,j,h=>by
  refine VI hc ho l _ (λj hj=>hl j (by simp[hj])) (λj hj=>?_) j h;simp only[Nat.testBit_or,qk,Nat.testBit_two_pow,jj]at hj;rcases hj with hj|hj|hj
  .exact hm j hj
  .subst hj;exact .dep ho (hl x ae)
  .exact .trans (.dep ho (hl x ae)) (hc x j hj)
theorem HB{ops:Ã Ä}:∀(l:H Ä)(cls:H G),ClOk ops cls->(∀k o,l[k]? = B o->ops[cls.length+k]? = B o)->ClOk ops (tV l cls)
 |[],cls,hc,_=>hc
 |o::os,cls,hc,hl=>by
  have ho:ops[cls.length]? = B o:=by have:=hl 0 o rfl;simpa using this
  refine HB os _ ?_ (λk x hk=>by
   have:=hl (k+1) x (by simpa using hk);rw[List.length_append,kz];rwa[show cls.length+1+k=cls.length+(k+1) by omega])
  intro i j eh;rcases v8 i cls.length with hi|hi|hi
  .rw[Ê,Ì hi,<-Ê]at eh;exact hc i j eh
  .subst hi;rw[Ê,ke (jq _),Nat.sub_self]at eh;simp only[List.getElem?_cons_zero,z6]at eh;exact VI hc ho (gR o) 0 (λ_ h=>h) (λj h=>by simp at h) j eh
  .rw[Ê,qf az]at eh;simp at eh
theorem MH{ops:Ã Ä}{cl:H G}(hc:ClOk ops cl){i j:G}(h:C6 cl i j=X):i=j\/Bef ops i j\/Bef ops j i:=by
 simp only[C6,qk,vg]at h;rcases h with (h|h)|h
 .exact .inl h
 .exact .inr (.inl (hc i j h))
 .exact .inr (.inr (hc j i h))
theorem VJ{ops:Ã Ä}{cl:H G}{A:H (H G)}(hc:ClOk ops cl)(bT:TT ops cl A=X):DOkR ops A:=by
 have hz:∀{i:G}{o:Ä},ops[i]? = B o->(o,i)∈ops.toList.zipIdx:=by intro i o ho;rw[zj];exact⟨i,by rw[æ];simp[ho]⟩
 have pE:∀i k,k∈A.getD i []->A.isEmpty=false:=by
  intro i k hk;cases A with
  |nil=>simp at hk
  |cons _ _=>rfl
 have ay:∀{i:G}{o:Ä},ops[i]? = B o->(∀j∈gR o,j<i)/\(A.isEmpty || !qZ o||(A.getD i []).isEmpty)=X/\∀j oj,ops[j]? = B oj->GY ops cl A i o j oj=true:=by intro i o ho;have:=jv.1 bT (o,i) (hz ho);simp only[jd]at this;exact⟨λj hj=>by simpa using jv.1 this.1.1 j hj,this.1.2,λj oj lv=>jv.1 this.2 (oj,j) (hz lv)⟩
 refine⟨λi o ho=>(ay ho).1,λi o ho mU k hk=>?_,λi j oi oj t hi hj eh ht=>?_,λi j oi oj k hi hj eh hk bn=>?_⟩
 .have:=(ay ho).2.1;rw[pE i k hk,mU]at this;simp only[jc,yg,List.isEmpty_iff]at this;rw[this]at hk;simp at hk
 .have:=(ay hi).2.2 j oj hj;simp only[GY,ht,jd]at this;have h1:=this.1;simp only[qk,vg,eh,false_or,jd,bne_iff_ne,ne_eq,q9,qj,kg]at h1;refine⟨h1.1,λhm=>?_⟩;rcases h1.2 with h|h
  .exact absurd hm h
  .exact(MH hc h).resolve_left eh
 .have:=(ay hi).2.2 j oj hj;simp only[GY,jd]at this;have h2:=this.2;rw[pE i k hk]at h2;simp only[yg,qk]at h2;rcases h2 with h|h
  .exact(MH hc h).resolve_left eh
  .have:=jv.1 h k hk;simp only[qj,q9,kg]at this;exact absurd bn this
theorem VK{ops:Ã Ä}{cl:H G}{A:H (H G)}(hc:ClOk ops cl){i:G}{oi:Ä}{k:G}(hm:(tW ops cl A i oi).contains k=U){j:G}{oj:Ä}(hj:ops[j]? = B oj)(hk:k∈A.getD j []) :
  i=j\/Bef ops i j\/Bef ops j i\/(qZ oi=X/\tU oj=X):=by
 have hz:(oj,j)∈ops.toList.zipIdx:=by rw[zj];exact⟨j,by rw[æ];simp[hj]⟩
 have br:A.isEmpty=false:=by
  cases A with
  |nil=>simp at hk
  |cons _ _=>rfl
 unfold tW at hm;rw[br]at hm;simp only[ku,qz,qj,kg,q8,not_exists,not_and]at hm;have:=hm (oj,j) hz;dsimp only at this;split at this
 .rename_i h;simp only[qk,jd]at h;rcases h with h|h
  .rcases MH hc h with h|h|h
   .exact .inl h
   .exact .inr (.inl h)
   .exact .inr (.inr (.inl h))
  .exact .inr (.inr (.inr h))
 .exact absurd hk this
inductive DStep(P:Á)(E:Env)(ops:Ã Ä)(M Ai:H G)(o:Ä)(σ:St):St->Prop
 |skip (s:G) (wn v:Æ):o9 ops o=B (s,wn)->σ.sl s = .one (.one (.d .bool v))->v≠wn->DStep P E ops M Ai o σ (σ.setD o.dst .und)
 |skipU (s:G) (wn:Æ):o9 ops o=B (s,wn)->σ.sl s = .und->DStep P E ops M Ai o σ (σ.setD o.dst .und)
 |val (s:Slot) (u:Ups):(o.guard=Â\/∃s wn,o9 ops o=B (s,wn)/\σ.sl s = .one (.one (.d .bool wn)))->eG E σ.ev (kB M σ.bx) [] o=B (.val X s u)->(∀e∈u,e.1∈Ai)->
  DStep P E ops M Ai o σ ((σ.upd u).setD o.dst s)
 |call (f:G) (args:H Arg) (mk:Ret->O (Slot×Ups)) (ret:Ret) (s:Slot) (u:Ups):(o.guard=Â\/∃s wn,o9 ops o=B (s,wn)/\σ.sl s = .one (.one (.d .bool wn)))->
  eG E σ.ev (kB M σ.bx) [] o=B (.call f args mk)->Fun P f->Hn P f args (λr=>r=ret)->mk ret=B (s,u)->(∀e∈u,e.1∈Ai)->DStep P E ops M Ai o σ ((σ.upd u).setD o.dst s)
theorem VL{s:G}{x:Slot}(h:σ.sl s=x):σ.setS s x=σ:=by
 unfold St.setS
 have:(λj=>if j=s then x else σ.sl j)=σ.sl:=by
  funext j
  split
  .rename_i hj;subst hj;exact h.symm
  .rfl
 rw[this]
theorem VM{u:Ups}{Ai:H G}(h:(u.all λe=>Ai.contains e.1)=X):∀e∈u,e.1∈Ai:=λe he=>by simpa using jv.1 h e he
theorem MI{P:Á}{E:Env}(hC:kD P E.C)(hF:CFun E.C){ops:Ã Ä}{M Ai:H G}{o:Ä}{R:Type}{k:St->O R}{r:R}
  (hg:o.guard=Â\/∃s wn,o9 ops o=B (s,wn)/\σ.sl s = .one (.one (.d .bool wn)))(h:runD E M Ai σ o k=B r):∃σ',DStep P E ops M Ai o σ σ'/\k σ'=B r:=by
 unfold runD at h
 replace h:=TS h
 split at h
 .simp at h
 .rename_i chk s u ho;split at h
  .rename_i hb;cases chk with
   |false=>simp at h
   |true=>exact⟨_,.val s u hg ho (VM hb),h⟩
  .simp at h
 .rename_i f args mk ho;obtain⟨x,hx⟩:=hF f args;rw[hx]at h;cases x with
  |none=>simp at h
  |some ret=>
   simp only[j4]at h;obtain⟨hf,ej⟩:=hC f args Ret B ret (by rw[hx];rfl);split at h
   .rename_i s u bR;split at h
    .rename_i hb
     exact⟨_,.call f args mk ret s u hg ho hf (by
      intro w S vals ha hn hS;refine(ej w S vals ha hn hS).mono ?_
      rintro e w' ⟨r',Bt,rest⟩
      exact⟨r',by simpa using Bt,rest⟩) bR (VM hb),h⟩
    .simp at h
   .simp at h
theorem jDL{P:Á}{E:Env}(hC:kD P E.C)(hF:CFun E.C){ops:Ã Ä}{M Ai:H G}{o:Ä}{R:Type}{k:St->O R}{r:R}
  (h:C7 E ops M Ai σ o k=B r):∃σ',DStep P E ops M Ai o σ σ'/\k σ'=B r:=by
 unfold C7 at h;split at h
 .rename_i hg;exact MI hC hF (.inl hg) h
 .split at h
  .rename_i s wn hg;split at h
   .rename_i v hv;cases v with
    |true=>
     rw[j6,VL hv]at h;cases wn with
     |true=>exact MI hC hF (.inr ⟨s,X,hg,hv⟩) h
     |false=>exact⟨_,.skip s U X hg hv ae,h⟩
    |false=>
     rw[j7,VL hv]at h;cases wn with
     |false=>exact MI hC hF (.inr ⟨s,U,hg,hv⟩) h
     |true=>exact⟨_,.skip s X U hg hv ae,h⟩
   .rename_i hv;exact⟨_,.skipU s wn hg hv,h⟩
   .simp at h
  .simp at h
theorem MJ{P:Á}{E:Env}(hC:kD P E.C)(hF:CFun E.C){ops:Ã Ä}{cl:H G}{A:H (H G)}{R:Type}{k:St->O R}{r:R}:∀(n i:G)(σ:St),i+n=ops.size->AZ E ops cl A (ops.toList.drop i) i σ k=B r->
  ∃τ:G->St,τ i=σ/\k (τ ops.size)=B r/\∀j o,i<=j->ops[j]? = B o->mF E.N o=X/\DStep P E ops (tW ops cl A j o) (A.getD j []) o (τ j) (τ (j+1))
 |0,i,σ,hi,h=>by
  rw[É az]at h;refine⟨λ_=>σ,rfl,h,λj o hj ho=>?_⟩;have:=(jh.1 ho).1;omega
 |n+1,i,σ,hi,h=>by
  have aq:i<ops.size:=aa;rw[jb (by simpa using aq)]at h;simp only[AZ]at h;split at h
  .rename_i hd;obtain⟨σ1,hs,hk⟩:=jDL (P:=P) hC hF h;obtain⟨τ1,h1,h2,h3⟩:=MJ hC hF n (i+1) σ1 aa hk;refine⟨λj=>if j=i then σ else τ1 j,ae,?_,λj o hj ho=>?_⟩
   .simp only[show ops.size≠i by omega,qz];exact h2
   .by_cases oP:j=i
    .subst oP;have rS:ops[j]? = B ops[j]:=jt aq;rw[rS]at ho;simp only[j5]at ho;subst ho;refine⟨by simpa using hd,?_⟩;simp only[if_true,show j+1≠j by omega,qz,h1];simpa using hs
    .simp only[oP,qz,show j+1≠i by omega];exact h3 j o aa ho
  .simp at h
theorem Rel.drawn(hR:Rel N np S0 w0 refs σ a w S γ)(n:G):Rel N np S0 w0 refs σ a { w with drawn:=n } S γ:=
 Rel.step (bx':=σ.bx) (γ':=γ) hR (λ_ _ h=>⟨h,rfl⟩) (.refl _ _) (λk b hb=>eZ.keep (w:=w) (w':={ w with drawn:=n }) (λ_ _ h=>⟨h,rfl⟩) (.refl _ _) rfl (λ_ _=>⟨rfl,λ_=>Iff.rfl⟩) (hR.box k b hb))
  hR.own hR.apart hR.new hR.here hR.below hR.grow hR.os hR.tape hR.output (λ_ _ _ h=>⟨rfl,h⟩)
theorem D_wp{P:Á}{E:Env}(hT:cJ P E.T)(hR:Rel E.N E.np S0 w0 refs σ a w S γ)(hc:dq σ){ops:Ã Ä}{M Ai:H G}{i:G}{o:Ä}(ho:ops[i]? = B o)(hd:mF E.N o=X)
  {τ τ':St}(hs:DStep P E ops M Ai o τ τ')(fq:(∀k,kB M σ.bx k=kB M τ.bx k)\/(qZ o=X/\∀k,ShEq (kB M σ.bx k) (kB M τ.bx k)))(rT:∀t,t∈o.looksAt ops->σ.sl t=τ.sl t){K:À->Z->Prop}{Q:Ò->À->Z->Prop}
  (hK:∀(s:Slot)(u:Ups)(a':À)(w':Z)(S':aY)(γ':G->Y),τ'=(τ.upd u).setD o.dst s->(∀e∈u,e.1∈Ai)->Rel E.N E.np S0 w0 refs ((σ.upd u).setD o.dst s) a' w' S' γ'->dq ((σ.upd u).setD o.dst s)->K a' w') :
  wpOp P ops Q i K a w:=by
 have uv:=yG hd
 have nC:∀x∈o.op.operands,σ.ev x=τ.ev x:=by
  intro x hx;cases x with
  |tmp t=>exact rT t (jr _ (vj.2 ⟨.tmp t,by simpa using hx,rfl⟩))
  |_=>rfl
 have xZ:∀s wn,o9 ops o=B (s,wn)->s∈o.looksAt ops:=by
  intro s wn hg;refine jn _ ?_;unfold o9 at hg;split at hg
  .simp at hg
  .rename_i j w' Mr;split at hg
   .rename_i oj lv;split at hg
    .rename_i s' eE;simp only[j5,j9]at hg;simp[Mr,lv,eE,hg.1]
    .simp at hg
   .simp at hg
 have BP:∀s v,o9 ops o≠Â->s∈o.looksAt ops->τ.sl s = .one (.one (.d .bool v))->tm a s = .bool v:=by intro s v _ hm hv;have:=hR.slot s;rw[rT s hm,hv]at this;exact sX this
 have bg:eG E σ.ev (kB M σ.bx) [] o=eG E τ.ev (kB M τ.bx) [] o:=by
  rcases fq with fq|⟨mU,fq⟩
  .rw[show kB M σ.bx=kB M τ.bx from funext fq];exact VF nC
  .rw[jBn mU fq];exact VF nC
 have dP:∀(s:Slot)(u:Ups)(v:Y)(w':Z)(S':aY)(γ':G->Y),τ'=(τ.upd u).setD o.dst s->(∀e∈u,e.1∈Ai)->Rel E.N E.np S0 w0 refs (σ.upd u) a w' S' γ'->
   iA S' w' γ' (σ.upd u).bx (tm a) s v->s.bare=X->K (a.put o.dst v) w':=by
  intro s u v w' S' γ' he hb cT eE cu;obtain⟨h1,h2⟩:=D4 cT (Vl hc) uv eE cu;exact hK s u _ w' S' γ' he hb h1 h2
 have wS:(o.guard=Â\/∃s wn,o9 ops o=B (s,wn)/\τ.sl s = .one (.one (.d .bool wn)))->Å o (yielded ops a.tmps)=true:=by
  rintro (hg|⟨s,wn,hg,hv⟩)
  .simp[Å,hg]
  .exact(Hw hg).2 (BP s wn (by rw[hg];simp) (xZ s wn hg) hv)
 unfold wpOp;simp only[ho];cases hs with
 |skip s wn v hg hv br=>
  have hw:¬Å o (yielded ops a.tmps)=true:=λhw=>by
   have h1:=(Hw hg).1 hw;rw[BP s v (by rw[hg];simp) (xZ s wn hg) hv]at h1;exact br (by simpa using h1)
  simp only[hw,qz,ku];exact dP .und [] undef w S γ rfl ae hR rfl rfl
 |skipU s wn hg hv=>
  have hu:tm a s=undef:=by have:=hR.slot s;rw[rT s (xZ s wn hg),hv]at this;exact this
  have hw:¬Å o (yielded ops a.tmps)=true:=λhw=>by
   have h1:=(Hw hg).1 hw;rw[hu]at h1;simp[undef]at h1
  simp only[hw,qz,ku];exact dP .und [] undef w S γ rfl ae hR rfl rfl
 |val s u hg cj hb=>
  simp only[wS hg,if_true];rw[<-bg]at cj;obtain⟨A',yN,hle⟩:=VE (MC M σ.bx) cj;cases hle;obtain⟨⟨v,w',S',γ',aR,cT,eE⟩,cu⟩:=Mn hT hR (act:=[]) (λg hg=>by simp at hg) (λ_=> .inl rfl) yN;refine .inl ?_;unfold Ô;rcases aR with aR|⟨aR,rfl⟩
  .rw[aR,Ö];exact dP s u v w' S' γ' rfl hb cT eE cu
  .rw[aR,ã];exact dP s u undef w' S' γ' rfl hb cT eE cu
 |call f args mk ret s u hg cj hf ej bR hb=>
  simp only[wS hg,if_true];rw[<-bg]at cj;obtain⟨A',yN,hle⟩:=VE (MC M σ.bx) cj;cases hle with
  |call _ _ _ mk' wT=>
   have Ed:=wT _ _ bR;obtain⟨vals,aR,oh,cu⟩:=Vi hR (act:=[]) (λg hg=>by simp at hg) (λ_=> .inl rfl) yN hf ej;refine .inl ?_;unfold Ô;rw[aR,Ï];refine oh.mono ?_
   rintro e w' ⟨ret',rfl,ay⟩
   obtain⟨v,S',γ',rfl,cT,eE⟩:=ay s u Ed;exact dP s u v w' S' γ' rfl hb cT eE (cu _ s u Ed)
end
section
variable{S0:aY}{w0:Z}{refs:Refs}{σ:St}{a:À}{w:Z}{S:aY}{γ:G->Y}
theorem HC{o:Ä}{j:G}:j∈gR o↔∃e∈o.after,Region.binds .any e=X/\e.on=j:=by
 simp only[gR,vj];constructor
 .rintro⟨e,he,h⟩
  split at h
  .rename_i hb;simp only[j5]at h;exact⟨e,by simpa using he,hb,h⟩
  .simp at h
 .rintro⟨e,he,hb,h⟩
  exact⟨e,by simpa using he,by simp[hb,h]⟩
theorem MK{ops:Ã Ä}{aD:Ã Æ}{i:G}(h:i∈í .any ops aD) :
  aD.getD i X=U/\∃o,ops[i]? = B o/\∀j∈gR o,aD.getD j U=true:=by
 obtain⟨h0,o,ho,h1⟩:=mem_ready.1 h;exact⟨h0,o,ho,λj hj=>by obtain⟨e,he,hb,rfl⟩:=HC.1 hj;exact h1 e he hb⟩
def tx(P:Á)(E:Env)(ops:Ã Ä)(cl:H G)(A:H (H G))(τ:G->St):Prop:=
 ∀j o,ops[j]? = B o->mF E.N o=X/\DStep P E ops (tW ops cl A j o) (A.getD j []) o (τ j) (τ (j+1))
theorem HD:∀(u:Ups)(σ:St)(t:G),(σ.upd u).sl t=σ.sl t
 |[],_,_=>rfl
 |e::u,σ,t=>HD u (σ.setB e.1 e.2) t
theorem yO(σ:St)(d:O G)(s:Slot):(σ.setD d s).bx=σ.bx:=by cases d<;>rfl
theorem ML{σ:St}{d:O G}{s:Slot}{t:G}(h:d≠B t):(σ.setD d s).sl t=σ.sl t:=by
 cases d with
 |none=>rfl
 |some d=>have:t≠d:=λe=>h (by rw[e]);simp[St.setD,St.setS,this]
theorem VN{σ:St}{s:Slot}{t:G}:(σ.setD (B t) s).sl t=s:=by simp[St.setD,St.setS]
theorem HE:∀(u:Ups)(σ:St)(k:G),(∀e∈u,e.1≠k)->(σ.upd u).bx k=σ.bx k
 |[],_,_,_=>rfl
 |e::u,σ,k,h=>by
  have h1:=HE u (σ.setB e.1 e.2) k (λx hx=>h x (by simp[hx]));show ((σ.setB e.1 e.2).upd u).bx k=_;rw[h1];have:=h e ae;have br:¬k=e.1:=λhk=>this hk.symm;simp[St.setB,br]
theorem VO:∀(u:Ups)(σ τ:St)(k:G),σ.bx k=τ.bx k->(σ.upd u).bx k=(τ.upd u).bx k
 |[],_,_,_,h=>h
 |e::u,σ,τ,k,h=>by
  refine VO u (σ.setB e.1 e.2) (τ.setB e.1 e.2) k ?_;simp only[St.setB];split
  .rfl
  .exact h
section
variable{P:Á}{E:Env}{ops:Ã Ä}{cl:H G}{A:H (H G)}{τ:G->St}
theorem HF(h:tx P E ops cl A τ){j:G}{o:Ä}(ho:ops[j]? = B o):∃s u,τ (j+1)=((τ j).upd u).setD o.dst s/\(∀e∈u,e.1∈A.getD j [])/\(tU o=X->∀k,ShEq ((τ j).bx k) ((τ (j+1)).bx k)):=by
 obtain⟨_,hs⟩:=h j o ho;generalize hq:τ (j+1)=σ' at hs;cases hs with
 |skip s wn v hg hv br=>exact⟨.und,[],rfl,ae,λ_ k=>by rw[yO];exact ShEq.refl _⟩
 |skipU s wn hg hv=>exact⟨.und,[],rfl,ae,λ_ k=>by rw[yO];exact ShEq.refl _⟩
 |val s u hg cj hb=>exact⟨s,u,rfl,hb,λaV k=>by
  rw[yO];exact VG u (τ j) (λe he=>((ju7 aV cj).unmask e he).1) k⟩
 |call f args mk ret s u hg cj hf ej bR hb=>exact⟨s,u,rfl,hb,λaV=>absurd cj (jnv aV)⟩
theorem jDM(h:tx P E ops cl A τ){j:G}{o:Ä}(ho:ops[j]? = B o){t:G}(ht:o.dst≠B t):(τ (j+1)).sl t=(τ j).sl t:=by
 obtain⟨s,u,he,_⟩:=HF h ho;rw[he,ML ht,HD]
theorem VP(h:tx P E ops cl A τ){j:G}{o:Ä}(ho:ops[j]? = B o){k:G}(hk:k∉A.getD j []):(τ (j+1)).bx k=(τ j).bx k:=by
 obtain⟨s,u,he,hu,_⟩:=HF h ho;rw[he,yO];exact HE u _ k (λe hm tt=>hk (tt▸hu e hm))
theorem Ee(h:tx P E ops cl A τ){t j:G}:∀n,j+n<=ops.size->(∀k o,j<=k->k<j+n->ops[k]? = B o->o.dst≠B t)->(τ (j+n)).sl t=(τ j).sl t
 |0,_,_=>rfl
 |n+1,hn,hk=>by
  have aq:j+n<ops.size:=aa;have ho:ops[j+n]? = B ops[j+n]:=jt aq;rw[<-ze,jDM h ho (hk _ _ aa aa ho)];exact Ee h n aa (λk o h1 h2=>hk k o h1 aa)
theorem Ef(h:tx P E ops cl A τ){k j:G}:∀n,j+n<=ops.size->(∀i o,j<=i->i<j+n->ops[i]? = B o->k∉A.getD i [])->(τ (j+n)).bx k=(τ j).bx k
 |0,_,_=>rfl
 |n+1,hn,hk=>by
  have aq:j+n<ops.size:=aa;have ho:ops[j+n]? = B ops[j+n]:=jt aq;rw[<-ze,VP h ho (hk _ _ aa aa ho)];exact Ef h n aa (λi o h1 h2=>hk i o h1 aa)
theorem HG(h:tx P E ops cl A τ){k j:G}:∀n,j+n<=ops.size->(∀i o,j<=i->i<j+n->ops[i]? = B o->k∈A.getD i []->tU o=X)->ShEq ((τ j).bx k) ((τ (j+n)).bx k)
 |0,_,_=>ShEq.refl _
 |n+1,hn,hk=>by
  have aq:j+n<ops.size:=aa;have ho:ops[j+n]? = B ops[j+n]:=jt aq;have ih:=HG h n aa (λi o h1 h2=>hk i o h1 aa);refine ih.trans ?_;rw[<-ze];by_cases hm:k∈A.getD (j+n) []
  .obtain⟨_,_,_,_,aV⟩:=HF h ho;exact aV (hk _ _ aa aa ho hm) k
  .rw[VP h ho hm];exact ShEq.refl _
structure Ph(ops:Ã Ä)(A:H (H G))(τ:G->St)(aD:Ã Æ)(σ:St):Prop where
 closed:∀j o,ops[j]? = B o->aD.getD j U=X->∀d∈gR o,aD.getD d U=X
 done:∀j o t,ops[j]? = B o->o.dst=B t->aD.getD j U=X->σ.sl t=(τ (j+1)).sl t
 rest:∀t,(∀j o,ops[j]? = B o->o.dst=B t->aD.getD j U=U)->σ.sl t=(τ 0).sl t
 bdone:∀j k,j<ops.size->k∈A.getD j []->aD.getD j U=X->(∀i,i<ops.size->k∈A.getD i []->aD.getD i U=X->i<=j)->σ.bx k=(τ (j+1)).bx k
 brest:∀k,(∀j,j<ops.size->k∈A.getD j []->aD.getD j U=U)->σ.bx k=(τ 0).bx k
theorem Ph.bef{aD:Ã Æ}(hp:Ph ops A τ aD σ){i j:G}(hb:Bef ops i j)(hi:aD.getD i U=X):aD.getD j U=true:=by
 induction hb with
 |dep ho hj=>exact hp.closed _ _ ho hi _ hj
 |trans _ _ h1 h2=>exact h2 (h1 hi)
theorem Ph.befd{aD:Ã Æ}(hp:Ph ops A τ aD σ){i j:G}{o:Ä}(ho:ops[i]? = B o)(hd:∀j∈gR o,aD.getD j U=X)(hb:Bef ops i j):aD.getD j U=true:=by
 induction hb with
 |dep rS hj=>rw[ho]at rS;simp only[j5]at rS;subst rS;exact hd _ hj
 |trans dF eI h1 h2=>exact hp.bef eI (h1 ho)
theorem HH(p:G->Prop):∀n,(∃j,j<n/\p j)->∃m,m<n/\p m/\∀j,j<n->p j->j<=m
 |0,h=>by obtain⟨j,hj,_⟩:=h;omega
 |n+1,h=>by
  by_cases hn:p n
  .exact⟨n,aa,hn,λj hj _=>aa⟩
  .obtain⟨j,hj,hp⟩:=h
   have wz:j<n:=by
    rcases qa j n with h|h
    .exact h
    .have:j=n:=aa;subst this;exact absurd hp hn
   obtain⟨m,hm,hpm,ay⟩:=HH p n ⟨j,wz,hp⟩;refine⟨m,aa,hpm,λi hi VQ=>?_⟩;rcases qa i n with h|h
   .exact ay i h VQ
   .have:i=n:=aa;subst this;exact absurd VQ hn
theorem Eg{l:Ã Æ}{i:G}(h:l.getD i X=U):l.getD i U=false:=by
 rcases qa i l.size with h'|h'
 .simp[h']at h ⊢;exact h
 .simp[Þ h']
theorem mw{l:Ã Æ}{i j:G}(hi:i<l.size):(l.setIfInBounds i X).getD j U=X↔j=i\/l.getD j U=true:=by
 by_cases h:i=j
 .subst h;simp[hi]
 .rw[getD_set_ne U h];exact⟨.inr,λhh=>hh.resolve_left λe=>h e.symm⟩
theorem BQ{l:Ã Æ}{i:G}(h:¬l.getD i U=X):l.getD i U=false:=by
 cases hq:l.getD i U with
 |false=>rfl
 |true=>exact absurd hq h
section
variable(bT:DOkR ops A)(h:tx P E ops cl A τ){aD:Ã Æ}(hp:Ph ops A τ aD σ){i:G}{o:Ä}(hi:ops[i]? = B o)(jC:aD.getD i U=U)(cW:∀j∈gR o,aD.getD j U=X)
include bT h hp hi jC cW
theorem VR:∀t,t∈o.looksAt ops->σ.sl t=(τ i).sl t:=by
 intro t DD;have nZ:i<ops.size:=(jh.1 hi).1;have HI:∀j oj,ops[j]? = B oj->oj.dst=B t->j≠i->Bef ops i j\/Bef ops j i:=λj oj hj ht br=>(bT.dst i j o oj t hi hj (λe=>br e.symm) ht).2 DD;by_cases hex:∃(j:G)(oj:Ä),ops[j]? = B oj/\oj.dst=B t/\aD.getD j U=X
 .obtain⟨j,oj,hj,ht,my⟩:=hex;have oP:j≠i:=λe=>by rw[e,jC]at my;simp at my
  have yP:Bef ops i j:=by
   rcases HI j oj hj ht oP with hd|hd
   .exact hd
   .have:=hp.bef hd my;rw[jC]at this;simp at this
  have aq:=bT.bef yP;rw[hp.done j oj t hj ht my];have:=Ee h (t:=t) (j:=j+1) (i-(j+1)) aa (λk ok h1 h2 hk=>(bT.dst k j ok oj t hk hj aa ht).1);rw[show j+1+(i-(j+1))=i by omega]at this;exact this.symm
 .rw[hp.rest t (λj oj hj ht=>BQ λhq=>hex ⟨j,oj,hj,ht,hq⟩)]
  have:=Ee h (t:=t) (j:=0) i aa (λk ok _ hk mV td=>by
   have mz:k≠i:=aa;rcases HI k ok mV td mz with hd|hd
   .exact hex ⟨k,ok,mV,td,hp.befd hi cW hd⟩
   .have:=bT.bef hd;omega)
  rw[kb]at this;exact this.symm
theorem VS{k:G}(hk:∀j oj,ops[j]? = B oj->k∈A.getD j []->i=j\/Bef ops i j\/Bef ops j i):σ.bx k=(τ i).bx k:=by
 have nZ:i<ops.size:=(jh.1 hi).1;by_cases hex:∃j,j<ops.size/\(k∈A.getD j []/\aD.getD j U=X)
 .obtain⟨m,hm,⟨rU,tz⟩,eX⟩:=HH _ _ hex;have MM:ops[m]? = B ops[m]:=jt hm;have MN:i≠m:=λe=>by rw[<-e,jC]at tz;simp at tz
  have yP:Bef ops i m:=by
   rcases hk m _ MM rU with hd|hd|hd
   .exact absurd hd MN
   .exact hd
   .have:=hp.bef hd tz;rw[jC]at this;simp at this
  have aq:=bT.bef yP;rw[hp.bdone m k hm rU tz (λj hj eY my=>eX j hj ⟨eY,my⟩)]
  have:=Ef h (k:=k) (j:=m+1) (i-(m+1)) aa (λj oj h1 h2 hj eY=>by
   rcases hk j oj hj eY with hd|hd|hd
   .omega
   .have:=eX j aa ⟨eY,hp.befd hi cW hd⟩;omega
   .have:=bT.bef hd;omega)
  rw[show m+1+(i-(m+1))=i by omega]at this;exact this.symm
 .rw[hp.brest k (λj hj eY=>BQ λhq=>hex ⟨j,hj,eY,hq⟩)]
  have:=Ef h (k:=k) (j:=0) i aa (λj oj h1 h2 hj eY=>by
   rcases hk j oj hj eY with hd|hd|hd
   .omega
   .exact hex ⟨j,aa,eY,hp.befd hi cW hd⟩
   .have:=bT.bef hd;omega)
  rw[kb]at this;exact this.symm
theorem jGv(mU:qZ o=X){k:G}(hk:∀j oj,ops[j]? = B oj->k∈A.getD j []->i=j\/Bef ops i j\/Bef ops j i\/tU oj=X):ShEq (σ.bx k) ((τ i).bx k):=by
 have nZ:i<ops.size:=(jh.1 hi).1;by_cases hex:∃j,j<ops.size/\(k∈A.getD j []/\aD.getD j U=X)
 .obtain⟨m,hm,⟨rU,tz⟩,eX⟩:=HH _ _ hex;have MM:ops[m]? = B ops[m]:=jt hm;rw[hp.bdone m k hm rU tz (λj hj eY my=>eX j hj ⟨eY,my⟩)];rcases qa m i with MN|MN
  .have:=HG h (k:=k) (j:=m+1) (i-(m+1)) aa (λj oj h1 h2 hj eY=>by
    rcases hk j oj hj eY with hd|hd|hd|hd
    .omega
    .have:=eX j aa ⟨eY,hp.befd hi cW hd⟩;omega
    .have:=bT.bef hd;omega
    .exact hd)
   rwa[show m+1+(i-(m+1))=i by omega]at this
  .have hmi':i≠m:=λe=>by rw[<-e,jC]at tz;simp at tz
   have:=HG h (k:=k) (j:=i) (m+1-i) aa (λj oj h1 h2 hj eY=>by
    have my:aD.getD j U=true:=by
     by_cases wU:j=m
     .rw[wU];exact tz
     .rcases bT.box j m oj ops[m] k hj MM wU eY rU with hd|hd
      .have:=bT.bef hd;omega
      .exact hp.bef hd tz
    rcases hk j oj hj eY with hd|hd|hd|hd
    .rw[<-hd,jC]at my;simp at my
    .have:=bT.bef hd;omega
    .have:=hp.bef hd my;rw[jC]at this;simp at this
    .exact hd)
   rw[show i+(m+1-i)=m+1 by omega]at this;exact this.symm
 .rw[hp.brest k (λj hj eY=>BQ λhq=>hex ⟨j,hj,eY,hq⟩)]
  have:=HG h (k:=k) (j:=0) i aa (λj oj h1 h2 hj eY=>by
   rcases hk j oj hj eY with hd|hd|hd|hd
   .omega
   .exact absurd ⟨j,aa,eY,hp.befd hi cW hd⟩ hex
   .have:=bT.bef hd;omega
   .exact hd)
  rwa[kb]at this
theorem VT(hc:ClOk ops cl):(∀k,kB (tW ops cl A i o) σ.bx k=kB (tW ops cl A i o) (τ i).bx k)\/(qZ o=X/\∀k,ShEq (kB (tW ops cl A i o) σ.bx k) (kB (tW ops cl A i o) (τ i).bx k)):=by
 by_cases mU:qZ o=X
 .refine .inr ⟨mU,ShEq.mask λk hk=>jGv bT h hp hi jC cW mU λj oj hj eY=>?_⟩;rcases VK hc hk hj eY with hd|hd|hd|hd
  .exact .inl hd
  .exact .inr (.inl hd)
  .exact .inr (.inr (.inl hd))
  .exact .inr (.inr (.inr hd.2))
 .refine .inl λk=>?_;unfold kB;split
  .rfl
  .rename_i hk
   exact VS bT h hp hi jC cW λj oj hj eY=>by
    rcases VK hc (by simpa using hk) hj eY with hd|hd|hd|hd
    .exact .inl hd
    .exact .inr (.inl hd)
    .exact .inr (.inr hd)
    .exact absurd hd.1 mU
theorem MO(cm:ops.size<=aD.size){s:Slot}{u:Ups}(he:τ (i+1)=((τ i).upd u).setD o.dst s)(hu:∀e∈u,e.1∈A.getD i []):Ph ops A τ (aD.setIfInBounds i X) ((σ.upd u).setD o.dst s):=by
 have nZ:i<ops.size:=(jh.1 hi).1;have fv:i<aD.size:=aa
 have mT:∀k,k∈A.getD i []->σ.bx k=(τ i).bx k:=λk hk=>VS bT h hp hi jC cW λj oj hj eY=>by
  by_cases eh:i=j
  .exact .inl eh
  .exact .inr (bT.box i j o oj k hi hj eh hk eY)
 refine⟨?_,?_,?_,?_,?_⟩
 .intro j oj lv hj d nP;rcases (mw fv).1 hj with rfl|hj
  .rw[hi]at lv;simp only[j5]at lv;subst lv;exact(mw fv).2 (.inr (cW d nP))
  .exact(mw fv).2 (.inr (hp.closed j oj lv hj d nP))
 .intro j oj t lv ht hj;by_cases oP:j=i
  .subst oP;rw[hi]at lv;simp only[j5]at lv;subst lv;rw[he,ht,VN,VN]
  .rcases (mw fv).1 hj with hj|hj
   .exact absurd hj oP
   .rw[ML (bT.dst i j o oj t hi lv (λe=>oP e.symm) ht).1,HD];exact hp.done j oj t lv ht hj
 .intro t ay
  have hot:o.dst≠B t:=λe=>by
   have:=ay i o hi e;have h2:=(mw (j:=i) fv).2 (.inl rfl);rw[this]at h2;simp at h2
  rw[ML hot,HD]
  exact hp.rest t λj oj lv ht=>BQ λhq=>by
   have:=ay j oj lv ht;have h2:=(mw (i:=i) fv).2 (.inr hq);rw[this]at h2;simp at h2
 .intro j k hj eY my eX;rw[yO];by_cases oP:j=i
  .subst oP;rw[he,yO];exact VO u σ (τ j) k (mT k eY)
  .have Eh:aD.getD j U=true:=by
    rcases (mw fv).1 my with e|hh
    .exact absurd e oP
    .exact hh
   have mz:k∉A.getD i []:=λmz=>by
    have hle:=eX i nZ mz ((mw fv).2 (.inl rfl));have lv:ops[j]? = B ops[j]:=jt hj;rcases bT.box i j o _ k hi lv (λe=>oP e.symm) mz eY with hd|hd
    .have:=bT.bef hd;omega
    .have:=hp.bef hd Eh;rw[jC]at this;simp at this
   rw[HE u σ k (λe hm tt=>mz (tt▸hu e hm))];exact hp.bdone j k hj eY Eh (λi' bY bn oO=>eX i' bY bn ((mw fv).2 (.inr oO)))
 .intro k ay
  have mz:k∉A.getD i []:=λmz=>by
   have:=ay i nZ mz;have h2:=(mw (j:=i) fv).2 (.inl rfl);rw[this]at h2;simp at h2
  rw[yO,HE u σ k (λe hm tt=>mz (tt▸hu e hm))]
  exact hp.brest k λj hj eY=>BQ λhq=>by
   have:=ay j hj eY;have h2:=(mw (i:=i) fv).2 (.inr hq);rw[this]at h2;simp at h2
end
theorem VU(bT:DOkR ops A)(h:tx P E ops cl A τ){aD:Ã Æ}(hp:Ph ops A τ aD σ)(ay:∀j,j<ops.size->aD.getD j U=X):σ=τ ops.size:=by
 have eL:σ.sl=(τ ops.size).sl:=by
  funext t
  by_cases hex:∃(j:G)(oj:Ä),ops[j]? = B oj/\oj.dst=B t
  .obtain⟨j,oj,hj,ht⟩:=hex;have aq:j<ops.size:=(jh.1 hj).1;rw[hp.done j oj t hj ht (ay j aq)];have:=Ee h (t:=t) (j:=j+1) (ops.size-(j+1)) aa (λk ok h1 h2 hk=>(bT.dst k j ok oj t hk hj aa ht).1);rw[show j+1+(ops.size-(j+1))=ops.size by omega]at this;exact this.symm
  .rw[hp.rest t (λj oj hj ht=>absurd ⟨j,oj,hj,ht⟩ hex)];have:=Ee h (t:=t) (j:=0) ops.size aa (λk ok _ hk mV td=>hex ⟨k,ok,mV,td⟩);rw[kb]at this;exact this.symm
 have fq:σ.bx=(τ ops.size).bx:=by
  funext k
  by_cases hex:∃j,j<ops.size/\k∈A.getD j []
  .obtain⟨m,hm,rU,eX⟩:=HH _ _ hex;rw[hp.bdone m k hm rU (ay m hm) (λj hj eY _=>eX j hj eY)];have:=Ef h (k:=k) (j:=m+1) (ops.size-(m+1)) aa (λj oj h1 h2 hj eY=>by have:=eX j aa eY;omega);rw[show m+1+(ops.size-(m+1))=ops.size by omega]at this;exact this.symm
  .rw[hp.brest k (λj hj eY=>absurd ⟨j,hj,eY⟩ hex)];have:=Ef h (k:=k) (j:=0) ops.size aa (λj oj h1 h2 hj eY=>hex ⟨j,aa,eY⟩);rw[kb]at this;exact this.symm
 cases σ;cases hq:τ ops.size;rw[hq]at fq eL;simp only at fq eL;rw[fq,eL]
end
theorem VV{l:Ã Æ}{i:G}(hi:l.getD i X=U):(l.setIfInBounds i X).toList.count U+1=l.toList.count false:=by
 have aq:i<l.size:=by
  rcases qa i l.size with h|h
  .exact h
  .simp[Þ h]at hi
 have hv:l.toList[i]'(by simpa using aq)=false:=by simp[aq]at hi;simpa using hi
 have bK:0<l.toList.count false:=List.count_pos_iff.2 (hv▸jl _);have hc:(l.toList.set i X).count U=l.toList.count U-(if l.toList[i]'(by simpa using aq)==U then 1 else 0)+(if X==U then 1 else 0):=List.count_set (by simpa using aq);rw[hv]at hc;rw[Array.toList_setIfInBounds];simp only[kp,if_true,show (X==U)=U from rfl,ku,qz,Nat.add_zero]at hc;omega
theorem MP{l:Ã Æ}(h:l.toList.count U=0){j:G}(hj:j<l.size):l.getD j U=true:=by
 have h0:U∉l.toList:=List.count_eq_zero.1 h;simp only[vi,jt hj,z6];cases hv:l[j]with
 |true=>rfl
 |false=>exact absurd (hv▸by simp:U∈l.toList) h0
theorem jyY{ops:Ã Ä}{A:H (H G)}(bT:DOkR ops A){aD:Ã Æ}(hs:aD.size=ops.size)(h:í .any ops aD=[]):∀j,j<ops.size->aD.getD j U=true:=by
 intro j;induction j using ö with
 |_ j ih=>
  intro hj;cases hq:aD.getD j U with
  |true=>rfl
  |false=>
   have ho:ops[j]? = B ops[j]:=jt hj
   have hm:j∈í .any ops aD:=mem_ready.2 ⟨by
    have im:j<aD.size:=aa;simp[im]at hq ⊢;exact hq,ops[j],ho,λe he hb=>ih _ (bT.lt j _ ho _ (HC.2 ⟨e,he,hb,rfl⟩)) (Nat.lt_trans (bT.lt j _ ho _ (HC.2 ⟨e,he,hb,rfl⟩)) hj)⟩
   rw[h]at hm;simp at hm
theorem jx2{P:Á}{E:Env}(hT:cJ P E.T){ops:Ã Ä}{cl:H G}{A:H (H G)}(dR:ClOk ops cl)(bT:DOkR ops A){τ:G->St}(h:tx P E ops cl A τ)
  {Q:Ò->À->Z->Prop}(hn:∀a' w' S' γ',Rel E.N E.np S0 w0 refs (τ ops.size) a' w' S' γ'->dq (τ ops.size)->Q .normal a' w') :
  ∀(fuel:G)(aD:Ã Æ){σ:St}{a:À}{w:Z}{S:aY}{γ:G->Y},aD.size=ops.size->aD.toList.count U<=fuel->Rel E.N E.np S0 w0 refs σ a w S γ->dq σ->
   Ph ops A τ aD σ->wpAny P .any ops Q fuel aD a w:=by
 have fk:∀(aD:Ã Æ){σ:St}{a:À}{w:Z}{S:aY}{γ:G->Y},Rel E.N E.np S0 w0 refs σ a w S γ->dq σ->Ph ops A τ aD σ->(∀j,j<ops.size->aD.getD j U=X)->Q .normal a w:=by intro aD σ a w S γ hR hc nD ay;have he:=VU bT h nD ay;subst he;exact hn a w S γ hR hc
 intro fuel;induction fuel with
 |zero=>
  intro aD σ a w S γ hs uN hR hc nD;have ay:∀j,j<ops.size->aD.getD j U=true:=λj hj=>MP aa aa;refine⟨?_,fk aD hR hc nD ay⟩;refine zv.2 λi hi=>?_;have h0:=(mem_ready.1 hi).1;have aq:i<ops.size:=by obtain⟨_,o,ho,_⟩:=mem_ready.1 hi;exact(jh.1 ho).1
  have:=ay i aq;rw[Eg h0]at this;simp at this
 |succ fuel ih=>
  intro aD σ a w S γ hs uN hR hc nD;refine⟨λdO=>fk aD hR hc nD (jyY bT hs dO),λi hi=>?_⟩;obtain⟨jC,o,ho,cW⟩:=MK hi;have l9:=Eg jC;have c9:=VV jC;have cm:(aD.setIfInBounds i X).size=ops.size:=by simpa using hs
  obtain⟨hd,gg⟩:=h i o ho;refine D_wp hT hR hc ho hd gg (VT bT h nD ho l9 cW dR) (VR bT h nD ho l9 cW) ?_;intro s u a' w' S' γ' he hu cT dz;exact ih _ cm aa cT dz (MO bT h nD ho l9 cW (Nat.le_of_eq hs.symm) he hu)
theorem jx3{P:Á}{E:Env}(hT:cJ P E.T)(hC:kD P E.C)(hF:CFun E.C)(hR:Rel E.N E.np S0 w0 refs σ a w S γ)(hc:dq σ){ops:Ã Ä}{A:H (H G)}
  {R:Type}{k:St->O R}{r:R}{Q:Ò->À->Z->Prop}(hn:∀σ' a' w' S' γ',Rel E.N E.np S0 w0 refs σ' a' w' S' γ'->dq σ'->k σ'=B r->Q .normal a' w')(h:vU E ops A σ k=B r) :
  wpAny P .any ops Q ops.size (Ø ops.size U) a { w with drawn:=w.drawn+1 }:=by
 unfold vU at h;split at h
 .rename_i bT;obtain⟨τ,h1,h2,h3⟩:=MJ (P:=P) (ops:=ops) hC hF ops.size 0 σ (kb _) (by simpa using h)
  have ew:∀j,(Ø ops.size U).getD j U=false:=by
   intro j;rcases qa j ops.size with hj|hj
   .simp[hj]
   .simp[hj]
  have dR:ClOk ops (tV ops.toList []):=HB ops.toList [] (λi j h=>by simp at h) (λk o hk=>by simpa using hk);refine jx2 hT dR (VJ dR bT) (τ:=τ) (λj o ho=>h3 j o (k7 _) ho) (λa' w' S' γ' cT dz=>hn _ a' w' S' γ' cT dz h2) ops.size _ ae ae (hR.drawn _) hc ?_
  exact⟨λj o _ hj=>by rw[ew]at hj;simp at hj,λj o t _ _ hj=>by rw[ew]at hj;simp at hj,λt _=>by rw[h1],
   λj k _ _ hj=>by rw[ew]at hj;simp at hj,λk _=>by rw[h1]⟩
 .simp at h
end
def FR(ro:O G):Fence:={ Fence.wide with round:=ro }
theorem MQ(ro:O G)(n:G):(FR ro).room n:=λd h=>by simp[FR,Fence.wide]at h
section
variable{P:Á}{ro:O G}{n:G}
theorem jDN{f:FuncId}{args:Ã Y}{w:Z}{R:Ending->Z->Prop}(h:ÿ P f args w R):û (FR ro) n P f args w R:=(callsIn_wide (n:=n)).2 h
theorem jDO{f:FuncId}{args:Ã Y}{w:Z}{R:Ending->Z->Prop}(h:û (FR ro) n P f args w R):ÿ P f args w R:=(callsIn_wide (n:=n)).1 h
theorem jF4{m:G}{c:Ó}{Q:Ò->À->Z->Prop}{a:À}{w:Z}(h:c.wpIn (FR ro) n P Q a w):c.wpIn (FR ro) m P Q a w:=
 λb k cs gF hb hr=>h b k cs gF hb (MQ _ _)
theorem jF5{row:String}{args:Ã Y}{w:Z}{R:Y->Z->Prop}(h:Rows P row args w R):RowsIn (FR ro) n P row args w R:=
 λc cs _=>let ⟨v,w',r,s⟩:=h c cs;⟨v,w',r,stepsIn_wide.2 s⟩
theorem BR{o:Ä}(hp:ro=Â\/∀c,o.op ≠ .defer c){a:À}{w:Z}{K K':À->Z->Prop}{Q:Ò->À->Z->Prop}(hK:∀a w,K a w->K' a w)
  (h:o.wp P a w K Q):o.wpIn (FR ro) n P a w K' Q:=by
 refine⟨λ_ _=>trivial,?_⟩
 have e:o.semAt (FR ro).round a.eval=execOp a.eval o:=by
  rcases hp with rfl|hp
  .rfl
  .exact Oper.semAt_eq _ _ _ hp
 rw[e];unfold Ô at h;revert h;cases (execOp a.eval o).run P w with
 |ok x w'=>
  cases x with
  |value v=>intro h;exact hK _ _ h
  |skip=>intro h;exact hK _ _ h
  |defer d=>intro h;exact hK _ _ h
  |enter f args=>
   intro h;refine⟨λhd=>by simp[FR,Fence.wide]at hd,jDN (Calls.mono h λe xN he=>?_)⟩;cases e with
   |returned v=>exact hK _ _ he
   |panicked c=>exact he
   |outgrown=>exact he
  |row r args=>intro h;exact⟨λhd=>by simp[FR,Fence.wide]at hd,jF5 (Rows.mono h λv xN he=>hK _ _ he)⟩
  |round l f tmps x y=>intro h;exact h.elim
  |_=>intro h;exact h.elim
 |halt x w'=>cases x<;>intro h<;>exact h
theorem yQ{ops:Ã Ä}{Q:Ò->À->Z->Prop}(hp:ro=Â\/∀o∈ops.toList,∀c,o.op ≠ .defer c)(cY:¬ñ Q):∀(l:H G)(a:À)(w:Z),wpOps P ops Q l a w->wpOpsIn (FR ro) n P ops Q l a w
 |[],a,w,h=>h
 |i::r,a,w,h=>by
  simp only[wpOps]at h;simp only[wpOpsIn];cases ho:ops[i]? with
  |none=>simp only[ho]at h ⊢;exact yQ hp cY r a w h
  |some o=>
   simp only[ho]at h ⊢;split
   .rename_i hw;simp only[hw,if_true]at h;rcases h with h|⟨_,h⟩
    .refine BR (hp.imp id λhh=>hh o ?_) (λa w=>yQ hp cY r a w) h;obtain⟨aq,rfl⟩:=jh.1 ho;exact Array.mem_toList_iff.2 (ï aq)
    .exact absurd h cY
   .rename_i hw;simp only[hw]at h;exact⟨λ_ _=>trivial,yQ hp cY r _ w h⟩
theorem HJ{md:Region.Mode}{ops:Ã Ä}{Q:Ò->À->Z->Prop}(hp:ro=Â\/∀o∈ops.toList,∀c,o.op ≠ .defer c)(cY:¬ñ Q) :
  ∀(fuel:G)(aD:Ã Æ)(a:À)(w:Z),wpAny P md ops Q fuel aD a w->wpAnyIn (FR ro) n P md ops Q fuel aD a w
 |0,_,_,_,h=>h
 |fuel+1,aD,a,w,h=>by
  refine⟨h.1,λi hi=>?_⟩;have h2:=h.2 i hi;unfold wpOp at h2;unfold wpOpIn;cases ho:ops[i]? with
  |none=>simp only[ho]at h2 ⊢;exact HJ hp cY fuel _ a w h2
  |some o=>
   simp only[ho]at h2 ⊢;split
   .rename_i hw;simp only[hw,if_true]at h2;rcases h2 with h2|⟨_,h2⟩
    .refine BR (hp.imp id λhh=>hh o ?_) (λa w=>HJ hp cY fuel _ a w) h2;obtain⟨aq,rfl⟩:=jh.1 ho;exact Array.mem_toList_iff.2 (ï aq)
    .exact absurd h2 cY
   .rename_i hw;simp only[hw]at h2;exact⟨λ_ _=>trivial,HJ hp cY fuel _ _ w h2⟩
end
section
variable{N:NT}{np:G}{S0:aY}{w0:Z}{refs:Refs}{σ:St}{a:À}{w:Z}{S:aY}{γ:G->Y}
theorem Rel.allocO(hR:Rel N np S0 w0 refs σ a w S γ)(o:Obj):Rel N np S0 w0 refs σ a (w.alloc o) S γ:=
 Rel.step (bx':=σ.bx) (γ':=γ) hR (xT hR o) (.refl _ _) (λk b hb=>eZ.keep (xT hR o) (.refl _ _) rfl (λg hg=>⟨heap_alloc_old w o (kK (hR.box k b hb) hg),λ_=>Iff.rfl⟩) (hR.box k b hb))
  hR.own hR.apart hR.new (λg i h=>by have:=hR.here g i h;simp;omega) (λg hg hr=>(heap_alloc_old w o (qd hg hR.grow)).trans (hR.below g hg hr)) (by have:=hR.grow;simp;omega) hR.os hR.tape hR.output
  (λg hg _ h=>⟨heap_alloc_old w o hg,h⟩)
structure Grew(w w':Z):Prop where
 old:∀g,g<w.heap.size->w'.heap[g]? = w.heap[g]?
 size:w.heap.size<=w'.heap.size
 os:w'.os=w.os
 tape:w'.tape=w.tape
 output:w'.output=w.output
structure wV(S:aY)(w:Z)(S':aY)(w':Z):Prop where
 sub:∀g o,S g o->S' g o
 new:∀g o,S' g o->S g o\/w.heap.size<=g
 here:∀g o,S' g o->g<w'.heap.size
theorem Rel.grew(hR:Rel N np S0 w0 refs σ a w S γ){S':aY}{w':Z}(h:Grew w w')(hs:wV S w S' w'):Rel N np S0 w0 refs σ a w' S' γ:=
 have aV:dH S w S' w':=λg o hg=>⟨hs.sub g o hg,Ç (h.old g (hR.here g o hg))⟩
 Rel.step (bx':=σ.bx) (γ':=γ) hR aV (.refl _ _) (λk b hb=>eZ.keep aV (.refl _ _) rfl (λg hg=>
   have hl:=kK (hR.box k b hb) hg
   ⟨h.old g hl,λo=>⟨λh1=>(hs.new g o h1).resolve_right aa,hs.sub g o⟩⟩) (hR.box k b hb))
  hR.own hR.apart (λg o h1=>(hs.new g o h1).elim (hR.new g o) λh2=> .inr (.inl (ko hR.grow h2))) hs.here (λg hg hr=>(h.old g (qd hg hR.grow)).trans (hR.below g hg hr)) (ko hR.grow h.size) (h.os.trans hR.os) (h.tape.trans hR.tape) (h.output.trans hR.output)
  (λg hg _ hn=>⟨h.old g hg,hn⟩)
theorem Rel.swap(hR:Rel N np S0 w0 refs σ a w S γ){N':NT}{refs':Refs}{a':À}(hb:refs'.blks=refs.blks)(hv:refs'.val=refs.val)(cm:a'.tmps.size=N'.n)(wW:a'.defers=refs'.ds)
  (rV:∀i,iA S w γ σ.bx (tm a') (σ.sl i) (tm a' i))(hk:∀g o,refs'.kw g=B o->w.heap[g]? = B o/\∀k b,σ.bx k = .live b->blk (γ k)≠B g)
  (hf:∀i v,refs'.fix i=B v->N'.pin i=X/\a'.tmps.getD i undef=v)(HK:refs'.mv=refs.mv:=by rfl):Rel N' np S0 w0 refs' σ a' w S γ:=
 have hm:∀g,g∈refs'↔g∈refs:=λg=>by show g∈refs'.blks↔g∈refs.blks;rw[hb]
 ⟨cm,wW,rV,hR.box,λk b g h h'=>(hR.own k b g h h').imp (λh=>Own.swap h hb HK) λh=>⟨(hm g).2 h.1,h.2⟩,hR.apart,hR.ext,λg o h=>(hR.new g o h).imp id λh=>Own.swap h hb HK,hR.here,λg h h'=>hR.below g h λh2=>h' ((hm g).2 h2),
  hR.grow,hR.os,hR.tape,hR.output,λk v h=>hR.par k v (hv▸h),hk,hf⟩
theorem VW{g o:G}{x:Obj}(h:w.heap[g]? = B x)(hc:x.isCells=U):w.cell? ⟨g,o,Â⟩=none:=by
 unfold World.cell?;simp only[h];cases x<;>first|rfl|(simp[Obj.isCells]at hc)
theorem Rel.putO(hR:Rel N np S0 w0 refs σ a w S γ){l:G}{o o':Obj}(hk:refs.kw l=B o)(hl:w0.heap.size<=l)(hc:o.isCells=U)(dz:o'.isCells=U) :
  Rel N np S0 w0 { refs with kw:=λg=>if g=l then B o' else refs.kw g } σ a (w.putObj l o') S γ:=by
 obtain⟨hw,cY⟩:=hR.kept l o hk;have aq:=(jh.1 hw).1
 have aV:dH S w S (w.putObj l o'):=λg i h=>⟨h,by
  by_cases hg:g=l
  .subst hg;rw[VW hw hc,VW (ß aq) dz]
  .exact Ç (È hg)⟩
 have bu:Rel N np S0 w0 { refs with kw:=λg=>if g=l then Â else refs.kw g } σ a w S γ:=
  Rel.swap hR rfl rfl hR.size hR.defers hR.slot (λg x h=>by
   simp only at h;split at h
   .simp at h
   .exact hR.kept g x h) hR.fix
 have cI:Rel N np S0 w0 { refs with kw:=λg=>if g=l then Â else refs.kw g } σ a (w.putObj l o') S γ:=
  Rel.step (bx':=σ.bx) (γ':=γ) bu aV (.refl _ _) (λk b hb=>eZ.keep aV (.refl _ _) rfl (λg hg=>⟨È (λe=>cY k b hb (e▸hg)),λ_=>Iff.rfl⟩) (hR.box k b hb))
   bu.own bu.apart bu.new (λg i h=>by simpa using hR.here g i h) (λg hg hr=>(È aa).trans (bu.below g hg hr)) (by simpa using hR.grow) hR.os hR.tape hR.output
   (λg _ nU h=>⟨È (λe=>by subst e;simp at nU),h⟩)
 refine Rel.swap cI rfl rfl cI.size cI.defers cI.slot (λg x h=>?_) cI.fix;simp only at h;split at h
 .rename_i e;subst e;simp only[j5]at h;subst h;exact⟨ß aq,cY⟩
 .rename_i e;have h1:=hR.kept g x h;exact⟨(È e).trans h1.1,h1.2⟩
theorem jyZ(np:G)(K:Keep)(s:Snap)(i:G):(∃c,(dD np K s).sl i = .one c)/\(i∉K.slots->(dD np K s).sl i = .one (.one .dead)):=by
 have eL:(dD np K s).sl i=match K.slots.idxOf? i with
  |some j=>xJ s[j]?
  |none=> .one (.one .dead):=rfl
 rw[eL];cases hq:K.slots.idxOf? i with
 |none=>exact⟨⟨_,rfl⟩,λ_=>rfl⟩
 |some j=>refine⟨?_,λh=>absurd (k9 (qI hq)) h⟩;simp only;unfold xJ;split<;>exact⟨_,rfl⟩
theorem Rel.frame{K:Keep}{s:Snap}(hR:Rel N np S0 w0 refs (dD np K s) a w S γ){N':NT}{refs':Refs}{a':À}(hb:refs'.blks=refs.blks)(hv:refs'.val=refs.val)(cm:a'.tmps.size=N'.n)(wW:a'.defers=refs'.ds)
  (eL:∀i∈K.slots,tm a' i=tm a i)(hk:∀g o,refs'.kw g=B o->w.heap[g]? = B o/\∀k b,(dD np K s).bx k = .live b->blk (γ k)≠B g)
  (hf:∀i v,refs'.fix i=B v->N'.pin i=X/\a'.tmps.getD i undef=v)(HK:refs'.mv=refs.mv:=by rfl):Rel N' np S0 w0 refs' (dD np K s) a' w S γ:=by
 refine hR.swap hb hv cm wW (λi=>?_) hk hf HK;obtain⟨⟨c,hc⟩,hd⟩:=jyZ np K s i;by_cases hi:i∈K.slots
 .have:=hR.slot i;rw[hc]at this ⊢;rw[eL i hi];exact this
 .rw[hd hi];exact⟨trivial,λh=>absurd rfl h⟩
end
section
variable{P:Á}{F:Fence}{n:G}{b:Frame}{a:À}{k:H Go.Item}{cs:H Frame}{w:Z}{Q:Ò->À->Z->Prop}
theorem BT{c:Ó}:step P (lone (b.atR a (.code (.scope c)::k)) cs w) = .next (lone (b.atR a (.code c :: .inScope c::k)) cs w):=
 step_lone_go (by simp[stepG,stepG.exec,Frame.atR])
theorem jqq{c:Ó}:step P (lone (b.atR a (.inScope c::k)) cs w) = .next (lone (b.atR a k) cs w):=
 step_lone_go (by simp[stepG,stepG.exec,Frame.atR])
theorem jx4{c:Ó}(hng:∀l a w,¬Q (.goto l) a w)(h:c.wpIn F n P Q a w):(Code.scope c).wpIn F n P Q a w:=by
 intro b k cs gF hb hr;have h0:(lone (b.atR a (.code (.scope c)::k)) cs w).fenced P F:=fenced_calm hb hr rfl;obtain⟨e,a₁,w₁,hq,pF⟩:=h b (.inScope c::k) cs gF hb hr;cases e with
 |normal=>exact⟨.normal,a₁,w₁,hq,.head h0 BT (StepsIn.trans pF (.one (fenced_calm hb hr rfl) jqq))⟩
 |exit id=>
  have hx:exitTo id (.inScope c::k)=exitTo id k:=by simp[exitTo]
  exact⟨_,a₁,w₁,hq,λk' hk=> .head h0 BT (pF.1 k' (by rw[hx];exact hk)),
   λBt hk=>let ⟨k₁,h1,h2⟩:=pF.2 Bt (by rw[hx];exact hk);⟨k₁,h1,.head h0 BT h2⟩⟩
 |goto l=>exact absurd hq (hng l a₁ w₁)
 |ret=>exact⟨_,a₁,w₁,hq,.of_steps (.one h0 BT) pF⟩
 |panic ch=>exact⟨_,a₁,w₁,hq,.of_steps (.one h0 BT) pF⟩
 |outgrown=>exact⟨_,a₁,w₁,hq,.of_steps (.one h0 BT) pF⟩
end
section
variable{N:NT}{np:G}{S0:aY}{w0:Z}{refs:Refs}{σ:St}{a:À}{w:Z}{S:aY}{γ:G->Y}
theorem VX{t:Ty}:∀{xs:H t.den}{css:H (H Y)}{bx:G->BS},All2 (λx c=>Rep S w t x c) xs css->All2 (bF S w γ bx) (xs.flatMap λx=>(scat t x).map TV.leaf) css.flatten
 |[],[],_,_=>trivial
 |[],_::_,_,h=>h.elim
 |_::_,[],_,h=>h.elim
 |x::xs,c::css,_,h=>(ri (pr t x c h.1)).append (VX h.2)
theorem jDP{t:Ty}(xs:H t.den):rowL t xs.length xs=xs.flatMap λx=>(scat t x).map TV.leaf:=by
 unfold rowL;rw[ó,ó];exact js List.flatten (Um (λx=>(scat t x).map TV.leaf) t.dflt xs)
theorem VY{rd:G->BS}(aZ:RdF np σ rd)(hB:wj S w γ σ.bx)(t:Ty):∀{n:G}{ls:H Leaf}{xs:H t.den}{u:Ups}{cs:H Y},Bc rd t n ls=B (xs,u)->All2 (bF S w γ σ.bx) ls cs->cs.length=n*t.size->
  FrzL np σ.bx u/\xs.length=n/\∀S' w',dH S w S' w'->Froz σ.bx γ S' w' u->∃css,css.flatten=cs/\All2 (λx c=>Rep S' w' t x c) xs css
 |0,[],xs,u,cs,h,ha,hc=>by
  simp only[Bc,j5,j9]at h;obtain⟨rfl,rfl⟩:=h;have:cs=[]:=jy (by rw[hc,Nat.zero_mul]);subst this;exact⟨.nil,rfl,λS' w' _ _=>⟨[],rfl,trivial⟩⟩
 |0,_::_,_,_,_,h,_,_=>by simp[Bc]at h
 |n+1,ls,xs,u,cs,h,ha,hc=>by
  simp only[Bc]at h;split at h
  case h_2=>simp at h
  rename_i x r u1 hx;split at h
  case h_2=>simp at h
  rename_i du v il;simp only[j5,j9]at h;obtain⟨rfl,rfl⟩:=h;obtain⟨f1,e1,p1⟩:=wm aZ hB t hx ha;have sY:All2 (bF S w γ σ.bx) r (cs.drop t.size):=by rw[e1];exact ha.drop _
  obtain⟨f2,l2,p2⟩:=VY aZ hB t il sY (by rw[zf,hc,zr];omega);refine⟨FrzL.app.2 ⟨f1,f2⟩,by rw[ji,l2],λS' w' hk hf=>?_⟩;obtain⟨nS,rm⟩:=Froz.app.1 hf;obtain⟨css,e3,q3⟩:=p2 S' w' hk rm;exact⟨cs.take t.size::css,by rw[kq,e3,qx],p1 S' w' hk nS,q3⟩
theorem jub(hR:Rel N np S0 w0 refs σ a w S γ)(hc:dq σ){g:Gh}{σ':St}(h:Bd np σ g=B (X,σ')):∃S' γ',Rel N np S0 w0 refs σ' a w S' γ'/\dq σ':=by
 cases g with
 |ex k c n m=>
  simp only[Bd]at h;split at h
  case h_2=>simp at h
  rename_i ls hk;split at h
  case h_2=>simp at h
  rename_i b hs;split at h
  case h_2=>simp at h
  rename_i e t xs hb;split at h
  case isTrue=>simp at h
  rename_i cU;simp only[j5,j9]at h;obtain⟨h1,rfl⟩:=h;have h1:xs.length=m:=â h1;subst h1;simp only[qk,not_or,Û,beq_eq_false_iff_ne,Bool.not_eq_false']at cU;obtain⟨⟨⟨⟨hm,hp⟩,yL⟩,dm⟩,hn⟩:=cU
  have hn:σ.bx n = .free:=by
   revert hn
   cases σ.bx n<;>simp[iz]
  have nU:k≠n:=by rintro rfl;rw[hn]at hk;simp at hk
  obtain⟨gk,MR,ek,yA,VZ,HI,bT,Un,_⟩:=hR.box k _ hk
  have DG:ls[c]? = B (.ol b):=by
   cases dz:ls[c]? with
   |none=>simp[dz]at hs
   |some x=>simp[dz]at hs;rw[hs]
  obtain⟨z,hz,fE⟩:=HI.get c _ DG;have hu:z=γ b:=fE.2.2 _ hb;obtain⟨css,aQ,ay,hS⟩:=iY hm (hR.box b _ hb);have bu:=Br hR hb;have om:(σ.setB b .gone).bx n = .free:=by rw[cE σ _ (Ne.symm yL)];exact hn
  obtain⟨cI,fg⟩:=L7 bu om (v':=γ b) (b:= .row e t xs.length (rowL t xs.length xs)) (λg' aC=>by
   refine⟨⟨?_,hR.kw_live hb aC⟩,λk' b' aU bn=>?_⟩
   .rcases hR.own b _ g' hb aC with h|h
    .exact h
    .rw[hp]at h;simp at h
   .have cg:k'≠b:=by rintro rfl;rw[fD]at aU;simp at aU
    rw[cE σ _ cg]at aU;exact hR.apart k' b _ _ g' cg aU hb bn aC) (by
   refine⟨hm,⟨css.flatten,by rw[eN];exact aQ,by rw[jDP];exact VX ay,λu hu=>?_⟩,λg hg o=>?_⟩
   .obtain⟨c',dz,xO⟩:=List.mem_flatten.1 hu;obtain⟨x,_,hx⟩:=ay.mem_right c' dz;exact Rep.one t x c' hx u xO
   .rw[eN]at hg;exact(hS g hg).1 rfl o)
  have fp:((σ.setB b .gone).setB n (.live (.row e t xs.length (rowL t xs.length xs)))).bx k = .live (.cell ls U):=by rw[cE _ _ nU,cE _ _ (λh=>dm h.symm)];exact hk
  refine⟨S,_,Mv cI fp (b':= .cell (ls.set c (.ol n)) U) trivial (λbx' pt=>?_),λi=>hc i⟩;obtain⟨g3,cur3,e3,q1,q2,q3,q4,q5,_⟩:=cI.box k _ fp;rw[fM γ _ nU,yA]at q1;simp at q1;subst q1;rw[VZ]at q2;simp at q2;obtain⟨rfl,rfl⟩:=q2;refine⟨gk,MR,ek,by rw[fM γ _ nU];exact yA,VZ,?_,by rw[zu];exact q4,q5,ae⟩;rw[zu];refine All2.set_left (q3.mono (λx u hx=>bF.keep (.refl S w) pt hx)) c (.ol n) z hz ?_;have yR:((σ.setB b .gone).setB n (.live (.row e t xs.length (rowL t xs.length xs)))).bx n = .live (.row e t xs.length (rowL t xs.length xs)):=fD _ _ _;refine bF.keep (.refl S w) pt (x:= .ol n) ⟨by rw[yR];simp,fE.2.1,λb' aU=>?_⟩;rw[eN];exact hu
 |rl k=>
  simp only[Bd]at h;split at h
  .rename_i e t n ls hk;split at h
   case h_2=>simp at h
   rename_i xs u hx;split at h
   case isTrue=>simp at h
   rename_i gD;simp only[j5,j9,q7]at h;subst h;have gD:u.any (λy=>y.1==k)=false:=ky.2 gD;have aZ:RdF np σ (λj=>if parK np j then .gone else mskM σ.bx j):=yE (RdR.msk λ_=> .inl rfl);obtain⟨hm,⟨cs,aQ,ay,h1⟩,_⟩:=hR.box k _ hk;obtain⟨hf,hl,hp⟩:=VY aZ hR.box t hx ay aQ.1;obtain⟨S1,bu,cS,gE,dt⟩:=nR u σ S hR hf;have dj:(σ.upd u).bx k = .live (.row e t n ls):=(kL u σ gD).trans hk;obtain⟨css,DC,Ei⟩:=hp S1 w cS gE;have cI:=Mv bu dj (b':= .lst e t xs U) ⟨rfl,rfl,hm,hl.symm⟩ (λbx' hle=>Bf hm ⟨css,by rw[DC,hl];exact aQ,Ei,λg hg=>⟨λ_=>(bu.box k _ dj).2.2 g hg,ae⟩⟩);refine⟨S1,γ,by rw[jK];exact cI,λi=>?_⟩;rw[uf];exact hc i
  .simp only[j5,j9,q7]at h;subst h;exact⟨S,γ,hR,hc⟩
 |se k=>
  simp only[Bd]at h;split at h
  case h_2=>simp at h
  rename_i ls hk;split at h
  case isTrue=>simp at h
  rename_i hp;split at h
  case h_2=>simp at h
  rename_i xs u hx;split at h
  case isTrue=>simp at h
  rename_i gD;simp only[j5,j9,q7]at h;subst h;have hp:parK np k=false:=ky.2 hp;have gD:u.any (λy=>y.1==k)=false:=ky.2 gD;have aZ:RdF np σ (λj=>if parK np j then .gone else mskM σ.bx j):=yE (RdR.msk λ_=> .inl rfl);obtain⟨g,cur,e,hg,hh,eV,_⟩:=hR.box k _ hk;obtain⟨hf,wB⟩:=yt aZ hx eV;obtain⟨S1,bu,cS,gE,dt⟩:=nR u σ S hR hf;have dj:(σ.upd u).bx k = .live (.cell ls U):=(kL u σ gD).trans hk
  obtain⟨S2,g2,cI,_⟩:=UH bu dj hp (xs:=xs) (λg' jL e' aC wh _=>by
   rw[hg]at aC;simp at aC;subst aC;rw[hh]at wh;simp at wh;obtain⟨rfl,_⟩:=wh;exact wB S1 w cS gE)
  refine⟨S2,γ,by rw[jK];exact cI,λi=>?_⟩;rw[uf];exact hc i
 |da l=>
  simp only[Bd]at h;split at h
  .rename_i σ1 hd;simp only[j5,j9,q7]at h;subst h;obtain⟨S',cT,dz⟩:=Mw l σ σ1 S hR hc hd;exact⟨S',γ,cT,dz⟩
  .simp at h
theorem MS{R:Type}{r:R}:∀{gs:H Gh}{σ:St}{S:aY}{γ:G->Y}{k:St->O R},Rel N np S0 w0 refs σ a w S γ->dq σ->xK np gs σ k=B r->
  ∃σ' S' γ',Rel N np S0 w0 refs σ' a w S' γ'/\dq σ'/\k σ'=B r
 |[],σ,S,γ,k,hR,hc,h=>⟨σ,S,γ,hR,hc,h⟩
 |g::gs,σ,S,γ,k,hR,hc,h=>by
  simp only[xK]at h;split at h
  .rename_i b σ1 hg;cases b with
   |false=>simp at h
   |true=>obtain⟨S1,γ1,bu,eU⟩:=jub hR hc hg;exact MS bu eU h
  .simp at h
end
section
variable{N:NT}{np:G}{S0:aY}{w0:Z}{refs:Refs}{σ:St}{a:À}{w:Z}{S:aY}{γ:G->Y}
def exOf:Ex->Ò
 |.normal=> .normal
 |.exit i=> .exit i
 |.ret=> .ret
def BU(E:Env)(b:G)(c:Ó):Prop:=
 ∀(s:Snap)(R:Type)(k:Ex->Snap->O R)(r:R),E.L b s R k=B r->∃n e s',loopN (Dg E b c) n s=B (e,s')/\k e s'=B r
def MrOK(E:Env)(b:G)(c:Ó):Prop:=
 ∀(m nm:G)(p:MrP),E.mr b=B (m,nm)->mrP b c=B p->∀(s:Snap)(R:Type)(k:Snap->O R)(r:R),E.M b s R k=B r->
  ∃(em:G)(v:Ty)(xs ys:H (Ù×v.den)),isM em=X/\s=lK s em v xs/\
   (∀zs,(dD E.np (E.keep b) (lK s em v zs)).bx nm = .live (.lst em (.pair (.int .i64) v) zs U)/\(dD E.np (E.keep b) (lK s em v zs)).sl m = .one (.one (.ol nm)))/\
   All2 (λx y=>y.1=x.1/\∀zs,G0 E.off0 b p m (lK s em v zs) v x.1 x.2 B=B (lK s em v (@iI _ _ (Ty.int .i64).keq zs x.1 y.2))) xs ys/\k (lK s em v ys)=B r
theorem BV(p:G->Prop):∀n,p n->∃m,p m/\∀j,p j->m<=j:=by
 intro n;induction n using ö<;>grind
open Classical in
noncomputable def HM(p:G->Prop):Nat:=if h:∃n,p n then (BV p h.choose h.choose_spec).choose else 0
theorem V0{p:G->Prop}{n:G}(h:p n):p (HM p)/\HM p<=n:=by
 unfold HM;have hx:∃n,p n:=⟨n,h⟩;grind
theorem V1{P:Á}{F:Fence}{n0:G}{Q:Ò->À->Z->Prop}{c:Ó}(I:G->À->Z->Prop){n:G}(h₀:I n a w)
  (round:∀n a w,I n a w->c.wpIn F n0 P (Exit.then (λa' w'=>∃m,m<n/\I m a' w') Q) a w):(Code.loop c).wpIn F n0 P Q a w:=by
 refine wpIn_loop (λa w=>∃n,I n a w) (λa w=>HM λn=>I n a w) ⟨n,h₀⟩ (λa w hI=>?_);obtain⟨m,hm⟩:=hI;have hl:=(V0 (p:=λn=>I n a w) hm).1;refine wpIn_mono (round _ a w hl) (λe a' w' h=>?_);cases e with
 |normal=>obtain⟨m',aq,HN⟩:=h;exact⟨⟨m',HN⟩,Nat.lt_of_le_of_lt (V0 (p:=λn=>I n a' w') HN).2 aq⟩
 |_=>exact h
def BW(w0:Z)(refs:Refs):Prop:=
 refs.ds.Nodup/\∀d∈refs.ds,∃D,d={ target:= .collected D,args:=#[] }/\w0.heap.size<=D/\refs.kw D=B (.deferred (B []))
structure wX(w0:Z)(refs refs':Refs):Prop where
 blks:refs'.blks=refs.blks
 val:refs'.val=refs.val
 fix:refs'.fix=refs.fix
 marks:BW w0 refs'
 mv:refs'.mv=refs.mv
theorem wX.trans{r r' V2:Refs}(h:wX w0 r r')(h':wX w0 r' V2):wX w0 r V2:=⟨h'.blks.trans h.blks,h'.val.trans h.val,h'.fix.trans h.fix,h'.marks,h'.mv.trans h.mv⟩
def Post(E:Env)(S0:aY)(w0:Z)(refs:Refs)(pl:Æ){R:Type}(k:Ex->St->O R)(r:R):Ò->À->Z->Prop:=
 λe a' w'=>∃refs' ex σ' S' γ',wX w0 refs refs'/\(pl=X->refs'=refs)/\exOf ex=e/\Rel E.N E.np S0 w0 refs' σ' a' w' S' γ'/\dq σ'/\k ex σ'=B r
theorem MT{E:Env}{pl:Æ}{R:Type}{k:Ex->St->O R}{r:R}:¬ñ (Post E S0 w0 refs pl k r):=by
 rintro⟨a,w,refs',ex,_,_,_,_,_,he,_⟩
 cases ex<;>simp[exOf]at he
def BwOK(P:Á)(f:G)(t:Ty):Prop:=
 Fun P f/\∀(cv:Ã Y)(m l:G)(J:G->aY->Z->Prop)(Jx:Z->Prop)(W:Z)(S:aY),
  (∀j S W S' W',Grew W W'->wV S W S' W'->J j S W->J j S' W')->(∀W W',Grew W W'->Jx W->Jx W')->(∀j S W,J j S W->∀g o,S g o->g<W.heap.size)->
  (∀j S W,j<m->J j S W->∃xs:H t.den,All2 (iX S W) [.p [⟨.list t,xs⟩]] cv.toList/\m-1-j<xs.length/\∀S' W' x v,Grew W W'->wV S W S' W'->xs[m-1-j]? = B x->VRep S' W' ⟨t,x⟩ v->
   YieldAt (FR Â) 0 P l #[.int .i64 ((m-1-j:G):Ù),v] W' λe W'=>(e = .returned (.bool X)/\∃S',J (j+1) S' W')\/(e = .returned (.bool U)/\Jx W'))->
  (∃(S':aY)(xs:H t.den),xs.length=m/\(∀g o,S' g o->g<W.heap.size)/\All2 (iX S' W) [.p [⟨.list t,xs⟩]] cv.toList)->J 0 S W->
  û (FR Â) 0 P f (#[.func (.yield l) #[] #[]]++cv) W λe W'=>(∃v,e = .returned v)/\((∃S',J m S' W')\/Jx W')
def ItOK(P:Á)(f:G)(kd:Æ)(t:Ty):Prop:=
 Fun P f/\∀(cv:Ã Y)(l:G)(J:Ù->aY->Z->Prop)(Je Jx:Z->Prop)(W:Z)(S:aY)(kQ:H t.den),
  (∀c S W S' W',Grew W W'->wV S W S' W'->J c S W->J c S' W')->(∀W W',Grew W W'->Je W->Je W')->(∀W W',Grew W W'->Jx W->Jx W')->(∀c S W,J c S W->∀g o,S g o->g<W.heap.size)->
  (∀c S W,J c S W->∃xs:H t.den,All2 (iX S W) [.p [⟨.list t,xs⟩]] cv.toList/\(Lo kd xs.length c=X->Je W)/\
   (Lo kd xs.length c=U->itOk kd xs.length c=X/\∀S' W' vs,Grew W W'->wV S W S' W'->All2 (VRep S' W') (Db kd t xs c) vs->
    YieldAt (FR Â) 0 P l vs.toArray W' λe W'=>(e = .returned (.bool X)/\∃S',J (Da kd c) S' W')\/(e = .returned (.bool U)/\Jx W')))->
  (∃S',(∀g o,S' g o->g<W.heap.size)/\All2 (iX S' W) [.p [⟨.list t,kQ⟩]] cv.toList)->J (C9 kd kQ.length) S W->
  û (FR Â) 0 P f (#[.func (.yield l) #[] #[]]++cv) W λe W'=>(∃v,e = .returned v)/\(Je W'\/Jx W')
def V3(P:Á)(fK fS e:G):Prop:=Fun P fK/\Fun P fS/\∀(w:Z)(g:G)(es:Ã ì)(clock:G)(ks:H Ù),
 w.heap[g]? = B (.map es clock)->MapKept.Stamped es clock->es.toList.map (·.key)=ks.map (Ë .i64)->(∀x∈ks, -9223372036854775808<=x/\x<=9223372036854775807)->ks.length<=1000000->
 ÿ P fK #[.map (B g)] w λr w1=>∃c,r = .returned c/\Grew w w1/\ÿ P fS #[c] w1 λr2 w2=>∃v,r2 = .returned v/\w2.ownsRow w1.heap.size e 1 v ks.length ((qX ks).map (Ë .i64))/\Grew w1 w2
def V4(P:Á)(f e sz:G):Prop:=Fun P f/\∀(w:Z)(n:Ù),0<=n->n<=1000000->
 ÿ P f #[.slice Â 0 0,.int .i64 n] w λr w'=>∃v,r = .returned v/\w'.ownsRow w.heap.size e sz v 0 []/\Grew w w'
def BwK(P:Á)(f:G):Æ×Ty->Prop
 |(X,.arr fK (.arr e .bool))=>V3 P fK f e
 |(X,.arr e (.arr sz .unit))=>V4 P f e sz
 |(kd,t)=>ItOK P f kd t
theorem BwK.it{P:Á}{f:G}{kd:Æ}{t:Ty}(h:BwK P f (kd,t))(ht:kd=X->t=segT):ItOK P f kd t:=by
 cases kd with
 |false=>exact h
 |true=>obtain rfl:=ht rfl;exact h
section
variable{N:NT}{np:G}{S0:aY}{w0:Z}{refs:Refs}{σ:St}{a:À}{w:Z}{S:aY}{γ:G->Y}
theorem jBp(ks:H Ù):(qX ks).length=ks.length:=by
 have hi:∀(x:Ù)(l:H Ù),(insI x l).length=l.length+1:=by intro x l;induction l<;>grind[insI]
 induction ks<;>grind[qX]
theorem V5{vt:Ty}:∀{xs:H (Ù×vt.den)}{l:H ì},All2 (λ(x:(Ty.int .i64).den×vt.den)(e:ì)=>Rep S w (.int .i64) x.1 [e.key]/\VRep S w ⟨vt,x.2⟩ e.val) xs l->
  l.map (·.key)=(xs.map λx=>x.1).map (Ë .i64)
 |[],[],_=>rfl
 |[],_::_,h=>h.elim
 |_::_,[],h=>h.elim
 |y::r,z::q,h=>by
  have h1:[z.key]=[Ë .i64 y.1]:=h.1.1;simp only[kj,yh];exact⟨by simpa using h1,V5 h.2⟩
theorem jx6{P:Á}{E:Env}(jS:∀f t,E.bw f=B t->BwK P f t)(hR:Rel E.N E.np S0 w0 refs σ a w S γ)(hc:dq σ){o o2:Ä}(hd:mF E.N o=X)(iC:mF E.N o2=X)
  {σ':St}(h:Lj E σ o o2=B (X,σ')){next wY:À->Z->Prop}{Q:Ò->À->Z->Prop}
  (om:∀a1 w1,o2.wp P a1 w1 next Q->wY a1 w1)(hn:∀a' w' S' γ',Rel E.N E.np S0 w0 refs σ' a' w' S' γ'->dq σ'->next a' w'):o.wp P a w wY Q:=by
 unfold Lj at h;split at h
 case h_2=>simp at h
 rename_i c1 c2 ho D0;split at h
 case h_2=>simp at h
 rename_i f1 x f2 d eU Ej fC sY;split at h
 case h_2=>simp at h
 rename_i fK b fS nS hx rm;split at h
 case h_2=>simp at h
 rename_i Lk e em ta xs fr MU Ek;split at h
 case h_2=>simp at h
 rename_i cq ys tA;split at h
 case isFalse=>simp at h
 rename_i cU;obtain⟨rfl,V6,hem,El,bq⟩:=cU;simp only[j5,j9]at h;obtain⟨rfl,rfl⟩:=h;obtain⟨hFK,hFS,ej⟩:V3 P Lk fS e:=jS _ _ MU;have Em:=mI hR x;rw[hx]at Em;have BK:a.eval x=γ b:=Em.1.2.2 _ Ek;unfold TP at tA;split at tA
 case h_2=>simp at tA
 rename_i vt xs;simp only[j5,j9]at tA;obtain⟨bT,rfl⟩:=tA;obtain⟨g,es,clock,hg,hh,ay,aV⟩:Dj S w (.pair (.int .i64) vt) xs (γ b):=by rcases (hR.box b _ Ek).1 with⟨hm,_⟩|⟨_,hm⟩;all_goals simp_all
 unfold TO at bT;simp only[jd,jv,jj]at bT;have Bz:xs.length<=1000000:=vq bT.1;have hks:es.toList.map (·.key)=(xs.map λx=>x.1).map (Ë .i64):=by exact V5 ay
 have dE:=ej w g es clock (xs.map λx=>x.1) hh aV.1 hks (λz hz=>by
  grind) (by simpa using Bz)
 have En:=mI hR f1;rw[nS]at En;obtain⟨cv,BD,lY⟩:=En.1
 obtain rfl:cv = #[]:=by
  have:cv.toList=[]:=by
   cases hq:cv.toList with
   |nil=>rfl
   |cons=>rw[hq]at lY;exact lY.elim
  exact va.1 this
 have aR:=DV (w:=w) hFK ho eU BD;have e1:c1.args.map a.eval ++ #[] = #[.map (B g)]:=by apply vf;simp[Ej,BK,hg]
 rw[e1]at aR;unfold Ô;rw[aR,Ï];refine dE.mono ?_
 rintro r w1 ⟨c,rfl,oI,MV⟩
 have bu:=hR.grew oI (S':=S) ⟨λ_ _ h=>h,λ_ _ h=> .inl h,λg o h=>qd (hR.here g o h) oI.size⟩;obtain⟨cI,MW⟩:=D4 bu hc (yG hd) (s:= .one (.one .dead)) (v:=c) ⟨trivial,λh=>absurd rfl h⟩ rfl;have Eo:=mI cI f2;rw[rm]at Eo;obtain⟨cv,Bw,lY⟩:=Eo.1
 obtain rfl:cv = #[]:=by
  have:cv.toList=[]:=by
   cases hq:cv.toList with
   |nil=>rfl
   |cons=>rw[hq]at lY;exact lY.elim
  exact va.1 this
 have wZ:=DV (w:=w1) hFS D0 fC Bw;have hda:d<a.tmps.size:=by rw[hR.size];exact(yG hd d V6).1
 have e2:c2.args.map (a.put o.dst c).eval ++ #[] = #[c]:=by
  apply vf;have:(a.put o.dst c).eval (.tmp d)=c:=by show tm (a.put o.dst c) d=c;grind[uJ]
  simp[sY,this]
 rw[e2]at wZ;refine om _ _ ?_;unfold Ô;rw[wZ,Ï];refine MV.mono ?_
 rintro r2 w2 ⟨v,rfl,bZ,pG⟩
 have fT:(σ.setD o.dst (.one (.one .dead))).bx ((o2.dst.getD 0)*64) = .free:=by rw[show (σ.setD o.dst (.one (.one .dead))).bx=σ.bx by rw[V6];rfl];grind[iz]
 have hblk:∀g',blk v=B g'->w1.heap.size<=g'/\g'<w2.heap.size:=by intro g' aC;rcases bZ.2 with⟨rfl,_⟩|⟨gb,cap,cur,rfl,fA,wJ,_⟩;all_goals grind[blk]
 have jT:w2.ownsRow 0 e (Ty.int .i64).size v (tO xs).length (((tO xs).map (λx=>[Ë .i64 x])).flatten):=by
  have e3:((tO xs).map (λx=>[Ë .i64 x])).flatten=(qX (xs.map λx=>x.1)).map (Ë .i64):=by
   unfold tO;induction qX (xs.map λx=>x.1) with
   |nil=>rfl
   |cons y r ih=>simp_all
  rw[e3,show (tO xs).length=(xs.map λx=>x.1).length from jBp _];refine⟨bZ.1,?_⟩;rcases bZ.2 with hl|⟨gb,cap,cur,h1,h2,h3⟩
  .exact .inl hl
  .exact .inr ⟨gb,cap,cur,h1,k7 _,h3⟩
 have BX:=Bs cI fT (w':=w2) (S':=S) (v':=v) (e:=e) El (el:= .int .i64) (zs:=tO xs) (frz:=U) (css:=(tO xs).map λx=>[Ë .i64 x])
  (λg' o' hs=>⟨hs,Ç (pG.old g' (cI.here g' o' hs))⟩) (λg' aC _=>pG.old g' aC) pG.size
  (λg' aC=>⟨.inl (ko cI.grow (hblk g' aC).1),λk b' aU hk=>by have:=kK (cI.box k b' aU) hk;grind,(hblk g' aC).2⟩)
  (λ_ _ h=> .inl h) pG.os pG.tape pG.output jT (by
   generalize tO xs=l
   induction l with
   |nil=>trivial
   |cons y r ih=>exact⟨rfl,ih⟩)
  (λg' aC=>⟨λ_ o' hs=>by have:=cI.here g' o' hs;grind,λh=>by simp at h⟩) (λg' aC=>cI.kw_new (hblk g' aC).1)
 obtain⟨dU,od⟩:=BX;obtain⟨oQ,qK⟩:=D4 dU (λi=>MW i) (yG iC) (s:= .one (.one (.ol ((o2.dst.getD 0)*64)))) (v:=v) od rfl;grind
theorem jx7{P:Á}{E:Env}(jS:∀f t,E.bw f=B t->BwK P f t)(hR:Rel E.N E.np S0 w0 refs σ a w S γ)(hc:dq σ){o:Ä}(hd:mF E.N o=X)
  {σ':St}(h:Ll E σ o=B (X,σ')){next:À->Z->Prop}{Q:Ò->À->Z->Prop}
  (hn:∀a' w' S' γ',Rel E.N E.np S0 w0 refs σ' a' w' S' γ'->dq σ'->next a' w'):o.wp P a w next Q:=by
 unfold Ll at h;split at h
 case h_2=>simp at h
 rename_i c1 ho;split at h
 case h_2=>simp at h
 rename_i f1 x y eU Ej;split at h
 case h_2=>simp at h
 rename_i fG n nS hx hy;split at h
 case h_2=>simp at h
 rename_i e sz ti MU Bj;split at h
 case h_2=>simp at h
 rename_i ta bG;split at h
 case isFalse=>simp at h
 rename_i cU;obtain⟨rfl,El,bq⟩:=cU;simp only[j5,j9,jd,jj]at h;obtain⟨⟨iE,om⟩,rfl⟩:=h;obtain⟨hFG,ej⟩:V4 P fG e ta.size:=jS _ _ MU;have Em:=mI hR x;rw[hx]at Em;have BK:a.eval x = .slice Â 0 0:=Em.1;have V7:=mI hR y;rw[hy]at V7;have Mq:a.eval y = .int .i64 n:=ub V7;have En:=mI hR f1;rw[nS]at En;obtain⟨cv,BD,lY⟩:=En.1
 obtain rfl:cv = #[]:=by
  have:cv.toList=[]:=by
   cases hq:cv.toList with
   |nil=>rfl
   |cons=>rw[hq]at lY;exact lY.elim
  exact va.1 this
 have aR:=DV (w:=w) hFG ho eU BD;have e1:c1.args.map a.eval ++ #[] = #[.slice Â 0 0,.int .i64 n]:=by apply vf;simp[Ej,BK,Mq]
 rw[e1]at aR;unfold Ô;rw[aR,Ï];refine(ej w n iE om).mono ?_
 rintro r w1 ⟨v,rfl,bZ,oI⟩
 have fT:σ.bx ((o.dst.getD 0)*64) = .free:=by grind[iz]
 have hblk:∀g',blk v=B g'->w.heap.size<=g'/\g'<w1.heap.size:=by intro g' aC;rcases bZ.2 with⟨rfl,_⟩|⟨gb,cap,cur,rfl,fA,wJ,_⟩;all_goals grind[blk]
 have jT:w1.ownsRow 0 e ta.size v ([]:H ta.den).length (([]:H (H Y)).flatten):=by refine⟨bZ.1,?_⟩;rcases bZ.2 with hl|⟨gb,cap,cur,h1,h2,h3⟩;all_goals grind
 have BX:=Bs hR fT (w':=w1) (S':=S) (v':=v) (e:=e) El (el:=ta) (zs:=[]) (frz:=U) (css:=[])
  (λg' o' hs=>⟨hs,Ç (oI.old g' (hR.here g' o' hs))⟩) (λg' aC _=>oI.old g' aC) oI.size
  (λg' aC=>⟨.inl (ko hR.grow (hblk g' aC).1),λk b' aU hk=>by have:=kK (hR.box k b' aU) hk;grind,(hblk g' aC).2⟩)
  (λ_ _ h=> .inl h) oI.os oI.tape oI.output jT trivial
  (λg' aC=>⟨λ_ o' hs=>by have:=hR.here g' o' hs;grind,λh=>by simp at h⟩) (λg' aC=>hR.kw_new (hblk g' aC).1)
 obtain⟨dU,od⟩:=BX;obtain⟨oQ,qK⟩:=D4 dU (λi=>hc i) (yG hd) (s:= .one (.one (.ol ((o.dst.getD 0)*64)))) (v:=v) od rfl;grind
theorem V8{P:Á}{E:Env}(hT:cJ P E.T)(hC:kD P E.C)(jS:∀f t,E.bw f=B t->BwK P f t)(hR:Rel E.N E.np S0 w0 refs σ a w S γ)(hc:dq σ){o:Ä}(hd:mF E.N o=X){R:Type}{k:St->O R}{r:R}
  (h:runK E σ o k=B r){next:À->Z->Prop}{Q:Ò->À->Z->Prop}
  (hn:∀σ' a' w' S' γ',Rel E.N E.np S0 w0 refs σ' a' w' S' γ'->dq σ'->k σ'=B r->next a' w'):o.wp P a w next Q:=by
 unfold runK at h;split at h
 .grind[jx7]
 .exact D6 hT hC hR (act:=[]) (λg hg=>by simp at hg) (p:=U) (λ_=>hc) hd h (λσ' a' w' S' γ' cT dz hk=>hn _ _ _ _ _ cT (dz rfl) hk)
theorem MX{P:Á}{E:Env}(hT:cJ P E.T)(hC:kD P E.C)(jS:∀f t,E.bw f=B t->BwK P f t){ops:Ã Ä}(cu:bare ops=X){R:Type}{k:St->O R}{r:R}{Q:Ò->À->Z->Prop}
  (hn:∀σ' a' w' S' γ',Rel E.N E.np S0 w0 refs σ' a' w' S' γ'->dq σ'->k σ'=B r->Q .normal a' w') :
  ∀(n i:G)(σ:St)(a:À)(w:Z)(S:aY)(γ:G->Y),i+n=ops.size->Rel E.N E.np S0 w0 refs σ a w S γ->dq σ->tT E (ops.toList.drop i) σ k=B r->
   wpOps P ops Q (ð i n) a w
 |0,i,σ,a,w,S,γ,hi,hR,hc,h=>by
  rw[É az]at h;exact hn _ _ _ _ _ hR hc h
 |1,i,σ,a,w,S,γ,hi,hR,hc,h=>by
  have aq:i<ops.size:=aa;rw[jb (by simpa using aq),É az]at h;simp only[tT]at h;split at h
  .rename_i hd;have ho:ops[i]? = B ops[i]:=jt aq;simp only[y9,wpOps,ho];have hg:ops[i].guard=none:=by have:=jv.1 cu ops[i] ae;simpa using this
   have hw:Å ops[i] (yielded ops a.tmps)=true:=by simp[Å,hg]
   simp only[hw,if_true];exact .inl (V8 hT hC jS hR hc (by simpa using hd) (by simpa using h) (λσ' a' w' S' γ' cT dz hk=>hn _ _ _ _ _ cT dz hk))
  .simp at h
 |n+2,i,σ,a,w,S,γ,hi,hR,hc,h=>by
  have aq:i<ops.size:=aa;have uO:i+1<ops.size:=aa;rw[jb (by simpa using aq),jb (by simpa using uO)]at h;simp only[tT]at h;have ho:ops[i]? = B ops[i]:=jt aq;have D0:ops[i+1]? = B ops[i+1]:=jt uO
  have hw:∀(j:G)(hj:j<ops.size)(a:À),Å ops[j] (yielded ops a.tmps)=true:=λj hj a=>by
   have hg:ops[j].guard=none:=by have:=jv.1 cu ops[j] ae;simpa using this
   simp[Å,hg]
  split at h
  case isFalse=>simp at h
  rename_i hd;split at h
  .rename_i cq σ' hks;split at h
   case isFalse=>simp at h
   rename_i iC;cases cq with
   |false=>simp at h
   |true=>simp only[j6]at h;simp only[y9,wpOps,ho,D0,hw i aq,hw (i+1) uO,if_true];refine .inl (jx6 jS hR hc (by simpa using hd) (by simpa using iC) (by simpa using hks) (λa1 w1 hq=> .inl hq) (λa' w' S' γ' cT dz=>?_));exact MX hT hC jS cu hn n (i+2) σ' a' w' S' γ' aa cT dz h
  .rw[y9];simp only[wpOps,ho,hw i aq,if_true];refine .inl (V8 hT hC jS hR hc (by simpa using hd) (by simpa using h) (λσ' a' w' S' γ' cT dz hk=>?_));refine MX hT hC jS cu hn (n+1) (i+1) σ' a' w' S' γ' aa cT dz ?_;rw[jb (by simpa using uO)];simpa using hk
theorem jx8{P:Á}{E:Env}(hT:cJ P E.T)(hC:kD P E.C)(jS:∀f t,E.bw f=B t->BwK P f t)(hR:Rel E.N E.np S0 w0 refs σ a w S γ)(hc:dq σ){ops:Ã Ä}{R:Type}{k:St->O R}{r:R}
  {Q:Ò->À->Z->Prop}(hn:∀σ' a' w' S' γ',Rel E.N E.np S0 w0 refs σ' a' w' S' γ'->dq σ'->k σ'=B r->Q .normal a' w')(h:C5 E ops σ k=B r) :
  wpOps P ops Q (List.range ops.size) a w:=by
 rw[å];unfold C5 at h;split at h
 .rename_i hb;exact MX hT hC jS hb hn ops.size 0 σ a w S γ aa hR hc (by simpa using h)
 .simp at h
end
theorem jGw{P:Á}{f:G}{t:Ty}(h:BwOK P f t):ItOK P f U t:=by
 refine⟨h.1,λcv l J Je Jx W S kQ aV V9 hsx hh hY cK w6=>?_⟩;obtain⟨S',uP,dz⟩:=cK;refine CallsIn.mono (h.2 cv kQ.length l (λj S W=>j<=kQ.length/\J ((kQ.length:Ù)-j) S W) Jx W S (λj S W S' W' hg hs hj=>⟨hj.1,aV _ _ _ _ _ hg hs hj.2⟩) hsx (λj S W hj=>hh _ _ _ hj.2) ?_ ⟨S',kQ,rfl,uP,dz⟩ ⟨k7 _,?_⟩) ?_
 .rintro j S W hj ⟨_,hJ⟩
  obtain⟨xs,h1,_,h3⟩:=hY _ _ _ hJ;obtain⟨h4,h5⟩:=h3 (by show decide _=U;exact decide_eq_false aa);have h4:(kQ.length:Ù)-j<=Int.ofNat xs.length:=kr h4;have h4:(kQ.length:Ù)-j<=(xs.length:Ù):=h4;refine⟨xs,h1,aa,λS' W' x v hg hs hx hv=>?_⟩
  have hv2:All2 (VRep S' W') (Db U t xs ((kQ.length:Ù)-j)) [.int .i64 ((kQ.length-1-j:G):Ù),v]:=by
   refine⟨⟨?_,λhm=>absurd hm (show¬kI (.int .i64)=X by decide),λ_=>rfl⟩,?_,trivial⟩
   .show [Ë .i64 ((kQ.length-1-j:G):Ù)]=[Ë .i64 ((kQ.length:Ù)-j-1)];grind
   .have e:List.getD xs ((kQ.length:Ù)-j-1).toNat t.dflt=x:=by rw[show ((kQ.length:Ù)-j-1).toNat=kQ.length-1-j by omega];simp[List.getD,hx]
    rw[e];exact hv
  obtain⟨fn,tmps,as,bo,hy,hR⟩:=h5 S' W' _ hg hs hv2;refine⟨fn,tmps,as,bo,hy,hR.mono λe W' he=>?_⟩;grind[Da]
 .grind[C9]
 .rintro e W' ⟨hv,⟨S',_,hJ⟩|hx⟩
  .obtain⟨xs,_,h2,_⟩:=hY _ _ _ hJ;exact⟨hv,.inl (h2 (by show decide _=X;exact qn aa))⟩
  simp_all
def HO(P:Á)(E:Env)(ro:O G)(c:Ó):Prop:=
 ∀(b n:G){S0:aY}{w0:Z}{refs:Refs}{σ:St}{a:À}{w:Z}{S:aY}{γ:G->Y}{R:Type}{k:Ex->St->O R}{r:R},BW w0 refs->
  (∀x∈fV b c,BU E x.1 x.2/\MrOK E x.1 x.2)->Rel E.N E.np S0 w0 refs σ a w S γ->dq σ->fL E b c σ k=B r->c.wpIn (FR ro) n P (Post E S0 w0 refs (ea c) k r) a w
theorem w7:∀(c:Ó)(b:G),ea c=X->fV b c=[]
 |.seq x y,b,h=>by simp only[ea,jd]at h;simp[fV,w7 x b h.1,w7 y b h.2]
 |.cond _ x y,b,h=>by simp only[ea,jd]at h;simp[fV,w7 x b h.1,w7 y b h.2]
 |.block id c,b,h=>by simp only[ea]at h;simp[fV,w7 c id h]
 |.loop c,b,h=>by simp[ea]at h
 |.rangeFunc _ _ _ _,b,h=>by simp[ea]at h
 |.skip,_,_=>rfl
 |.region _ _ _,_,_=>rfl
 |.exit _,_,_=>rfl
 |.goto _,_,_=>rfl
 |.label _,_,_=>rfl
 |.ret,_,_=>rfl
 |.scope c,b,h=>by simp only[ea]at h;simp[fV,w7 c b h]
theorem Wa:∀(L:H (G×Y))(T:Ã Y),ra (L.map (·.1))=X->(∀q∈L,q.1<T.size)->
  (∀q∈L,(L.foldl (λt (q:G×Y)=>t.setIfInBounds q.1 q.2) T).getD q.1 undef=q.2)/\(∀i,i∉L.map (·.1)->(L.foldl (λt (q:G×Y)=>t.setIfInBounds q.1 q.2) T).getD i undef=T.getD i undef)/\
  (L.foldl (λt (q:G×Y)=>t.setIfInBounds q.1 q.2) T).size=T.size
 |[],T,_,_=>⟨λq h=>by simp at h,λ_ _=>rfl,rfl⟩
 |q::r,T,hn,hb=>by
  simp only[kj,ra,jd,q9,qj,kg]at hn;obtain⟨h1,h2,h3⟩:=Wa r (T.setIfInBounds q.1 q.2) hn.2 (λp hp=>by simpa using hb p (by simp[hp]));have hq:=hb q ae;refine⟨λp hp=>?_,λi hi=>?_,by simpa using h3⟩
  .rcases je.1 hp with rfl|hp
   .show (List.foldl (λt (q:G×Y)=>t.setIfInBounds q.1 q.2) (T.setIfInBounds p.1 p.2) r).getD p.1 undef=_;rw[h2 p.1 hn.1];simp[Array.getD,hq]
   .exact h1 p hp
  .simp only[kj,je,not_or]at hi;show (List.foldl (λt (q:G×Y)=>t.setIfInBounds q.1 q.2) (T.setIfInBounds q.1 q.2) r).getD i undef=_;rw[h2 i hi.2];rw[vi,Array.getElem?_setIfInBounds,if_neg (λh=>hi.1 h.symm),<-vi]
theorem Wb{N:NT}{np:G}:∀(L:H (G×TV)){σ:St},Rel N np S0 w0 refs σ a w S γ->dq σ->(∀q∈L,VRep S w q.2 (tm a q.1))->Rel N np S0 w0 refs (setL L σ) a w S γ/\dq (setL L σ)
 |[],_,hR,hc,_=>⟨hR,hc⟩
 |q::r,σ,hR,hc,hv=>by
  have h1:=Mt hR (s:=q.1) (x:= .one (pb q.2.t q.2.v)) (BC (hv q ae));refine Wb r h1 (λi=>?_) (λp hp=>hv p (by simp[hp]));simp only[St.setS];split
  .rfl
  .exact hc i
theorem Wc{S:aY}{w:Z}:∀{ps:H G}{xs:H TV}{vs:H Y},All2 (VRep S w) xs vs->∀q∈ps.zip xs,∃v,(q.1,v)∈ps.zip vs/\VRep S w q.2 v
 |[],_,_,_,q,h=>by simp at h
 |p::ps,[],vs,_,q,h=>by simp at h
 |p::ps,x::xs,[],h2,q,h=>h2.elim
 |p::ps,x::xs,v::vs,h2,q,h=>by
  simp only[Ú,je]at h;rcases h with rfl|h
  .exact⟨v,ae,h2.1⟩
  .obtain⟨u,h3,h4⟩:=Wc h2.2 q h;exact⟨u,by simp[h3],h4⟩
theorem Wd:∀(ps:H G)(vs:H Y),ra ps=X->ra ((ps.zip vs).map (·.1))=X
 |[],_,_=>by simp[ra]
 |p::ps,[],_=>by simp[ra]
 |p::ps,v::vs,h=>by
  simp only[ra,jd,q9,qj,kg,Ú,kj]at h ⊢;refine⟨λhm=>h.1 ?_,Wd ps vs h.2⟩;obtain⟨q,hq,he⟩:=jx.1 hm;rw[<-he];exact(à hq).1
theorem jDQ{kd:Æ}{t:Ty}{xs:H t.den}{c:Ù}(h:kd=X->t=segT):(Db kd t xs c).length=cond kd 1 2:=by
 cases kd with
 |false=>rfl
 |true=>have:=h rfl;subst this;rfl
theorem jBq{P:Á}{E:Env}(jS:∀f t,E.bw f=B t->BwK P f t)(mW:E.N.pin=λ_=>U){b n:G}{g:Õ}{ps:Ã G}{x y:Ó}
  (rW:∀l,ea x=X->HO P (E.rnd ps x y) (B l) x)(rX:∀l,ea y=X->HO P (E.rnd ps x y) (B l) y)
  (h0:E.off0=E)(hLO:BU E b (.rangeFunc g ps x y)){R:Type}{k:Ex->St->O R}{r:R}(hm:BW w0 refs)(hR:Rel E.N E.np S0 w0 refs σ a w S γ)(hc:dq σ)
  (h:fL E b (.rangeFunc g ps x y) σ k=B r) :
  (Code.rangeFunc g ps x y).wpIn (FR Â) n P (Post E S0 w0 refs (ea (.rangeFunc g ps x y)) k r) a w:=by
 refine jF4 (n:=1) ?_;simp only[fL]at h;split at h
 case h_2=>simp at h
 rename_i f t xs nC;split at h
 case h_2=>simp at h
 rename_i kd bT;split at h
 case h_2=>simp at h
 rename_i s hs;obtain⟨fu0,e,s',w8,hk⟩:=hLO _ R _ r h
 rw[show Dg E b (.rangeFunc g ps x y)=wb E b g ps x y from by
  funext s
  show wb E.off0 b g ps x y s=_;rw[h0]]at w8
 have bO:=mI hR g;rw[nC]at bO;obtain⟨⟨cv,We,lY⟩,_⟩:=bO;obtain⟨S1,γ1,bu,eU⟩:=wQ hR hc hs;have parts:∀f t kd,rfK E b f t ps x y=B kd->E.bw f=B (kd,t)/\(kd=X->t=segT)/\ps.toList.length=cond kd 1 2/\ra ps.toList=X/\(∀p∈ps.toList,p<E.N.n)/\ea x=X/\ea y=X/\pinK ps x y (E.keep b)=true:=by grind[rfK]
 obtain⟨BH,hsg,h2,dZ,aq,yS,yT,Wh⟩:=parts f t kd bT;obtain⟨⟨Wi,MY,Wj,ca⟩,BO⟩:=(jS f _ BH).it hsg
 have heg:∀args w,(callFunc f args).run P w = .ok (.enter f args) w:=λargs w=>by
  have lP:¬Wi.body=none:=λhn=>by grind
  have rM : ¬ Wi.name = "runtime.NumGoroutine" := by simpa using ca
  simp[callFunc,MY,lP,rM]
 refine wpIn_rangeFunc λfn _=>?_;obtain⟨rec,gz⟩:∃rec:LoopState->O Ó->Loop,rec=λst pe=>{ state:=st,pending:=pe,fn,tmps:=a.tmps,params:=ps,assign:=x,body:=y,defers:=w.heap.size }:=⟨_,rfl⟩;obtain⟨W1,HP⟩:∃W1,(w.alloc (.deferred (B []))).alloc (.loop (rec .ready Â))=W1:=⟨_,rfl⟩
 refine⟨w.heap.size+1,[{ target:= .collected w.heap.size,args:=#[] }],W1,{ target:= .fn (.func f) cv,args:=#[.func (.yield (w.heap.size+1)) #[] #[]] },W1,f,
  #[.func (.yield (w.heap.size+1)) #[] #[]]++cv,W1,?_,?_,λ_ _=>trivial,?_,λhd=>aa,?_⟩
 .rw[<-HP,gz];exact run_enterLoop_outer _ _ _ _ _
 .simp only[resolve,We];simp[go_sem]
 .simp[invoke,go_sem,heg]
 obtain⟨l,hl⟩:∃l,l=w.heap.size+1:=⟨_,rfl⟩;rw[<-hl];let dh:(G->O Y)->Obj->Refs:=λfx o=>{ blks:=refs.blks,val:=refs.val,ds:=[],kw:=λg=>if g=l then B o else if g=w.heap.size then B (.deferred (B [])) else refs.kw g,fix:=fx,mv:=refs.mv }
 let fx:G->O Value:=λi=>if Be ps x y i then B (a.tmps.getD i undef) else Â
 let aI:Go.Act:={ tmps:=a.tmps,defers:=[] }
 have ir:∀fx o,(dh fx o).kw l=B o:=λfx o=>by simp[dh]
 have uQ:w0.heap.size<=l:=by have:=hR.grow;omega
 have bR:∀fx o,BW w0 (dh fx o):=λfx o=>⟨y8,λd hd=>by simp[dh]at hd⟩
 have kP:∀{N:NT}{fx:G->O Y}{o o':Obj}{σ:St}{a:À}{W:Z}{S:aY}{γ:G->Y},o.isCells=U->o'.isCells=U->Rel N E.np S0 w0 (dh fx o) σ a W S γ->
   Rel N E.np S0 w0 (dh fx o') σ a (W.putObj l o') S γ:=by
  intro N fx o o' σ a W S γ h1 h2 hR;have:=hR.putO (ir fx o) uQ h1 h2;grind
 have rY:∀{N N':NT}{fx M0:G->O Y}{o:Obj}{K:Keep}{s:Snap}{a a':À}{W:Z}{S:aY}{γ:G->Y},Rel N E.np S0 w0 (dh fx o) (dD E.np K s) a W S γ->a'.tmps.size=N'.n->a'.defers=[]->
   (∀i∈K.slots,tm a' i=tm a i)->(∀i v,M0 i=B v->N'.pin i=X/\a'.tmps.getD i undef=v)->Rel N' E.np S0 w0 (dh M0 o) (dD E.np K s) a' W S γ:=by
  intro N N' fx M0 o K s a a' W S γ hR h1 h2 h3 h4;exact hR.frame rfl rfl h1 h2 h3 (λg u hg=>hR.kept g u hg) h4
 have rZ:∀i v,(λ_=>Â:G->O Y) i=B v->E.N.pin i=X/\aI.tmps.getD i undef=v:=λi v h=>by simp at h
 let J:Ù->aY->Z->Prop:=λc S W=>∃s γ fu,Rel E.N E.np S0 w0 (dh (λ_=>Â) (.loop (rec .ready Â))) (dD E.np (E.keep b) s) aI W S γ/\dq (dD E.np (E.keep b) s)/\
  loopN (wb E b g ps x y) fu (.s (.one (.d (.int .i64) c))::s)=B (e,s')
 let Je:Z->Prop:=λW=>∃S γ,Rel E.N E.np S0 w0 (dh (λ_=>Â) (.loop (rec .ready Â))) (dD E.np (E.keepX b e) s') aI W S γ/\dq (dD E.np (E.keepX b e) s')/\e = .normal
 let Jx:Z->Prop:=λW=>∃S γ c,Rel E.N E.np S0 w0 (dh (λ_=>Â) (.loop (rec .done (B c)))) (dD E.np (E.keepX b e) s') aI W S γ/\dq (dD E.np (E.keepX b e) s')/\
  ((e = .ret/\c = .ret)\/∃i,e = .exit i/\c = .exit i)
 have Ep:∀K:Keep,pinK ps x y K=X->∀i∈K.slots,Be ps x y i=true:=λK hK i hi=>jv.1 hK i hi;have Er:∀i,Be ps x y i=X->i∉ps.toList:=by grind[Be]
 have w6:J (C9 kd xs.length) S1 W1:=by
  refine⟨s,γ1,fu0,?_,eU,w8⟩;have hA:=(bu.allocO (.deferred (B []))).allocO (.loop (rec .ready Â));rw[HP]at hA;refine hA.frame rfl rfl hR.size rfl (λi _=>rfl) (λg' u aC=>?_) rZ;simp only[dh]at aC;split at aC
  .rename_i e';simp only[j5]at aC;subst aC;rw[e',hl];refine⟨?_,λk' b' aU dm=>?_⟩
   .grind[ç,World.size_alloc]
   .have:=kK (bu.box k' b' aU) dm;omega
  .split at aC
   .rename_i _ e';simp only[j5]at aC;subst aC;rw[e'];refine⟨?_,λk' b' aU dm=>?_⟩
    .grind[heap_alloc_old,ç]
    .have:=kK (bu.box k' b' aU) dm;omega
   .exact hA.kept g' u aC
 have haI:aI.eval g=a.eval g:=by cases g<;>rfl
 have M1:aI.tmps.size=E.N.n:=hR.size
 have Es:∀{K:Keep}{s:Snap}{o:Obj}{W W':Z}{S:aY}{γ:G->Y},Grew W W'->Rel E.N E.np S0 w0 (dh (λ_=>Â) o) (dD E.np K s) aI W S γ->Rel E.N E.np S0 w0 (dh (λ_=>Â) o) (dD E.np K s) aI W' S γ:=
  λhg h1=>h1.grew hg ⟨λ_ _ h=>h,λ_ _ h=> .inl h,λg o h=>qd (h1.here g o h) hg.size⟩
 refine CallsIn.mono (BO cv l J Je Jx W1 S1 xs (λc S W S' W' hg hs ⟨s,γ,fu,h1,h2,h3⟩=>⟨s,γ,fu,h1.grew hg hs,h2,h3⟩) (λW W' hg ⟨S,γ,h1,h2⟩=>⟨S,γ,Es hg h1,h2⟩) (λW W' hg ⟨S,γ,c,h1,h2⟩=>⟨S,γ,c,Es hg h1,h2⟩)
  (λc S W ⟨s,γ,fu,h1,_⟩=>h1.here) ?_ ?_ w6) ?_
 ·-- a round
  rintro cn S W ⟨s,γ,fu,Et,hcj,w9⟩
  cases fu with
  |zero=>simp[loopN]at w9
  |succ fu=>
  simp only[loopN]at w9;cases aV:wb E b g ps x y (.s (.one (.d (.int .i64) cn))::s) with
  |none=>rw[aV]at w9;simp at w9
  |some r0=>
  rw[aV]at w9;unfold wb Df at aV;dsimp only at aV;split at aV
  case h_2=>simp at aV
  rename_i f' t' du M3;split at aV
  case h_2=>simp at aV
  rename_i kd' mV;have mL:=mI Et g;rw[M3,haI,We]at mL;obtain⟨⟨cv',Eu,cK⟩,_⟩:=mL;simp only[Value.func.injEq,Fn.func.injEq,q7]at Eu;obtain⟨rfl,rfl⟩:=Eu;have ht:=(parts f t' kd' mV).1;rw[BH]at ht;simp only[j5,j9]at ht;obtain⟨rfl,rfl⟩:=ht;refine⟨du,cK,λWk=>?_,λWk=>?_⟩
  .grind[wQ]
  rw[Wk,j7]at aV;cases hle:itOk kd du.length cn with
  |false=>rw[hle]at aV;simp at aV
  |true=>
  rw[hle,j6]at aV;refine⟨rfl,λSg Wg vs hgw pH mK=>?_⟩;have Et:=Et.grew hgw pH;have wx:vs.toArray.size=ps.size:=by grind[All2.length,jDQ]
  refine⟨fn,_,x,y,by have:=run_yield (P:=P) (args:=vs.toArray) (Et.kept l _ (ir _ _)).1 (by rw[gz];exact wx);rw[gz]at this;exact this,roundIn_of_wpIn trivial ?_⟩;let a1:Go.Act:={ tmps:=(ps.zip vs.toArray).foldl (λt (q:G×Y)=>t.setIfInBounds q.1 q.2) a.tmps,defers:=[] }
  have fE:(ps.zip vs.toArray).toList=ps.toList.zip vs:=ae;have Ej:a1.tmps=(ps.toList.zip vs).foldl (λt (q:G×Y)=>t.setIfInBounds q.1 q.2) a.tmps:=by grind
  have fj:∀i,i∈(ps.toList.zip vs).map (·.1)->i∈ps.toList:=λi hi=>by
   obtain⟨q,hq,rfl⟩:=jx.1 hi;exact(à hq).1
  have M4:ra ((ps.toList.zip vs).map (·.1))=true:=Wd _ _ dZ;obtain⟨Hs,iD,Wl⟩:=Wa (ps.toList.zip vs) a.tmps M4 (λq hq=>by rw[hR.size];exact aq _ (à hq).1);rw[<-Ej]at Hs iD Wl;have M5:a1.tmps.size=E.N.n:=Wl.trans hR.size;have BP:∀i,i∉ps.toList->tm a1 i=tm aI i:=λi hi=>iD i (λh=>hi (fj i h))
  have hRa:Rel (E.rnd ps x y).N E.np S0 w0 (dh fx (.loop (rec .ready Â))) (dD E.np (E.keep b) s) a1 Wg Sg γ:=rY Et M5 rfl (λi hi=>BP i (Er i (Ep _ Wh i hi))) (λi u hu=>by
   simp only[fx]at hu;split at hu
   .rename_i hp;simp only[j5]at hu;refine⟨hp,?_⟩;grind
   .simp at hu)
  obtain⟨hRc,rF⟩:=Wb (ps.toList.zip (Db kd t du cn)) hRa hcj (λq hq=>by
   obtain⟨v,h3,h4⟩:=Wc mK q hq;have:=Hs _ h3;show VRep Sg Wg q.2 (a1.tmps.getD q.1 undef);rw[this];exact h4)
  refine wpIn_mono (rW l yS 0 0 (bR _ _) (by rw[w7 x 0 yS];simp) hRc rF aV) ?_
  rintro e1 a2 w2 ⟨gx,ex,σ2,S2,γ2,_,fH,rfl,cI,fC,fp⟩
  have:=fH yS;subst this;cases ex with
  |exit i=>simp at fp
  |ret=>simp at fp
  |normal=>
  refine⟨_,run_beginRound (cI.kept l _ (ir _ _)).1 (by rw[gz]),?_⟩;have dU:Rel (E.rnd ps x y).N E.np S0 w0 (dh fx (.loop (rec .busy Â))) σ2 a2 (w2.putObj l (.loop { rec .ready Â with state:= .busy })) S2 γ2:=by have:=kP (o':= .loop (rec .busy Â)) rfl rfl cI;rw[gz]at this ⊢;exact this
  refine wpIn_mono (rX l yT 0 0 (bR _ _) (by rw[w7 y 0 yT];simp) dU fC fp) ?_
  rintro e1 a3 w3 ⟨Wm,ex,σ3,S3,γ3,_,fH,rfl,oQ,qK,yU⟩
  have:=fH yT;subst this
  have mX:∀{K:Keep}{s:Snap}{o:Obj}{W:Z}{S:aY}{γ:G->Y},pinK ps x y K=X->Rel (E.rnd ps x y).N E.np S0 w0 (dh fx o) (dD E.np K s) a3 W S γ->
    Rel E.N E.np S0 w0 (dh (λ_=>Â) o) (dD E.np K s) aI W S γ:=λhK hR=>rY hR M1 rfl (λi hi=>by
   have:=(hR.fix i (a.tmps.getD i undef) (by grind)).2;exact this.symm) rZ
  have r6:∀(ex:Ex)(c:Ó),((ex = .ret/\c = .ret)\/∃i,ex = .exit i/\c = .exit i)->
    (cond (pinK ps x y (E.keepX b ex)) (match kH E.np (E.keepX b ex) σ3 with
     |some s'=>B (Sum.inr (ex,s'))
     |none=>Â) Â:O (Snap ⊕ Ex×Snap))=B r0->
    ∃v w',(ù l (B c)).run P w3 = .ok v w'/\((Ð v = .returned (.bool X)/\∃S',J (Da kd cn) S' w')\/(Ð v = .returned (.bool U)/\Jx w')):=by
   intro ex c hex pI;cases yV:pinK ps x y (E.keepX b ex) with
   |false=>rw[yV]at pI;simp at pI
   |true=>
   rw[yV,j6]at pI;split at pI
   case h_2=>simp at pI
   rename_i s2 mq;simp only[j5]at pI;subst pI;simp only[j5,j9]at w9;obtain⟨rfl,rfl⟩:=w9;obtain⟨S5,γ5,ma,M6⟩:=wQ oQ qK mq;refine⟨_,_,run_endRound (B c) (ma.kept l _ (ir _ _)).1,.inr ⟨rfl,S5,γ5,c,?_,M6,hex⟩⟩;have:=kP (o':= .loop (rec .done (B c))) rfl rfl (mX yV ma);rw[gz]at this ⊢;exact this
  cases ex with
  |normal=>
   dsimp only at yU
   split at yU
   case h_2=>simp at yU
   rename_i s2 mq;simp only[j5]at yU;subst yU;obtain⟨S5,γ5,ma,M6⟩:=wQ oQ qK mq;show∃v w',(ù l Â).run P w3 = .ok v w'/\_;refine⟨_,_,run_endRound Â (ma.kept l _ (ir _ _)).1,.inl ⟨rfl,S5,s2,γ5,fu,?_,M6,?_⟩⟩
   .have:=kP (o':= .loop (rec .ready Â)) rfl rfl (mX Wh ma);rw[gz]at this ⊢;exact this
   .exact w9
  |exit i=>exact r6 _ _ (.inr ⟨i,rfl,rfl⟩) yU
  |ret=>exact r6 _ _ (.inl ⟨rfl,rfl⟩) yU
 .refine⟨S,λg o h=>by rw[<-HP];have:=hR.here g o h;simp;omega,lY.mono λx z hx=>?_⟩;rw[<-HP]
  exact iX.keep (λg o h=>⟨h,by
   have:=hR.here g o h;rw[è _ _ _ az,è _ _ _ this]⟩) hx
 .rintro e2 W2 ⟨⟨v,rfl⟩,fk⟩
  have mX:∀{K:Keep}{s:Snap}{o:Obj}{W:Z}{S:aY}{γ:G->Y},Rel E.N E.np S0 w0 (dh (λ_=>Â) o) (dD E.np K s) aI W S γ->
    ∃refs',wX w0 refs refs'/\Rel E.N E.np S0 w0 refs' (dD E.np K s) { a with defers:=[{ target:= .collected w.heap.size,args:=#[] }]++a.defers } W S γ:=by
   intro K s o W S γ Wn;refine⟨{ blks:=refs.blks,val:=refs.val,ds:={ target:= .collected w.heap.size,args:=#[] }::refs.ds,kw:=λg=>if g=w.heap.size then B (.deferred (B [])) else refs.kw g,fix:=refs.fix,mv:=refs.mv },⟨rfl,rfl,rfl,⟨?_,?_⟩,rfl⟩,?_⟩
   .refine qo.2 ⟨λkO=>?_,hm.1⟩;obtain⟨D,hD,_,Wo⟩:=hm.2 _ kO;simp only[Deferred.mk.injEq,Target.collected.injEq,and_true]at hD;rw[<-hD,hR.kw_new (jq _)]at Wo;simp at Wo
   .intro d hd;rcases je.1 hd with rfl|hd
    .exact⟨w.heap.size,rfl,hR.grow,ae⟩
    .obtain⟨D,rfl,h1,h2⟩:=hm.2 d hd;grind
   .refine Wn.frame rfl rfl hR.size (by rw[hR.defers];rfl) (λi _=>rfl) (λg' u aC=>Wn.kept g' u ?_) (λi v hv=>?_)
    .simp only[dh]at aC ⊢;by_cases h1:g'=l
     .exfalso;subst h1;rw[if_neg aa,hR.kw_new aa]at aC;simp at aC
     .rw[if_neg h1];exact aC
    .have:=(hR.fix i v hv).1;rw[mW]at this;simp at this
  rcases fk with⟨S2,γ2,uR,hce,rfl⟩|⟨S2,γ2,c,uD,He,hex⟩
  .refine⟨Â,_,by have:=run_endLoop (P:=P) (uR.kept l _ (ir _ _)).1 (by rw[gz];simp);rw[gz]at this;exact this,?_⟩;have pJ:=kP (o':= .loop { rec .ready Â with state:= .exhausted }) rfl rfl uR;obtain⟨refs',hle,uR⟩:=mX pJ;rw[gz]at uR;exact⟨refs',.normal,_,S2,γ2,hle,λhf=>by simp[ea]at hf,rfl,uR,hce,hk⟩
  .have pJ:=kP (o':= .loop { rec .done (B c) with state:= .exhausted }) rfl rfl uD;obtain⟨refs',hle,uR⟩:=mX pJ;refine⟨B c,_,by have:=run_endLoop (P:=P) (uD.kept l _ (ir _ _)).1 (by rw[gz];simp);rw[gz]at this;exact this,?_⟩;rw[gz]at uR;rcases hex with⟨rfl,rfl⟩|⟨i,rfl,rfl⟩
   .exact wpIn_ret ⟨refs',.ret,_,S2,γ2,hle,λhf=>by simp[ea]at hf,rfl,uR,He,hk⟩
   .exact wpIn_exit ⟨refs',.exit i,_,S2,γ2,hle,λhf=>by simp[ea]at hf,rfl,uR,He,hk⟩
def MrS(P:Á)(BZ:G->O (G×G)):Prop:=
 ∀{E:Env},E.mr=BZ->cJ P E.T->kD P E.C->CFun E.C->(∀f t,E.bw f=B t->BwK P f t)->(E.N.pin=λ_=>U)->
  ∀(x y:Ó)(b n:G)(pl:Æ){S0:aY}{w0:Z}{refs:Refs}{σ:St}{a:À}{w:Z}{S:aY}{γ:G->Y}{R:Type}{k:Ex->St->O R}{r:R},BW w0 refs->
   (∀z∈fV b y,MrOK E z.1 z.2)->Rel E.N E.np S0 w0 refs σ a w S γ->dq σ->Dd E x y=X->De E x y σ k=B r->(Code.seq x y).wpIn (FR Â) n P (Post E S0 w0 refs pl k r) a w
theorem jsq{E:Env}{x y:Ó}(h:Dd E x y=X):ea (.seq x y)=false:=by
 unfold Dd at h;grind[ea]
theorem juc{P:Á}(gh:P.follows .mixedOrders=X){BZ:G->O (G×G)}(M7:MrS P BZ):∀(c:Ó){E:Env}{ro:O G},cJ P E.T->kD P E.C->CFun E.C->E.mr=BZ->
  (∀f t,E.bw f=B t->BwK P f t)->(ea c=X\/(ro=Â/\E.N.pin=λ_=>U))->HO P E ro c:=by
 intro c;induction c with
 |skip=>intro E ro hT hC hF hE gF hp b n S0 w0 refs σ a w S γ R k r hm hL hR hc h;exact wpIn_skip ⟨refs,.normal,σ,S,γ,⟨rfl,rfl,rfl,hm,rfl⟩,λ_=>rfl,rfl,hR,hc,h⟩
 |label l=>intro E ro hT hC hF hE gF hp b n S0 w0 refs σ a w S γ R k r hm hL hR hc h;exact wpIn_label ⟨refs,.normal,σ,S,γ,⟨rfl,rfl,rfl,hm,rfl⟩,λ_=>rfl,rfl,hR,hc,h⟩
 |region Ev ops draw=>
  intro E ro hT hC hF hE gF hp b n S0 w0 refs σ a w S γ R k r hm hL hR hc h
  have pK:ro=Â\/∀o∈ops.toList,∀c,o.op ≠ .defer c:=hp.elim (λhp=> .inr λo ho c hd=>by
   have:=jv.1 hp o ho;grind[TW]) λh=> .inl h.1
  cases draw with
  |true=>simp only[fL]at h;obtain⟨σ,S,γ,hR,hc,h⟩:=MS hR hc h;exact wpIn_region_any gh (HJ pK MT _ _ _ _ (jx3 hT hC hF hR hc (λσ' a' w' S' γ' cT dz hk=>⟨refs,.normal,σ',S',γ',⟨rfl,rfl,rfl,hm,rfl⟩,λ_=>rfl,rfl,cT,dz,hk⟩) h))
  |false=>
   simp only[fL]at h;obtain⟨σ,S,γ,hR,hc,h⟩:=MS hR hc h;cases hks:E.ks Ev with
   |true=>rw[hks,j6]at h;exact wpIn_region (yQ pK MT _ _ _ (jx8 hT hC gF hR hc (λσ' a' w' S' γ' cT dz hk=>⟨refs,.normal,σ',S',γ',⟨rfl,rfl,rfl,hm,rfl⟩,λ_=>rfl,rfl,cT,dz,hk⟩) h))
   |false=>rw[hks,j7]at h;exact wpIn_region (yQ pK MT _ _ _ (Mu hT hC hR hc (λσ' a' w' S' γ' cT dz hk=>⟨refs,.normal,σ',S',γ',⟨rfl,rfl,rfl,hm,rfl⟩,λ_=>rfl,rfl,cT,dz,hk⟩) h))
 |seq x y rW rX=>
  intro E ro hT hC hF hE gF hp b n S0 w0 refs σ a w S γ R k r hm hL hR hc h;simp only[fL]at h;cases HQ:Dd E x y with
  |true=>rw[HQ,j6]at h;obtain⟨rfl,mW⟩:=hp.resolve_left (by rw[jsq HQ];simp);exact M7 hE hT hC hF gF mW x y b n _ hm (λz hz=>(hL z (by simp[fV,hz])).2) hR hc HQ h
  |false=>
  rw[HQ,j7]at h;have yS:ea x=X\/(ro=Â/\E.N.pin=λ_=>U):=hp.imp (λh=>by grind[ea]) id;have yT:ea y=X\/(ro=Â/\E.N.pin=λ_=>U):=hp.imp (λh=>by grind[ea]) id;refine wpIn_seq (wpIn_mono (rW hT hC hF hE gF yS b n hm (λz hz=>hL z (by simp[fV,hz])) hR hc h) ?_)
  rintro e a' w' ⟨refs',ex,σ',S',γ',hle,fH,rfl,cT,dz,hk⟩
  have hx:ea (.seq x y)=X->refs'=refs:=λh=>by grind[ea]
  cases ex with
  |normal=>
   refine wpIn_mono (rX hT hC hF hE gF yT b n hle.marks (λz hz=>hL z (by simp[fV,hz])) cT dz hk) ?_
   rintro e2 a2 w2 ⟨gx,ex,σ2,S2,γ2,fg,hpl2,rfl,cI,fC,fp⟩
   refine⟨gx,ex,σ2,S2,γ2,hle.trans fg,λh=>?_,rfl,cI,fC,fp⟩;grind[ea]
  |exit i=>exact⟨refs',.exit i,σ',S',γ',hle,hx,rfl,cT,dz,hk⟩
  |ret=>exact⟨refs',.ret,σ',S',γ',hle,hx,rfl,cT,dz,hk⟩
 |cond c x y rW rX=>
  intro E ro hT hC hF hE gF hp b n S0 w0 refs σ a w S γ R k r hm hL hR hc h;simp only[fL]at h;have yS:ea x=X\/(ro=Â/\E.N.pin=λ_=>U):=hp.imp (λh=>by grind[ea]) id;have yT:ea y=X\/(ro=Â/\E.N.pin=λ_=>U):=hp.imp (λh=>by grind[ea]) id;split at h
  .rename_i v hv;have nC:=mI hR c;rw[hv]at nC;have M8:a.eval c = .bool v:=sX nC;refine wpIn_cond M8 ?_;cases v with
   |true=>
    rw[j6,TU hv]at h;refine wpIn_mono (rW hT hC hF hE gF yS b n hm (λz hz=>hL z (by simp[fV,hz])) hR hc h) ?_
    rintro e a' w' ⟨refs',ex,σ',S',γ',hle,fH,he,hr⟩
    exact⟨refs',ex,σ',S',γ',hle,λh=>by grind[ea],he,hr⟩
   |false=>
    rw[j7,TU hv]at h;refine wpIn_mono (rX hT hC hF hE gF yT b n hm (λz hz=>hL z (by simp[fV,hz])) hR hc h) ?_
    rintro e a' w' ⟨refs',ex,σ',S',γ',hle,fH,he,hr⟩
    exact⟨refs',ex,σ',S',γ',hle,λh=>by grind[ea],he,hr⟩
  .simp at h
 |block id c ih=>
  intro E ro hT hC hF hE gF hp b n S0 w0 refs σ a w S γ R k r hm hL hR hc h;simp only[fL]at h;refine wpIn_block (wpIn_mono (ih hT hC hF hE gF hp id n hm (λz hz=>hL z (by simpa[fV]using hz)) hR hc h) ?_)
  rintro e a' w' ⟨refs',ex,σ',S',γ',hle,fH,rfl,cT,dz,hk⟩
  cases ex with
  |normal=>exact⟨refs',.normal,σ',S',γ',hle,fH,rfl,cT,dz,hk⟩
  |exit i=>
   simp only[exOf,Exit.inBlock];simp only at hk;split
   .rename_i hi;rw[if_pos hi]at hk;exact⟨refs',.normal,σ',S',γ',hle,fH,rfl,cT,dz,hk⟩
   .rename_i hi;rw[if_neg hi]at hk;exact⟨refs',.exit i,σ',S',γ',hle,fH,rfl,cT,dz,hk⟩
  |ret=>exact⟨refs',.ret,σ',S',γ',hle,fH,rfl,cT,dz,hk⟩
 |scope c ih=>intro E ro hT hC hF hE gF hp b n S0 w0 refs σ a w S γ R k r hm hL hR hc h;simp only[fL]at h;refine jx4 (λl a w hq=>?_) (ih hT hC hF hE gF hp b n hm (λz hz=>hL z (by simpa[fV]using hz)) hR hc h);obtain⟨_,ex,_,_,_,_,_,he,_⟩:=hq;cases ex<;>simp[exOf]at he
 |loop c ih=>
  intro E ro hT hC hF hE gF hp b n S0 w0 refs σ a w S γ R k r hm hL hR hc h;have Wp:=hp.resolve_left (by simp[ea]);simp only[fL]at h;cases Wq:isRf c with
  |true=>simp_all
  |false=>
  rw[Wq,j7]at h;cases jC:Nat.blt 0 (E.un b) with
  |true=>
   rw[jC,j6]at h;refine V1 (λn a w=>∃refs' σ' S γ,wX w0 refs refs'/\Rel E.N E.np S0 w0 refs' σ' a w S γ/\dq σ'/\∃i,vY (λi σ k=>fL (E.offR i) b c σ k) n i σ' k=B r) ⟨refs,σ,S,γ,⟨rfl,rfl,rfl,hm,rfl⟩,hR,hc,0,h⟩ ?_
   rintro m a1 w1 ⟨Ew,σ1,S2,γ2,gV,cI,fC,i,kO⟩
   cases m with
   |zero=>simp[vY]at kO
   |succ m=>
    simp only[vY]at kO;have hL':∀z∈fV b c,BU (E.offR i) z.1 z.2/\MrOK (E.offR i) z.1 z.2:=λz hz=>hL z (by simp[fV,hz]);refine wpIn_mono (ih (E:=E.offR i) hT hC hF hE gF (.inr Wp) b n gV.marks hL' cI fC kO) ?_
    rintro e2 a2 w2 ⟨gx,ex,σ2,S3,γ3,fg,_,rfl,dU,tw,kR⟩
    cases ex with
    |normal=>exact⟨m,ô m,gx,σ2,S3,γ3,gV.trans fg,dU,tw,i+1,kR⟩
    |exit i=>exact⟨gx,.exit i,σ2,S3,γ3,gV.trans fg,λhf=>by simp[ea]at hf,rfl,dU,tw,kR⟩
    |ret=>exact⟨gx,.ret,σ2,S3,γ3,gV.trans fg,λhf=>by simp[ea]at hf,rfl,dU,tw,kR⟩
  |false=>
  rw[jC,j7]at h;split at h
  .rename_i s hs;obtain⟨n1,e,s',hn,hk⟩:=(hL (b,c) (by simp[fV])).1 s R _ r h
   have gg:Dg E b c=xL E.off0 b c:=by
    funext s
    cases c<;>first|rfl|simp[isRf]at Wq
   rw[gg]at hn;obtain⟨S1,γ1,bu,eU⟩:=wQ hR hc hs;refine V1 (λn a w=>∃refs' s S γ,wX w0 refs refs'/\Rel E.N E.np S0 w0 refs' (dD E.np (E.keep b) s) a w S γ/\dq (dD E.np (E.keep b) s)/\loopN (xL E.off0 b c) n s=B (e,s')) ⟨refs,s,S1,γ1,⟨rfl,rfl,rfl,hm,rfl⟩,bu,eU,hn⟩ ?_
   rintro m a1 w1 ⟨Ew,s1,S2,γ2,gV,cI,fC,kO⟩
   cases m with
   |zero=>simp[loopN]at kO
   |succ m=>
    simp only[loopN]at kO;cases aV:xL E.off0 b c s1 with
    |none=>simp[aV]at kO
    |some out=>
     rw[aV]at kO;unfold xL at aV;refine wpIn_mono (ih (E:=E.off0) hT hC hF hE gF (.inr Wp) b n gV.marks (λz hz=>hL z (by simp[fV,hz])) cI fC aV) ?_
     rintro e2 a2 w2 ⟨gx,ex,σ2,S3,γ3,fg,_,rfl,dU,tw,kR⟩
     cases ex with
     |normal=>
      simp only at kR;split at kR
      .rename_i s2 mq;simp only[j5]at kR;subst kR;obtain⟨S4,γ4,oQ,qK⟩:=wQ dU tw mq;exact⟨m,ô m,gx,s2,S4,γ4,gV.trans fg,oQ,qK,kO⟩
      .simp at kR
     |exit i=>
      simp only at kR;split at kR
      .rename_i s2 mq;simp only[j5]at kR;subst kR;obtain⟨S4,γ4,oQ,qK⟩:=wQ dU tw mq;simp only[j5,j9]at kO;obtain⟨rfl,rfl⟩:=kO;exact⟨gx,.exit i,_,S4,γ4,gV.trans fg,λhf=>by simp[ea]at hf,rfl,oQ,qK,hk⟩
      .simp at kR
     |ret=>
      simp only at kR;split at kR
      .rename_i s2 mq;simp only[j5]at kR;subst kR;obtain⟨S4,γ4,oQ,qK⟩:=wQ dU tw mq;simp only[j5,j9]at kO;obtain⟨rfl,rfl⟩:=kO;exact⟨gx,.ret,_,S4,γ4,gV.trans fg,λhf=>by simp[ea]at hf,rfl,oQ,qK,hk⟩
      .simp at kR
  .simp at h
 |rangeFunc g ps x y rW rX=>
  intro E ro hT hC hF hE gF hp b n S0 w0 refs σ a w S γ R k r hm hL hR hc h;obtain⟨rfl,mW⟩:=hp.resolve_left (by simp[ea])
  exact jBq (E:=E.off0) gF mW (λl hx=>rW (E:=E.off0.rnd ps x y) hT hC hF hE gF (.inl hx)) (λl hy=>rX (E:=E.off0.rnd ps x y) hT hC hF hE gF (.inl hy))
   rfl (hL (b,.rangeFunc g ps x y) (by simp[fV])).1 hm hR hc h
 |exit i=>intro E ro hT hC hF hE gF hp b n S0 w0 refs σ a w S γ R k r hm hL hR hc h;exact wpIn_exit ⟨refs,.exit i,σ,S,γ,⟨rfl,rfl,rfl,hm,rfl⟩,λ_=>rfl,rfl,hR,hc,h⟩
 |ret=>intro E ro hT hC hF hE gF hp b n S0 w0 refs σ a w S γ R k r hm hL hR hc h;exact wpIn_ret ⟨refs,.ret,σ,S,γ,⟨rfl,rfl,rfl,hm,rfl⟩,λ_=>rfl,rfl,hR,hc,h⟩
 |goto l=>intro E ro hT hC hF hE gF hp b n S0 w0 refs σ a w S γ R k r hm hL hR hc h;simp[fL]at h
 |refuse y=>intro E ro hT hC hF hE gF hp b n S0 w0 refs σ a w S γ R k r hm hL hR hc h;simp[fL]at h
end
def keyB(es:Ã ì):H (Y×G):=es.toList.map λe=>(e.key,e.born)
structure AtR(g r it since clock:G)(ks:H (Y×G))(es:Ã ì)(seen:Ã G)(a:À)(w:Z):Prop where
 map:w.heap[g]? = B (.map es clock)
 ks:keyB es=ks
 iter:w.heap[r]? = B (.mapIter (B g) since seen clock)
 ptr:tm a it = .pointer (B ⟨r,0,Â⟩)
section
variable{N:NT}{np:G}{S0:aY}{w0:Z}{refs:Refs}{σ:St}{a:À}{w:Z}{S:aY}{γ:G->Y}
structure Mix{β:Type}(xs ys:H (Ù×β))(seen:Ã G)(zs:H (Ù×β)):Prop where
 len:zs.length=xs.length
 get:∀i,zs[i]? = if seen.contains i=X then ys[i]? else xs[i]?
theorem beqF{i j:G}(h:i≠j):Nat.beq i j=false:=by
 cases hq:Nat.beq i j with
 |false=>rfl
 |true=>exact absurd (â hq) h
theorem jBr{P:Á}(gh:P.follows .mixedOrders=X)(BZ:G->O (G×G)):MrS P BZ:=by
 intro E hE hT hC hF jS mW x y b n pl S0 w0 refs σ a w S γ R k r hm hMO hR hc HR h;unfold De at h;cases hz:E.nz<;>simp[hz]at h
theorem jx9{P:Á}(gh:P.follows .mixedOrders=X)(c:Ó){E:Env}{ro:O G}(hT:cJ P E.T)(hC:kD P E.C)(hF:CFun E.C)(jS:∀f t,E.bw f=B t->BwK P f t)
 (hq:ea c=X\/(ro=Â/\E.N.pin=λ_=>U)):HO P E ro c:=juc gh (jBr gh E.mr) c hT hC hF rfl jS hq
end
section
variable{N:NT}{np:G}{S0:aY}{w0:Z}{refs:Refs}{σ:St}{a:À}{w:Z}{S:aY}{γ:G->Y}
def yW:Arg->Æ
 |.ref _=>X
 |.rl _ _=>X
 |_=>U
def Ey(args:H Arg)(vals:H Y)(k:G):O Value:=
 if k%64=0 then match args[k/64]? with
  |some x=>if yW x then vals[k/64]? else Â
  |none=>Â
 else Â
def pL(args:H Arg)(vals:H Y):Refs:={ blks:=eF args vals,val:=Ey args vals,mv:=mvOf args vals }
def γ0(vals:H Y)(k:G):Value:=vals.getD (k/64) undef
theorem Ez:∀{as:H Arg}{us:H Y}{i:G}{x:Arg}{u:Y}{g:G},as[i]? = B x->us[i]? = B u->lh x u=B g->g∈eF as us
 |y::as,v::us,0,x,u,g,h,h',hg=>by
  simp at h h';subst h;subst h';simp[eF,hg]
 |y::as,v::us,i+1,x,u,g,h,h',hg=>by
  have:=Ez (as:=as) (us:=us) (i:=i) (by simpa using h) (by simpa using h') hg;simp[eF,this]
 |[],_,_,_,_,_,h,_,_=>by simp at h
 |_::_,[],_,_,_,_,_,h',_=>by simp at h'
theorem Wr:∀{as:H Arg}{us:H Y}{i j:G}{x y:Arg}{u v:Y}{g:G},(eF as us).Nodup->as[i]? = B x->us[i]? = B u->as[j]? = B y->us[j]? = B v->
  lh x u=B g->lh y v=B g->i=j
 |z::as,t::us,0,0,_,_,_,_,_,_,_,_,_,_,_,_=>rfl
 |z::as,t::us,0,j+1,x,y,u,v,g,hn,hx,hu,hy,hv,h1,h2=>by
  simp at hx hu;subst hx;subst hu;have:=Ez (as:=as) (us:=us) (i:=j) (by simpa using hy) (by simpa using hv) h2;simp[eF,h1]at hn;exact absurd this hn.1
 |z::as,t::us,i+1,0,x,y,u,v,g,hn,hx,hu,hy,hv,h1,h2=>by
  simp at hy hv;subst hy;subst hv;have:=Ez (as:=as) (us:=us) (i:=i) (by simpa using hx) (by simpa using hu) h1;simp[eF,h2]at hn;exact absurd this hn.1
 |z::as,t::us,i+1,j+1,x,y,u,v,g,hn,hx,hu,hy,hv,h1,h2=>by
  have Mz:(eF as us).Nodup:=by simp only[eF]at hn;exact(zd.1 hn).2.1
  rw[Wr Mz (i:=i) (j:=j) (by simpa using hx) (by simpa using hu) (by simpa using hy) (by simpa using hv) h1 h2]
 |[],_,_,_,_,_,_,_,_,_,h,_,_,_,_,_=>by simp at h
 |_::_,[],_,_,_,_,_,_,_,_,_,h,_,_,_,_=>by simp at h
theorem Ws:∀{as:H Arg}{us:H Y}{i e:G}{x:TV}{u:Y}{g:G},as[i]? = B (.mv e x)->us[i]? = B u->blk u=B g->g∈mvOf as us
 |y::as,v::us,0,e,x,u,g,h,h',hg=>by
  simp at h h';subst h;subst h';simp[mvOf,hg]
 |y::as,v::us,i+1,e,x,u,g,h,h',hg=>by
  have:=Ws (as:=as) (us:=us) (i:=i) (by simpa using h) (by simpa using h') hg;cases y<;>simp[mvOf,this]
 |[],_,_,_,_,_,_,h,_,_=>by simp at h
 |_::_,[],_,_,_,_,_,_,h',_=>by simp at h'
theorem jBs{args:H Arg}{vals:H Y}(ha:All2 (oa S w) args vals)(dZ:(eF args vals).Nodup)(hS:∀g o,S g o->g<w.heap.size)(hlen:args.length=np)(hN:np<=N.n) :
  Rel N np S w (pL args vals) (St.init args) ⟨vals.toArray++Ø (N.n-vals.toArray.size) undef,[]⟩ w S (γ0 vals)/\dq (St.init args):=by
 have wx:vals.length=np:=by rw[<-ha.length,hlen]
 have BP:∀i u,vals[i]? = B u->(vals.toArray++Ø (N.n-vals.toArray.size) undef).getD i undef=u:=by
  simp_all[List.getElem?_eq_some_iff,Array.getElem?_append_left]
 have kM:∀i u,vals[i]? = B u->γ0 vals (i*64)=u:=by grind[γ0]
 have uS:∀i u,vals[i]? = B u->γ0 vals (i*64+63)=u:=by grind[γ0]
 have fq:∀k b,(St.init args).bx k = .live b->∃i x u,args[i]? = B x/\vals[i]? = B u/\oa S w x u/\((k=i*64/\nt (B x) = .live b)\/(k=i*64+63/\tY (B x) = .live b)):=by
  intro k b hb;simp only[St.init]at hb;split at hb
  .rename_i hk;cases hx:args[k/64]? with
   |none=>grind[nt]
   |some x=>obtain⟨u,hu,kF⟩:=ha.get _ x hx;grind
  .split at hb
   .rename_i hk;cases hx:args[k/64]? with
    |none=>grind[tY]
    |some x=>obtain⟨u,hu,kF⟩:=ha.get _ x hx;grind
   .simp at hb
 have r7:∀{x:Arg}{b:Bx},tY (B x) = .live b->∃e t xs,x = .mv e ⟨.list t,xs⟩/\b = .lst e t xs false:=by
  intro x b hb;cases x with
  |mv e y=>obtain⟨t,v⟩:=y;cases t<;>simp[tY]at hb;grind
  |_=>simp[tY]at hb
 have EA:∀i x,args[i]? = B x->(St.init args).bx (i*64+63)=tY (B x):=by grind[St.init]
 have pM:∀i x,args[i]? = B x->(St.init args).bx (i*64)=nt (B x):=by grind[St.init]
 have hblk:∀x u b,nt (B x) = .live b->lh x u=blk u:=by intro x u b hb;cases x<;>first|rfl|simp[nt]at hb
 refine⟨⟨?_,rfl,?_,?_,?_,?_,λ_ _ h=>h,λ_ _ h=> .inl h,hS,λ_ _ _=>rfl,jq _,rfl,rfl,rfl,?_,λg o h=>by simp[pL]at h,λi v h=>by simp[pL]at h⟩,?_⟩
 .simp;omega
 .intro i
  have eL:(St.init args).sl i=match args[i]? with
   |some a=> .one (G1 i a)
   |none=> .one (.one .dead):=rfl
  rw[eL];cases hx:args[i]? with
  |none=>exact⟨trivial,λh=>absurd rfl h⟩
  |some x=>
   obtain⟨u,hu,kF⟩:=ha.get i x hx;show bQ S w (γ0 vals) (St.init args).bx (G1 i x) _;rw[BP i u hu];have hb:=pM i x hx;cases x with
   |v x=>exact BC kF
   |ref ls=>obtain⟨g,cur,e,h1,_⟩:=id kF;exact⟨⟨by rw[hb];simp[nt],by rw[h1];rfl,λb _=>⟨g,(kM i u hu).trans h1,h1⟩⟩,λ_=>by rw[h1];rfl⟩
   |rl e x=>obtain⟨t,xs,rfl,bZ,_⟩:=id kF;have cZ:One u:=bZ.one;exact⟨⟨by rw[hb];simp[nt],cZ,λb _=>(kM i u hu).symm⟩,λ_=>cZ⟩
   |ip ls=>obtain⟨g,o,cs,h1,_⟩:=id kF;exact⟨kF,λ_=>by rw[h1];rfl⟩
   |clo f caps=>obtain⟨cv,h1,_⟩:=id kF;exact⟨kF,λ_=>by rw[h1];rfl⟩
   |mv e x=>obtain⟨t,xs,rfl,bZ,_⟩:=id kF.1;have cZ:One u:=bZ.one;have aU:=EA i _ hx;exact⟨⟨by rw[aU];simp[tY],cZ,λb _=>(uS i u hu).symm⟩,λ_=>cZ⟩
 .intro k b hb;obtain⟨i,x,u,hx,hu,kF,⟨rfl,dn⟩|⟨rfl,dn⟩⟩:=fq k b hb
  .cases x with
   |ref ls=>simp only[nt,BS.live.injEq]at dn;subst dn;exact L5 (kM i u hu) kF
   |rl e x=>obtain⟨t,xs,rfl,_⟩:=id kF;simp only[nt,BS.live.injEq]at dn;subst dn;exact BB (kM i u hu) kF
   |_=>simp[nt]at dn
  .obtain⟨e,t,xs,rfl,rfl⟩:=r7 dn;exact BB (uS i u hu) kF.1
 .intro k b g hb hg;obtain⟨i,x,u,hx,hu,kF,⟨rfl,dn⟩|⟨rfl,dn⟩⟩:=fq k b hb
  .rw[kM i u hu,<-hblk x u b dn]at hg;refine .inr ⟨Ez hx hu hg,?_⟩;grind[parK]
  .obtain⟨e,t,xs,rfl,rfl⟩:=r7 dn;rw[uS i u hu]at hg;exact .inl (.inr ⟨Ws hx hu hg,Ez (x:= .mv e ⟨.list t,xs⟩) hx hu hg⟩)
 .intro k k' b b' g br hb aU hg aC
  have oT:∀k b g,(St.init args).bx k = .live b->blk (γ0 vals k)=B g->∃i x u,args[i]? = B x/\vals[i]? = B u/\lh x u=B g/\((k=i*64/\nt (B x) = .live b)\/(k=i*64+63/\tY (B x) = .live b)):=by
   intro k b g hb hg;obtain⟨i,x,u,hx,hu,kF,⟨rfl,dn⟩|⟨rfl,dn⟩⟩:=fq k b hb
   .grind
   .obtain⟨e,t,xs,rfl,rfl⟩:=r7 dn;rw[uS i u hu]at hg;exact⟨i,_,u,hx,hu,hg,.inr ⟨rfl,dn⟩⟩
  obtain⟨i,x,u,hx,hu,h1,h2⟩:=oT k b g hb hg;obtain⟨j,y,v,hy,hv,h3,h4⟩:=oT k' b' g aU aC;have eh:=Wr dZ hx hu hy hv h1 h3;subst eh;rw[hx]at hy;cases hy;rcases h2 with⟨rfl,h2⟩|⟨rfl,h2⟩<;>rcases h4 with⟨rfl,h4⟩|⟨rfl,h4⟩
  .exact br rfl
  .obtain⟨e,t,xs,rfl,rfl⟩:=r7 h4;simp[nt]at h2
  .obtain⟨e,t,xs,rfl,rfl⟩:=r7 h2;simp[nt]at h4
  .exact br rfl
 .intro k v hv;simp only[pL,Ey]at hv;split at hv
  .rename_i hk;split at hv
   .rename_i x hx;split at hv
    .rename_i hr;have hi:k/64<args.length:=(List.getElem?_eq_some_iff.1 hx).1;have bn:k=(k/64)*64:=aa;refine⟨by simp[parK,hk];omega,?_,?_⟩
     .rw[bn,pM _ x hx];cases x with
      |rl e y=>obtain⟨u,hu,kF⟩:=ha.get _ _ hx;obtain⟨t,xs,rfl,_⟩:=kF;simp[nt]
      |ref ls=>simp[nt]
      |_=>simp[yW]at hr
     grind
    .simp at hv
   .simp at hv
  .simp at hv
 .intro i;show ((match args[i]? with|some a=>Slot.one (G1 i a)|none=> .one (.one .dead)):Slot).bare=X;split<;>rfl
theorem HS{α β:Type}{P:Á}(f:α->Sem β):∀{rs:H α}{zs:H β},All2 (λr z=>(f r).run P w = .ok z w) rs zs->(rs.mapM f).run P w = .ok zs w
 |[],[],_=>ae
 |r::rs,z::zs,h=>by
  simp only[List.mapM_cons,Ü,h.1,Ñ,HS f h.2,Ý]
 |[],_::_,h=>h.elim
 |_::_,[],h=>h.elim
def Uns(b:Bx):Prop:=(∃ls,b = .cell ls U)\/∃e t xs,b = .lst e t xs U
theorem HT{P:Á}{E:Env}(hT:cJ P E.T)(hR:Rel N np S0 w0 refs σ a w S γ){r:Í}{c:Cel}(h:xM E σ r=B c) :
  ∃z,((match r with
   |.tmp t=>pure (a.tmps.getD t undef)
   |.cell x t=>do loadVar t (<-asAddr (a.tmps.getD x undef)):Sem Y)).run P w = .ok z w/\bQ S w γ σ.bx c z:=by
 cases r with
 |tmp t=>
  simp only[xM]at h;split at h
  .rename_i c' hc;simp only[j5]at h;subst h;have:=hR.slot t;rw[hc]at this;exact⟨_,ae,this⟩
  .simp at h
 |cell x t=>
  simp only[xM]at h;split at h
  .rename_i ti y ht hy;have:=hR.slot x;rw[hy]at this;obtain⟨z,hz,iL⟩:=Uf hT hR (RdR.msk λ_=> .inl rfl) ht h this.1;refine⟨z,?_,iL⟩;show (do loadVar t (<-asAddr (a.tmps.getD x undef)):Sem Y).run P w=_
   have hu:∃ad,a.tmps.getD x undef = .pointer (B ad):=by
    generalize a.tmps.getD x undef=u at hz
    cases u with
    |pointer o=>
     cases o with
     |some ad=>exact⟨ad,rfl⟩
     |none=>simp_all[î,ä]
    |_=>simp[î,ä]at hz
   grind[î,ä,asAddr]
  .simp at h
theorem HU{rd:G->BS}(hR:Rel N np S0 w0 refs σ a w S γ)(aZ:RdF np σ rd):∀{ks:H SoK}{ls:H Leaf}{r:H RL}{n:H G}{v:Ups}{zs:H Y},soOf rd ks ls=B (r,n,v)->
  All2 (bF S w γ σ.bx) ls zs->(∀z∈zs,One z)->FrzL np σ.bx v/\(∀k∈n,(∃b,σ.bx k = .live b/\Uns b)/\parK np k=U)/\oL r zs=(n.filterMap λk=>blk (γ k))/\
   ∀S',dH S w S' w->Froz σ.bx γ S' w v->(∀k∈n,∀g,blk (γ k)=B g->∀o,¬S' g o)->All2 (Hk S' w) r zs
 |[],[],r,n,v,zs,h,ha,h1=>by
  simp[soOf]at h;obtain⟨rfl,rfl,rfl⟩:=h;cases zs with
  |nil=>exact⟨.nil,ae,rfl,λ_ _ _ _=>trivial⟩
  |cons _ _=>exact ha.elim
 |.d t::ks,l::ls,r,n,v,zs,h,ha,h1=>by
  cases zs with
  |nil=>exact ha.elim
  |cons z zs=>
  simp only[soOf]at h;split at h
  .rename_i x u r' n' v' hx hr;cases fi:t.leafy with
   |false=>rw[fi]at h;simp at h
   |true=>
   rw[fi,j6]at h;simp only[j5,j9]at h;obtain⟨rfl,rfl,rfl⟩:=h;obtain⟨f1,p1⟩:=wk aZ hR.box hx ha.1;obtain⟨f2,k2,b2,p2⟩:=HU hR aZ hr ha.2 (λy hy=>h1 y (by simp[hy]));refine⟨FrzL.app.2 ⟨f1,f2⟩,k2,by simp[oL,b2],λS' aV ff hn=>?_⟩;obtain⟨g1,g2⟩:=Froz.app.1 ff;exact⟨⟨h1 z ae,p1 S' w aV g1⟩,p2 S' aV g2 hn⟩
  .simp at h
 |.own e t::ks,l::ls,r,n,v,zs,h,ha,h1=>by
  cases zs with
  |nil=>exact ha.elim
  |cons z zs=>
  cases l with
  |nil=>
   simp only[soOf]at h;split at h
   .rename_i r' n' v' hr;cases hm:isM e with
    |true=>rw[hm]at h;simp at h
    |false=>
    rw[hm,j7]at h;simp only[j5,j9]at h;obtain⟨rfl,rfl,rfl⟩:=h;have hz:z = .slice Â 0 0:=ha.1;subst hz;obtain⟨f2,k2,b2,p2⟩:=HU hR aZ hr ha.2 (λy hy=>h1 y (by simp[hy]));refine⟨f2,k2,by simp[oL,blk,b2],λS' aV ff hn=>⟨⟨t,[],rfl,.inl ⟨hm,[],⟨ae,.inl ⟨rfl,rfl⟩⟩,trivial⟩,λg hg=>by simp[blk]at hg⟩,p2 S' aV ff hn⟩⟩
   .simp at h
  |ol k=>
   simp only[soOf]at h;split at h
   .rename_i e' b xs hk;cases he:Nat.beq e' e with
    |false=>rw[he]at h;simp at h
    |true=>
    rw[he,j6]at h;split at h
    .rename_i r' n' v' hr;simp only[j5,j9]at h;obtain⟨rfl,rfl,rfl⟩:=h;have hp:=aZ.par hk;have hk:=aZ.ok.live hk;have hz:=ha.1.2.2 _ hk;obtain⟨f2,k2,b2,p2⟩:=HU hR aZ hr ha.2 (λy hy=>h1 y (by simp[hy]));refine⟨f2,λk' bn=>?_,?_,λS' aV ff hn=>⟨⟨b,xs,rfl,by rw[hz];exact(hR.box k _ hk).1.keep aV (λ_ _=>rfl),λg hg=>hn k ae g (by rw[<-hz];exact hg)⟩,p2 S' aV ff (λk' bn=>hn k' (by simp[bn]))⟩⟩
     .rcases je.1 bn with rfl|bn
      .exact⟨⟨_,hk,.inr ⟨_,_,_,rfl⟩⟩,hp⟩
      .exact k2 k' bn
     .simp only[oL,hz,yd];rw[b2];cases blk (γ k)<;>rfl
    .simp at h
   .simp at h
  |_=>simp[soOf]at h
 |[],_::_,r,n,v,zs,h,_,_=>by simp[soOf]at h
 |.d _::_,[],r,n,v,zs,h,_,_=>by simp[soOf]at h
 |.own _ _::_,[],r,n,v,zs,h,_,_=>by simp[soOf]at h
theorem jF6{P:Á}{E:Env}(hT:cJ P E.T)(hR:Rel N E.np S0 w0 refs σ a w S γ){rd:G->BS}(aZ:RdF E.np σ rd){own:Æ}{t:G}{c:Cel}{v:RV}{ks:H G}{u:Ups}{z:Y}(h:rvOf E rd own t c=B (v,ks,u))(hc:bQ S w γ σ.bx c z) :
  FrzL E.np σ.bx u/\(∀k∈ks,(∃b,σ.bx k = .live b/\Uns b)/\parK E.np k=U)/\lU v z=(ks.filterMap λk=>blk (γ k))/\
   ∀S',dH S w S' w->Froz σ.bx γ S' w u->(∀k∈ks,∀g,blk (γ k)=B g->∀o,¬S' g o)->qG S' w v z:=by
 unfold rvOf at h;split at h
 .rename_i k;split at h
  .rename_i ls hk;split at h
   .rename_i xs u1 h1;simp only[j5,j9]at h;obtain⟨rfl,rfl,rfl⟩:=h;have hp:=aZ.par hk;have hk:=aZ.ok.live hk;obtain⟨g,hg,hz⟩:=hc.1.2.2 _ hk;obtain⟨g',cur,e,aC,hh,eV,_⟩:=hR.box k _ hk;rw[hg]at aC;simp at aC;subst aC;obtain⟨hf,wB⟩:=yt aZ h1 eV;refine⟨hf,λk' bn=>by simp at bn;subst bn;exact⟨⟨_,hk,.inl ⟨_,rfl⟩⟩,hp⟩,?_,λS' aV ff hn=>⟨g,cur,e,hz,hh,by grind[G3],?_⟩⟩;all_goals grind[lU,nB,blk]
   .simp at h
  .simp at h
 .rename_i f caps;simp only[j5,j9]at h;obtain⟨rfl,rfl,rfl⟩:=h;obtain⟨⟨cv,hz,ay⟩,_⟩:=hc;exact⟨.nil,ae,by simp[lU,nB],λS' aV _ _=>⟨cv,hz,ay.mono λ_ _ h=>iX.keep aV h⟩⟩
 .split at h
  .rename_i ti ht;split at h
   .rename_i ty bG;split at h
    .split at h
     .rename_i ls;split at h
      .rename_i r n u1 M9;simp only[j5,j9]at h;obtain⟨rfl,rfl,rfl⟩:=h;obtain⟨cs,hz,ay,cZ⟩:=hc;subst hz;obtain⟨f1,k1,b1,p1⟩:=HU hR aZ M9 ay cZ;exact⟨f1,k1,b1,λS' aV ff hn=>⟨cs,rfl,p1 S' aV ff hn⟩⟩
      .simp at h
     .rename_i el cY _;simp only[j5,j9]at h;obtain⟨rfl,rfl,rfl⟩:=h;have hz:z = .slice Â 0 0:=hc.1;subst hz;exact⟨.nil,ae,by simp[lU,nB,blk],λS' _ _ _=>⟨el,[],rfl,.inl ⟨Lv hT ht,[],⟨ae,.inl ⟨rfl,rfl⟩⟩,trivial⟩,λg hg=>by simp[blk]at hg⟩⟩
     .rename_i k cY _;split at h
      .rename_i e el xs hk;simp only[j5,j9]at h;obtain⟨rfl,rfl,rfl⟩:=h;have hp:=aZ.par hk;have ca:=aZ.ok.nm hk;have hk:=aZ.ok.live hk;have hz:=hc.1.2.2 _ hk;obtain⟨css,aQ,ay,_⟩:=iY ca (hR.box k _ hk);refine⟨.nil,λk' bn=>by simp at bn;subst bn;exact⟨⟨_,hk,.inr ⟨_,_,_,rfl⟩⟩,hp⟩,?_,λS' aV _ hn=>⟨el,xs,rfl,by rw[hz];exact(hR.box k _ hk).1.keep aV (λ_ _=>rfl),λg hg=>hn k ae g (by rw[<-hz];exact hg)⟩⟩;grind[lU,nB]
      .simp at h
     .simp at h
    .split at h
     .rename_i x u1 hx;simp only[j5,j9]at h;obtain⟨rfl,rfl,rfl⟩:=h;obtain⟨hf,hp,_⟩:=Bn aZ hR.box hx hc;exact⟨hf,ae,by simp[lU,nB],λS' aV ff _=>hp S' w aV ff⟩
     .simp at h
   .simp at h
  .simp at h
theorem Wt{P:Á}{E:Env}(hT:cJ P E.T)(hR:Rel N E.np S0 w0 refs σ a w S γ):∀{os:H Æ}{rs:H Í}{ts:H G}{vs:H RV}{ks:H G}{u:Ups},qA E σ os rs ts=B (vs,ks,u)->
  ∃zs,All2 (λ(r:Í) z=>((match r with
   |.tmp t=>pure (a.tmps.getD t undef)
   |.cell x t=>do loadVar t (<-asAddr (a.tmps.getD x undef)):Sem Y)).run P w = .ok z w) rs zs/\
  FrzL E.np σ.bx u/\(∀k∈ks,(∃b,σ.bx k = .live b/\Uns b)/\parK E.np k=U)/\gq vs zs=(ks.filterMap λk=>blk (γ k))/\
   ∀S',dH S w S' w->Froz σ.bx γ S' w u->(∀k∈ks,∀g,blk (γ k)=B g->∀o,¬S' g o)->All2 (qG S' w) vs zs
 |os,[],ts,vs,ks,u,h=>by
  simp[qA]at h;obtain⟨rfl,rfl,rfl⟩:=h;exact⟨[],trivial,.nil,ae,rfl,λ_ _ _ _=>trivial⟩
 |os,r::rs,ts,vs,ks,u,h=>by
  simp only[qA]at h;split at h
  .rename_i c hc;split at h
   .rename_i v k1 u1 hv;split at h
    .rename_i lL k2 u2 mK;simp only[j5,j9]at h;obtain⟨rfl,rfl,rfl⟩:=h;obtain⟨z,hz,iL⟩:=HT hT hR hc;obtain⟨f1,p1,n1,r1⟩:=jF6 hT hR (yE (RdR.msk λ_=> .inl rfl)) hv iL;obtain⟨zs,iZ,f2,p2,n2,r2⟩:=Wt hT hR mK;refine⟨z::zs,⟨hz,iZ⟩,FrzL.app.2 ⟨f1,f2⟩,λk hk=>?_,?_,λS' aV ff hn=>?_⟩
     .rcases jm.1 hk with hk|hk
      .exact p1 k hk
      .exact p2 k hk
     .simp[gq,n1,n2]
     .obtain⟨g1,g2⟩:=Froz.app.1 ff;exact⟨r1 S' aV g1 (λk hk=>hn k (by simp[hk])),r2 S' aV g2 (λk hk=>hn k (by simp[hk]))⟩
    .simp at h
   .simp at h
  .simp at h
theorem Na(hR:Rel N np S0 w0 refs σ a w S γ):∀{as:H Arg}{us:H Y}{i:G}{os:H Out}{u:Ups},outs np σ i as=B (os,u)->as.length=us.length->
  (∀(j:G)(x:Arg)(v:Y),as[j]? = B x->us[j]? = B v->yW x=X->γ ((i+j)*64)=v)->
  FrzL np σ.bx u/\∀S',dH S w S' w->Froz σ.bx γ S' w u->(∀(j:G)(x:Arg)(v:Y)(g:G),as[j]? = B x->us[j]? = B v->yW x=X->(∃b,σ.bx ((i+j)*64) = .live b/\Uns b)->blk v=B g->∀o,¬S' g o)->lV S' w as us os
 |[],us,i,os,u,h,hl,_=>by
  simp[outs]at h;obtain⟨rfl,rfl⟩:=h;cases us with
  |nil=>exact⟨.nil,λ_ _ _ _=>trivial⟩
  |cons _ _=>simp at hl
 |x::as,[],i,os,u,h,hl,_=>by simp at hl
 |x::as,v::us,i,os,u,h,hl,hg=>by
  simp only[outs]at h;split at h
  .rename_i qH u' h'
   obtain⟨f1,r1⟩:=Na hR (i:=i+1) h' (by simpa using hl) (λj y z hy hz hr=>by
    have:=hg (j+1) y z (by simpa using hy) (by simpa using hz) hr;rwa[show i+1+j=i+(j+1) by omega])
   have fh:∀S',dH S w S' w->Froz σ.bx γ S' w u'->(∀(j:G)(x':Arg)(v':Y)(g:G),(x::as)[j]? = B x'->(v::us)[j]? = B v'->yW x'=X->(∃b,σ.bx ((i+j)*64) = .live b/\Uns b)->blk v'=B g->∀o,¬S' g o)->lV S' w as us qH:=by intro S' aV ff hn;refine r1 S' aV ff (λj y z g hy hz hr hb hgz=>?_);exact hn (j+1) y z g (by simpa using hy) (by simpa using hz) hr (by rwa[show i+(j+1)=i+1+j by omega]) hgz
   split at h
   .rename_i ls;have Nb:γ (i*64)=v:=hg 0 _ v rfl rfl rfl;split at h
    .rename_i ls' hb;split at h
     .rename_i xs u2 hx;simp only[j5,j9]at h;obtain⟨rfl,rfl⟩:=h;obtain⟨g,cur,e,h1,h2,h3,_⟩:=hR.box _ _ hb;obtain⟨f2,r2⟩:=yt (yE (RdR.msk λ_=> .inl rfl)) hx h3;refine⟨FrzL.app.2 ⟨f2,f1⟩,λS' aV ff hn=>?_⟩;obtain⟨g1,g2⟩:=Froz.app.1 ff;have Wu:v = .pointer (B ⟨g,0,Â⟩):=by rw[<-Nb];exact h1
      exact⟨⟨g,cur,e,Wu,h2,by rw[G3 h3 (r2 S' w aV g1)];exact r2 S' w aV g1,hn 0 _ v g rfl rfl rfl ⟨_,hb,.inl ⟨ls',rfl⟩⟩ (by rw[Wu];rfl)⟩,fh S' aV g2 hn⟩
     .simp at h
    .simp at h
   .rename_i e y;have Nb:γ (i*64)=v:=hg 0 _ v rfl rfl rfl;split at h
    .rename_i e' t xs hb;split at h
     .rename_i cU;obtain⟨rfl,B0⟩:=cU;simp only[j5,j9]at h;obtain⟨rfl,rfl⟩:=h;have aQ:=(hR.box _ _ hb).1;rw[Nb]at aQ;refine⟨f1,λS' aV ff hn=>⟨⟨t,xs,rfl,aQ.keep aV (λ_ _=>rfl),λg aC=>hn 0 _ v g rfl rfl rfl ⟨_,hb,.inr ⟨_,t,xs,rfl⟩⟩ aC⟩,B0.symm,fh S' aV ff hn⟩⟩
     .simp at h
    .simp at h
   .rename_i Nc Nd;simp only[j5,j9]at h;obtain⟨rfl,rfl⟩:=h;refine⟨f1,λS' aV ff hn=>?_⟩;have:=fh S' aV ff hn;cases x with
    |ref ls=>exact absurd rfl (Nc ls)
    |rl e y=>exact absurd rfl (Nd e y)
    |_=>exact this
  .simp at h
theorem Ww{x:Arg}{u:Y}{g:G}(h:oa S w x u)(hr:lh x u=B g):∀o,¬S g o:=by
 cases x with
 |ref ls=>obtain⟨g',cur,e,h1,_,_,h4⟩:=h;have Bt:blk u=B g:=hr;grind[blk]
 |rl e y=>obtain⟨t,xs,_,_,h4⟩:=h;exact h4 g hr
 |mv e y=>obtain⟨⟨t,xs,_,_,h4⟩,_⟩:=h;exact h4 g hr
 |_=>simp[lh]at hr
theorem Nf:∀{as:H Arg}{us:H Y}{g:G},g∈eF as us->∃(i:G)(x:Arg)(u:Y),as[i]? = B x/\us[i]? = B u/\lh x u=B g
 |[],_,_,h=>by simp[eF]at h
 |_::_,[],_,h=>by simp[eF]at h
 |x::as,u::us,g,h=>by
  simp only[eF,jm,Option.mem_toList]at h;rcases h with h|h
  .exact⟨0,x,u,rfl,rfl,h⟩
  .obtain⟨i,y,v,h1,h2,h3⟩:=Nf h;exact⟨i+1,y,v,by simpa using h1,by simpa using h2,h3⟩
theorem Ng(zs:H Y):(if h:zs.toArray.size=1 then zs.toArray[0] else .tuple zs.toArray)=mM zs:=by
 match zs with
 |[]=>rfl
 |[z]=>rfl
 |z::z'::zs=>simp[mM]
theorem jBt{P:Á}{E:Env}(hT:cJ P E.T)(hR:Rel N np S0 w0 refs σ a w S γ){rs:H Í}{vs lL:H RV}{zs:H Y}
  (iZ:All2 (λ(r:Í) z=>((match r with
   |.tmp t=>pure (a.tmps.getD t undef)
   |.cell x t=>do loadVar t (<-asAddr (a.tmps.getD x undef)):Sem Y)).run P w = .ok z w) rs zs) (h:nilV E σ rs vs=B lL) :
  (∀S' w',All2 (qG S' w') vs zs->All2 (qG S' w') lL zs)/\gq lL zs=gq vs zs/\(∀m,lL=[.hd m]->vs=[.hd m])/\∀ns s,lL=[.raw ns s]->vs=[.raw ns s]:=by
 unfold nilV at h;split at h
 .simp_all
 .split at h
  .rename_i r x;split at h
   .rename_i ls hc;split at h
    .rename_i hn;simp only[j5]at h;subst h;obtain⟨z,hz,iL⟩:=HT hT hR hc;cases zs with
     |nil=>exact iZ.elim
     |cons z' zs=>
      cases zs with
      |cons _ _=>exact iZ.2.elim
      |nil=>
       have uj:z'=z:=by
        have h1:=hz.symm.trans iZ.1
        simp_all
       subst uj;obtain⟨cs,hu,ay,_⟩:=iL;refine⟨λS' w' hv=>⟨⟨hv.1,λmO oo i hi z hzi=>?_⟩,trivial⟩,rfl,λm hm=>by simp at hm,λns s hm=>by simp at hm⟩;rw[hu]at oo;simp only[Value.agg.injEq]at oo;subst oo;have hl:=jv.1 hn i hi;cases Wx:ls[i]? with
       |none=>simp_all
       |some l=>rw[Wx]at hl;obtain⟨z2,Nh,tn⟩:=ay.get i l Wx;rw[hzi]at Nh;simp only[j5]at Nh;subst Nh;cases l<;>first|exact tn|simp at hl
    .simp at h
   .simp at h
  .simp at h
theorem jqv{E:Env}{os:H Æ}{rs:H Í}{ts:H G}{vs:H RV}{ks:H G}{u:Ups}(h:qA E σ os rs ts=B (vs,ks,u))(m:G):vs≠[.hd m]:=by
 cases rs with
 |nil=>grind[qA]
 |cons r rs=>
  simp only[qA]at h;split at h
  .split at h
   .rename_i v k1 u1 hv;split at h
    .simp only[j5,j9]at h;rw[<-h.1];intro he;have:v = .hd m:=by grind
     subst this;unfold rvOf at hv;split at hv
     .grind
     .simp at hv
     .split at hv;all_goals grind
    .simp at h
   .simp at h
  .simp at h
theorem joJ{E:Env}{os:H Æ}{rs:H Í}{ts:H G}{vs:H RV}{ks:H G}{u:Ups}(h:qA E σ os rs ts=B (vs,ks,u))(ns:H G)(s:Snap):vs≠[.raw ns s]:=by
 cases rs with
 |nil=>grind[qA]
 |cons r rs=>
  simp only[qA]at h;split at h
  .split at h
   .rename_i v k1 u1 hv;split at h
    .simp only[j5,j9]at h;rw[<-h.1];intro he;have:v = .raw ns s:=by grind
     subst this;unfold rvOf at hv;split at hv
     .grind
     .simp at hv
     .split at hv;all_goals grind
    .simp at h
   .simp at h
  .simp at h
theorem jF7{P:Á}{E:Env}(hT:cJ P E.T){fn:Func}{args:H Arg}{vals:H Y}{σ':St}{a':À}{w':Z}{S':aY}{γ':G->Y}(hR:Rel N E.np S w (pL args vals) σ' a' w' S' γ')
  (ha:All2 (oa S w) args vals)(hS:∀g o,S g o->g<w.heap.size)(kE:¬E.rw=X)(HR:E.hd=X){ret:Ret}(db:ua E fn args σ'=B ret){R:Type}{k:Ret->O R}{r:R}(hk:k ret=B r) :
  ∃v,(results fn a'.tmps).run P w' = .ok v w'/\∃ret,k ret=B r/\∃v' S' vs,Ð v = .returned v'/\Hm w S args vals ret v' w' S' vs:=by
 have eR:∀(j:G)(x:Arg)(v:Y),args[j]? = B x->vals[j]? = B v->yW x=X->γ' ((0+j)*64)=v:=by
  intro j x v hx hv hr;refine(hR.par ((0+j)*64) v ?_).2.2
  simp_all[pL,Ey]
 unfold ua at db;rw[if_neg kE,if_pos HR]at db;unfold TX at db;split at db
 .rename_i e x as r0 jU;split at db
  .rename_i l os u' hc rC;split at db
   .rename_i m hm;simp only[j5]at db;subst db;obtain⟨z,hz,iL⟩:=HT (P:=P) hT hR hc;obtain⟨f2,r2⟩:=Na hR rC ha.length eR;obtain⟨S2,cI,dp,rz,dt⟩:=nR u' σ' S' hR f2;cases vals with
    |nil=>exact ha.elim
    |cons v0 vs0=>
    have h0:γ' 0=v0:=by have:=eR 0 _ v0 rfl rfl rfl;simpa using this
    have lX:∀k,parK E.np k=X->u'.any (λy=>y.1==k)=false:=by
     intro k hk;rw[qv];intro y hy he;simp only[vg]at he;have:=(f2 y hy).1
     simp_all
    have uA:∀k b,u'.any (λy=>y.1==k)=U->σ'.bx k = .live b->Uns b->∀g,blk (γ' k)=B g->∀o,¬S2 g o:=by
     intro k b hk hb mP g hg o;have eI:(σ'.upd u').bx k = .live b:=(kL _ _ hk).trans hb;have dn:=cI.box k b eI;rcases mP with⟨ls,rfl⟩|⟨e,t,xs,rfl⟩
     .obtain⟨g',cur,e,aC,_,_,_,hS,_⟩:=dn;grind[blk]
     .exact(dn.2 g hg).1 rfl o
    have eu:=r2 S2 dp rz (λj x v g hx hv hr Ni hg=>by
     obtain⟨b,hb,hu⟩:=Ni
     have hp:parK E.np ((0+j)*64)=true:=by
      refine(hR.par ((0+j)*64) v ?_).1
      simp_all[pL,Ey]
     grind)
    have cZ:One z:=iL.2 (by grind[hdOf])
    have rI:∃ad len cap,v0 = .slice ad len cap/\m<=len/\z = .slice ad m cap:=by
     unfold hdOf at hm;split at hm
     .split at hm
      .rename_i e1 t1 Hj hb;split at hm
       .simp at hm
       .rename_i ca;simp only[j5]at hm;subst hm;obtain⟨css,aQ,_⟩:=iY (by simpa using ca) (hR.box 0 _ hb);have uj:=iL.1.2.2 _ hb;rcases aQ.2 with⟨hg,hn⟩|⟨g,cap,cur,hg,_⟩;all_goals grind
      .simp at hm
     .split at hm
      .rename_i i e1 t1 Hj hb;simp only[j5]at hm;subst hm;obtain⟨_,hi,ad,cap,hg,uj⟩:=iL.1.2.2 _ hb;grind
      .simp at hm
     .simp at hm
    have aR:(results fn a'.tmps).run P w' = .ok (mM [z]) w':=by
     have hm:=HS (P:=P) (w:=w') (rs:=[r0]) (zs:=[z]) (λr=>((match r with
      |.tmp t=>pure (a'.tmps.getD t undef)
      |.cell x t=>do loadVar t (<-asAddr (a'.tmps.getD x undef)):Sem Y))) ⟨hz,trivial⟩
     grind[results,Î,Ü,õ,Ñ,Ý,Ng]
    refine⟨mM [z],aR,⟨[.hd m],os⟩,hk,mM [z],S2,[z],rfl,⟨rfl,⟨cZ,trivial⟩,λg hg=>by grind[gq,nB,lU],by simp[gq,nB,lU],eu,λg o hs=>⟨cI.ext g o hs,?_⟩,λg o h=>(cI.new g o h).imp id (λh=>h.imp id And.left),cI.here,cI.below,cI.grow,cI.os,cI.tape,cI.output,λns s he=>by simp at he,?_⟩⟩
    .refine Ç (cI.below g (hS g o hs) (λhm=>?_));obtain⟨i,x,v,hx,hv,hb⟩:=Nf hm;obtain⟨v',gC,Nj⟩:=ha.get i x hx;rw[hv]at gC;simp at gC;subst gC;exact Ww Nj hb o hs
    .intro m' kO;have:m'=m:=by simpa using kO.symm
     subst this;obtain⟨ad,len,cap,h1,h2,h3⟩:=rI;exact⟨ad,len,cap,by rw[h1];rfl,h2,by rw[h3]⟩
   .simp at db
  .simp at db
 .simp at db
theorem Wy{P:Á}{E:Env}(hT:cJ P E.T)(hR:Rel N np S0 w0 refs σ a w S γ):∀{rs:H Í}{cs:H Cel},Dh E σ rs=B cs->
  ∃zs,All2 (λ(r:Í) z=>((match r with
   |.tmp t=>pure (a.tmps.getD t undef)
   |.cell x t=>do loadVar t (<-asAddr (a.tmps.getD x undef)):Sem Y)).run P w = .ok z w) rs zs/\All2 (bQ S w γ σ.bx) cs zs
 |[],cs,h=>by
  simp only[Dh,j5]at h;subst h;exact⟨[],trivial,trivial⟩
 |r::rs,cs,h=>by
  simp only[Dh]at h;split at h
  .rename_i c mO hc c9;simp only[j5]at h;subst h;obtain⟨z,h1,h2⟩:=HT (P:=P) hT hR hc;obtain⟨zs,h3,h4⟩:=Wy hT hR c9;exact⟨z::zs,⟨h1,h3⟩,h2,h4⟩
  .simp at h
theorem Wz{bx bx':G->BS}{ns:H G}(hb:∀k∈ns,bx' k=bx k){l:Leaf}{u:Y}(hl:tZ ns l=X)(h:bF S w γ bx l u):bF S w γ bx' l u:=by
 cases l with
 |dead=>trivial
 |nil=>exact h
 |d t v=>exact h
 |ol k=>have hk:=hb k (by simpa[tZ]using hl);exact⟨by rw[hk];exact h.1,h.2.1,by rw[hk];exact h.2.2⟩
 |bp k c=>have hk:=hb k (by simpa[tZ]using hl);exact⟨by rw[hk];exact h.1,h.2.1,by rw[hk];exact h.2.2⟩
 |_=>simp[tZ]at hl
theorem HV{bx bx':G->BS}{ns:H G}(hb:∀k∈ns,bx' k=bx k):∀{ls:H Leaf}{us:H Y},ls.all (tZ ns)=X->All2 (bF S w γ bx) ls us->All2 (bF S w γ bx') ls us
 |[],[],_,_=>trivial
 |l::ls,u::us,hl,h=>by
  simp only[zb,jd]at hl;exact⟨Wz hb hl.1 h.1,HV hb hl.2 h.2⟩
 |[],_::_,_,h=>h.elim
 |_::_,[],_,h=>h.elim
theorem jue{bx bx':G->BS}{ns:H G}(hb:∀k∈ns,bx' k=bx k){c:Cel}{u:Y}(hl:Lq ns c=X)(h:bQ S w γ bx c u):bQ S w γ bx' c u:=by
 cases c with
 |one l=>exact⟨Wz hb hl h.1,h.2⟩
 |st ls=>obtain⟨cs,hu,ha,h1⟩:=h;exact⟨cs,hu,HV hb hl ha,h1⟩
 |av n b xs=>exact h
theorem jDR{P:Á}{E:Env}(hT:cJ P E.T){fn:Func}{args:H Arg}{vals:H Y}{σ':St}{a':À}{w':Z}{S':aY}{γ':G->Y}(hR:Rel N E.np S w (pL args vals) σ' a' w' S' γ')
  (ha:All2 (oa S w) args vals)(hS:∀g o,S g o->g<w.heap.size)(kE:E.rw=X){ret:Ret}(db:ua E fn args σ'=B ret){R:Type}{k:Ret->O R}{r:R}(hk:k ret=B r) :
  ∃v,(results fn a'.tmps).run P w' = .ok v w'/\∃ret,k ret=B r/\∃v' S' vs,Ð v = .returned v'/\Hm w S args vals ret v' w' S' vs:=by
 unfold ua at db;rw[if_pos kE]at db;unfold TY at db;split at db
 case h_2=>simp at db
 rename_i cs c9;split at db
 case isFalse=>simp at db
 rename_i cU;simp only[jd]at cU;obtain⟨dZ,hns,dR,cV⟩:=cU;simp only[j5]at db;subst db;obtain⟨zs,iZ,iL⟩:=Wy hT hR c9;have aR:(results fn a'.tmps).run P w' = .ok (mM zs) w':=by have hm:=HS (P:=P) (w:=w') _ iZ;unfold results;rw[Î];grind[Ü,õ,Ñ,Ý,Ng]
 have hlen:(cs.map Item.s++E.rn.map λk=>Item.b (σ'.bx k)).length-E.rn.length=cs.length:=ae;have hC:rawC E.rn (cs.map Item.s++E.rn.map λk=>Item.b (σ'.bx k))=cs:=by unfold rawC;rw[hlen,List.take_left' ae,ý];exact List.map_id' _
 have hU:rawU E.rn (cs.map Item.s++E.rn.map λk=>Item.b (σ'.bx k))=E.rn.map λk=>(k,σ'.bx k):=by
  unfold rawU;rw[hlen,List.drop_left' ae,ý];generalize E.rn=l;induction l with
  |nil=>rfl
  |cons x l ih=>simp only[kj,Ú,ih];rfl
 have fq:∀k∈E.rn,(emp.upd (E.rn.map λk=>(k,σ'.bx k))).bx k=σ'.bx k:=λk hk=>
  wF _ emp (by simp_all[Function.comp_def,yu]) (jx.2 ⟨k,hk,rfl⟩)
 have pM:∀k b,(emp.upd (E.rn.map λk=>(k,σ'.bx k))).bx k = .live b->k∈E.rn/\σ'.bx k = .live b:=by grind[kL,emp]
 have hclB:∀k b,σ'.bx k = .live b->k∈E.rn->eZ S' w' γ' (emp.upd (E.rn.map λk=>(k,σ'.bx k))).bx k b:=by
  intro k b hb hk;have h1:=hR.box k b hb;have h2:=(Bool.and_eq_true_iff.1 (jv.1 hns k hk)).2;rw[hb]at h2;cases b with
  |cell ls f=>obtain⟨g,cur,e,q1,q2,q3,q4⟩:=h1;exact⟨g,cur,e,q1,q2,HV fq h2 q3,q4⟩
  |lst e t xs f=>exact h1
  |arr n t xs=>exact h1
  |row e t n ls=>obtain⟨q1,⟨mO,q2,q3,q4⟩,q5⟩:=h1;exact⟨q1,⟨mO,q2,HV fq h2 q3,q4⟩,q5⟩
 have xa:All2 (bQ S' w' γ' (emp.upd (E.rn.map λk=>(k,σ'.bx k))).bx) cs zs:=by
  have go:∀(cs:H Cel)(zs:H Y),cs.all (Lq E.rn)=X->All2 (bQ S' w' γ' σ'.bx) cs zs->All2 (bQ S' w' γ' (emp.upd (E.rn.map λk=>(k,σ'.bx k))).bx) cs zs:=by
   intro cs;induction cs with
   |nil=>intro zs _ h;cases zs with|nil=>trivial|cons _ _=>exact h.elim
   |cons c cs ih=>
    intro zs dR h;cases zs with
    |nil=>exact h.elim
    |cons z zs=>simp only[zb,jd]at dR;exact⟨jue fq dR.1 h.1,ih zs dR.2 h.2⟩
  simp_all
 have yX:eF args vals=[]:=by
  clear aR xa hR;induction args generalizing vals with
  |nil=>cases vals<;>rfl
  |cons x xs ih=>
   cases vals with
   |nil=>rfl
   |cons v vs=>simp only[zb,jd]at cV;have:=ih ha.2 cV.2;cases x<;>simp_all[eF,lh,Lr]
 have eu:lV S' w' args vals []:=by
  clear aR xa hR yX;induction args generalizing vals with
  |nil=>cases vals with|nil=>trivial|cons _ _=>exact ha.elim
  |cons x xs ih=>
   cases vals with
   |nil=>exact ha.elim
   |cons v vs=>simp only[zb,jd]at cV;have:=ih ha.2 cV.2;cases x<;>first|exact this|(simp[Lr]at cV)
 refine⟨mM zs,aR,_,hk,mM zs,S',[mM zs],rfl,⟨rfl,⟨trivial,trivial⟩,λg hg=>by grind[gq,nB,lU],by simp[gq,nB,lU],eu,λg o hs=>⟨hR.ext g o hs,?_⟩,λg o h=>(hR.new g o h).imp id (λh=>h.imp id And.left),hR.here,
  hR.below,hR.grow,hR.os,hR.tape,hR.output,λns s he=>?_,λm hm=>by simp at hm⟩⟩
 .refine Ç (hR.below g (hS g o hs) (λhm=>?_));have hm:g∈eF args vals:=hm
  simp_all
 .simp only[yh,RV.raw.injEq,and_true]at he;obtain⟨rfl,rfl⟩:=he;refine⟨γ',zs,rfl,by simp_all,λk b hb=>?_,λk b g hb hg=>?_,λk k' b b' g br hb aU hg aC=>?_⟩
  .simp_all
  .rw[hU]at hb;obtain⟨h1,h2⟩:=pM k b hb;rcases hR.own k b g h2 hg with h|h
   .rcases h with h|h
    .exact h
    .have hm:g∈eF args vals:=h.2
     simp_all
   simp_all
  .rw[hU]at hb aU;exact hR.apart k k' b b' g br (pM k b hb).2 (pM k' b' aU).2 hg aC
theorem Nk{P:Á}{fn:Func}{n:G}{R:Ending->Z->Prop}:∀(ds:H Deferred){refs:Refs}{σ:St}{a:À}{w:Z}{S:aY}{γ:G->Y},refs.ds=ds->BW w0 refs->Rel N np S0 w0 refs σ a w S γ->
  (∀w2,Rel N np S0 w0 ⟨refs.blks,refs.val,[],λ_=>Â,λ_=>Â,refs.mv⟩ σ { a with defers:=[] } w2 S γ->LeavesIn (FR Â) n P fn a.tmps R [] .returning w2)->LeavesInM (FR Â) n P fn a.tmps R ds .returning w
 |[],refs,σ,a,w,S,γ,hd,hm,hR,h=>h w (hR.swap rfl rfl hR.size rfl hR.slot (λg o h=>by simp at h) (λi v h=>by simp at h))
 |d::ds,refs,σ,a,w,S,γ,hd,hm,hR,h=>by
  obtain⟨dZ,ay⟩:=hm;rw[hd]at dZ;obtain⟨D,rfl,h1,h2⟩:=ay d (by rw[hd];simp);refine⟨ae,.inl ⟨D,_,rfl,run_takeDeferred (hR.kept D _ h2).1,?_⟩⟩;have bu:=hR.putO (o':= .deferred Â) h2 h1 rfl rfl
  have cI:=bu.swap (a':={ a with defers:=ds }) (refs':=⟨refs.blks,refs.val,ds,λg=>if g=D then Â else refs.kw g,refs.fix,refs.mv⟩) rfl rfl hR.size rfl bu.slot (λg o hg=>bu.kept g o (by
   simp only at hg ⊢;split at hg
   .simp at hg
   .rename_i e;rw[if_neg e];exact hg)) bu.fix
  refine Nk (a:={ a with defers:=ds }) (refs:=⟨refs.blks,refs.val,ds,λg=>if g=D then Â else refs.kw g,refs.fix,refs.mv⟩) ds rfl ⟨(qo.1 dZ).2,λd' h9=>?_⟩ cI (λw2 hw=>h w2 hw);obtain⟨D',rfl,q1,q2⟩:=ay d' (by rw[hd];simp[h9]);refine⟨D',rfl,q1,?_⟩;show (if D'=D then Â else refs.kw D')=_;rw[if_neg,q2]
  rintro rfl
  exact(qo.1 dZ).1 h9
theorem WA{P:Á}{E:Env}(hT:cJ P E.T)(hC:kD P E.C)(hF:CFun E.C)(gh:P.follows .mixedOrders=X){f:G}{fn:Func}{c:Ó}(hf:P.funcs[f]? = B fn)(hb:fn.body=B c)(hN:fn.ntmps=E.N.n)(mW:E.N.pin=λ_=>U)(jS:∀f t,E.bw f=B t->BwK P f t)(yY:E.np<=E.N.n)
  (ca : (fn.name == "runtime.NumGoroutine") = U) (hL : ∀ x ∈ fV 0 c, BU E x.1 x.2 ∧ MrOK E x.1 x.2) : FnOK P f (fun args _ k => wc E fn args k) := by
 intro args R k r h;refine⟨⟨fn,hf,by rw[hb];rfl,ca⟩,?_⟩;intro w S vals ha dZ hS;by_cases hlen:args.length=E.np
 case neg=>simp[wc,hlen]at h
 case pos=>
 simp only[wc,hb,hlen,if_true]at h;have wx:vals.length=E.np:=by rw[<-ha.length,hlen]
 obtain⟨hR0,gT⟩:=jBs (N:=E.N) ha dZ hS hlen yY;refine jDO (n:=0) (ro:=Â) (callsIn_of_wp_marks hf hb trivial ?_);rw[hN];refine wpIn_mono (jx9 gh c (ro:=Â) hT hC hF jS (.inr ⟨rfl,mW⟩) 0 0 ⟨y8,λd hd=>by simp[pL]at hd⟩ hL hR0 gT h) ?_
 rintro e a0 w1 ⟨refs',ex,σ',S',γ',hle,_,rfl,bu,gL,hk⟩
 have fk:∀(hk:(match ua E fn args σ' with|some r=>k r|none=>Â)=B r)(w':Z),Rel E.N E.np S w ⟨refs'.blks,refs'.val,[],λ_=>Â,λ_=>Â,refs'.mv⟩ σ' { a0 with defers:=[] } w' S' γ'->∃v,(results fn a0.tmps).run P w' = .ok v w'/\
   ∃ret,k ret=B r/\∃v' S' vs,Ð v = .returned v'/\Hm w S args vals ret v' w' S' vs:=by
  intro hk w' hR;have hR:Rel E.N E.np S w (pL args vals) σ' { a0 with defers:=[] } w' S' γ':=hR.swap hle.blks.symm hle.val.symm hR.size rfl hR.slot (λg o h=>by simp[pL]at h) (λi v h=>by simp[pL]at h) hle.mv.symm;generalize uT:({ a0 with defers:=[] }:À)=a' at hR;have pB:a0.tmps=a'.tmps:=by rw[<-uT]
  rw[pB];cases db:ua E fn args σ' with
  |none=>simp[db]at hk
  |some ret=>
  simp only[db]at hk;by_cases kE:E.rw=X
  .exact jDR hT hR ha hS kE db hk
  by_cases HR:E.hd=X
  .exact jF7 hT hR ha hS kE HR db hk
  have yZ:∃vs ks u os u',qA E σ' E.ro fn.results.toList fn.resultTypes.toList=B (vs,ks,u)/\outs E.np σ' 0 args=B (os,u')/\
    oG ks=X/\(u++u').all (λe=> !ks.contains e.1)=X/\∃lL,nilV E σ' fn.results.toList vs=B lL/\ret=⟨lL,os⟩:=by
   grind[ua]
  obtain⟨vs,ks,u,os,u',mK,rC,ui,DP,lL,Nl,rfl⟩:=yZ;obtain⟨zs,iZ,f1,p1,n1,r1⟩:=Wt hT hR mK;have dO:(∀S' w',All2 (qG S' w') vs zs->All2 (qG S' w') lL zs)/\gq lL zs=gq vs zs/\(∀m,lL=[.hd m]->vs=[.hd m])/\∀ns s,lL=[.raw ns s]->vs=[.raw ns s]:=jBt hT hR iZ Nl
  have eR:∀(j:G)(x:Arg)(v:Y),args[j]? = B x->vals[j]? = B v->yW x=X->γ' ((0+j)*64)=v:=by
   intro j x v hx hv hr;refine(hR.par ((0+j)*64) v ?_).2.2
   simp_all[pL,Ey]
  obtain⟨f2,r2⟩:=Na hR rC ha.length eR;obtain⟨S2,cI,dp,rz,dt⟩:=nR (u++u') σ' S' hR (FrzL.app.2 ⟨f1,f2⟩);obtain⟨Nn,Np⟩:=Froz.app.1 rz
  have uA:∀k b,(u++u').any (λy=>y.1==k)=U->σ'.bx k = .live b->Uns b->∀g,blk (γ' k)=B g->∀o,¬S2 g o:=by
   intro k b hk hb mP g hg o;have eI:(σ'.upd (u++u')).bx k = .live b:=(kL _ _ hk).trans hb;have dn:=cI.box k b eI;rcases mP with⟨ls,rfl⟩|⟨e,t,xs,rfl⟩
   .obtain⟨g',cur,e,aC,_,_,_,hS,_⟩:=dn;grind[blk]
   .exact(dn.2 g hg).1 rfl o
  have HW:∀k∈ks,(u++u').any (λy=>y.1==k)=false:=by grind
  have lX:∀k,parK E.np k=X->(u++u').any (λy=>y.1==k)=false:=by
   intro k hk;rw[qv];intro y hy he;simp only[vg]at he;have:=(FrzL.app.2 ⟨f1,f2⟩ y hy).1
   simp_all
  have EB:=r1 S2 dp Nn (λk hk g hg=>by
   grind)
  have eu:=r2 S2 dp Np (λj x v g hx hv hr Ni hg=>by
   obtain⟨b,hb,hu⟩:=Ni;have hj:j<args.length:=(List.getElem?_eq_some_iff.1 hx).1;exact uA ((0+j)*64) b (lX _ (by simp[parK];omega)) hb hu g (by grind))
  have aR:(results fn a'.tmps).run P w' = .ok (mM zs) w':=by have hm:=HS (P:=P) (w:=w') _ iZ;unfold results;rw[Î];simp only[Ü,õ];grind[Ñ,Ý,Ng]
  have hnh:∀m,lL=[.hd m]->∃ad len cap,Hl args vals=B (.slice ad len cap)/\m<=len/\zs=[.slice ad m cap]:=λm hm=>by
   grind[jqv]
  have hnr:∀ns s,lL=[.raw ns s]->L2 w.heap.size S2 w' ns s (mM zs):=λns s hm=>absurd (dO.2.2.2 ns s hm) (joJ mK ns s);refine⟨mM zs,aR,⟨lL,os⟩,hk,mM zs,S2,zs,rfl,⟨rfl,dO.1 _ _ EB,λg hg=>?_,?_,eu,λg o hs=>⟨cI.ext g o hs,?_⟩,λg o h=>(cI.new g o h).imp id (λh=>h.imp id And.left),cI.here,cI.below,cI.grow,cI.os,cI.tape,cI.output,hnr,hnh⟩⟩
  .rw[dO.2.1,n1]at hg;obtain⟨k,bn,hkg⟩:=vj.1 hg;obtain⟨⟨b,hb,_⟩,hp⟩:=p1 k bn;rcases hR.own k b g hb hkg with h|h
   .exact h.imp id And.left
   grind
  .grind[L4,yu]
  .refine Ç (cI.below g (hS g o hs) (λhm=>?_));obtain⟨i,x,v,hx,hv,hb⟩:=Nf hm;obtain⟨v',gC,Nj⟩:=ha.get i x hx;rw[hv]at gC;simp at gC;subst gC;exact Ww Nj hb o hs
 cases ex with
 |exit i=>simp at hk
 |normal=>exact Nk a0.defers bu.defers.symm hle.marks bu (λw2 hw=>fk hk w2 hw)
 |ret=>exact Nk a0.defers bu.defers.symm hle.marks bu (λw2 hw=>fk hk w2 hw)
end
section
variable{E:Env}
def LFun(L:G->Snap->(R:Type)->(Ex->Snap->O R)->O R):Prop:=
 ∀b s,∃o:O (Ex×Snap),∀(R:Type)(k:Ex->Snap->O R),L b s R k=o.bind λx=>k x.1 x.2
def MFun(M:G->Snap->(R:Type)->(Snap->O R)->O R):Prop:=∀b s,∃o:O Snap,∀(R:Type)(k:Snap->O R),M b s R k=o.bind k
def Det{α:Type}(f:(R:Type)->(α->O R)->O R):Prop:=∃o:O α,∀(R:Type)(k:α->O R),f R k=o.bind k
theorem Det.val{α:Type}(x:α):Det (λ_ k=>k x):=⟨B x,λ_ _=>rfl⟩
theorem Det.no{α:Type}:Det (λR (_:α->O R)=>Â):=⟨Â,λ_ _=>rfl⟩
theorem Det.cond{α:Type}{f g:(R:Type)->(α->O R)->O R}(b:Æ)(h:Det f)(h':Det g):Det (λR k=>cond b (f R k) (g R k)):=by
 cases b with
 |true=>exact h
 |false=>exact h'
theorem Det.bind{α β:Type}{f:(R:Type)->(α->O R)->O R}{g:α->(R:Type)->(β->O R)->O R}(h:Det f)(h':∀a,Det (g a)):Det (λR k=>f R λa=>g a R k):=by
 obtain⟨o,ho⟩:=h;cases o with
 |none=>exact⟨Â,λR k=>ho R _⟩
 |some a=>obtain⟨o',rS⟩:=h' a;exact⟨o',λR k=>(ho R _).trans (rS R k)⟩
theorem Det.congr{α:Type}{f g:(R:Type)->(α->O R)->O R}(h:Det f)(e:∀R k,g R k=f R k):Det g:=by
 obtain⟨o,ho⟩:=h;exact⟨o,λR k=>(e R k).trans (ho R k)⟩
theorem WB{v:Ù}{f:Ù->(R:Type)->(St->O R)->O R}(h:∀j,Det (f j)):∀m j,Det (λR k=>spl v (λi=>f i R k) m j)
 |0,_=> .no
 |m+1,j=> .cond _ (h _) (WB h m (j+1))
theorem WC(σ:St)(o:Ä):Det (λR (k:St->O R)=>pre σ o k):=by
 unfold pre;split
 .rename_i t kk v n _;exact WB (f:=λj R k=>k (σ.setS t (.one (.one (.d (.int kk) j))))) (λj=> .val _) n 0
 .exact .val _
theorem HX(hF:CFun E.C)(hz:E.nz=U)(p:Æ)(σ:St)(act:H (G×Æ))(o:Ä):Det (λR (k:St->O R)=>run1 E p σ act o k):=by
 unfold run1;refine Det.bind (WC σ o) λσ=>?_;simp only[hz,j7];split
 .exact .no
 .exact .cond _ (.val _) .no
 .rename_i f args mk _;refine Det.bind (f:=λR k=>E.C f args R k) (hF f args) λret=>?_;split
  .exact .val _
  .exact .no
theorem WD:∀(l:H (G×Æ))(σ:St),Det (λR (k:St×Æ->O R)=>vT l σ λa b=>k (a,b))
 |[],σ=> .val _
 |(s,w)::r,σ=>by
  simp only[vT]
  refine(Det.bind (WD r σ) (g:=λx R k=>match x.2 with
   |true=>match Li r x.1 s with
    |some v=>cond v (k (x.1.setS s (.one (.one (.d .bool X))),w)) (k (x.1.setS s (.one (.one (.d .bool U))), !w))
    |none=>Â
   |false=>k (x.1,U)) λx=>?_).congr λR k=>rfl
  obtain⟨σ1,a⟩:=x;cases a with
  |true=>
   dsimp only
   split
   .exact .cond _ (.val _) (.val _)
   .exact .no
  |false=>exact .val _
theorem jz5(hF:CFun E.C)(hz:E.nz=U)(ops:Ã Ä)(σ:St)(o:Ä):Det (λR (k:St->O R)=>C4 E ops σ o k):=by
 unfold C4;split
 .split
  .exact HX hF hz _ _ _ _
  .exact .no
 .rename_i g _
  have qY:Det (λR (k:St->O R)=>vT (σ.chain 40 g) σ λσ' a=>match a with
    |true=>run1 E X σ' (σ.chain 40 g) o k
    |false=>k (σ'.put o.dst (.one (.one .dead)))):=by
   refine(Det.bind (WD (σ.chain 40 g) σ) (g:=λx R k=>match x.2 with
    |true=>run1 E X x.1 (σ.chain 40 g) o k
    |false=>k (x.1.put o.dst (.one (.one .dead)))) λx=>?_).congr λR k=>rfl
   obtain⟨σ1,a⟩:=x;cases a with
   |true=>exact HX hF hz _ _ _ _
   |false=>exact .val _
  dsimp only
  split
  .split
   .exact .cond _ (.val _) .no
   .exact qY
  .exact qY
theorem Nq(hF:CFun E.C)(hz:E.nz=U):∀(l:H Ä)(σ:St),Det (λR (k:St->O R)=>nM E l σ k)
 |[],σ=> .val _
 |o::os,σ=>by
  simp only[nM];split
  .exact Det.bind (HX hF hz U σ [] o) λσ'=>Nq hF hz os σ'
  .exact .no
theorem WE(hF:CFun E.C)(hz:E.nz=U)(ops:Ã Ä):∀(l:H Ä)(σ:St),Det (λR (k:St->O R)=>AY E ops l σ k)
 |[],σ=> .val _
 |o::os,σ=>by
  simp only[AY];split
  .exact Det.bind (jz5 hF hz ops σ o) λσ'=>WE hF hz ops os σ'
  .exact .no
theorem juf(hF:CFun E.C)(hz:E.nz=U)(ops:Ã Ä)(σ:St):Det (λR (k:St->O R)=>lJ E ops σ k):=by
 unfold lJ;split
 .exact Nq hF hz _ _
 .exact WE hF hz _ _ _
theorem WG(hF:CFun E.C)(hz:E.nz=U)(σ:St)(o:Ä):Det (λR (k:St->O R)=>runK E σ o k):=by
 unfold runK;split
 .rename_i c σ' _;exact .cond c (.val σ') .no
 .exact HX hF hz U σ [] o
theorem Nr(hF:CFun E.C)(hz:E.nz=U):∀(l:H Ä)(σ:St),Det (λR (k:St->O R)=>tT E l σ k)
 |[],σ=> .val σ
 |[o],σ=>by
  simp only[tT];split
  .exact WG hF hz σ o
  .exact .no
 |o::o2::os,σ=>by
  simp only[tT];split
  .split
   .split
    .exact .cond _ (Nr hF hz os _) .no
    .exact .no
   .exact Det.bind (WG hF hz σ o) λσ'=>Nr hF hz (o2::os) σ'
  .exact .no
theorem jz6(hF:CFun E.C)(hz:E.nz=U)(ops:Ã Ä)(σ:St):Det (λR (k:St->O R)=>C5 E ops σ k):=by
 unfold C5;split
 .exact Nr hF hz _ _
 .exact .no
theorem Ns(hF:CFun E.C)(hz:E.nz=U)(M Ai:H G)(σ:St)(o:Ä):Det (λR (k:St->O R)=>runD E M Ai σ o k):=by
 unfold runD;refine Det.bind (WC σ o) λσ=>?_;split
 .exact .no
 .split
  .exact .cond _ (.val _) .no
  .exact .no
 .rename_i f args mk _;refine Det.bind (f:=λR k=>E.C f args R k) (hF f args) λret=>?_;split
  .split
   .exact .val _
   .exact .no
  .exact .no
theorem jxa(hF:CFun E.C)(hz:E.nz=U)(ops:Ã Ä)(M Ai:H G)(σ:St)(o:Ä):Det (λR (k:St->O R)=>C7 E ops M Ai σ o k):=by
 unfold C7;split
 .exact Ns hF hz _ _ _ _
 .split
  .split
   .exact .cond _ (.cond _ (Ns hF hz _ _ _ _) (.val _)) (.cond _ (.val _) (Ns hF hz _ _ _ _))
   .exact .val _
   .exact .no
  .exact .no
theorem WH(hF:CFun E.C)(hz:E.nz=U)(ops:Ã Ä)(cl:H G)(A:H (H G)):∀(l:H Ä)(i:G)(σ:St),Det (λR (k:St->O R)=>AZ E ops cl A l i σ k)
 |[],_,σ=> .val _
 |o::os,i,σ=>by
  simp only[AZ];split
  .exact Det.bind (jxa hF hz ops _ _ σ o) λσ'=>WH hF hz ops cl A os (i+1) σ'
  .exact .no
theorem jss(hF:CFun E.C)(hz:E.nz=U)(ops:Ã Ä)(A:H (H G))(σ:St):Det (λR (k:St->O R)=>vU E ops A σ k):=by
 unfold vU;split
 .exact WH hF hz _ _ _ _ _ _
 .exact .no
theorem Nt(np:G):∀(gs:H Gh)(σ:St),Det (λR (k:St->O R)=>xK np gs σ k)
 |[],σ=> .val _
 |g::gs,σ=>by
  simp only[xK];split
  .exact .cond _ (Nt np gs _) .no
  .exact .no
theorem WI{f:(R:Type)->G->St->(Ex->St->O R)->O R}(hf:∀i σ,Det (λR (k:Ex×St->O R)=>f R i σ λe σ'=>k (e,σ'))):∀(n i:G)(σ:St),
  Det (λR (k:Ex×St->O R)=>vY (f R) n i σ λe σ'=>k (e,σ'))
 |0,_,σ=> .no
 |n+1,i,σ=>by
  refine(Det.bind (hf i σ) (g:=λz R k=>match z.1 with
   |.normal=>vY (f R) n (i+1) z.2 λe σ'=>k (e,σ')
   |e=>k (e,z.2)) λz=>?_).congr λR k=>by
    simp only[vY];congr 1;try (funext e σ';cases e<;>rfl)
  obtain⟨e,σ'⟩:=z;cases e with
  |normal=>exact WI hf n (i+1) σ'
  |exit i=>exact .val _
  |ret=>exact .val _
theorem jxb(hF:CFun E.C)(hz:E.nz=U)(hM:MFun E.M)(x y:Ó)(σ:St):Det (λR (k:Ex×St->O R)=>De E x y σ λe σ'=>k (e,σ')):=by
 unfold De;exact .cond _ .no .no
theorem jqx:∀(c:Ó){E:Env}(_:CFun E.C)(_:E.nz=U)(_:LFun E.L/\MFun E.M)(b:G)(σ:St),Det (λR (k:Ex×St->O R)=>fL E b c σ λe σ'=>k (e,σ')):=by
 intro c;induction c with
 |skip=>intro E hF hz hL b σ;exact .val _
 |region id ops draw=>
  intro E hF hz hL b σ;cases draw with
  |true=>exact Det.bind (Nt E.np (E.pre id) σ) λσ1=>Det.bind (jss hF hz ops (E.dw id) σ1) λσ'=> .val (Ex.normal,σ')
  |false=>exact Det.bind (Nt E.np (E.pre id) σ) λσ1=> .cond _ (Det.bind (jz6 hF hz ops σ1) λσ'=> .val (Ex.normal,σ')) (Det.bind (juf hF hz ops σ1) λσ'=> .val (Ex.normal,σ'))
 |seq x y rW rX=>
  intro E hF hz hL b σ;simp only[fL];refine .cond _ (jxb hF hz hL.2 x y σ) ?_
  refine(Det.bind (rW hF hz hL b σ) (g:=λz R k=>match z.1 with
   |.normal=>fL E b y z.2 λe σ'=>k (e,σ')
   |e=>k (e,z.2)) λz=>?_).congr λR k=>by
    congr 1
    try (funext e σ';cases e<;>rfl)
  obtain⟨e,σ'⟩:=z;cases e with
  |normal=>exact rX hF hz hL b σ'
  |exit i=>exact .val _
  |ret=>exact .val _
 |cond c x y rW rX=>
  intro E hF hz hL b σ;simp only[fL];split
  .exact .cond _ (rW hF hz hL b _) (rX hF hz hL b _)
  .exact .no
 |block id c ih=>
  intro E hF hz hL b σ
  refine(Det.bind (ih hF hz hL id σ) (g:=λz R k=>match z.1 with
   |.exit i=>if i=id then k (.normal,z.2) else k (.exit i,z.2)
   |e=>k (e,z.2)) λz=>?_).congr λR k=>by
    simp only[fL];congr 1;try (funext e σ';cases e<;>rfl)
  obtain⟨e,σ'⟩:=z;cases e with
  |normal=>exact .val _
  |exit i=>
   dsimp only
   split
   .exact .val _
   .exact .val _
  |ret=>exact .val _
 |loop c ih=>
  intro E hF hz hL b σ;simp only[fL];refine .cond _ .no (.cond _ ?_ ?_)
  .exact WI (f:=λR i σ k=>fL (E.offR i) b c σ k) (λi σ=>ih (E:=E.offR i) hF hz hL b σ) (E.un b) 0 σ
  split
  .rename_i s _;obtain⟨o,ho⟩:=hL.1 b s;exact Det.bind (f:=λR k=>E.L b s R λe s'=>k (e,s')) ⟨o,λR k=>ho R _⟩ (g:=λz R k=>k (z.1,dD E.np (E.keepX b z.1) z.2)) λz=> .val _
  .exact .no
 |rangeFunc g ps x y _ _=>
  intro E hF hz hL b σ;simp only[fL];split
  .split
   .rename_i kd _;split
    .rename_i s _;obtain⟨o,ho⟩:=hL.1 b (.s (.one (.d (.int .i64) (C9 kd (á _))))::s);exact Det.bind (f:=λR k=>E.L b _ R λe s'=>k (e,s')) ⟨o,λR k=>ho R _⟩ (g:=λz R k=>k (z.1,dD E.np (E.keepX b z.1) z.2)) λz=> .val _
    .exact .no
   .exact .no
  .exact .no
 |scope c ih=>intro E hF hz hL b σ;exact ih hF hz hL b σ
 |label l=>intro E hF hz hL b σ;exact .val _
 |exit i=>intro E hF hz hL b σ;exact .val _
 |ret=>intro E hF hz hL b σ;exact .val _
 |_=>intro E hF hz hL b σ;exact .no
theorem EC(hF:CFun E.C)(hz:E.nz=U)(hL:LFun E.L/\MFun E.M)(c:Ó)(b:G)(σ:St):Det (λR (k:Ex×St->O R)=>fL E b c σ λe σ'=>k (e,σ')):=jqx c hF hz hL b σ
theorem jug(hF:CFun E.C)(hz:E.nz=U)(hL:LFun E.L/\MFun E.M)(b:G)(g:Õ)(ps:Ã G)(x y:Ó)(s:Snap) :
  Det (λR (k:O (H Item)×Ex×St->O R)=>Df E b g ps x y s λp e σ'=>k (p,e,σ')):=by
 unfold Df;split
 .rename_i n s0;split
  .split
   .rename_i kd _;refine .cond _ (.val _) (.cond _ ?_ .no)
    refine(Det.bind (EC (E:=E.rnd ps x y) hF hz hL x 0 _) (g:=λz R k=>match z.1 with
     |.normal=>fL (E.rnd ps x y) 0 y z.2 λe σ'=>k (B [.s (.one (.d (.int .i64) (Da kd n)))],e,σ')
     |_=>Â) λz=>?_).congr λR k=>by
      congr 1
      try (funext e σ';cases e<;>rfl)
    obtain⟨e,σ'⟩:=z;cases e with
    |normal=>exact Det.bind (EC (E:=E.rnd ps x y) hF hz hL y 0 σ') λz=> .val (_,z)
    |exit i=>exact .no
    |ret=>exact .no
   .exact .no
  .exact .no
 .exact .no
theorem jxc(hF:CFun E.C)(hz:E.nz=U)(hL:LFun E.L/\MFun E.M)(b:G)(p:MrP)(m:G)(s:Snap)(v:Ty)(q:Ù)(z:v.den):Det (λR (k:Snap->O R)=>G0 E b p m s v q z k):=by
 unfold G0;refine Det.bind (Nq (E:=E.mrE p.it m) hF hz _ _) λσ1=>?_
 refine(Det.bind (EC (E:=E.mrE p.it m) hF hz hL p.rest p.b6 σ1) (g:=λz R k=>cond (mrNx p.b6 z.1) (match kH E.np (E.keep b) z.2 with
  |some s'=>k s'
  |none=>Â) Â) λz=> .cond _ ?_ .no).congr λR k=>rfl
 split
 .exact .val _
 .exact .no
theorem jxd(hF:CFun E.C)(hz:E.nz=U)(hL:LFun E.L/\MFun E.M)(fn:Func)(args:H Arg):Det (λR (k:Ret->O R)=>wc E fn args k):=by
 unfold wc;split
 .split
  .rename_i c _
   refine(Det.bind (EC hF hz hL c 0 (St.init args)) (g:=λz R k=>match z.1 with
    |.exit _=>Â
    |_=>match ua E fn args z.2 with
     |some r=>k r
     |none=>Â) λz=>?_).congr λR k=>rfl
   obtain⟨e,σ'⟩:=z;cases e<;>dsimp only<;>(try split)<;>first|exact .no|exact .val _
  .exact .no
 .exact .no
end
end Go.Lft
