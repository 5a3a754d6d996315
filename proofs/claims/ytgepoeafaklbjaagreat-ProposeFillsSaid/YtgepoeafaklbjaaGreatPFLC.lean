/- Regions: what they do is what the evaluator says. -/
import Derived.Test.YtgepoeafaklbjaaGreatPFLB
import Derived.Laws.Cover3
import Derived.RangeFuncNested
import Derived.OrdersIn
import Derived.Maps.Range
open Option renaming some->B,none->Ã
open _root_ renaming Nat->G,List->H,Option->O,Array->Ä,Bool->Ë,Int->à
open Bool renaming false->U,true->X,and_eq_true->À,false_eq_true->Ï,or_eq_true->Ð,not_eq_true'->Û,not_eq_true->ù
open Go renaming Value->Y,World->Á,Act->Æ,Program->Ç,Oper->É,MapEntry->Ø,Exit->â,ResultVar->å,Code->é,Operand->î
open Array renaming getElem?_eq_getElem->Â,getD_eq_getD_getElem?->Þ,mapM_eq_mapM_toList->æ,replicate->ð
open Go.Region renaming wanted->Å
open List renaming mem_of_getElem?->È,drop_eq_getElem_cons->Ê,contains_eq_mem->Í,drop_of_length_le->Ñ,range'_succ->Ò,getElem?_append_right->Ó,getD_eq_getElem?_getD->Ô,length_set->Ú,range_eq_range'->ß,getElem?_append_left->ã,mem_singleton->ê,map_cons->ï,zip_cons_cons->ó,getElem?_map->õ,all_cons->ö,getElem?_eq_getElem->ø,of_mem_zip->ÿ
open Go.World renaming cell?_of_block->Ì,putObj_heap_other->Î,alloc_heap_new->á,putObj_heap_same->í
open Nat renaming le_of_ble_eq_true->Õ,eq_of_beq_eq_true->Ü,lt_of_lt_of_le->ë,beq->ñ,le_refl->ô,lt_or_ge->ú,le_trans->û
open Go.Oper renaming upon_value->Ö,wp->Ý,upon_enter->ç
open Go.Value renaming int->Ù
open Go.ChangeMaps renaming setBlock->ä
open Go.Ending renaming returned->è
open Go.Result renaming andThen_ok->ì,andThen->ò
open Go.Exit renaming inBlock->ü
open Go.Sem renaming run_bind->ý,run_pure->þ
set_option linter.unusedVariables false
namespace Go.Lft
section
variable{N:NT}{np:G}{S0:j09}{w0:Á}{refs:Refs}{σ:St}{a:Æ}{w:Á}{S:j09}{γ:G->Y}
def j2z(σ:St):Prop:=∀i,(σ.sl i).bare=X
theorem jdx{d:G}(hd:d<a.tmps.size)(v:Y)(j:G):tm (a.put (B d) v) j=if j=d then v else tm a j:=by
 unfold tm Go.Act.put;by_cases h:j=d
 .subst h;simp[hd]
 .have h':d≠j:=λe=>h e.symm
  simp_all
theorem jrF{bx:G->BS}{d:G}(hd:d<a.tmps.size){v u:Y}{x:Slot}(h:j4i S w γ bx (tm a) x u):j4i S w γ bx (tm (a.put (B d) v)) (kill d x) u:=by
 cases x with
 |one c=>exact h
 |tup l=>exact h
 |und=>exact h
 |cnd s b c=>
  simp only[kill];split
  .exact⟨trivial,λh=>absurd rfl h⟩
  grind[j4i,jdx]
theorem j8i(dst:O G)(v:Y):(a.put dst v).tmps.size=a.tmps.size:=by cases dst<;>simp[Go.Act.put]
theorem j8N(dst:O G)(v:Y):(a.put dst v).defers=a.defers:=by cases dst<;>rfl
theorem jko(hR:Rel N np S0 w0 refs σ a w S γ){dst:O G}(hd:∀d,dst=B d->N.ok d){s:Slot}{v:Y}(hs:j4i S w γ σ.bx (tm a) s v) :
  Rel N np S0 w0 refs (σ.put dst s) (a.put dst v) w S γ:=by
 cases dst with
 |none=>exact hR
 |some d=>
  have hd':d<a.tmps.size:=by rw[hR.size];exact(hd d rfl).1
  refine⟨(j8i _ _).trans hR.size,(j8N _ _).trans hR.defers,λi=>?_,hR.box,hR.own,hR.apart,hR.ext,hR.new,hR.here,hR.below,hR.grow,hR.os,hR.tape,hR.output,hR.par,hR.kept,λi u h=>?_⟩
  .show j4i S w γ σ.bx (tm (a.put (B d) v)) (kill d (if i=d then s else σ.sl i)) (tm (a.put (B d) v) i);rw[jdx hd'];split
   .exact jrF hd' hs
   .exact jrF hd' (hR.slot i)
  .obtain⟨h1,h2⟩:=hR.fix i u h;refine⟨h1,?_⟩;show tm (a.put (B d) v) i=u;rw[jdx hd',if_neg]
   .exact h2
   .rintro rfl
    have:=(hd i rfl).2
    simp_all
theorem joG{d:G}{x:Slot}(h:x.bare=X):kill d x=x:=by cases x<;>first|rfl|simp[Slot.bare]at h
theorem jfX(hR:Rel N np S0 w0 refs σ a w S γ)(hc:j2z σ){dst:O G}(hd:∀d,dst=B d->N.ok d){s:Slot}{v:Y}(hs:j4i S w γ σ.bx (tm a) s v)(hb:s.bare=X) :
  Rel N np S0 w0 refs (σ.setD dst s) (a.put dst v) w S γ/\j2z (σ.setD dst s):=by
 have he:σ.setD dst s=σ.put dst s:=by
  cases dst with
  |none=>rfl
  |some d=>
   simp only[St.setD,St.setS,St.put];congr 1;funext j;split
   .exact(joG hb).symm
   .exact(joG (hc j)).symm
 refine⟨he▸jko hR hd hs,λi=>?_⟩;cases dst with
 |none=>exact hc i
 |some d=>
  simp only[St.setD,St.setS];split
  .exact hb
  .exact hc i
theorem jkp{o:É}(h:jeV N o=X):∀d,o.dst=B d->N.ok d:=by
 grind[jeV,NT.ok]
theorem joH{u:Ups}(h:j2z σ):j2z (σ.upd u):=by
 intro i;rw[jmf];exact h i
theorem jsU{P:Ç}{E:Env}(hT:j1K P E.T)(hR:Rel E.N E.np S0 w0 refs σ a w S γ){o:É}{e:Ë}(h:nilT E σ o=B e) :
  ∃v b,(execOp a.eval o).run P w = .ok (.value v) w/\v = .bool b/\(b=X->e=X):=by
 unfold nilT at h;split at h
 .rename_i t x y ty hop;split at h
  .rename_i el xs ti hx hy hti;split at h
   .rename_i hl;simp only[j5]at h;subst h;have ex:=jat hR x;have ey:=jat hR y;rw[hx]at ex;rw[hy]at ey;obtain⟨ad,cap,hcs,hlen,_,hnone,_⟩:=ex.1;have hux:a.eval x = .slice ad (List.length xs) cap:=by simpa using hcs
    have huy:a.eval y = .slice Ã 0 0:=ey.1;obtain⟨a',hty⟩:=jit hl;obtain⟨hd,_⟩:=j67 hT hti hty;refine⟨.bool ad.isNone,ad.isNone,?_,rfl,λhb=>?_⟩;all_goals simp_all[execOp,eqGuard,binOp,run_equal_slice_nil]
   .simp at h
  .simp at h
 .simp at h
theorem jby{P:Ç}{E:Env}(hT:j1K P E.T)(hC:j7R P E.C)(hR:Rel E.N E.np S0 w0 refs σ a w S γ){act:H (G×Ë)}(hact:jkf (tm a) act){p:Ë}
  (hc:p=U->j2z σ){o:É}(hd:jeV E.N o=X){R:Type}{k:St->O R}{r:R}(h:run1 E p σ act o k=B r){next:Æ->Á->Prop}{Q:â->Æ->Á->Prop}
  (hn:∀σ' a' w' S' γ',Rel E.N E.np S0 w0 refs σ' a' w' S' γ'->(p=U->j2z σ')->k σ'=B r->next a' w'):o.wp P a w next Q:=by
 have hd:=jkp hd
 have hfin:∀(u:Ups)(s:Slot)(v:Y)(w':Á)(S':j09)(γ':G->Y),Rel E.N E.np S0 w0 refs (σ.upd u) a w' S' γ'->j4i S' w' γ' (σ.upd u).bx (tm a) s v->s.bare=X->
   k (cond p ((σ.upd u).put o.dst s) ((σ.upd u).setD o.dst s))=B r->next (a.put o.dst v) w':=by
  intro u s v w' S' γ' hR' hs hb hk;cases p with
  |true=>exact hn _ _ _ _ _ (jko hR' hd hs) smp_ hk
  |false=>obtain⟨h1,h2⟩:=jfX hR' (joH (hc rfl)) hd hs hb;grind
 unfold run1 at h
 replace h:=jrs h
 split at h
 .rename_i e he;have he:nilT E σ o=B e:=by grind
  obtain⟨v,b,hrun,rfl,hb⟩:=jsU (P:=P) hT hR he;obtain⟨h1,h2⟩:=jpR h;unfold Ý;rw[hrun,Ö];cases b with
  |true=>exact hfin [] (.one (.one (.d .bool X))) (.bool X) w S γ hR ⟨rfl,λ_=>rfl⟩ rfl (h2 (hb rfl))
  |false=>exact hfin [] (.one (.one (.d .bool U))) (.bool U) w S γ hR ⟨rfl,λ_=>rfl⟩ rfl h1
 split at h
 .simp at h
 .rename_i chk s u ho;cases chk with
  |false=>simp at h
  |true=>obtain⟨⟨v,w',S',γ',hrun,hR',hs⟩,hb⟩:=jq3 hT hR hact (λ_=> .inl rfl) ho;unfold Ý;rcases hrun with hrun|⟨hrun,rfl⟩;all_goals grind[Ö,Oper.upon_skip]
 .rename_i f args mk ho;obtain⟨hf,hspec⟩:=hC f args R _ r h;obtain⟨vals,hrun,hcalls,hb⟩:=jrE hR hact (λ_=> .inl rfl) ho hf hspec;unfold Ý;rw[hrun,ç];refine hcalls.mono ?_;grind
theorem jkq{P:Ç}{E:Env}(hT:j1K P E.T)(hC:j7R P E.C){ops:Ä É}(hbare:bare ops=X){R:Type}{k:St->O R}{r:R}{Q:â->Æ->Á->Prop}
  (hn:∀σ' a' w' S' γ',Rel E.N E.np S0 w0 refs σ' a' w' S' γ'->j2z σ'->k σ'=B r->Q .normal a' w') :
  ∀(n i:G)(σ:St)(a:Æ)(w:Á)(S:j09)(γ:G->Y),i+n=ops.size->Rel E.N E.np S0 w0 refs σ a w S γ->j2z σ->j7T E (ops.toList.drop i) σ k=B r->
   wpOps P ops Q (List.range' i n) a w
 |0,i,σ,a,w,S,γ,hi,hR,hc,h=>by
  rw[Ñ sqo_]at h;exact hn _ _ _ _ _ hR hc h
 |n+1,i,σ,a,w,S,γ,hi,hR,hc,h=>by
  have hlt:i<ops.size:=omg_;rw[Ê (by simpa using hlt)]at h;simp only[j7T]at h;split at h
  .rename_i hd;have ho:ops[i]? = B ops[i]:=Â hlt;simp only[Ò,wpOps,ho];have hg:ops[i].guard=none:=by have:=List.all_eq_true.1 hbare ops[i] smp_;simpa using this
   have hw:Å ops[i] (yielded ops a.tmps)=true:=by simp[Å,hg]
   simp only[hw,if_true];refine .inl (jby hT hC hR (act:=[]) (λg hg=>by simp at hg) (p:=U) (λ_=>hc) (by simpa using hd) (by simpa using h) (λσ' a' w' S' γ' hR' hc' hk=>?_));exact jkq hT hC hbare hn n (i+1) σ' a' w' S' γ' omg_ hR' (hc' rfl) hk
  .simp at h
theorem jfY{ops:Ä É}{o:É}{g:G×Ë}(h:ja3 ops o=B g):Å o (yielded ops a.tmps)=X↔tm a g.1 = .bool g.2:=by
 unfold ja3 at h;split at h
 .simp at h
 .rename_i j wn hgu;split at h
  .rename_i oj hoj;split at h
   .rename_i s hs;simp only[j5]at h;subst h;simp only[Å,hgu,yielded,hoj,j4,hs,tm];cases hq:a.tmps[s]? with
    |none=>grind[undef]
    |some v=>
     have:a.tmps.getD s undef=v:=by simp[hq]
     grind
   .simp at h
  .simp at h
theorem jnc(hR:Rel N np S0 w0 refs σ a w S γ):∀(n:G)(g:G×Ë),tm a g.1 = .bool g.2->jkf (tm a) (σ.chain n g)
 |0,g,h=>by intro x hx;simp only[St.chain,ê]at hx;subst hx;exact h
 |n+1,g,h=>by
  simp only[St.chain];have hs:=hR.slot g.1;split
  .rename_i s b c hc;rw[hc]at hs
   have h2:tm a s = .bool b:=by
    rcases hs with hs|hs
    .exact hs.1
    .have:tm a g.1=undef:=hs.2;rw[h]at this;simp[undef]at this
   intro x hx;rcases List.mem_cons.1 hx with rfl|hx
   .exact h
   .exact jnc hR n (s,b) h2 x hx
  .intro x hx;simp only[ê]at hx;subst hx;exact h
theorem juC:∀(n:G)(g:G×Ë),g∈σ.chain n g
 |0,g=>by simp[St.chain]
 |n+1,g=>by grind[St.chain]
theorem juD(hR:Rel N np S0 w0 refs σ a w S γ):∀{l:H (G×Ë)}{b:Ë},actB σ l=B b->jkf (tm a) l->b=X
 |[],b,h,_=>by simp[actB]at h;exact h
 |(s,wn)::r,b,h,ha=>by
  have ht:tm a s = .bool wn:=ha (s,wn) smp_;simp only[actB]at h;split at h
  .rename_i v hv
   have hvv:v=wn:=by
    have hs:=hR.slot s;unfold gval at hv;split at hv
    .rename_i v' hsl;simp only[j5]at hv;subst hv;rw[hsl]at hs;have:tm a s = .bool v':=jah hs;rw[ht]at this;simpa using this.symm
    .rename_i s' b' v' hsl;simp only[j5]at hv;subst hv;rw[hsl]at hs;rcases hs with hs|hs
     .have:tm a s = .bool v':=jah hs.2;rw[ht]at this;simpa using this.symm
     .have:tm a s=undef:=hs.2;rw[ht]at this;simp[undef]at this
    .simp at hv
   subst hvv;split at h
   .simp only[j5]at h;rw[<-h];cases v<;>rfl
   .split at h
    .rename_i b2 hb2;simp only[j5]at h;have:=juD hR hb2 (λg hg=>ha g (by simp[hg]));rw[<-h,this];cases v<;>rfl
    .simp at h
  .simp at h
theorem jrG(hR:Rel N np S0 w0 refs σ a w S γ){s:G}{x:Slot}(h:j4i S w γ σ.bx (tm a) x (tm a s)):Rel N np S0 w0 refs (σ.setS s x) a w S γ:=by
 refine⟨hR.size,hR.defers,λi=>?_,hR.box,hR.own,hR.apart,hR.ext,hR.new,hR.here,hR.below,hR.grow,hR.os,hR.tape,hR.output,hR.par,hR.kept,hR.fix⟩;simp only[St.setS];split
 .rename_i hi;subst hi;exact h
 .exact hR.slot i
theorem jkr{R:Type}:∀(l:H (G×Ë)){σ:St}{k:St->Ë->O R}{r:R},Rel N np S0 w0 refs σ a w S γ->jjg l σ k=B r->
  ∃σ' b,Rel N np S0 w0 refs σ' a w S γ/\k σ' b=B r/\(b=X↔jkf (tm a) l)
 |[],σ,k,r,hR,h=>⟨σ,X,hR,h,by simp[jkf]⟩
 |(s,wn)::l,σ,k,r,hR,h=>by
  simp only[jjg]at h;obtain⟨σ1,b1,hR1,hk1,hb1⟩:=jkr l hR h;cases b1 with
  |false=>
   refine⟨σ1,U,hR1,hk1,?_⟩;simp only[Ï,false_iff]at hb1 ⊢
   exactλha=>hb1 (λg hg=>ha g (by simp[hg]))
  |true=>
   have hal:=hb1.1 rfl;simp only at hk1;split at hk1
   .rename_i v hv
    have ht:tm a s = .bool v:=by
     have hs:=hR1.slot s;unfold ju1 at hv;split at hv
     .rename_i v' hsl;simp only[j5]at hv;subst hv;rw[hsl]at hs;exact jah hs
     .rename_i s' b' v' hsl;split at hv
      .rename_i hm;simp only[j5]at hv;subst hv;rw[hsl]at hs;have hm':(s',b')∈l:=by simpa using hm
       have:=hal _ hm';rcases hs with hs|hs
       .exact jah hs.2
       .exact absurd this hs.1
      .simp at hv
     .simp at hv
    have hrel:∀b,b=v->Rel N np S0 w0 refs (σ1.setS s (.one (.one (.d .bool b)))) a w S γ:=by
     rintro b rfl
     refine jrG hR1 ⟨?_,λ_=>?_⟩
     .show Rep S w .bool b [tm a s];rw[ht];rfl
     .rw[ht];rfl
    cases v with
    |true=>
     simp only[j6]at hk1;refine⟨_,wn,hrel X rfl,hk1,?_⟩;constructor
     .rintro rfl g hg
      rcases List.mem_cons.1 hg with rfl|hg
      .exact ht
      .exact hal g hg
     .intro ha;have:=ha (s,wn) smp_;rw[ht]at this;simpa using this.symm
    |false=>
     simp only[j7]at hk1;refine⟨_, !wn,hrel U rfl,hk1,?_⟩;constructor
     .intro hw g hg;have hw':wn=false:=by simpa using hw
      subst hw';rcases List.mem_cons.1 hg with rfl|hg
      .exact ht
      .exact hal g hg
     .intro ha;have:=ha (s,wn) smp_;rw[ht]at this;have:U=wn:=by simpa using this
      rw[<-this];rfl
   .simp at hk1
theorem jAs{P:Ç}{E:Env}(hT:j1K P E.T)(hC:j7R P E.C)(hR:Rel E.N E.np S0 w0 refs σ a w S γ){ops:Ä É}{o:É}(hd:jeV E.N o=X)
  {R:Type}{k:St->O R}{r:R}(h:ju2 E ops σ o k=B r){next:Æ->Á->Prop}{Q:â->Æ->Á->Prop}
  (hn:∀σ' a' w' S' γ',Rel E.N E.np S0 w0 refs σ' a' w' S' γ'->k σ'=B r->next a' w') :
  if Å o (yielded ops a.tmps) then o.wp P a w next Q\/(o.asks P a w/\LetsOut Q) else next (a.put o.dst undef) w:=by
 have hdl:=jkp hd;unfold ju2 at h;split at h
 .split at h
  .rename_i hg;have hw:Å o (yielded ops a.tmps)=true:=by simp[Å,hg]
   simp only[hw,if_true];exact .inl (jby hT hC hR (act:=[]) (λg hg=>by simp at hg) (p:=X) smp_ hd h (λσ' a' w' S' γ' hR' _ hk=>hn σ' a' w' S' γ' hR' hk))
  .simp at h
 .rename_i g hg;dsimp only at h;have hwi:=jfY (a:=a) hg
  have hslow:jjg (σ.chain 40 g) σ (λσ' a=>match a with
    |true=>run1 E X σ' (σ.chain 40 g) o k
    |false=>k (σ'.put o.dst (.one (.one .dead))))=B r->
    if Å o (yielded ops a.tmps) then o.wp P a w next Q\/(o.asks P a w/\LetsOut Q) else next (a.put o.dst undef) w:=by
   intro hs;obtain⟨σ',b,hR',hk,hb⟩:=jkr _ hR hs;cases b with
   |true=>have hact:=hb.1 rfl;have hw:=hwi.2 (hact g (juC 40 g));grind[jby]
   |false=>
    have hw:¬Å o (yielded ops a.tmps)=true:=λhw=>by
     grind[jnc]
    simp only[hw];exact hn _ _ _ _ _ (jko hR' hdl (s:= .one (.one .dead)) (v:=undef) ⟨trivial,λh=>absurd rfl h⟩) hk
  split at h
  .rename_i chk c ho;split at h
   .rename_i ab hab;by_cases hw:Å o (yielded ops a.tmps)=X
    .have hact:=jnc hR 40 g (hwi.1 hw);have:=juD hR hab hact;subst this;simp only[hw,if_true];cases chk with
     |false=>simp at h
     |true=>
      simp only[Bool.not_true,Bool.or_false,j6]at h;obtain⟨⟨v,w',S',γ',hrun,hR',hs⟩,hb⟩:=jq3 hT hR hact (λ_=> .inl rfl) ho;have hput:=jko hR' hdl (s:= .cnd g.1 g.2 c) (v:=v) (.inl ⟨hwi.1 hw,hs⟩);refine .inl ?_;unfold Ý;rcases hrun with hrun|⟨hrun,rfl⟩
      .rw[hrun,Ö];exact hn _ _ _ _ _ hput h
      .rw[hrun,Oper.upon_skip];exact hn _ _ _ _ _ hput h
    .simp only[hw];have hk:k (σ.put o.dst (.cnd g.1 g.2 c))=B r:=by grind
     exact hn _ _ _ _ _ (jko hR hdl (s:= .cnd g.1 g.2 c) (v:=undef) (.inr ⟨λhh=>hw (hwi.2 hh),rfl⟩)) hk
   .exact hslow h
  .exact hslow h
theorem juE(hR:Rel N np S0 w0 refs σ a w S γ):Rel N np S0 w0 refs σ.clear a w S γ/\j2z σ.clear:=by
 refine⟨⟨hR.size,hR.defers,λi=>?_,hR.box,hR.own,hR.apart,hR.ext,hR.new,hR.here,hR.below,hR.grow,hR.os,hR.tape,hR.output,hR.par,hR.kept,hR.fix⟩,λi=>?_⟩
 .have:=hR.slot i;simp only[St.clear];cases hs:σ.sl i with
  |one c=>rw[hs]at this;exact this
  |tup l=>rw[hs]at this;exact this
  |und=>rw[hs]at this;exact this
  |cnd s b c=>exact⟨trivial,λh=>absurd rfl h⟩
 .simp only[St.clear];cases σ.sl i<;>rfl
theorem jrH{P:Ç}{E:Env}(hT:j1K P E.T)(hC:j7R P E.C){ops:Ä É}{R:Type}{k:St->O R}{r:R}{Q:â->Æ->Á->Prop}
  (hn:∀σ' a' w' S' γ',Rel E.N E.np S0 w0 refs σ' a' w' S' γ'->j2z σ'->k σ'=B r->Q .normal a' w') :
  ∀(n i:G)(σ:St)(a:Æ)(w:Á)(S:j09)(γ:G->Y),i+n=ops.size->Rel E.N E.np S0 w0 refs σ a w S γ->jmb E ops (ops.toList.drop i) σ k=B r->
   wpOps P ops Q (List.range' i n) a w
 |0,i,σ,a,w,S,γ,hi,hR,h=>by
  rw[Ñ sqo_]at h;obtain⟨h1,h2⟩:=juE hR;exact hn _ _ _ _ _ h1 h2 h
 |n+1,i,σ,a,w,S,γ,hi,hR,h=>by
  have hlt:i<ops.size:=omg_;rw[Ê (by simpa using hlt)]at h;simp only[jmb]at h;split at h
  .rename_i hd;have ho:ops[i]? = B ops[i]:=Â hlt;simp only[Ò,wpOps,ho];exact jAs hT hC hR (by simpa using hd) (by simpa using h) (λσ' a' w' S' γ' hR' hk=>jrH hT hC hn n (i+1) σ' a' w' S' γ' omg_ hR' hk)
  .simp at h
theorem joI{P:Ç}{E:Env}(hT:j1K P E.T)(hC:j7R P E.C)(hR:Rel E.N E.np S0 w0 refs σ a w S γ)(hc:j2z σ){ops:Ä É}{R:Type}{k:St->O R}{r:R}
  {Q:â->Æ->Á->Prop}(hn:∀σ' a' w' S' γ',Rel E.N E.np S0 w0 refs σ' a' w' S' γ'->j2z σ'->k σ'=B r->Q .normal a' w')(h:jaP E ops σ k=B r) :
  wpOps P ops Q (List.range ops.size) a w:=by
 rw[ß];unfold jaP at h;split at h
 .rename_i hb;exact jkq hT hC hb hn ops.size 0 σ a w S γ omg_ hR hc (by simpa using h)
 .exact jrH hT hC hn ops.size 0 σ a w S γ omg_ hR (by simpa using h)
theorem jnd(hR:Rel N np S0 w0 refs σ a w S γ){k:G}{b b':Bx}(hk:σ.bx k = .live b)(hsh:j1W b b')(hbox:∀bx',BxLe γ σ.bx γ bx'->j2i S w γ bx' k b') :
  Rel N np S0 w0 refs (σ.setB k (.live b')) a w S γ:=by
 have hle:BxLe γ σ.bx γ (σ.setB k (.live b')).bx:=by
  intro k' hk';by_cases h:k'=k
  .subst h;rw[j0y];exact⟨smp_,rfl,λx hx=>by simp at hx;subst hx;exact⟨b,hk,hsh⟩⟩
  .rw[j07 σ _ h];exact⟨hk',rfl,λx hx=>⟨x,hx,.refl x⟩⟩
 have live':∀k' x,(σ.setB k (.live b')).bx k' = .live x->∃x',σ.bx k' = .live x':=by
  intro k' x hx;by_cases h:k'=k
  .subst h;exact⟨b,hk⟩
  .rw[j07 σ _ h]at hx;exact⟨x,hx⟩
 refine Rel.step (bx':=(σ.setB k (.live b')).bx) hR (.refl S w) hle ?_ ?_ ?_ hR.new hR.here hR.below hR.grow hR.os hR.tape hR.output (λg _ _ h=>⟨rfl,λk' b' hb'=>by obtain⟨b2,hb2⟩:=live' k' b' hb';exact h k' b2 hb2⟩)
 .intro k' x hx;by_cases h:k'=k
  .subst h;rw[j0y]at hx;simp at hx;subst hx;exact hbox _ hle
  .rw[j07 σ _ h]at hx;exact j2i.keep (.refl S w) hle rfl (λg hg=>⟨rfl,λ_=>Iff.rfl⟩) (hR.box k' x hx)
 .intro k' x g hx hg;obtain⟨x',hx'⟩:=live' k' x hx;exact hR.own k' x' g hx' hg
 .intro k1 k2 x1 x2 g hne h1 h2 hg;obtain⟨y1,hy1⟩:=live' k1 x1 h1;obtain⟨y2,hy2⟩:=live' k2 x2 h2;exact hR.apart k1 k2 y1 y2 g hne hy1 hy2 hg
theorem All2.set_left{α β:Type}{R:α->β->Prop}:∀{as:H α}{bs:H β},All2 R as bs->∀(i:G)(x:α)(b:β),bs[i]? = B b->R x b->All2 R (as.set i x) bs
 |[],[],_,i,x,b,hb,_=>by simp at hb
 |_::_,_::_,h,0,x,b,hb,hr=>by simp at hb;subst hb;exact⟨hr,h.2⟩
 |_::_,_::_,h,i+1,x,b,hb,hr=>⟨h.1,All2.set_left h.2 i x b (by simpa using hb) hr⟩
 |[],_::_,h,_,_,_,_,_=>h.elim
 |_::_,[],h,_,_,_,_,_=>h.elim
theorem jrI:∀(l:H (Loc×Ty))(σ σ':St)(S:j09),Rel N np S0 w0 refs σ a w S γ->j2z σ->jhm np l σ=B σ'->∃S',Rel N np S0 w0 refs σ' a w S' γ/\j2z σ'
 |[],σ,σ',S,hR,hc,h=>by simp[jhm]at h;subst h;exact⟨S,hR,hc⟩
 |(l,t)::r,σ,σ',S,hR,hc,h=>by
  simp only[jhm]at h;split at h
  .rename_i v u hv;have hrdf:=jmr (np:=np) (σ:=σ) (rd:=mskM σ.bx) (RdR.msk λ_=> .inl rfl)
   suffices hs:∃S',Rel N np S0 w0 refs (jk9 (σ.upd u) l (.d t v)) a w S' γ/\j2z (jk9 (σ.upd u) l (.d t v)) by
    obtain⟨S1,hR1,hc1⟩:=hs;exact jrI r _ σ' S1 hR1 hc1 h
   cases l with
   |slot i=>simp[jk8,jeU,jlK,lenL,jb5]at hv
   |cell k c=>
    have hbad:jk8 σ (.cell k c) ≠ .dead:=λhd=>by rw[hd]at hv;simp[jeU,jlK,lenL,jb5]at hv
    cases hbx:σ.bx k with
    |free=>simp[jk8,hbx]at hbad
    |gone=>simp[jk8,hbx]at hbad
    |live b=>
     cases b with
     |lst e b xs f=>simp[jk8,hbx]at hbad
     |arr n b xs=>simp[jk8,hbx]at hbad
     |row e b n ls=>simp[jk8,hbx]at hbad
     |cell ls f=>
      cases f with
      |true=>simp[jk8,hbx]at hbad
      |false=>
       have hl:jk8 σ (.cell k c)=ls.getD c .dead:=by simp[jk8,hbx]
       rw[hl]at hv hbad;obtain⟨g,cur,e,h1,h2,h3,h4,h5,h6⟩:=hR.box k _ hbx;cases hg:ls[c]? with
       |none=>simp[hg]at hbad
       |some x=>
        have hgx:ls.getD c .dead=x:=by simp[hg]
        rw[hgx]at hv;obtain⟨z,hz,hxz⟩:=h3.get c x hg;obtain⟨hfl,hp⟩:=jbH hrdf hR.box hv hxz;obtain⟨S1,hR1,hst1,hfz1,hsame⟩:=j4t u σ S hR hfl;have hrep:=hp S1 w hst1 hfz1;have hbx1:=hsame.cell hbx;refine⟨S1,?_,?_⟩
        .simp only[jk9,hbx1];refine jnd hR1 hbx1 trivial (λbx' hle=>?_);obtain⟨g',cur',e',h1',h2',h3',h4',h5',h6'⟩:=hR1.box k _ hbx1;rw[h1]at h1';simp at h1';subst h1';rw[h2]at h2';simp at h2';obtain⟨rfl,rfl⟩:=h2';exact⟨g,cur,e,h1,h2,by rw[Ú];exact All2.set_left (h3'.mono (λx u hx=>j08.keep (.refl S1 w) hle hx)) c (.d t v) z hz hrep,by rw[Ú];exact h4',h5',smp_⟩
        .intro j;simp only[jk9,hbx1];show ((σ.upd u).sl j).bare=X;rw[jmf];exact hc j
  .simp at h
theorem jks:∀(l:H jin)(σ σ':St)(S:j09),Rel N np S0 w0 refs σ a w S γ->j2z σ->jeX np l σ=B σ'->∃S',Rel N np S0 w0 refs σ' a w S' γ/\j2z σ'
 |[],σ,σ',S,hR,hc,h=>by simp[jeX]at h;subst h;exact⟨S,hR,hc⟩
 |x::r,σ,σ',S,hR,hc,h=>by
  simp only[jeX]at h;split at h
  .split at h
   .split at h
    .split at h
     .rename_i e b xs f hbx;split at h
      .simp at h
      .rename_i hp;simp only[Ð,not_or,ù]at hp;obtain⟨S1,hR1,_⟩:=jiu hR hp.2 hbx hp.1;exact jks r _ σ' S1 hR1 (λi=>hc i) h
     .simp at h
    .exact jks r σ σ' S hR hc h
   .exact jks r σ σ' S hR hc h
  .exact jks r σ σ' S hR hc h
theorem j8j:∀{l:H G}{i j:G},l.idxOf? i=B j->l[j]? = B i
 |[],i,j,h=>by simp at h
 |x::l,i,j,h=>by
  rw[List.idxOf?_cons]at h;split at h
  .rename_i he;simp at h he;subst h;subst he;rfl
  .cases hq:l.idxOf? i with
   |none=>simp[hq]at h
   |some j'=>simp[hq]at h;subst h;simpa using j8j hq
theorem jne:∀{l:H G}{i:G},l.idxOf? i=Ã->i∉l
 |[],i,_=>smp_
 |x::l,i,h=>by
  rw[List.idxOf?_cons]at h;split at h
  .simp at h
  .rename_i he;have hq:l.idxOf? i=none:=by simpa using h
   have:=jne hq;simp only[List.mem_cons,not_or];exact⟨λe=>he (by simp[e]),this⟩
theorem jgH{e:G}{t:Ty}{l:Loc}{k:O G}{xs:H t.den}{f:Ë}(h:jmc σ e t l=B (k,xs,f)) :
  (k=Ã/\isM e=U/\xs=[]/\jjh σ l = .nil)\/∃k0,k=B k0/\jjh σ l = .ol k0/\σ.bx k0 = .live (.lst e t xs f):=by
 unfold jmc at h;split at h
 .rename_i hl;split at h
  .simp at h
  .rename_i hm;simp only[j5,j9]at h;exact .inl ⟨h.1.symm,by simpa using hm,h.2.1.symm,hl⟩
 .rename_i k0 hl;split at h
  .rename_i e' t' xs' f' hb;split at h
   .rename_i v hto;split at h
    .rename_i he;simp only[j5,j9]at h;obtain⟨rfl,rfl,rfl⟩:=h;have:=jgi hto;cases this;subst he;exact .inr ⟨k0,rfl,hl,hb⟩
    .simp at h
   .simp at h
  .simp at h
 .simp at h
theorem je7{e:G}{t:Ty}:∀{ls:H Loc}{k:O G}{xs:H t.den}{f:Ë},jgE σ e t ls=B (k,xs,f)->
  (∃l∈ls,jmc σ e t l=B (k,xs,f))/\∀l∈ls,∃xs' f',jmc σ e t l=B (k,xs',f')
 |[],_,_,_,h=>by simp[jgE]at h
 |[l],k,xs,f,h=>by
  simp only[jgE]at h;exact⟨⟨l,smp_,h⟩,λl' hl'=>by simp at hl';subst hl';exact⟨_,_,h⟩⟩
 |l::l2::ls,k,xs,f,h=>by
  simp only[jgE]at h;split at h
  .rename_i k1 xs1 f1 k2 xs2 f2 h1 h2;split at h
   .rename_i hk;simp only[j5,j9]at h;obtain⟨rfl,rfl,rfl⟩:=h;subst hk;obtain⟨_,hall⟩:=je7 h2;refine⟨⟨l,smp_,h1⟩,λl' hl'=>?_⟩;rcases List.mem_cons.1 hl' with rfl|hl'
    .exact⟨_,_,h1⟩
    .exact hall l' hl'
   .simp at h
  .simp at h
def jBM(np:G)(σ:St)(bs:H G)(x:jin)(it:Item)(src:O G):Prop:=
 ∃xs f f',jgE σ x.e x.a x.locs=B (src,xs,f)/\it = .b (.live (.lst x.e x.a xs f'))/\∀k0,src=B k0->f'=f/\k0∉bs/\parK np k0=U
theorem jgn{bs:H G}:∀{L:H jin}{is:H Item}{ks:H G},jdm np σ bs L=B (is,ks)->
  ∃srcs:H (O G),ks=srcs.filterMap id/\ks.Nodup/\∀(j:G)(x:jin),L[j]? = B x->∃it src,is[j]? = B it/\srcs[j]? = B src/\jBM np σ bs x it src
 |[],is,ks,h=>by
  simp[jdm]at h;obtain⟨rfl,rfl⟩:=h;exact⟨[],rfl,List.nodup_nil,λj x hx=>by simp at hx⟩
 |x::L,is,ks,h=>by
  simp only[jdm]at h;split at h
  .rename_i k xs f is' ks' h1 h2;obtain⟨srcs,e1,e2,e3⟩:=jgn h2;split at h
   .simp only[j5,j9]at h;obtain⟨rfl,rfl⟩:=h;refine⟨Ã::srcs,by simp[e1],e2,λj y hy=>?_⟩;cases j with
    |zero=>simp at hy;subst hy;exact⟨_,Ã,rfl,rfl,xs,f,x.frz,h1,rfl,smp_⟩
    |succ j=>exact e3 j y (by simpa using hy)
   .rename_i k0;split at h
    .simp at h
    .rename_i hn;simp only[Ð,not_or,ù,Í,decide_eq_true_eq]at hn;simp only[j5,j9]at h;obtain⟨rfl,rfl⟩:=h;refine⟨B k0::srcs,by simp[e1],List.nodup_cons.2 ⟨hn.1.1,e2⟩,λj y hy=>?_⟩;cases j with
     |zero=>simp at hy;subst hy;exact⟨_,B k0,rfl,rfl,xs,f,f,h1,rfl,λk1 hk1=>by simp at hk1;subst hk1;exact⟨rfl,hn.1.2,hn.2⟩⟩
     |succ j=>exact e3 j y (by simpa using hy)
  .simp at h
theorem jrJ:∀{srcs:H (O G)},(srcs.filterMap id).Nodup->∀{j j' k:G},srcs[j]? = B (B k)->srcs[j']? = B (B k)->j=j'
 |[],_,j,_,_,h,_=>by simp at h
 |s::srcs,hn,j,j',k,h,h'=>by
  have hmem:∀{i:G},srcs[i]? = B (B k)->k∈srcs.filterMap id:=λhi=>List.mem_filterMap.2 ⟨B k,È hi,rfl⟩
  have hn':(srcs.filterMap id).Nodup:=by
   cases s with
   |none=>simpa using hn
   |some y=>simp at hn;exact hn.2
  cases j with
  |zero=>
   cases j' with
   |zero=>rfl
   |succ j'=>simp at h h';subst h;simp at hn;exact absurd (by simpa using hmem h') hn.1
  |succ j=>
   cases j' with
   |zero=>simp at h h';subst h';simp at hn;exact absurd (by simpa using hmem h) hn.1
   |succ j'=>have:=jrJ hn' (j:=j) (j':=j') (k:=k) (by simpa using h) (by simpa using h');omega
theorem joJ:∀{l:H G},l.Nodup->∀{i j n:G},l[i]? = B n->l[j]? = B n->i=j
 |[],_,i,_,_,hi,_=>by simp at hi
 |x::l,h,i,j,n,hi,hj=>by
  obtain⟨h1,h2⟩:=List.nodup_cons.1 h;cases i with
  |zero=>
   cases j with
   |zero=>rfl
   |succ j=>simp at hi hj;subst hi;exact absurd (È hj) h1
  |succ i=>
   cases j with
   |zero=>simp at hi hj;subst hj;exact absurd (È hi) h1
   |succ j=>rw[joJ h2 (i:=i) (j:=j) (n:=n) (by simpa using hi) (by simpa using hj)]
theorem jq4{K:Keep}{l:Loc}{n:G}(h:joh K l=B n):∃(j:G)(x:jin),K.lists[j]? = B x/\x.name=n/\l∈x.locs:=by
 unfold joh at h;obtain⟨x,hq,hn⟩:=Option.map_eq_some_iff.1 h;have h1:=List.find?_some hq;obtain⟨j,hj⟩:=List.mem_iff_getElem?.1 (List.mem_of_find?_eq_some hq);exact⟨j,x,hj,hn,by simpa using h1⟩
theorem jbz{K:Keep}{k:G}{x:BS}{b:Bx}(h:joi K k x = .live b):∃b0,x = .live b0/\j1W b0 b:=by
 unfold joi at h;split at h
 .simp only[BS.live.injEq]at h;subst h;exact⟨_,rfl,trivial⟩
 .simp only[BS.live.injEq]at h;subst h;exact⟨_,rfl,.refl _⟩
 .simp only[BS.live.injEq]at h;subst h;exact⟨_,rfl,.refl _⟩
 .simp only[BS.live.injEq]at h;subst h;exact⟨_,rfl,by simp[j1W]⟩
 .simp at h
theorem jbA{K:Keep}{k:G}{x:BS}:joi K k x ≠ .free:=by
 unfold joi;split<;>simp
theorem jiC{R:Leaf->Y->Prop}{f:Leaf×G->Leaf}:∀{ls:H Leaf}{cs:H Y}(n:G),(∀(j:G)(x:Leaf)(u:Y),ls[j]? = B x->cs[j]? = B u->R (f (x,n+j)) u)->ls.length=cs.length->
  All2 R ((ls.zipIdx n).map f) cs
 |[],[],_,_,_=>trivial
 |x::ls,c::cs,n,h,hl=>by
  refine⟨h 0 x c rfl rfl,jiC (n+1) (λj y u hy hu=>?_) (by simpa using hl)⟩;have:=h (j+1) y u (by simpa using hy) (by simpa using hu);rwa[show n+1+j=n+(j+1) by omega]
 |[],_::_,_,_,hl=>by simp at hl
 |_::_,[],_,_,hl=>by simp at hl
theorem jxS{K:Keep}{s:Snap}(hR:Rel N np S0 w0 refs σ a w S γ)(hs:jpS np K σ=B s):∃γ',Rel N np S0 w0 refs (j0Q np K s) a w S γ'/\j2z (j0Q np K s):=by
 unfold jpS at hs;cases hL:jdm np σ K.boxes K.lists with
 |none=>simp[hL]at hs
 |some p=>
 obtain⟨is,ks⟩:=p;simp only[hL]at hs;cases hok:K.ok np with
 |false=>simp[hok]at hs
 |true=>
 simp only[hok,if_true,j5]at hs;obtain⟨srcs,hks,hnd,hinfo⟩:=jgn hL;rw[hks]at hnd;simp only[Keep.ok,À]at hok;have hnames:=ja7 hok.1;have hnb:∀(j:G)(x:jin),K.lists[j]? = B x->x.name∉K.boxes:=by intro j x hx;have:=List.all_eq_true.1 hok.2 x (È hx);simp only[À]at this;simpa using this.1
 have hnpar:∀(j:G)(x:jin),K.lists[j]? = B x->parK np x.name=false:=by intro j x hx;have:=List.all_eq_true.1 hok.2 x (È hx);simp only[À]at this;simpa using this.2
 let γ':G->Value:=λn=>match K.boxes.idxOf? n with
  |some _=>γ n
  |none=>match (K.lists.map (·.name)).idxOf? n with
   |some j=>match srcs[j]? with
    |some (B k)=>γ k
    |_=> .slice Ã 0 0
   |none=>γ n
 have hbx:(j0Q np K s).bx=λn=>match K.boxes.idxOf? n with
  |some j=>joj s[K.slots.length+j]?
  |none=>match (K.lists.map (·.name)).idxOf? n with
   |some j=>joj s[K.slots.length+K.boxes.length+j]?
   |none=>if parK np n then .gone else .free:=rfl
 have hB:∀n,n∈K.boxes->(j0Q np K s).bx n=joi K n (σ.bx n)/\γ' n=γ n:=by
  intro n hn;rw[hbx];cases hq:K.boxes.idxOf? n with
  |none=>exact absurd hn (jne hq)
  |some j=>have hj:=j8j hq;refine⟨?_,by simp only[γ',hq]⟩;simp only[hq,<-hs];rw[Ó smp_];simp only[List.length_map,Nat.add_sub_cancel_left];rw[ã (by simp;exact(List.getElem?_eq_some_iff.1 hj).1)];simp[hj,joj]
 have hNm:∀(j:G)(x:jin),K.lists[j]? = B x->∃it src,srcs[j]? = B src/\jBM np σ K.boxes x it src/\(j0Q np K s).bx x.name=joj (B it)/\
   γ' x.name=(match src with|some k=>γ k|none=> .slice Ã 0 0):=by
  intro j x hx;obtain⟨it,src,h1,h2,h3⟩:=hinfo j x hx
  have hq0:K.boxes.idxOf? x.name=none:=by
   cases hq:K.boxes.idxOf? x.name with
   |none=>rfl
   |some i=>exact absurd (È (j8j hq)) (hnb j x hx)
  have hjn:(K.lists.map (·.name))[j]? = B x.name:=by simp[hx]
  cases hq:(K.lists.map (·.name)).idxOf? x.name with
  |none=>exact absurd (È hjn) (jne hq)
  |some i=>
   have hi:=joJ hnames (j8j hq) hjn;subst hi;refine⟨it,src,h2,h3,?_,?_⟩
   .rw[hbx];simp only[hq0,hq,<-hs];rw[Ó sqo_,Ó sqo_];have:K.slots.length+K.boxes.length+i-(K.slots.map λi=>Item.s (jxv K i (σ.sl i))).length-(K.boxes.map λk=>Item.b (joi K k (σ.bx k))).length=i:=sqo_;rw[this,h1]
   .simp only[γ',hq0,hq,h2];cases src<;>rfl
 have hF:∀n b,(j0Q np K s).bx n = .live b->n∈K.boxes\/∃(j:G)(x:jin),K.lists[j]? = B x/\x.name=n:=by
  intro n b hb;by_cases hn:n∈K.boxes
  .exact .inl hn
  .right;rw[hbx]at hb
   have hq0:K.boxes.idxOf? n=none:=by
    cases hq:K.boxes.idxOf? n with
    |none=>rfl
    |some i=>exact absurd (È (j8j hq)) hn
   simp only[hq0]at hb;split at hb
   .rename_i j hq;have hj:=j8j hq;simp only[õ]at hj;cases hx:K.lists[j]? with
    |none=>simp[hx]at hj
    |some x=>simp[hx]at hj;exact⟨j,x,hx,hj⟩
   .split at hb<;>simp at hb
 have hleaf:∀(loc:O Loc)(x:Leaf)(u:Y),j08 S w γ σ.bx x u->(x ≠ .dead->One u)->(∀l,loc=B l->jjh σ l=x)->
   j08 S w γ' (j0Q np K s).bx (jhl K loc x) u/\(jhl K loc x ≠ .dead->One u):=by
  intro loc x u hl h1 hloc;have hdead:j08 S w γ' (j0Q np K s).bx .dead u/\(Leaf.dead ≠ .dead->One u):=⟨trivial,λh=>absurd rfl h⟩
  have hname:∀n,loc.bind (joh K)=B n->∀(hu:(x = .nil)\/∃k,x = .ol k),j08 S w γ' (j0Q np K s).bx (.ol n) u/\(Leaf.ol n ≠ .dead->One u):=by
   intro n hn hu;cases loc with
   |none=>simp at hn
   |some l=>
    simp only[j4]at hn;have hat:=hloc l rfl;obtain⟨j,y,hy,hyn,hly⟩:=jq4 hn;obtain⟨it,src,_,⟨xs,f,f',hlists,hit,hsrc⟩,hbn,hgn⟩:=hNm j y hy;obtain⟨_,hall⟩:=je7 hlists;obtain⟨xs',f1,hla⟩:=hall l hly;have hone:One u:=h1 (by rcases hu with rfl|⟨k,rfl⟩<;>simp);rw[hyn]at hbn hgn;refine⟨⟨by rw[hbn,hit];simp[joj],hone,λb _=>?_⟩,λ_=>hone⟩;rw[hgn];rcases jgH hla with⟨rfl,_,_,hnil⟩|⟨k0,rfl,hol,hbk⟩
    .rw[hat]at hnil;subst hnil;exact hl
    .rw[hat]at hol;subst hol;exact hl.2.2 _ hbk
  cases x with
  |dead=>exact hdead
  |nil=>
   simp only[jhl];split
   .rename_i n hn;exact hname n hn (.inl rfl)
   .exact⟨hl,h1⟩
  |d t v=>exact⟨hl,h1⟩
  |ip ls=>exact⟨hl,h1⟩
  |clo f caps=>exact⟨hl,h1⟩
  |ep k i c=>
   simp only[jhl];split
   .rename_i hk;simp only[À]at hk;obtain⟨hb1,hb2⟩:=hB k (by simpa using hk.1);refine⟨⟨by rw[hb1];exact jbA,hl.2.1,λb hb=>?_⟩,λ_=>hl.2.1⟩;rw[hb1]at hb;obtain⟨b0,hb0,hs0⟩:=jbz hb;have h3:=hl.2.2 b0 hb0;rw[hb2]
    cases b0<;>cases b<;>simp only[j1W]at hs0<;>first
     |exact hs0.elim
     |exact h3.elim
     |(obtain⟨rfl,rfl,hl'⟩:=hs0;simp only at h3 ⊢;obtain⟨hm,h3⟩:=h3;rw[<-hl' hm];exact⟨hm,h3⟩)
     |(obtain⟨rfl,rfl⟩:=hs0;exact h3)
     |(obtain⟨rfl,rfl,rfl⟩:=hs0;exact h3)
     |(obtain⟨rfl,rfl,hm,hn⟩:=hs0;simp only at h3 ⊢;rw[<-hn];exact h3)
   .exact hdead
  |tl k i=>
   simp only[jhl];split
   .rename_i hk;obtain⟨hb1,hb2⟩:=hB k (by simpa using hk);refine⟨⟨by rw[hb1];exact jbA,hl.2.1,λb hb=>?_⟩,λ_=>hl.2.1⟩;rw[hb1]at hb;obtain⟨b0,hb0,hs0⟩:=jbz hb;have h3:=hl.2.2 b0 hb0;rw[hb2]
    cases b0<;>cases b<;>simp only[j1W]at hs0<;>first
     |exact hs0.elim
     |exact h3.elim
     |(obtain⟨rfl,rfl,hl'⟩:=hs0;simp only at h3 ⊢;obtain⟨hm,h3⟩:=h3;rw[<-hl' hm];exact⟨hm,h3⟩)
   .exact hdead
  |hd k i=>
   simp only[jhl];split
   .rename_i hk;obtain⟨hb1,hb2⟩:=hB k (by simpa using hk);refine⟨⟨by rw[hb1];exact jbA,hl.2.1,λb hb=>?_⟩,λ_=>hl.2.1⟩;rw[hb1]at hb;obtain⟨b0,hb0,hs0⟩:=jbz hb;have h3:=hl.2.2 b0 hb0;rw[hb2]
    cases b0<;>cases b<;>simp only[j1W]at hs0<;>first
     |exact hs0.elim
     |exact h3.elim
     |(obtain⟨rfl,rfl,hl'⟩:=hs0;simp only at h3 ⊢;obtain⟨hm,h3⟩:=h3;rw[<-hl' hm];exact⟨hm,h3⟩)
   .exact hdead
  |ol k=>
   simp only[jhl];split
   .rename_i hk;obtain⟨hb1,hb2⟩:=hB k (by simpa using hk);refine⟨⟨by rw[hb1];exact jbA,hl.2.1,λb hb=>?_⟩,λ_=>hl.2.1⟩;rw[hb1]at hb;obtain⟨b0,hb0,_⟩:=jbz hb;rw[hb2];exact hl.2.2 b0 hb0
   .split
    .rename_i n hn;exact hname n hn (.inr ⟨k,rfl⟩)
    .exact hdead
  |bp k c=>
   simp only[jhl];split
   .rename_i hk;obtain⟨hb1,hb2⟩:=hB k (by simpa using hk);refine⟨⟨by rw[hb1];exact jbA,hl.2.1,λb hb=>?_⟩,λ_=>hl.2.1⟩;rw[hb1]at hb;obtain⟨b0,hb0,_⟩:=jbz hb;rw[hb2];exact hl.2.2 b0 hb0
   .exact hdead
 have hsrcbox:∀n b,(j0Q np K s).bx n = .live b->(n∈K.boxes/\γ' n=γ n/\∃b0,σ.bx n = .live b0)\/(blk (γ' n)=Ã)\/
   ∃(j:G)(x:jin)(k:G)(b0:Bx),K.lists[j]? = B x/\x.name=n/\srcs[j]? = B (B k)/\γ' n=γ k/\σ.bx k = .live b0/\k∉K.boxes/\parK np k=false:=by
  intro n b hb;rcases hF n b hb with hn|⟨j,x,hx,rfl⟩
  .obtain⟨h1,h2⟩:=hB n hn;rw[h1]at hb;obtain⟨b0,hb0,_⟩:=jbz hb;exact .inl ⟨hn,h2,b0,hb0⟩
  .obtain⟨it,src,hsrc,⟨xs,f,f',hlists,hit,hk0⟩,hbn,hgn⟩:=hNm j x hx;obtain⟨⟨l,_,hla⟩,_⟩:=je7 hlists;rcases jgH hla with⟨rfl,_,_,_⟩|⟨k,rfl,_,hbk⟩
   .exact .inr (.inl (by rw[hgn];rfl))
   .obtain⟨_,h2,h3⟩:=hk0 k rfl;exact .inr (.inr ⟨j,x,k,_,hx,rfl,hsrc,hgn,hbk,h2,h3⟩)
 refine⟨γ',⟨hR.size,hR.defers,?_,?_,?_,?_,hR.ext,hR.new,hR.here,hR.below,hR.grow,hR.os,hR.tape,hR.output,?_,λg o h=>⟨(hR.kept g o h).1,λn b hb hbk=>by
  have hno:=(hR.kept g o h).2;rcases hsrcbox n b hb with⟨_,e,b0,hb0⟩|e|⟨j,x,k,b0,_,_,_,e,hb0,_⟩
  .rw[e]at hbk;exact hno n b0 hb0 hbk
  .rw[e]at hbk;simp at hbk
  .rw[e]at hbk;exact hno k b0 hb0 hbk⟩,hR.fix⟩,?_⟩
 ·-- slots
  intro i
  have hsl:(j0Q np K s).sl i=match K.slots.idxOf? i with
   |some j=>jpT s[j]?
   |none=> .one (.one .dead):=rfl
  rw[hsl];cases hq:K.slots.idxOf? i with
  |none=>exact⟨trivial,λh=>absurd rfl h⟩
  |some j=>
   have hj:=j8j hq;have hitem:s[j]? = B (.s (jxv K i (σ.sl i))):=by rw[<-hs,ã (by simp;exact(List.getElem?_eq_some_iff.1 hj).1)];simp[hj]
   simp only[hitem,jpT];have hsr:=hR.slot i;show j0m S w γ' (j0Q np K s).bx (jxv K i (σ.sl i)) _;cases hs1:σ.sl i with
   |tup l=>exact⟨trivial,λh=>absurd rfl h⟩
   |cnd x y z=>exact⟨trivial,λh=>absurd rfl h⟩
   |und=>exact⟨trivial,λh=>absurd rfl h⟩
   |one c=>
    rw[hs1]at hsr;cases c with
    |one x=>exact hleaf (B (.slot i)) x _ hsr.1 hsr.2 (λl hl=>by simp at hl;subst hl;simp[jjh,hs1])
    |st ls=>
     obtain⟨cs,hu,hall,h1⟩:=hsr;refine⟨cs,hu,?_,h1⟩;refine All2.map_left.2 ?_
     have:∀{ls:H Leaf}{cs:H Y},All2 (j08 S w γ σ.bx) ls cs->(∀u∈cs,One u)->All2 (λx u=>j08 S w γ' (j0Q np K s).bx (jhl K Ã x) u) ls cs:=by
      intro ls;induction ls with
      |nil=>intro cs h _;cases cs with|nil=>trivial|cons _ _=>exact h.elim
      |cons x ls ih=>
       intro cs h h1;cases cs with
       |nil=>exact h.elim
       |cons u cs=>exact⟨(hleaf Ã x u h.1 (λ_=>h1 u smp_) smp_).1,ih h.2 (λv hv=>h1 v (by simp[hv]))⟩
     exact this hall h1
    |av n b xs=>obtain⟨cs,hu,hrep⟩:=hsr;exact⟨cs,hu,hrep⟩
 ·-- boxes
  intro n b hb;rcases hF n b hb with hn|⟨j,x,hx,rfl⟩
  .obtain⟨h1,h2⟩:=hB n hn;rw[h1]at hb;unfold joi at hb;split at hb
   .rename_i ls frz hbx0;simp only[BS.live.injEq]at hb;subst hb;obtain⟨g,cur,e,q1,q2,q3,q4,q5,q6⟩:=hR.box n _ hbx0;have hlz:(ls.zipIdx.map λx=>jhl K (if frz=X then Ã else B (Loc.cell n x.2)) x.1).length=ls.length:=smp_;refine⟨g,cur,e,h2.trans q1,q2,?_,by rw[hlz];exact q4,q5,q6⟩;rw[hlz];refine jiC 0 (λj x u hx hu=>?_) q3.length;obtain⟨u',hu',hxu⟩:=q3.get j x hx;rw[hu]at hu';simp at hu';subst hu';refine(hleaf _ x u hxu (λ_=>q4 u (È hu)) (λl hl=>?_)).1;cases frz with
    |true=>simp at hl
    |false=>simp at hl;subst hl;simp[jjh,hbx0,hx]
   .rename_i m t xs hbx0;simp only[BS.live.injEq]at hb;subst hb;obtain⟨g,cur,e,q1,q2,q3,q4⟩:=hR.box n _ hbx0;exact⟨g,cur,e,h2.trans q1,q2,q3,q4⟩
   .rename_i e t xs frz hbx0;simp only[BS.live.injEq]at hb;subst hb;obtain⟨q1,q3⟩:=hR.box n _ hbx0;exact⟨by rw[h2];exact q1,by rw[h2];exact q3⟩
   .rename_i e t m ls hbx0;simp only[BS.live.injEq]at hb;subst hb;obtain⟨q1,⟨cs,q2,q3,q4⟩,q5⟩:=hR.box n _ hbx0;refine⟨q1,⟨cs,by rw[h2];exact q2,?_,q4⟩,by rw[h2];exact q5⟩;refine jiC 0 (λj x u hx hu=>?_) q3.length;obtain⟨u',hu',hxu⟩:=q3.get j x hx;rw[hu]at hu';simp at hu';subst hu';exact(hleaf _ x u hxu (λ_=>q4 u (È hu)) (λl hl=>by simp at hl;subst hl;simp[jjh,hbx0,hx])).1
   .simp at hb
  .obtain⟨it,src,hsrc,⟨xs,f,f',hlists,hit,hk0⟩,hbn,hgn⟩:=hNm j x hx;obtain⟨⟨l,_,hla⟩,_⟩:=je7 hlists;rw[hbn,hit]at hb;simp only[joj,BS.live.injEq]at hb;subst hb;rcases jgH hla with⟨rfl,hnm,rfl,_⟩|⟨k,rfl,_,hbk⟩
   .refine jip hnm ⟨[],?_,trivial,λg hg=>?_⟩
    .rw[hgn];exact⟨smp_,.inl ⟨rfl,rfl⟩⟩
    .rw[hgn]at hg;simp[blk]at hg
   .obtain⟨rfl,_,_⟩:=hk0 k rfl;obtain⟨q1,q3⟩:=hR.box k _ hbk;exact⟨by rw[hgn];exact q1,by rw[hgn];exact q3⟩
 ·-- own
  intro n b g hb hg;rcases hsrcbox n b hb with⟨_,h2,b0,h3⟩|h|⟨j,x,k,b0,_,_,_,h2,h3,_,h5⟩
  .rw[h2]at hg;exact hR.own n b0 g h3 hg
  .rw[h]at hg;simp at hg
  .rw[h2]at hg;rcases hR.own k b0 g h3 hg with h|h
   .exact .inl h
   .rw[h5]at h;simp at h
 ·-- apart
  intro n n' b b' g hne hb hb' hg hg';rcases hsrcbox n b hb with⟨m1,h2,b0,h3⟩|h|⟨j,x,k,b0,hx,hxn,hj,h2,h3,h4,_⟩
  .rw[h2]at hg;rcases hsrcbox n' b' hb' with⟨_,i2,b1,i3⟩|i|⟨j',x',k',b1,_,_,_,i2,i3,i4,_⟩
   .rw[i2]at hg';exact hR.apart n n' b0 b1 g hne h3 i3 hg hg'
   .rw[i]at hg';simp at hg'
   .rw[i2]at hg';exact hR.apart n k' b0 b1 g (by rintro rfl;exact i4 m1) h3 i3 hg hg'
  .rw[h]at hg;simp at hg
  .rw[h2]at hg;rcases hsrcbox n' b' hb' with⟨m1,i2,b1,i3⟩|i|⟨j',x',k',b1,hx',hxn',hj',i2,i3,i4,_⟩
   .rw[i2]at hg';exact hR.apart k n' b0 b1 g (by rintro rfl;exact h4 m1) h3 i3 hg hg'
   .rw[i]at hg';simp at hg'
   .rw[i2]at hg';by_cases hkk:k=k'
    .subst hkk;have:=jrJ hnd hj hj';subst this;rw[hx]at hx';simp at hx';subst hx';exact hne (hxn.symm.trans hxn')
    .exact hR.apart k k' b0 b1 g hkk h3 i3 hg hg'
 ·-- parameters
  intro k v hv;obtain⟨p1,p2,p3⟩:=hR.par k v hv;refine⟨p1,?_,?_⟩
  .by_cases hk:k∈K.boxes
   .rw[(hB k hk).1];exact jbA
   .rw[hbx]
    have hq0:K.boxes.idxOf? k=none:=by
     cases hq:K.boxes.idxOf? k with
     |none=>rfl
     |some i=>exact absurd (È (j8j hq)) hk
    simp only[hq0];split
    .rename_i j hq;have hj:=j8j hq;simp only[õ]at hj;cases hx:K.lists[j]? with
     |none=>simp[hx]at hj
     |some x=>simp[hx]at hj;have:=hnpar j x hx;rw[hj,p1]at this;simp at this
    .simp[p1]
  .by_cases hk:k∈K.boxes
   .rw[(hB k hk).2];exact p3
   .have hq0:K.boxes.idxOf? k=none:=by
     cases hq:K.boxes.idxOf? k with
     |none=>rfl
     |some i=>exact absurd (È (j8j hq)) hk
    simp only[γ',hq0];split
    .rename_i j hq;have hj:=j8j hq;simp only[õ]at hj;cases hx:K.lists[j]? with
     |none=>simp[hx]at hj
     |some x=>simp[hx]at hj;have:=hnpar j x hx;rw[hj,p1]at this;simp at this
    .exact p3
 .intro i;show ((match K.slots.idxOf? i with|some j=>jpT s[j]?|none=>Slot.one (.one .dead)):Slot).bare=X;split
  .unfold jpT;split<;>rfl
  .rfl
theorem j6Q{K:Keep}{s:Snap}(hR:Rel N np S0 w0 refs σ a w S γ)(hc:j2z σ)(hs:j7e np K σ=B s):∃S' γ',Rel N np S0 w0 refs (j0Q np K s) a w S' γ'/\j2z (j0Q np K s):=by
 unfold j7e at hs;split at hs
 .rename_i σ2 h2;obtain⟨S2,hR2,hc2⟩:=jks _ _ _ _ hR hc h2;obtain⟨γ',hR3,hc3⟩:=jxS hR2 hs;exact⟨S2,γ',hR3,hc3⟩
 .simp at hs
def RdLe(rd rd':G->BS):Prop:=∀k,rd k=rd' k\/rd k = .gone
theorem RdLe.live{rd rd':G->BS}(h:RdLe rd rd'){k:G}{b:Bx}(hk:rd k = .live b):rd' k = .live b:=by
 rcases h k with h|h;all_goals simp_all
theorem RdLe.free{rd rd':G->BS}(h:RdLe rd rd'){k:G}(hk:j6s (rd k)=X):j6s (rd' k)=true:=by
 rcases h k with h|h;all_goals grind[j6s]
theorem RdLe.isLive{rd rd':G->BS}(h:RdLe rd rd'){k:G}(hk:isLive (rd k)=X):isLive (rd' k)=true:=by
 rcases h k with h|h;all_goals grind[Lft.isLive]
theorem RdLe.rdf{rd rd':G->BS}(h:RdLe rd rd')(np:G):RdLe (λk=>if parK np k then .gone else rd k) (λk=>if parK np k then .gone else rd' k):=by
 intro k;dsimp only;split
 .exact .inl rfl
 .exact h k
theorem RdLe.msk{rd rd':G->BS}(h:RdLe rd rd'):RdLe (mskM rd) (mskM rd'):=by
 intro k;rcases h k with h|h;all_goals grind[mskM]
theorem jnf(M:H G)(rd:G->BS):RdLe (jcn M rd) rd:=by
 intro k;grind[jcn]
section
variable{rd rd':G->BS}(hle:RdLe rd rd')
include hle
theorem jq5{t:Ty}{l:Leaf}{x}(h:jb5 rd t l=B x):jb5 rd' t l=B x:=by
 unfold jb5 at h ⊢;split at h
 .exact h
 .exact h
 .split at h
  .rename_i hk;rw[hle.live hk];exact h
  .simp at h
 .simp at h
theorem juF{l:Leaf}{n:G}(h:lenL rd l=B n):lenL rd' l=B n:=by
 unfold lenL at h ⊢;split at h
 .simp at h
 .exact h
 .split at h
  .rename_i hk;rw[hle.live hk];exact h
  .rename_i hk;rw[hle.live hk];exact h
  .simp at h
 .simp at h
theorem jAt{t:Ty}{l:Leaf}{x}(h:jb5 rd t l=B x):lenL rd' l=lenL rd l:=by
 cases l with
 |ol k=>
  simp only[jb5]at h;split at h
  .rename_i hk;simp only[lenL,hk,hle.live hk]
  .simp at h
 |d t' v=>cases t'<;>first|rfl|(rename_i b;cases b<;>rfl)
 |_=>rfl
theorem jms{t:Ty}{l:Leaf}{x}(h:jeU rd t l=B x):jeU rd' t l=B x:=by
 grind[jeU,jlK,juF,jAt,jq5]
theorem jkt:∀(t:Ty){ls:H Leaf}{x},gath rd t ls=B x->gath rd' t ls=B x:=by
 intro t;induction t with
 |unit=>grind[gath]
 |wrap a ih=>grind[gath]
 |pair a b iha ihb=>grind[gath]
 |arr n a ih=>grind[gath]
 |_=>intro ls x h;cases ls<;>grind[gath,jms]
theorem jgI{t:Ty}{c:Cel}{x}(h:jeD rd t c=B x):jeD rd' t c=B x:=by
 unfold jeD at h ⊢;grind[jkt]
theorem jsV{ti:TyI}{l:Leaf}{x}(h:jio rd ti l=B x):jio rd' ti l=B x:=by
 unfold jio at h ⊢;split at h
 .split at h
  .rename_i hk;rw[hle.live hk];exact h
  .rename_i hk;rw[hle.live hk];exact h
  .simp at h
 .split at h
  .rename_i hk;rw[hle.live hk];exact h
  .rename_i hk;rw[hle.live hk];exact h
  .rename_i hk;rw[hle.live hk];exact h
  .simp at h
 .exact h
 .simp at h
theorem jq6{ti:TyI}{i:G}{l:Leaf}{x}(h:jeE rd ti i l=B x):jeE rd' ti i l=B x:=by
 unfold jeE at h ⊢;split at h
 .split at h
  .split at h
   .rename_i hl;simp only[hle.isLive hl,if_true];exact h
   .simp at h
  .simp at h
 .split at h
  .split at h
   .rename_i hl;simp only[hle.isLive hl,if_true];exact h
   .simp at h
  .simp at h
 .exact h
 .simp at h
theorem jq7{ti:TyI}{l i:Leaf}{x}(h:jhi rd ti l i=B x):jhi rd' ti l i=B x:=by
 unfold jhi at h ⊢;split at h
 .split at h
  .rename_i hk;rw[hle.live hk];exact h
  .rename_i hk;rw[hle.live hk];exact h
  .simp at h
 .exact h
 .split at h
  .rename_i hk;rw[hle.live hk];exact h
  .rename_i hk;rw[hle.live hk];exact h
  .simp at h
 .split at h
  .rename_i hk;rw[hle.live hk];exact h
  .simp at h
 .simp at h
theorem jmt(a:Ty):∀{ls:H Leaf}{x},jmT rd a ls=B x->jmT rd' a ls=B x
 |[],_,h=>h
 |l::ls,x,h=>by
  simp only[jmT]at h ⊢;split at h
  .rename_i h1 h2;rw[jms hle h1,jmt a h2];exact h
  .simp at h
theorem jq8{t:O Ty}{l:Leaf}{x}(h:jhh rd t l=B x):jhh rd' t l=B x:=by
 unfold jhh at h ⊢;split at h
 .split at h
  .split at h
   .rename_i hi;rw[if_pos hi];split at h
    .rename_i hk;rw[hle.live hk];exact h
    .simp at h
   .simp at h
  .simp at h
 .simp at h
theorem jq9{ti:TyI}{l:Leaf}{c:Cel}(h:jhh rd ti.ty l=Ã)(hc:jio rd ti l=B c):jhh rd' ti.ty l=none:=by
 unfold jhh at h ⊢;split at h
 .rename_i k;split at h
  .rename_i m el hty;split at h
   .rename_i hi;rw[if_pos hi];simp only[jio]at hc;split at hc
    .rename_i ls frz hk;rw[hle.live hk]
     simp_all
    .rename_i hk;rw[hle.live hk]
    .simp at hc
   simp_all
  .rfl
 .rfl
theorem jgJ(a:Ty):∀(ps:H (G×Cel)){xs:H a.den}{u:Ups}{x},j9P rd a xs u ps=B x->j9P rd' a xs u ps=B x
 |[],_,_,_,h=>h
 |(i,c)::r,xs,u,x,h=>by
  simp only[j9P]at h ⊢;split at h
  .rename_i hd;rw[jgI hle hd];dsimp only;split at h
   .rename_i hi;simp only[hi,if_true];exact jgJ a r h
   .simp at h
  .simp at h
theorem juG{t:O Ty}{l:Leaf}{x}(h:lenC rd t l=B x):lenC rd' t l=B x:=by
 unfold lenC at h ⊢;split at h
 .exact h
 .split at h
  .rename_i hk;rw[hle.live hk];exact h
  .rename_i hk;rw[hle.live hk];exact h
  .simp at h
 .exact h
 .exact h
 .split at h
  .rename_i hk;rw[hle.live hk];exact h
  .simp at h
 .split at h
  .rename_i hk;rw[hle.live hk];exact h
  .simp at h
 .simp at h
theorem juH{e:G}{a:Ty}{s l:Leaf}{x}(h:appH rd e a s l=B x):appH rd' e a s l=B x:=by
 unfold appH at h ⊢;split at h
 .split at h
  .rename_i hkk;rw[if_pos hkk];split at h
   .rename_i hk;rw[hle.live hk];exact h
   .simp at h
  .simp at h
 .simp at h
omit hle in
theorem juI{e e':G}{a a':Ty}{s l:Leaf}{x}(h:appS rd e a s=B x):appH rd' e' a' s l=none:=by
 unfold appS at h;split at h
 .rfl
 .rfl
 .simp at h
omit hle in
theorem juJ{fr fr':Ë}(hf:fr=X->fr'=X){e:G}{a:Ty}{n len:G}{ps:H (G×Cel)}{x}(h:one1 fr e a n len ps=B x):one1 fr' e a n len ps=B x:=by
 unfold one1 at h ⊢;grind
omit hle in
theorem juK{rdf rdf':G->BS}(hlf:RdLe rdf rdf'){e:G}{a:Ty}{l:Leaf}{x}(h:rowS rdf e a l=B x):rowS rdf' e a l=B x:=by
 unfold rowS at h ⊢;split at h
 .exact h
 .split at h
  .rename_i hk;rw[hlf.live hk];exact h
  .simp at h
 .simp at h
theorem juL{rdf rdf':G->BS}(hlf:RdLe rdf rdf'){e:G}{a:Ty}{n:G}{s l:Leaf}{x}(h:appN rd rdf e a n s l=B x):appN rd' rdf' e a n s l=B x:=by
 unfold appN at h ⊢;split at h
 .split at h
  .rename_i hk;rw[hlf.live hk];dsimp only;split at h
   .rename_i hr;rw[juK hlf hr];dsimp only;split at h
    .rename_i hc;rw[if_pos ⟨hc.1,hc.2.1,hc.2.2.1,hle.free hc.2.2.2⟩];exact h
    .simp at h
   .simp at h
  .simp at h
 .simp at h
omit hle in
theorem jsW{rdf:G->BS}{e e':G}{a a':Ty}{n:G}{s l:Leaf}{x}(h:appN rd rdf e a n s l=B x):appH rd' e' a' s l=none:=by
 unfold appN at h;grind[appH]
omit hle in
theorem juM{rdf' rd0:G->BS}(hsub:∀k,rdf' k = .gone\/rdf' k=rd0 k){e:G}{a a':Ty}{n:G}{s l:Leaf}{x}(h:appX rd0 a l=B x):appN rd rdf' e a' n s l=none:=by
 unfold appN;grind[appX]
theorem jqa{ti:TyI}{l m:Leaf}{lo hi:O Leaf}{x}(h:jm9 rd ti l lo hi m=B x):jm9 rd' ti l lo hi m=B x:=by
 unfold jm9 at h ⊢;split at h
 .split at h
  .rename_i hk;rw[hle.live hk];exact h
  .simp at h
 .simp at h
theorem juN{e:G}{a:Ty}{l:Leaf}{x}(h:appS rd e a l=B x):appS rd' e a l=B x:=by
 unfold appS at h ⊢;split at h
 .split at h
  .rename_i hk;rw[hle.live hk];exact h
  .simp at h
 .exact h
 .simp at h
theorem jku{a:Ty}{l:Leaf}{x}(h:appX rd a l=B x):appX rd' a l=B x:=by
 unfold appX at h ⊢;split at h
 .split at h
  .rename_i hk;rw[hle.live hk];exact h
  .simp at h
 .exact h
 .exact h
 .split at h
  .rename_i hk;rw[hle.live hk];exact h
  .simp at h
 .simp at h
theorem jsX{t:O Ty}{l m:Leaf}{x}(h:jsA rd t l m=B x):jsA rd' t l m=B x:=by
 unfold jsA at h ⊢;split at h
 .split at h
  .rename_i hk;rw[hle.live hk];grind[jku]
  .simp at h
 .simp at h
theorem jqb{t:O Ty}{l:Leaf}{x}(h:jma rd t l=B x):jma rd' t l=B x:=by
 unfold jma at h ⊢;split at h
 .split at h
  .rename_i hk;rw[hle.live hk];exact h
  .simp at h
 .simp at h
theorem jjM:∀(ls:H Leaf){x},tvs rd ls=B x->tvs rd' ls=B x
 |[],_,h=>h
 |l::ls,x,h=>by
  simp only[tvs]at h ⊢;split at h
  .rename_i hr;rw[jjM ls hr];dsimp only;split at h
   .exact h
   .split at h
    .rename_i hk;rw[hle.live hk];exact h
    .simp at h
   .simp at h
  .simp at h
theorem jmu:∀(cs:H Cel){x},jod rd cs=B x->jod rd' cs=B x
 |[],_,h=>h
 |c::cs,x,h=>by
  simp only[jod]at h ⊢;split at h
  .rename_i hr;rw[jmu cs hr];dsimp only;split at h
   .exact h
   .split at h
    .rename_i hk;rw[hle.live hk];dsimp only;split at h
     .rename_i ht;rw[jjM hle _ ht];exact h
     .simp at h
    .simp at h
   .simp at h
  .simp at h
end
theorem jqc{rd rd' rdf rdf':G->BS}(hle:RdLe rd rd')(hlf:RdLe rdf rdf'){n:G}{c:Cel}{l:Leaf}{x}(h:jje rd rdf n c l=B x):jje rd' rdf' n c l=B x:=by
 unfold jje at h ⊢;split at h
 .split at h
  .rename_i hk;rw[hle.live hk];exact h
  .rename_i hk;rw[hle.live hk];exact h
  .simp at h
 .split at h
  .rename_i hk;rw[hle.live hk];dsimp only;split at h;all_goals grind[jkt]
  .rename_i hk;rw[hle.live hk];dsimp only;split at h;all_goals grind[jkt]
  .rename_i hk;rw[hle.live hk];exact h
  .simp at h
 .simp at h
theorem jqd{par:G->Ë}{rd rd':G->BS}(hle:RdLe rd rd'){ti:TyI}{n:G}{l:Leaf}{lo hi:O Leaf}{x}(h:jm8 par rd ti n l lo hi=B x):jm8 par rd' ti n l lo hi=B x:=by
 unfold jm8 at h ⊢;split at h
 .exact h
 .split at h
  .split at h
   .rename_i hk;rw[hle.live hk];exact h
   .simp at h
  .split at h
   .rename_i hk;rw[hle.live hk];dsimp only;split at h
    .rename_i hty;rw[if_pos hty];split at h
     .split at h
      .simp_all
      .rename_i hp;rw[if_neg hp];split at h
       .rename_i hl;rw[if_pos hl];split at h
        .rename_i hf;rw[if_pos (hle.free hf)];exact h
        .simp at h
       simp_all
     .simp at h
    .simp at h
   .simp at h
 .split at h
  .rename_i hk;rw[hle.live hk];exact h
  .simp at h
 .simp at h
theorem jsY{rd rd' rdf rdf':G->BS}(hle:RdLe rd rd')(hlf:RdLe rdf rdf'){t:O TyI}{mv rl:Ë}{c:Cel}{x}(h:joe rd rdf t mv rl c=B x):joe rd' rdf' t mv rl c=B x:=by
 unfold joe at h ⊢;split at h
 .split at h
  .rename_i hk;rw[hle.live hk];grind[jjM]
  .rename_i hk;rw[hle.live hk];grind[jjM]
  .simp at h
 .exact h
 .exact h
 .split at h
  .cases mv with
   |true=>
    simp only[j6]at h ⊢;split at h
    .rename_i hk;rw[hlf.live hk];exact h
    .simp at h
   |false=>
    simp only[j7]at h ⊢;split at h
    .rename_i hk;rw[hle.live hk];exact h
    .simp at h
  .split at h
   .rename_i hk;rw[hlf.live hk];exact h
   .simp at h
 grind[jgI]
theorem jkv{rd rd' rdf rdf':G->BS}(hle:RdLe rd rd')(hlf:RdLe rdf rdf'){T:G->O TyI}{mv:Ë}:∀(cs:H Cel){ts:H G}{ms:H Ë}{x},jeF rd rdf T mv ts ms cs=B x->jeF rd' rdf' T mv ts ms cs=B x
 |[],_,_,_,h=>h
 |c::cs,ts,ms,x,h=>by
  simp only[jeF]at h ⊢;split at h
  .rename_i ha;rw[jsY hle hlf ha];dsimp only;split at h
   .rename_i hr;rw[jkv hle hlf cs hr];exact h
   .simp at h
  .simp at h
theorem juO{rd rd' rdf rdf':G->BS}(hle:RdLe rd rd')(hlf:RdLe rdf rdf'){n m:G}{us:Ups}{fs:H Bk}{os:H Out}{x}(h:mkHd rd rdf n us fs m os=B x):mkHd rd' rdf' n us fs m os=B x:=by
 unfold mkHd at h ⊢;split at h
 .split at h
  .split at h
   .rename_i hf;simp only[À]at hf;rw[if_pos (by simp only[À];exact⟨hle.free hf.1,hlf.isLive hf.2⟩)];exact h
   .simp at h
  .simp at h
 .simp at h
theorem jsZ{rd rd' rdf rdf':G->BS}(hle:RdLe rd rd')(hlf:RdLe rdf rdf'){n:G}{us:Ups}{fs:H Bk}{r:Ret}{x}(h:jpP rd rdf n us fs r=B x):jpP rd' rdf' n us fs r=B x:=by
 unfold jpP at h ⊢;split at h
 .exact juO hle hlf h
 .unfold jxt at h ⊢;split at h
  .split at h
   .rename_i hf;simp only[À]at hf;rw[if_pos (by simp only[À];exact⟨hf.1,List.all_eq_true.2 λe he=>hle.free (List.all_eq_true.1 hf.2 e he)⟩)];exact h
   .simp at h
  .simp at h
 .split at h
  .split at h
   .split at h
    .rename_i hf;rw[if_pos (List.all_eq_true.2 λe he=>hle.free (List.all_eq_true.1 hf e he))];exact h
    .simp at h
   .simp at h
  .simp at h
inductive ActLe:Act->Act->Prop
 |val (chk:Ë) (s:Slot) (u:Ups):ActLe (.val chk s u) (.val chk s u)
 |call (f:G) (args:H Arg) (mk mk':Ret->O (Slot×Ups)):(∀r x,mk r=B x->mk' r=B x)->ActLe (.call f args mk) (.call f args mk')
theorem ActLe.refl(x:Act):ActLe x x:=by cases x with
 |val chk s u=>exact .val chk s u
 |call f args mk=>exact .call f args mk mk λ_ _ h=>h
theorem jmv{x y:O Leaf}(h:∀z,x=B z->y=B z){r:Act}(hr:jgD x=B r):jgD y=B r:=by
 cases x<;>grind[jgD]
theorem juP{x y:O (Ë×Leaf)}(h:∀z,x=B z->y=B z){r:Act}(hr:oChk x=B r):oChk y=B r:=by
 cases x<;>grind[oChk]
theorem joK{rd rd':G->BS}(hle:RdLe rd rd'){t:G}{k v:Ty}{x y:Leaf}{z}(h:mapC rd t k v x y=B z):mapC rd' t k v x y=B z:=by
 unfold mapC at h ⊢;split at h
 .split at h
  .rename_i hb;simp only[hle.live hb];exact h
  .simp at h
 .simp at h
theorem jmw{E:Env}{ev:î->Slot}{rd rd':G->BS}(hl0:RdLe rd rd'){act:H (G×Ë)}{o:É}{A:Act}(h:j5h E ev rd act o=B A):∃A',j5h E ev rd' act o=B A'/\ActLe A A':=by
 have hle:=hl0.msk;have hlf:=hle.rdf E.np;have hsub:∀k,(if parK E.np k then BS.gone else mskM rd' k) = .gone\/(if parK E.np k then BS.gone else mskM rd' k)=mskM rd' k:=λk=>by grind
 have same:j5h E ev rd' act o=B A->∃A',j5h E ev rd' act o=B A'/\ActLe A A':=λh=>⟨A,h,.refl A⟩;obtain⟨dst,op,type,pos,after,guard⟩:=o;cases op
 case alloc t=>
  refine same ?_;simp only[j5h]at h ⊢;split at h
  .split at h
   .rename_i hf;simp only[hle.free hf,if_true];exact h
   .simp at h
  .simp at h
 case box t x=>
  refine same ?_;simp only[j5h]at h ⊢;split at h
  .rename_i hf;simp only[hle.free hf,if_true];exact h
  .simp at h
 case build t ps=>grind[j5h,jgJ]
 case buildSlice t n ps=>
  refine same ?_;simp only[j5h]at h ⊢;split at h
  .split at h
   .split at h
    .rename_i hb1;rw[if_pos hb1];exact juJ hle.free h
    rename_i hb1;rw[if_neg hb1];split at h
    .simp at h
    .rename_i hn;simp only[hn,if_false];split at h
     .rename_i hb;rw[jgJ hlf _ _ hb];dsimp only;split at h
      .rename_i hf;simp only[hle.free hf,if_true];exact h
      .simp at h
     .simp at h
   .simp at h
  .simp at h
 case load t x=>
  refine same ?_;simp only[j5h]at h ⊢;split at h
  .split at h
   .grind[jq8,jmt]
   .rename_i hla;cases hlc:jio (mskM rd) _ (lf ((ev x).cel act)) with
    |none=>rw[hlc]at h;simp[oCel]at h
    |some c=>grind[jq9,jsV]
  .simp at h
 case store t x y=>grind[j5h,jqc]
 case nilCheck x=>
  refine same ?_;simp only[j5h]at h ⊢;split at h
  .split at h
   .rename_i hl;simp only[hle.isLive hl,if_true];exact h
   .simp at h
  .split at h
   .rename_i hl;simp only[hle.isLive hl,if_true];exact h
   .simp at h
  .exact h
  .simp at h
 case makeFunc fn first captured=>refine same ?_;cases fn<;>grind[j5h,jmu]
 case fieldAddr t x i=>grind[j5h,jmv,jq6]
 case indexAddr t x i=>grind[j5h,juP,jq7]
 case call c=>
  simp only[j5h]at h ⊢;cases hc:c.callee with
  |invoke r m=>simp[hc]at h
  |value f=>
   simp only[hc]at h ⊢;split at h
   .split at h
    .rename_i ha;rw[jkv hl0 hlf _ ha];dsimp only;split at h
     .rename_i hb;simp only[hb,if_true];simp only[j5]at h;subst h;exact⟨_,rfl,.call _ _ _ _ λr x hx=>jsZ hle hlf hx⟩
     .simp at h
    .simp at h
   .simp at h
  |builtin b=>
   simp only[hc]at h ⊢;cases b
   case len=>refine⟨A,?_,.refl A⟩;grind[jmv,juG]
   case append=>
    refine⟨A,?_,.refl A⟩;dsimp only at h ⊢;split at h
    .split at h
     .rename_i ht;rw[if_pos ht];split at h
      .split at h
       .rename_i hty;split at h
        .grind[juH]
        split at h
        .grind[jsW,juL]
        split at h
        .rename_i h1 h2;rw[juI h1];dsimp only;rw[juM hsub (jku hle h2),juN hlf h1,jku hle h2];dsimp only;split at h
         .rename_i hf;simp only[hle.free hf,if_true];exact h
         .simp at h
        .simp at h
       .simp at h
      .simp at h
     .simp at h
    .simp at h
   case copy=>refine⟨A,?_,.refl A⟩;grind[jsX]
   case clear=>refine⟨A,?_,.refl A⟩;dsimp only at h ⊢;split at h;all_goals grind[jqb]
   all_goals exact⟨A,h,.refl A⟩
 case slice t x lo hi mx=>refine same ?_;cases mx<;>grind[j5h,jqa,jqd]
 case makeMap t x=>
  refine same ?_;cases x with
  |some m=>simp[j5h]at h
  |none=>
   simp only[j5h]at h ⊢;split at h
   .split at h
    .rename_i hf;simp only[hle.free hf,if_true];exact h
    .simp at h
   .simp at h
 case lookup t x i ok=>grind[j5h,joK]
 case mapUpdate t x i y=>grind[j5h,joK,jgI]
 all_goals exact⟨A,h,.refl A⟩
def CFun(C:G->H Arg->(R:Type)->(Ret->O R)->O R):Prop:=
 ∀f args,∃o:O Ret,∀(R:Type)(k:Ret->O R),C f args R k=o.bind k
theorem jkw{E:Env}{ev ev':î->Slot}{rd:G->BS}{act:H (G×Ë)}{o:É}(h:∀x∈o.op.operands,ev x=ev' x):j5h E ev rd act o=j5h E ev' rd act o:=by
 have pairs:∀ps:Ä (G×î),(∀x∈ps.toList.map (·.2),ev x=ev' x)->
   (ps.toList.map λp=>(p.1,(ev p.2).cel act))=(ps.toList.map λp=>(p.1,(ev' p.2).cel act)):=λps hp=>
  List.map_congr_left λp hm=>by simp only[hp p.2 (List.mem_map.2 ⟨p,hm,rfl⟩)]
 have args:∀ps:Ä î,(∀x∈ps,ev x=ev' x)->(ps.toList.map λp=>(ev p).cel act)=(ps.toList.map λp=>(ev' p).cel act):=λps hp=>
  List.map_congr_left λp hm=>by rw[hp p (by simpa using hm)]
 obtain⟨dst,op,type,pos,after,guard⟩:=o;cases op<;>simp only[Op.operands]at h<;>simp only[j5h]
 case build t ps=>rw[pairs ps λx hx=>h x (by simpa using hx)]
 case buildSlice t n ps=>rw[pairs ps λx hx=>h x (by simpa using hx)]
 case makeFunc fn first captured=>
  have e:=args captured λx hx=>h x (by simp[hx]);cases fn with
  |func f=>simp only[e]
  |_=>rfl
 case call c=>
  have ha:=args c.args (λx hx=>h x (by simp[Call.operands,hx]));have hx1:∀x∈c.args.toList,ev x=ev' x:=λx hx=>h x (by simp[Call.operands];right;simpa using hx);simp only[ha];cases hc:c.callee with
  |value f=>have hf:ev f=ev' f:=h f (by simp[Call.operands,hc]);simp only[hf]
  |invoke r m=>rfl
  |builtin b=>
   cases b<;>simp only
   case len=>
    split
    .rename_i x t hxs hts;have:=hx1 x (by rw[hxs];simp);simp only[this]
    .rfl
   case append=>
    split
    .rename_i t t' s x hts hxs;have e1:=hx1 s (by rw[hxs];simp);have e2:=hx1 x (by rw[hxs];simp);simp only[e1,e2]
    .rfl
   case copy=>
    split
    .rename_i t t' s x hts hxs;have e1:=hx1 s (by rw[hxs];simp);have e2:=hx1 x (by rw[hxs];simp);simp only[e1,e2]
    .rfl
   case clear=>
    split
    .rename_i t x hts hxs;have e1:=hx1 x (by rw[hxs];simp);simp only[e1]
    .rfl
 case slice t x lo hi mx=>
  have e1:=h x smp_
  have eo:∀y:O î,(∀z,y=B z->ev z=ev' z)->(y.map λx=>lf ((ev x).cel act))=(y.map λx=>lf ((ev' x).cel act)):=by
   intro y hy;cases y with
   |none=>rfl
   |some z=>simp only[Option.map_some,hy z rfl]
  have e2:=eo lo (λz hz=>h z (by simp[hz]));have e3:=eo hi (λz hz=>h z (by simp[hz]));cases mx with
  |some m=>have e4:=h m smp_;simp only[e1,e2,e3,e4]
  |none=>simp only[e1,e2,e3]
 case makeMap t x=>cases x<;>rfl
 all_goals (first|rfl|(simp_all;done))
def ShEq:BS->BS->Prop
 |.live (.cell _ _),.live (.cell _ _)=>True
 |.live (.lst e a xs _),.live (.lst e' a' xs' _)=>e=e'/\a=a'/\xs.length=xs'.length
 |.live (.arr n a _),.live (.arr n' a' _)=>n=n'/\a=a'
 |.live (.row e a n _),.live (.row e' a' n' _)=>e=e'/\a=a'/\n=n'
 |.free,.free=>True
 |.gone,.gone=>True
 |_,_=>False
theorem ShEq.refl:∀b:BS,ShEq b b
 |.live (.cell _ _)=>trivial
 |.live (.lst _ _ _ _)=>⟨rfl,rfl,rfl⟩
 |.live (.arr _ _ _)=>⟨rfl,rfl⟩
 |.live (.row _ _ _ _)=>⟨rfl,rfl,rfl⟩
 |.free=>trivial
 |.gone=>trivial
theorem ShEq.symm{b c:BS}(h:ShEq b c):ShEq c b:=by
 cases b with
 |free=>cases c<;>simp_all[ShEq]
 |gone=>cases c<;>simp_all[ShEq]
 |live b=>
  cases c with
  |free=>cases b<;>simp[ShEq]at h
  |gone=>cases b<;>simp[ShEq]at h
  |live c=>
   cases b<;>cases c<;>simp only[ShEq]at h ⊢
   .exact⟨h.1.symm,h.2.1.symm,h.2.2.symm⟩
   .exact⟨h.1.symm,h.2.symm⟩
   .exact⟨h.1.symm,h.2.1.symm,h.2.2.symm⟩
theorem ShEq.trans{b c d:BS}(h:ShEq b c)(h':ShEq c d):ShEq b d:=by
 cases b with
 |free=>cases c with
  |free=>exact h'
  |gone=>simp[ShEq]at h
  |live c=>cases c<;>simp[ShEq]at h
 |gone=>cases c with
  |gone=>exact h'
  |free=>simp[ShEq]at h
  |live c=>cases c<;>simp[ShEq]at h
 |live b=>cases c with
  |free=>cases b<;>simp[ShEq]at h
  |gone=>cases b<;>simp[ShEq]at h
  |live c=>cases d with
   |free=>cases c<;>simp[ShEq]at h'
   |gone=>cases c<;>simp[ShEq]at h'
   |live d=>
    cases b<;>cases c<;>simp only[ShEq]at h<;>cases d<;>simp only[ShEq]at h' ⊢
    .exact⟨h.1.trans h'.1,h.2.1.trans h'.2.1,h.2.2.trans h'.2.2⟩
    .exact⟨h.1.trans h'.1,h.2.trans h'.2⟩
    .exact⟨h.1.trans h'.1,h.2.1.trans h'.2.1,h.2.2.trans h'.2.2⟩
theorem ShEq.mask{rd rd':G->BS}{M:H G}(h:∀k,M.contains k=U->ShEq (rd k) (rd' k))(k:G):ShEq (jcn M rd k) (jcn M rd' k):=by
 unfold jcn;split
 .trivial
 .rename_i hc;exact h k (by simpa using hc)
theorem jhq{b c:BS}(h:ShEq b c):isLive b=isLive c:=by
 cases b with
 |free=>cases c<;>simp_all[ShEq,isLive]
 |gone=>cases c<;>simp_all[ShEq,isLive]
 |live b=>cases c with
  |free=>cases b<;>simp[ShEq]at h
  |gone=>cases b<;>simp[ShEq]at h
  |live c=>rfl
theorem juQ{rd rd':G->BS}(h:∀k,ShEq (rd k) (rd' k))(ti:TyI)(l i:Leaf):jhi rd ti l i=jhi rd' ti l i:=by
 unfold jhi;split
 .rename_i k _ _;have hk:=h k;generalize rd k=b at hk;generalize rd' k=c at hk;cases b with
  |free=>cases c<;>simp_all[ShEq]
  |gone=>cases c<;>simp_all[ShEq]
  |live b=>cases c with
   |free=>cases b<;>simp[ShEq]at hk
   |gone=>cases b<;>simp[ShEq]at hk
   |live c=>
    cases b with
    |lst e a xs f=>cases c with
     |lst e' a' xs' f'=>simp only[ShEq]at hk;obtain⟨rfl,rfl,hl⟩:=hk;dsimp only;rw[hl]
     |cell _ _=>simp[ShEq]at hk
     |arr _ _ _=>simp[ShEq]at hk
     |row _ _ _ _=>simp[ShEq]at hk
    |cell _ _=>cases c<;>first|rfl|(simp[ShEq]at hk)
    |arr _ _ _=>cases c<;>first|rfl|(simp[ShEq]at hk)
    |row e a n _=>cases c with
     |row e' a' n' _=>simp only[ShEq]at hk;obtain⟨rfl,rfl,rfl⟩:=hk;rfl
     |_=>simp[ShEq]at hk
 .rfl
 .rename_i k _ _;have hk:=h k;generalize rd k=b at hk;generalize rd' k=c at hk;cases b with
  |free=>cases c<;>simp_all[ShEq]
  |gone=>cases c<;>simp_all[ShEq]
  |live b=>cases c with
   |free=>cases b<;>simp[ShEq]at hk
   |gone=>cases b<;>simp[ShEq]at hk
   |live c=>
    cases b with
    |arr n a xs=>cases c with
     |arr n' a' xs'=>simp only[ShEq]at hk;obtain⟨rfl,rfl⟩:=hk;rfl
     |cell _ _=>simp[ShEq]at hk
     |lst _ _ _ _=>simp[ShEq]at hk
     |row _ _ _ _=>simp[ShEq]at hk
    |cell _ _=>cases c<;>first|rfl|(simp[ShEq]at hk)
    |lst _ _ _ _=>cases c<;>first|rfl|(simp[ShEq]at hk)
    |row _ _ _ _=>cases c<;>first|rfl|(simp[ShEq]at hk)
 .rename_i k _ _ _;have hk:=h k;generalize rd k=b at hk;generalize rd' k=c at hk;cases b with
  |free=>cases c<;>simp_all[ShEq]
  |gone=>cases c<;>simp_all[ShEq]
  |live b=>cases c with
   |free=>cases b<;>simp[ShEq]at hk
   |gone=>cases b<;>simp[ShEq]at hk
   |live c=>
    cases b with
    |lst e a xs f=>cases c with
     |lst e' a' xs' f'=>simp only[ShEq]at hk;obtain⟨rfl,rfl,hl⟩:=hk;dsimp only;rw[hl]
     |cell _ _=>simp[ShEq]at hk
     |arr _ _ _=>simp[ShEq]at hk
     |row _ _ _ _=>simp[ShEq]at hk
    |cell _ _=>cases c<;>first|rfl|(simp[ShEq]at hk)
    |arr _ _ _=>cases c<;>first|rfl|(simp[ShEq]at hk)
    |row _ _ _ _=>cases c<;>first|rfl|(simp[ShEq]at hk)
 .rfl
theorem juR{rd rd':G->BS}(h:∀k,ShEq (rd k) (rd' k))(ti:TyI)(i:G)(l:Leaf):jeE rd ti i l=jeE rd' ti i l:=by
 unfold jeE;split
 .rw[jhq (h _)]
 .rw[jhq (h _)]
 .rfl
 .rfl
theorem ShEq.msk{rd rd':G->BS}{k:G}(h:ShEq (rd k) (rd' k)):ShEq (mskM rd k) (mskM rd' k):=by
 unfold mskM;generalize rd k=a at h;generalize rd' k=b at h;cases a with
 |free=>cases b<;>simp_all[ShEq]
 |gone=>cases b<;>simp_all[ShEq]
 |live a=>
  cases b with
  |free=>cases a<;>simp[ShEq]at h
  |gone=>cases a<;>simp[ShEq]at h
  |live b=>
   cases a<;>cases b<;>simp only[ShEq]at h<;>dsimp only
   .trivial
   .obtain⟨rfl,rfl,h3⟩:=h;rename_i e _ _ _ _ _;cases isM e
    .exact⟨rfl,rfl,h3⟩
    .trivial
   .exact h
   .exact h
theorem jxT{E:Env}{ev:î->Slot}{rd rd':G->BS}{act:H (G×Ë)}{o:É}(ha:jeW o=X)(h:∀k,ShEq (rd k) (rd' k)):j5h E ev rd act o=j5h E ev rd' act o:=by
 have h:∀k,ShEq (mskM rd k) (mskM rd' k):=λk=>(h k).msk;obtain⟨dst,op,type,pos,after,guard⟩:=o;cases op<;>simp only[jeW,Ï]at ha
 .simp only[j5h];split
  .rw[jhq (h _)]
  .rw[jhq (h _)]
  .rfl
  .rfl
 .simp only[j5h];split
  .rw[juR h]
  .rfl
 .simp only[j5h];split
  .rw[juQ h]
  .rfl
theorem jza:∀(u:Ups)(σ:St),(∀e∈u,ShEq (σ.bx e.1) e.2)->∀k,ShEq (σ.bx k) ((σ.upd u).bx k)
 |[],σ,_,k=>ShEq.refl _
 |e::u,σ,h,k=>by
  have h0:∀k,ShEq (σ.bx k) ((σ.setB e.1 e.2).bx k):=by
   intro k;simp only[St.setB];split
   .rename_i hk;rw[hk];exact h e smp_
   .exact ShEq.refl _
  have h1:=jza u (σ.setB e.1 e.2) (λx hx=>(h0 x.1).symm.trans (h x (by simp[hx]))) k;exact(h0 k).trans h1
def UpSh(rd:G->BS)(u:Ups):Prop:=∀e∈u,ShEq (rd e.1) e.2/\isLive e.2=X
theorem juS{rd:G->BS}{t:Ty}{l:Leaf}{v:t.den}{u:Ups}(h:jb5 rd t l=B (v,u)):UpSh rd u:=by
 unfold jb5 at h;split at h
 .split at h
  .simp only[j5,j9]at h;rw[<-h.2];intro e he;simp at he
  .simp at h
 .split at h
  .simp only[j5,j9]at h;rw[<-h.2];intro e he;simp at he
  .simp at h
 .split at h
  .rename_i hk;split at h
   .simp only[j5,j9]at h;rw[<-h.2];intro e he;simp only[ê]at he;subst he;dsimp only;rw[hk];exact⟨⟨rfl,rfl,rfl⟩,rfl⟩
   .simp at h
  .simp at h
 .simp at h
theorem jxU{rd:G->BS}{t:Ty}{l:Leaf}{v:t.den}{u:Ups}(h:jeU rd t l=B (v,u)):UpSh rd u:=by
 unfold jeU at h;split at h
 .simp only[j5,j9]at h;rw[<-h.2];intro e he;simp at he
 .exact juS h
theorem UpSh.app{rd:G->BS}{u v:Ups}(h:UpSh rd u)(h':UpSh rd v):UpSh rd (u++v):=by
 intro e he;rcases List.mem_append.1 he with he|he
 .exact h e he
 .exact h' e he
theorem juT{rd:G->BS}:∀(t:Ty){ls:H Leaf}{v:t.den}{r:H Leaf}{u:Ups},gath rd t ls=B (v,r,u)->UpSh rd u:=by
 intro t;induction t with
 |unit=>intro ls v r u h;simp only[gath,j5,j9]at h;rw[<-h.2.2];intro e he;simp at he
 |wrap a ih=>
  intro ls v r u h;simp only[gath]at h;split at h
  .rename_i hg;simp only[j5,j9]at h;rw[<-h.2.2];exact ih hg
  .simp at h
 |pair a b iha ihb=>
  intro ls v r u h;simp only[gath]at h;split at h
  .rename_i hg;split at h
   .rename_i hg2;simp only[j5,j9]at h;rw[<-h.2.2];exact(iha hg).app (ihb hg2)
   .simp at h
  .simp at h
 |arr n a ih=>intro ls v r u h;simp[gath]at h
 |_=>
  intro ls v r u h;cases ls with
  |nil=>simp[gath]at h
  |cons l ls=>
   simp only[gath]at h;split at h
   .rename_i hl;simp only[j5,j9]at h;rw[<-h.2.2];exact jxU hl
   .simp at h
theorem juU{rd rdf:G->BS}(hrdf:RdLe rdf rd){n:G}{c:Cel}{l:Leaf}{u:Ups}(h:jje rd rdf n c l=B u):UpSh rd u:=by
 have one:∀(k:G)(b b':Bx),rd k = .live b->ShEq (.live b) (.live b')->UpSh rd [(k,.live b')]:=by intro k b b' hk hs e he;simp only[ê]at he;subst he;exact⟨by rw[hk];exact hs,rfl⟩
 have lift:∀u,UpSh rdf u->UpSh rd u:=by
  intro u hu e he;obtain⟨h1,h2⟩:=hu e he;rcases hrdf e.1 with hq|hq
  .rw[hq]at h1;exact⟨h1,h2⟩
  .rw[hq]at h1;cases h3:e.2 with
   |free=>rw[h3]at h2;simp[isLive]at h2
   |gone=>rw[h3]at h2;simp[isLive]at h2
   |live b=>rw[h3]at h1;cases b<;>simp[ShEq]at h1
 unfold jje at h;split at h
 .split at h
  .rename_i hk;split at h
   .split at h
    .simp only[j5]at h;subst h;exact one _ _ _ hk trivial
    .simp at h
   .simp at h
  .rename_i hk;split at h
   .split at h
    .split at h
     .split at h
      .simp only[j5]at h;subst h;exact one _ _ _ hk ⟨rfl,rfl⟩
      .simp at h
     .simp at h
    .simp at h
   .simp at h
  .simp at h
 .split at h
  .rename_i hk;split at h
   .split at h
    .split at h
     .rename_i hg;split at h
      .simp at h
      .simp only[j5]at h;subst h;exact(lift _ (juT _ hg)).app (one _ _ _ hk ⟨rfl,rfl,smp_⟩)
     .simp at h
    .simp at h
   .simp at h
  .rename_i hk;split at h
   .split at h
    .split at h
     .rename_i hg;split at h
      .simp at h
      .simp only[j5]at h;subst h;exact(lift _ (juT _ hg)).app (one _ _ _ hk ⟨rfl,rfl⟩)
     .simp at h
    .simp at h
   .simp at h
  .rename_i hk;split at h
   .split at h
    .simp only[j5]at h;subst h;exact one _ _ _ hk ⟨rfl,rfl,rfl⟩
    .simp at h
   .simp at h
  .simp at h
 .simp at h
theorem jBN(np:G)(rd:G->BS):RdLe (λk=>if parK np k then .gone else rd k) rd:=by
 intro k;dsimp only;split
 .exact .inr rfl
 .exact .inl rfl
theorem UpSh.le{rd rd':G->BS}(hle:RdLe rd rd'){u:Ups}(h:UpSh rd u):UpSh rd' u:=by
 intro e he;obtain⟨h1,h2⟩:=h e he;rcases hle e.1 with hq|hq
 .rw[hq]at h1;exact⟨h1,h2⟩
 .rw[hq]at h1;cases h3:e.2 with
  |free=>rw[h3]at h2;simp[isLive]at h2
  |gone=>rw[h3]at h2;simp[isLive]at h2
  |live b=>rw[h3]at h1;cases b<;>simp[ShEq]at h1
theorem jAu(rd:G->BS):RdLe (mskM rd) rd:=λk=>juf k
theorem jqe{E:Env}{ev:î->Slot}{rd:G->BS}{act:H (G×Ë)}{o:É}(ho:jdW o=X){chk:Ë}{s:Slot}{u:Ups}(h:j5h E ev rd act o=B (.val chk s u)):UpSh rd u:=by
 obtain⟨dst,op,type,pos,after,guard⟩:=o;cases op<;>simp only[jdW,Ï]at ho;simp only[j5h]at h;split at h
 .split at h
  .rename_i hs;simp only[j5,Act.val.injEq]at h;rw[<-h.2.2];exact(juU (jBN E.np (mskM rd)) hs).le (jAu rd)
  .simp at h
 .simp at h
theorem jkx{E:Env}{ev:î->Slot}{rd:G->BS}{act:H (G×Ë)}{o:É}(ho:jdW o=X){f:G}{args:H Arg}{mk:Ret->O (Slot×Ups)}:j5h E ev rd act o≠B (.call f args mk):=by
 obtain⟨dst,op,type,pos,after,guard⟩:=o;cases op<;>simp only[jdW,Ï]at ho;intro h;simp only[j5h]at h;split at h
 .split at h
  .simp at h
  .simp at h
 .simp at h
theorem UpSh.unmask{rd:G->BS}{M:H G}{u:Ups}(h:UpSh (jcn M rd) u):UpSh rd u:=by
 intro e he;obtain⟨h1,h2⟩:=h e he;rcases jnf M rd e.1 with hq|hq
 .rw[hq]at h1;exact⟨h1,h2⟩
 .rw[hq]at h1;cases h3:e.2 with
  |free=>rw[h3]at h2;simp[isLive]at h2
  |gone=>rw[h3]at h2;simp[isLive]at h2
  |live b=>rw[h3]at h1;cases b<;>simp[ShEq]at h1
inductive Bef(ops:Ä É):G->G->Prop
 |dep {i j:G} {o:É}:ops[i]? = B o->j∈jdl o->Bef ops i j
 |trans {i j k:G}:Bef ops i j->Bef ops j k->Bef ops i k
structure DOkR(ops:Ä É)(A:H (H G)):Prop where
 lt:∀i o,ops[i]? = B o->∀j∈jdl o,j<i
 addr:∀i o,ops[i]? = B o->jeW o=X->∀k,k∉A.getD i []
 dst:∀i j oi oj t,ops[i]? = B oi->ops[j]? = B oj->i≠j->oj.dst=B t->oi.dst≠B t/\(t∈oi.looksAt ops->Bef ops i j\/Bef ops j i)
 box:∀i j oi oj k,ops[i]? = B oi->ops[j]? = B oj->i≠j->k∈A.getD i []->k∈A.getD j []->Bef ops i j\/Bef ops j i
theorem DOkR.bef{ops:Ä É}{A:H (H G)}(h:DOkR ops A){i j:G}(hb:Bef ops i j):j<i:=by
 induction hb with
 |dep ho hj=>exact h.lt _ _ ho _ hj
 |trans _ _ h1 h2=>omega
def ClOk(ops:Ä É)(cl:H G):Prop:=∀i j,(cl.getD i 0).testBit j=X->Bef ops i j
theorem joL{ops:Ä É}{cls:H G}(hc:ClOk ops cls){i:G}{o:É}(ho:ops[i]? = B o):∀(l:H G)(m:G),(∀j∈l,j∈jdl o)->(∀j,m.testBit j=X->Bef ops i j)->
  ∀j,(l.foldl (λm j=>m|||(2^j|||cls.getD j 0)) m).testBit j=X->Bef ops i j
 |[],m,_,hm,j,h=>hm j h
 |x::l,m,hl,hm,j,h=>by
  refine joL hc ho l _ (λj hj=>hl j (by simp[hj])) (λj hj=>?_) j h;simp only[Nat.testBit_or,Ð,Nat.testBit_two_pow,decide_eq_true_eq]at hj;rcases hj with hj|hj|hj
  .exact hm j hj
  .subst hj;exact .dep ho (hl x smp_)
  .exact .trans (.dep ho (hl x smp_)) (hc x j hj)
theorem jrK{ops:Ä É}:∀(l:H É)(cls:H G),ClOk ops cls->(∀k o,l[k]? = B o->ops[cls.length+k]? = B o)->ClOk ops (ju4 l cls)
 |[],cls,hc,_=>hc
 |o::os,cls,hc,hl=>by
  have ho:ops[cls.length]? = B o:=by have:=hl 0 o rfl;simpa using this
  refine jrK os _ ?_ (λk x hk=>by
   have:=hl (k+1) x (by simpa using hk);rw[List.length_append,List.length_singleton];rwa[show cls.length+1+k=cls.length+(k+1) by omega])
  intro i j hij;rcases Nat.lt_trichotomy i cls.length with hi|hi|hi
  .rw[Ô,ã hi,<-Ô]at hij;exact hc i j hij
  .subst hi;rw[Ô,Ó (ô _),Nat.sub_self]at hij;simp only[List.getElem?_cons_zero,Option.getD_some]at hij;exact joL hc ho (jdl o) 0 (λ_ h=>h) (λj h=>by simp at h) j hij
  .rw[Ô,List.getElem?_eq_none sqo_]at hij;simp at hij
theorem jiD{ops:Ä É}{cl:H G}(hc:ClOk ops cl){i j:G}(h:jof cl i j=X):i=j\/Bef ops i j\/Bef ops j i:=by
 simp only[jof,Ð,beq_iff_eq]at h;rcases h with (h|h)|h
 .exact .inl h
 .exact .inr (.inl (hc i j h))
 .exact .inr (.inr (hc j i h))
theorem jqf{ops:Ä É}{cl:H G}{A:H (H G)}(hc:ClOk ops cl)(hok:jz4 ops cl A=X):DOkR ops A:=by
 have hz:∀{i:G}{o:É},ops[i]? = B o->(o,i)∈ops.toList.zipIdx:=by intro i o ho;rw[List.mem_iff_getElem?];exact⟨i,by rw[List.getElem?_zipIdx];simp[ho]⟩
 have hemp:∀i k,k∈A.getD i []->A.isEmpty=false:=by
  intro i k hk;cases A with
  |nil=>simp at hk
  |cons _ _=>rfl
 have hall:∀{i:G}{o:É},ops[i]? = B o->(∀j∈jdl o,j<i)/\(A.isEmpty || !jeW o||(A.getD i []).isEmpty)=X/\∀j oj,ops[j]? = B oj->jrt ops cl A i o j oj=true:=by intro i o ho;have:=List.all_eq_true.1 hok (o,i) (hz ho);simp only[À]at this;exact⟨λj hj=>by simpa using List.all_eq_true.1 this.1.1 j hj,this.1.2,λj oj hoj=>List.all_eq_true.1 this.2 (oj,j) (hz hoj)⟩
 refine⟨λi o ho=>(hall ho).1,λi o ho hadr k hk=>?_,λi j oi oj t hi hj hij ht=>?_,λi j oi oj k hi hj hij hk hk'=>?_⟩
 .have:=(hall ho).2.1;rw[hemp i k hk,hadr]at this;simp only[Bool.not_true,Bool.false_or,List.isEmpty_iff]at this;rw[this]at hk;simp at hk
 .have:=(hall hi).2.2 j oj hj;simp only[jrt,ht,À]at this;have h1:=this.1;simp only[Ð,beq_iff_eq,hij,false_or,À,bne_iff_ne,ne_eq,Û,Í,decide_eq_false_iff_not]at h1;refine⟨h1.1,λhm=>?_⟩;rcases h1.2 with h|h
  .exact absurd hm h
  .exact(jiD hc h).resolve_left hij
 .have:=(hall hi).2.2 j oj hj;simp only[jrt,À]at this;have h2:=this.2;rw[hemp i k hk]at h2;simp only[Bool.false_or,Ð]at h2;rcases h2 with h|h
  .exact(jiD hc h).resolve_left hij
  .have:=List.all_eq_true.1 h k hk;simp only[Í,Û,decide_eq_false_iff_not]at this;exact absurd hk' this
theorem jrL{ops:Ä É}{cl:H G}{A:H (H G)}(hc:ClOk ops cl){i:G}{oi:É}{k:G}(hm:(jmW ops cl A i oi).contains k=U){j:G}{oj:É}(hj:ops[j]? = B oj)(hk:k∈A.getD j []) :
  i=j\/Bef ops i j\/Bef ops j i\/(jeW oi=X/\jdW oj=X):=by
 have hz:(oj,j)∈ops.toList.zipIdx:=by rw[List.mem_iff_getElem?];exact⟨j,by rw[List.getElem?_zipIdx];simp[hj]⟩
 have hne:A.isEmpty=false:=by
  cases A with
  |nil=>simp at hk
  |cons _ _=>rfl
 unfold jmW at hm;rw[hne]at hm;simp only[Ï,if_false,Í,decide_eq_false_iff_not,List.mem_flatMap,not_exists,not_and]at hm;have:=hm (oj,j) hz;dsimp only at this;split at this
 .rename_i h;simp only[Ð,À]at h;rcases h with h|h
  .rcases jiD hc h with h|h|h
   .exact .inl h
   .exact .inr (.inl h)
   .exact .inr (.inr (.inl h))
  .exact .inr (.inr (.inr h))
 .exact absurd hk this
inductive DStep(P:Ç)(E:Env)(ops:Ä É)(M Ai:H G)(o:É)(σ:St):St->Prop
 |skip (s:G) (wn v:Ë):ja3 ops o=B (s,wn)->σ.sl s = .one (.one (.d .bool v))->v≠wn->DStep P E ops M Ai o σ (σ.setD o.dst .und)
 |skipU (s:G) (wn:Ë):ja3 ops o=B (s,wn)->σ.sl s = .und->DStep P E ops M Ai o σ (σ.setD o.dst .und)
 |val (s:Slot) (u:Ups):(o.guard=Ã\/∃s wn,ja3 ops o=B (s,wn)/\σ.sl s = .one (.one (.d .bool wn)))->j5h E σ.ev (jcn M σ.bx) [] o=B (.val X s u)->(∀e∈u,e.1∈Ai)->
  DStep P E ops M Ai o σ ((σ.upd u).setD o.dst s)
 |call (f:G) (args:H Arg) (mk:Ret->O (Slot×Ups)) (ret:Ret) (s:Slot) (u:Ups):(o.guard=Ã\/∃s wn,ja3 ops o=B (s,wn)/\σ.sl s = .one (.one (.d .bool wn)))->
  j5h E σ.ev (jcn M σ.bx) [] o=B (.call f args mk)->Fun P f->jxN P f args (λr=>r=ret)->mk ret=B (s,u)->(∀e∈u,e.1∈Ai)->DStep P E ops M Ai o σ ((σ.upd u).setD o.dst s)
theorem juV{s:G}{x:Slot}(h:σ.sl s=x):σ.setS s x=σ:=by
 unfold St.setS
 have:(λj=>if j=s then x else σ.sl j)=σ.sl:=by
  funext j
  split
  .rename_i hj;subst hj;exact h.symm
  .rfl
 rw[this]
theorem juW{u:Ups}{Ai:H G}(h:(u.all λe=>Ai.contains e.1)=X):∀e∈u,e.1∈Ai:=λe he=>by simpa using List.all_eq_true.1 h e he
theorem jky{P:Ç}{E:Env}(hC:j7R P E.C)(hF:CFun E.C){ops:Ä É}{M Ai:H G}{o:É}{R:Type}{k:St->O R}{r:R}
  (hg:o.guard=Ã\/∃s wn,ja3 ops o=B (s,wn)/\σ.sl s = .one (.one (.d .bool wn)))(h:runD E M Ai σ o k=B r):∃σ',DStep P E ops M Ai o σ σ'/\k σ'=B r:=by
 unfold runD at h
 replace h:=jrs h
 split at h
 .simp at h
 .rename_i chk s u ho;split at h
  .rename_i hb;cases chk with
   |false=>simp at h
   |true=>exact⟨_,.val s u hg ho (juW hb),h⟩
  .simp at h
 .rename_i f args mk ho;obtain⟨x,hx⟩:=hF f args;rw[hx]at h;cases x with
  |none=>simp at h
  |some ret=>
   simp only[j4]at h;obtain⟨hf,hspec⟩:=hC f args Ret B ret (by rw[hx];rfl);split at h
   .rename_i s u hmk;split at h
    .rename_i hb
     exact⟨_,.call f args mk ret s u hg ho hf (by
      intro w S vals ha hn hS;refine(hspec w S vals ha hn hS).mono ?_
      rintro e w' ⟨r',hr',rest⟩
      exact⟨r',by simpa using hr',rest⟩) hmk (juW hb),h⟩
    .simp at h
   .simp at h
theorem jAv{P:Ç}{E:Env}(hC:j7R P E.C)(hF:CFun E.C){ops:Ä É}{M Ai:H G}{o:É}{R:Type}{k:St->O R}{r:R}
  (h:jog E ops M Ai σ o k=B r):∃σ',DStep P E ops M Ai o σ σ'/\k σ'=B r:=by
 unfold jog at h;split at h
 .rename_i hg;exact jky hC hF (.inl hg) h
 .split at h
  .rename_i s wn hg;split at h
   .rename_i v hv;cases v with
    |true=>
     rw[j6,juV hv]at h;cases wn with
     |true=>exact jky hC hF (.inr ⟨s,X,hg,hv⟩) h
     |false=>exact⟨_,.skip s U X hg hv smp_,h⟩
    |false=>
     rw[j7,juV hv]at h;cases wn with
     |false=>exact jky hC hF (.inr ⟨s,U,hg,hv⟩) h
     |true=>exact⟨_,.skip s X U hg hv smp_,h⟩
   .rename_i hv;exact⟨_,.skipU s wn hg hv,h⟩
   .simp at h
  .simp at h
theorem juX{P:Ç}{E:Env}(hC:j7R P E.C)(hF:CFun E.C){ops:Ä É}{cl:H G}{A:H (H G)}{R:Type}{k:St->O R}{r:R}:∀(n i:G)(σ:St),i+n=ops.size->jsB E ops cl A (ops.toList.drop i) i σ k=B r->
  ∃τ:G->St,τ i=σ/\k (τ ops.size)=B r/\∀j o,i<=j->ops[j]? = B o->jeV E.N o=X/\DStep P E ops (jmW ops cl A j o) (A.getD j []) o (τ j) (τ (j+1))
 |0,i,σ,hi,h=>by
  rw[Ñ sqo_]at h;refine⟨λ_=>σ,rfl,h,λj o hj ho=>?_⟩;have:=(Array.getElem?_eq_some_iff.1 ho).1;omega
 |n+1,i,σ,hi,h=>by
  have hlt:i<ops.size:=omg_;rw[Ê (by simpa using hlt)]at h;simp only[jsB]at h;split at h
  .rename_i hd;obtain⟨σ1,hs,hk⟩:=jAv (P:=P) hC hF h;obtain⟨τ1,h1,h2,h3⟩:=juX hC hF n (i+1) σ1 omg_ hk;refine⟨λj=>if j=i then σ else τ1 j,smp_,?_,λj o hj ho=>?_⟩
   .simp only[show ops.size≠i by omega,if_false];exact h2
   .by_cases hji:j=i
    .subst hji;have ho':ops[j]? = B ops[j]:=Â hlt;rw[ho']at ho;simp only[j5]at ho;subst ho;refine⟨by simpa using hd,?_⟩;simp only[if_true,show j+1≠j by omega,if_false,h1];simpa using hs
    .simp only[hji,if_false,show j+1≠i by omega];exact h3 j o omg_ ho
  .simp at h
theorem Rel.drawn(hR:Rel N np S0 w0 refs σ a w S γ)(n:G):Rel N np S0 w0 refs σ a { w with drawn:=n } S γ:=
 Rel.step (bx':=σ.bx) (γ':=γ) hR (λ_ _ h=>⟨h,rfl⟩) (.refl _ _) (λk b hb=>j2i.keep (w:=w) (w':={ w with drawn:=n }) (λ_ _ h=>⟨h,rfl⟩) (.refl _ _) rfl (λ_ _=>⟨rfl,λ_=>Iff.rfl⟩) (hR.box k b hb))
  hR.own hR.apart hR.new hR.here hR.below hR.grow hR.os hR.tape hR.output (λ_ _ _ h=>⟨rfl,h⟩)
theorem D_wp{P:Ç}{E:Env}(hT:j1K P E.T)(hR:Rel E.N E.np S0 w0 refs σ a w S γ)(hc:j2z σ){ops:Ä É}{M Ai:H G}{i:G}{o:É}(ho:ops[i]? = B o)(hd:jeV E.N o=X)
  {τ τ':St}(hs:DStep P E ops M Ai o τ τ')(hbx:(∀k,jcn M σ.bx k=jcn M τ.bx k)\/(jeW o=X/\∀k,ShEq (jcn M σ.bx k) (jcn M τ.bx k)))(hlook:∀t,t∈o.looksAt ops->σ.sl t=τ.sl t){K:Æ->Á->Prop}{Q:â->Æ->Á->Prop}
  (hK:∀(s:Slot)(u:Ups)(a':Æ)(w':Á)(S':j09)(γ':G->Y),τ'=(τ.upd u).setD o.dst s->(∀e∈u,e.1∈Ai)->Rel E.N E.np S0 w0 refs ((σ.upd u).setD o.dst s) a' w' S' γ'->j2z ((σ.upd u).setD o.dst s)->K a' w') :
  wpOp P ops Q i K a w:=by
 have hdl:=jkp hd
 have hev:∀x∈o.op.operands,σ.ev x=τ.ev x:=by
  intro x hx;cases x with
  |tmp t=>exact hlook t (List.mem_append_left _ (List.mem_filterMap.2 ⟨.tmp t,by simpa using hx,rfl⟩))
  |_=>rfl
 have hgl:∀s wn,ja3 ops o=B (s,wn)->s∈o.looksAt ops:=by
  intro s wn hg;refine List.mem_append_right _ ?_;unfold ja3 at hg;split at hg
  .simp at hg
  .rename_i j w' hgu;split at hg
   .rename_i oj hoj;split at hg
    .rename_i s' hs';simp only[j5,j9]at hg;simp[hgu,hoj,hs',hg.1]
    .simp at hg
   .simp at hg
 have htm:∀s v,ja3 ops o≠Ã->s∈o.looksAt ops->τ.sl s = .one (.one (.d .bool v))->tm a s = .bool v:=by intro s v _ hm hv;have:=hR.slot s;rw[hlook s hm,hv]at this;exact jah this
 have hact:j5h E σ.ev (jcn M σ.bx) [] o=j5h E τ.ev (jcn M τ.bx) [] o:=by
  rcases hbx with hbx|⟨hadr,hbx⟩
  .rw[show jcn M σ.bx=jcn M τ.bx from funext hbx];exact jkw hev
  .rw[jxT hadr hbx];exact jkw hev
 have hfin:∀(s:Slot)(u:Ups)(v:Y)(w':Á)(S':j09)(γ':G->Y),τ'=(τ.upd u).setD o.dst s->(∀e∈u,e.1∈Ai)->Rel E.N E.np S0 w0 refs (σ.upd u) a w' S' γ'->
   j4i S' w' γ' (σ.upd u).bx (tm a) s v->s.bare=X->K (a.put o.dst v) w':=by
  intro s u v w' S' γ' he hb hR' hs' hbare;obtain⟨h1,h2⟩:=jfX hR' (joH hc) hdl hs' hbare;exact hK s u _ w' S' γ' he hb h1 h2
 have hwant:(o.guard=Ã\/∃s wn,ja3 ops o=B (s,wn)/\τ.sl s = .one (.one (.d .bool wn)))->Å o (yielded ops a.tmps)=true:=by
  rintro (hg|⟨s,wn,hg,hv⟩)
  .simp[Å,hg]
  .exact(jfY hg).2 (htm s wn (by rw[hg];simp) (hgl s wn hg) hv)
 unfold wpOp;simp only[ho];cases hs with
 |skip s wn v hg hv hne=>
  have hw:¬Å o (yielded ops a.tmps)=true:=λhw=>by
   have h1:=(jfY hg).1 hw;rw[htm s v (by rw[hg];simp) (hgl s wn hg) hv]at h1;exact hne (by simpa using h1)
  simp only[hw,if_false,Ï];exact hfin .und [] undef w S γ rfl smp_ hR rfl rfl
 |skipU s wn hg hv=>
  have hu:tm a s=undef:=by have:=hR.slot s;rw[hlook s (hgl s wn hg),hv]at this;exact this
  have hw:¬Å o (yielded ops a.tmps)=true:=λhw=>by
   have h1:=(jfY hg).1 hw;rw[hu]at h1;simp[undef]at h1
  simp only[hw,if_false,Ï];exact hfin .und [] undef w S γ rfl smp_ hR rfl rfl
 |val s u hg hop hb=>
  simp only[hwant hg,if_true];rw[<-hact]at hop;obtain⟨A',hop',hle⟩:=jmw (jnf M σ.bx) hop;cases hle;obtain⟨⟨v,w',S',γ',hrun,hR',hs'⟩,hbare⟩:=jq3 hT hR (act:=[]) (λg hg=>by simp at hg) (λ_=> .inl rfl) hop';refine .inl ?_;unfold Ý;rcases hrun with hrun|⟨hrun,rfl⟩
  .rw[hrun,Ö];exact hfin s u v w' S' γ' rfl hb hR' hs' hbare
  .rw[hrun,Oper.upon_skip];exact hfin s u undef w' S' γ' rfl hb hR' hs' hbare
 |call f args mk ret s u hg hop hf hspec hmk hb=>
  simp only[hwant hg,if_true];rw[<-hact]at hop;obtain⟨A',hop',hle⟩:=jmw (jnf M σ.bx) hop;cases hle with
  |call _ _ _ mk' hmono=>
   have hmk':=hmono _ _ hmk;obtain⟨vals,hrun,hcalls,hbare⟩:=jrE hR (act:=[]) (λg hg=>by simp at hg) (λ_=> .inl rfl) hop' hf hspec;refine .inl ?_;unfold Ý;rw[hrun,ç];refine hcalls.mono ?_
   rintro e w' ⟨ret',rfl,hall⟩
   obtain⟨v,S',γ',rfl,hR',hs'⟩:=hall s u hmk';exact hfin s u v w' S' γ' rfl hb hR' hs' (hbare _ s u hmk')
section
variable{S0:j09}{w0:Á}{refs:Refs}{σ:St}{a:Æ}{w:Á}{S:j09}{γ:G->Y}
theorem jng{o:É}{j:G}:j∈jdl o↔∃e∈o.after,Region.binds .any e=X/\e.on=j:=by
 grind[jdl]
theorem jt0{ops:Ä É}{listed:Ä Ë}{i:G}(h:i∈Region.ready .any ops listed) :
  listed.getD i X=U/\∃o,ops[i]? = B o/\∀j∈jdl o,listed.getD j U=true:=by
 grind[mem_ready,jng]
def je8(P:Ç)(E:Env)(ops:Ä É)(cl:H G)(A:H (H G))(τ:G->St):Prop:=
 ∀j o,ops[j]? = B o->jeV E.N o=X/\DStep P E ops (jmW ops cl A j o) (A.getD j []) o (τ j) (τ (j+1))
theorem jnh:∀(u:Ups)(σ:St)(t:G),(σ.upd u).sl t=σ.sl t
 |[],_,_=>rfl
 |e::u,σ,t=>jnh u (σ.setB e.1 e.2) t
theorem jgK(σ:St)(d:O G)(s:Slot):(σ.setD d s).bx=σ.bx:=by cases d<;>rfl
theorem jiE{σ:St}{d:O G}{s:Slot}{t:G}(h:d≠B t):(σ.setD d s).sl t=σ.sl t:=by
 cases d<;>grind[St.setD,St.setS]
theorem jt1{σ:St}{s:Slot}{t:G}:(σ.setD (B t) s).sl t=s:=by simp[St.setD,St.setS]
theorem jhr:∀(u:Ups)(σ:St)(k:G),(∀e∈u,e.1≠k)->(σ.upd u).bx k=σ.bx k
 |[],_,_,_=>rfl
 |e::u,σ,k,h=>by
  have h1:=jhr u (σ.setB e.1 e.2) k (λx hx=>h x (by simp[hx]));show ((σ.setB e.1 e.2).upd u).bx k=_;rw[h1];have:=h e smp_;have hne:¬k=e.1:=λhk=>this hk.symm;simp[St.setB,hne]
theorem joM:∀(u:Ups)(σ τ:St)(k:G),σ.bx k=τ.bx k->(σ.upd u).bx k=(τ.upd u).bx k
 |[],_,_,_,h=>h
 |e::u,σ,τ,k,h=>by
  refine joM u (σ.setB e.1 e.2) (τ.setB e.1 e.2) k ?_;simp only[St.setB];split
  .rfl
  .exact h
section
variable{P:Ç}{E:Env}{ops:Ä É}{cl:H G}{A:H (H G)}{τ:G->St}
theorem jkz(h:je8 P E ops cl A τ){j:G}{o:É}(ho:ops[j]? = B o):∃s u,τ (j+1)=((τ j).upd u).setD o.dst s/\(∀e∈u,e.1∈A.getD j [])/\(jdW o=X->∀k,ShEq ((τ j).bx k) ((τ (j+1)).bx k)):=by
 obtain⟨_,hs⟩:=h j o ho;generalize hq:τ (j+1)=σ' at hs;cases hs with
 |skip s wn v hg hv hne=>exact⟨.und,[],rfl,smp_,λ_ k=>by grind[jgK,ShEq.refl]⟩
 |skipU s wn hg hv=>exact⟨.und,[],rfl,smp_,λ_ k=>by grind[jgK,ShEq.refl]⟩
 |val s u hg hop hb=>exact⟨s,u,rfl,hb,λhst k=>by
  rw[jgK];exact jza u (τ j) (λe he=>((jqe hst hop).unmask e he).1) k⟩
 |call f args mk ret s u hg hop hf hspec hmk hb=>grind[jkx]
theorem jAw(h:je8 P E ops cl A τ){j:G}{o:É}(ho:ops[j]? = B o){t:G}(ht:o.dst≠B t):(τ (j+1)).sl t=(τ j).sl t:=by
 grind[jkz,jiE,jnh]
theorem juY(h:je8 P E ops cl A τ){j:G}{o:É}(ho:ops[j]? = B o){k:G}(hk:k∉A.getD j []):(τ (j+1)).bx k=(τ j).bx k:=by
 obtain⟨s,u,he,hu,_⟩:=jkz h ho;rw[he,jgK];grind[jhr]
theorem jhs(h:je8 P E ops cl A τ){t j:G}:∀n,j+n<=ops.size->(∀k o,j<=k->k<j+n->ops[k]? = B o->o.dst≠B t)->(τ (j+n)).sl t=(τ j).sl t
 |0,_,_=>rfl
 |n+1,hn,hk=>by
  have hlt:j+n<ops.size:=omg_;have ho:ops[j+n]? = B ops[j+n]:=Â hlt;rw[<-Nat.add_assoc,jAw h ho (hk _ _ omg_ omg_ ho)];exact jhs h n omg_ (λk o h1 h2=>hk k o h1 omg_)
theorem jht(h:je8 P E ops cl A τ){k j:G}:∀n,j+n<=ops.size->(∀i o,j<=i->i<j+n->ops[i]? = B o->k∉A.getD i [])->(τ (j+n)).bx k=(τ j).bx k
 |0,_,_=>rfl
 |n+1,hn,hk=>by
  have hlt:j+n<ops.size:=omg_;have ho:ops[j+n]? = B ops[j+n]:=Â hlt;rw[<-Nat.add_assoc,juY h ho (hk _ _ omg_ omg_ ho)];exact jht h n omg_ (λi o h1 h2=>hk i o h1 omg_)
theorem jjN(h:je8 P E ops cl A τ){k j:G}:∀n,j+n<=ops.size->(∀i o,j<=i->i<j+n->ops[i]? = B o->k∈A.getD i []->jdW o=X)->ShEq ((τ j).bx k) ((τ (j+n)).bx k)
 |0,_,_=>ShEq.refl _
 |n+1,hn,hk=>by
  have hlt:j+n<ops.size:=omg_;have ho:ops[j+n]? = B ops[j+n]:=Â hlt;have ih:=jjN h n omg_ (λi o h1 h2=>hk i o h1 omg_);refine ih.trans ?_;rw[<-Nat.add_assoc];by_cases hm:k∈A.getD (j+n) [];all_goals grind[jkz,juY,ShEq.refl]
structure Ph(ops:Ä É)(A:H (H G))(τ:G->St)(listed:Ä Ë)(σ:St):Prop where
 closed:∀j o,ops[j]? = B o->listed.getD j U=X->∀d∈jdl o,listed.getD d U=X
 done:∀j o t,ops[j]? = B o->o.dst=B t->listed.getD j U=X->σ.sl t=(τ (j+1)).sl t
 rest:∀t,(∀j o,ops[j]? = B o->o.dst=B t->listed.getD j U=U)->σ.sl t=(τ 0).sl t
 bdone:∀j k,j<ops.size->k∈A.getD j []->listed.getD j U=X->(∀i,i<ops.size->k∈A.getD i []->listed.getD i U=X->i<=j)->σ.bx k=(τ (j+1)).bx k
 brest:∀k,(∀j,j<ops.size->k∈A.getD j []->listed.getD j U=U)->σ.bx k=(τ 0).bx k
theorem Ph.bef{listed:Ä Ë}(hp:Ph ops A τ listed σ){i j:G}(hb:Bef ops i j)(hi:listed.getD i U=X):listed.getD j U=true:=by
 induction hb with
 |dep ho hj=>exact hp.closed _ _ ho hi _ hj
 |trans _ _ h1 h2=>exact h2 (h1 hi)
theorem Ph.befd{listed:Ä Ë}(hp:Ph ops A τ listed σ){i j:G}{o:É}(ho:ops[i]? = B o)(hd:∀j∈jdl o,listed.getD j U=X)(hb:Bef ops i j):listed.getD j U=true:=by
 induction hb with
 |dep ho' hj=>simp_all
 |trans hb1 hb2 h1 h2=>exact hp.bef hb2 (h1 ho)
theorem jfZ(p:G->Prop):∀n,(∃j,j<n/\p j)->∃m,m<n/\p m/\∀j,j<n->p j->j<=m
 |0,h=>by obtain⟨j,hj,_⟩:=h;omega
 |n+1,h=>by
  by_cases hn:p n
  .exact⟨n,omg_,hn,λj hj _=>omg_⟩
  .obtain⟨j,hj,hp⟩:=h
   have hjn:j<n:=by
    rcases ú j n with h|h
    .exact h
    .have:j=n:=omg_;subst this;exact absurd hp hn
   obtain⟨m,hm,hpm,hall⟩:=jfZ p n ⟨j,hjn,hp⟩;refine⟨m,omg_,hpm,λi hi hpi=>?_⟩;rcases ú i n with h|h
   .exact hall i h hpi
   .have:i=n:=omg_;subst this;exact absurd hpi hn
theorem joN{l:Ä Ë}{i:G}(h:l.getD i X=U):l.getD i U=false:=by
 grind
theorem j5w{l:Ä Ë}{i j:G}(hi:i<l.size):(l.setIfInBounds i X).getD j U=X↔j=i\/l.getD j U=true:=by
 by_cases h:i=j
 .subst h;simp[hi]
 .rw[getD_set_ne U h];grind
theorem jdy{l:Ä Ë}{i:G}(h:¬l.getD i U=X):l.getD i U=false:=by
 simp_all
section
variable(hok:DOkR ops A)(h:je8 P E ops cl A τ){listed:Ä Ë}(hp:Ph ops A τ listed σ){i:G}{o:É}(hi:ops[i]? = B o)(hun:listed.getD i U=U)(hdeps:∀j∈jdl o,listed.getD j U=X)
include hok h hp hi hun hdeps
theorem jAx:∀t,t∈o.looksAt ops->σ.sl t=(τ i).sl t:=by
 intro t htl;have hisz:i<ops.size:=(Array.getElem?_eq_some_iff.1 hi).1;have hlk:∀j oj,ops[j]? = B oj->oj.dst=B t->j≠i->Bef ops i j\/Bef ops j i:=λj oj hj ht hne=>(hok.dst i j o oj t hi hj (λe=>hne e.symm) ht).2 htl;by_cases hex:∃(j:G)(oj:É),ops[j]? = B oj/\oj.dst=B t/\listed.getD j U=X
 .obtain⟨j,oj,hj,ht,hlj⟩:=hex;have hji:j≠i:=λe=>by simp_all
  have hdep:Bef ops i j:=by
   rcases hlk j oj hj ht hji with hd|hd
   .exact hd
   .have:=hp.bef hd hlj
    simp_all
  have hlt:=hok.bef hdep;rw[hp.done j oj t hj ht hlj];have:=jhs h (t:=t) (j:=j+1) (i-(j+1)) omg_ (λk ok h1 h2 hk=>(hok.dst k j ok oj t hk hj omg_ ht).1);grind
 .rw[hp.rest t (λj oj hj ht=>jdy λhq=>hex ⟨j,oj,hj,ht,hq⟩)]
  have:=jhs h (t:=t) (j:=0) i omg_ (λk ok _ hk hok' hdk=>by
   have hki:k≠i:=omg_;rcases hlk k ok hok' hdk hki with hd|hd
   .exact hex ⟨k,ok,hok',hdk,hp.befd hi hdeps hd⟩
   .have:=hok.bef hd;omega)
  simp_all
theorem jBO{k:G}(hk:∀j oj,ops[j]? = B oj->k∈A.getD j []->i=j\/Bef ops i j\/Bef ops j i):σ.bx k=(τ i).bx k:=by
 have hisz:i<ops.size:=(Array.getElem?_eq_some_iff.1 hi).1;by_cases hex:∃j,j<ops.size/\(k∈A.getD j []/\listed.getD j U=X)
 .obtain⟨m,hm,⟨hkm,hlm⟩,hmax⟩:=jfZ _ _ hex;have hom:ops[m]? = B ops[m]:=Â hm;have hmi:i≠m:=λe=>by simp_all
  have hdep:Bef ops i m:=by
   rcases hk m _ hom hkm with hd|hd|hd
   .exact absurd hd hmi
   .exact hd
   .have:=hp.bef hd hlm
    simp_all
  have hlt:=hok.bef hdep;rw[hp.bdone m k hm hkm hlm (λj hj hkj hlj=>hmax j hj ⟨hkj,hlj⟩)]
  have:=jht h (k:=k) (j:=m+1) (i-(m+1)) omg_ (λj oj h1 h2 hj hkj=>by
   rcases hk j oj hj hkj with hd|hd|hd
   .omega
   .have:=hmax j omg_ ⟨hkj,hp.befd hi hdeps hd⟩;omega
   .have:=hok.bef hd;omega)
  grind
 .rw[hp.brest k (λj hj hkj=>jdy λhq=>hex ⟨j,hj,hkj,hq⟩)]
  have:=jht h (k:=k) (j:=0) i omg_ (λj oj h1 h2 hj hkj=>by
   rcases hk j oj hj hkj with hd|hd|hd
   .omega
   .exact hex ⟨j,omg_,hkj,hp.befd hi hdeps hd⟩
   .have:=hok.bef hd;omega)
  simp_all
theorem jDy(hadr:jeW o=X){k:G}(hk:∀j oj,ops[j]? = B oj->k∈A.getD j []->i=j\/Bef ops i j\/Bef ops j i\/jdW oj=X):ShEq (σ.bx k) ((τ i).bx k):=by
 have hisz:i<ops.size:=(Array.getElem?_eq_some_iff.1 hi).1;by_cases hex:∃j,j<ops.size/\(k∈A.getD j []/\listed.getD j U=X)
 .obtain⟨m,hm,⟨hkm,hlm⟩,hmax⟩:=jfZ _ _ hex;have hom:ops[m]? = B ops[m]:=Â hm;rw[hp.bdone m k hm hkm hlm (λj hj hkj hlj=>hmax j hj ⟨hkj,hlj⟩)];rcases ú m i with hmi|hmi
  .have:=jjN h (k:=k) (j:=m+1) (i-(m+1)) omg_ (λj oj h1 h2 hj hkj=>by
    rcases hk j oj hj hkj with hd|hd|hd|hd
    .omega
    .have:=hmax j omg_ ⟨hkj,hp.befd hi hdeps hd⟩;omega
    .have:=hok.bef hd;omega
    .exact hd)
   grind
  .have hmi':i≠m:=λe=>by simp_all
   have:=jjN h (k:=k) (j:=i) (m+1-i) omg_ (λj oj h1 h2 hj hkj=>by
    have hlj:listed.getD j U=true:=by
     by_cases hjm:j=m
     .rw[hjm];exact hlm
     .rcases hok.box j m oj ops[m] k hj hom hjm hkj hkm with hd|hd
      .have:=hok.bef hd;omega
      .exact hp.bef hd hlm
    rcases hk j oj hj hkj with hd|hd|hd|hd
    .simp_all
    .have:=hok.bef hd;omega
    .have:=hp.bef hd hlj
     simp_all
    .exact hd)
   grind[ShEq.symm]
 .rw[hp.brest k (λj hj hkj=>jdy λhq=>hex ⟨j,hj,hkj,hq⟩)]
  have:=jjN h (k:=k) (j:=0) i omg_ (λj oj h1 h2 hj hkj=>by
   rcases hk j oj hj hkj with hd|hd|hd|hd
   .omega
   .exact absurd ⟨j,omg_,hkj,hp.befd hi hdeps hd⟩ hex
   .have:=hok.bef hd;omega
   .exact hd)
  simp_all
theorem jAy(hc:ClOk ops cl):(∀k,jcn (jmW ops cl A i o) σ.bx k=jcn (jmW ops cl A i o) (τ i).bx k)\/(jeW o=X/\∀k,ShEq (jcn (jmW ops cl A i o) σ.bx k) (jcn (jmW ops cl A i o) (τ i).bx k)):=by
 by_cases hadr:jeW o=X
 .grind[ShEq.mask,jDy,jrL]
 .refine .inl λk=>?_;unfold jcn;split
  .rfl
  .rename_i hk
   exact jBO hok h hp hi hun hdeps λj oj hj hkj=>by
    rcases jrL hc (by simpa using hk) hj hkj with hd|hd|hd|hd;all_goals simp_all
theorem jAz(hsz:ops.size<=listed.size){s:Slot}{u:Ups}(he:τ (i+1)=((τ i).upd u).setD o.dst s)(hu:∀e∈u,e.1∈A.getD i []):Ph ops A τ (listed.setIfInBounds i X) ((σ.upd u).setD o.dst s):=by
 have hisz:i<ops.size:=(Array.getElem?_eq_some_iff.1 hi).1;have hlt':i<listed.size:=omg_
 have hbx0:∀k,k∈A.getD i []->σ.bx k=(τ i).bx k:=λk hk=>jBO hok h hp hi hun hdeps λj oj hj hkj=>by
  by_cases hij:i=j
  .exact .inl hij
  .exact .inr (hok.box i j o oj k hi hj hij hk hkj)
 refine⟨?_,?_,?_,?_,?_⟩
 .intro j oj hoj hj d hdd;rcases (j5w hlt').1 hj with rfl|hj
  .grind[j5w]
  .exact(j5w hlt').2 (.inr (hp.closed j oj hoj hj d hdd))
 .intro j oj t hoj ht hj;by_cases hji:j=i
  .grind[jt1]
  .rcases (j5w hlt').1 hj with hj|hj
   .exact absurd hj hji
   .rw[jiE (hok.dst i j o oj t hi hoj (λe=>hji e.symm) ht).1,jnh];exact hp.done j oj t hoj ht hj
 .intro t hall
  have hot:o.dst≠B t:=λe=>by
   grind[j5w]
  rw[jiE hot,jnh]
  exact hp.rest t λj oj hoj ht=>jdy λhq=>by
   grind[j5w]
 .intro j k hj hkj hlj hmax;rw[jgK];by_cases hji:j=i
  .grind[jgK,joM]
  .have hlj':listed.getD j U=true:=by grind[j5w]
   have hki:k∉A.getD i []:=λhki=>by
    have hle:=hmax i hisz hki ((j5w hlt').2 (.inl rfl));have hoj:ops[j]? = B ops[j]:=Â hj;rcases hok.box i j o _ k hi hoj (λe=>hji e.symm) hki hkj with hd|hd
    .have:=hok.bef hd;omega
    .have:=hp.bef hd hlj'
     simp_all
   rw[jhr u σ k (λe hm hek=>hki (hek▸hu e hm))];exact hp.bdone j k hj hkj hlj' (λi' hi' hk' hl'=>hmax i' hi' hk' ((j5w hlt').2 (.inr hl')))
 .intro k hall
  have hki:k∉A.getD i []:=λhki=>by
   grind[j5w]
  rw[jgK,jhr u σ k (λe hm hek=>hki (hek▸hu e hm))]
  exact hp.brest k λj hj hkj=>jdy λhq=>by
   grind[j5w]
end
theorem jBP(hok:DOkR ops A)(h:je8 P E ops cl A τ){listed:Ä Ë}(hp:Ph ops A τ listed σ)(hall:∀j,j<ops.size->listed.getD j U=X):σ=τ ops.size:=by
 have hsl:σ.sl=(τ ops.size).sl:=by
  funext t
  by_cases hex:∃(j:G)(oj:É),ops[j]? = B oj/\oj.dst=B t
  .obtain⟨j,oj,hj,ht⟩:=hex;have hlt:j<ops.size:=(Array.getElem?_eq_some_iff.1 hj).1;rw[hp.done j oj t hj ht (hall j hlt)];have:=jhs h (t:=t) (j:=j+1) (ops.size-(j+1)) omg_ (λk ok h1 h2 hk=>(hok.dst k j ok oj t hk hj omg_ ht).1);grind
  .rw[hp.rest t (λj oj hj ht=>absurd ⟨j,oj,hj,ht⟩ hex)];have:=jhs h (t:=t) (j:=0) ops.size omg_ (λk ok _ hk hok' hdk=>hex ⟨k,ok,hok',hdk⟩)
   simp_all
 have hbx:σ.bx=(τ ops.size).bx:=by
  funext k
  by_cases hex:∃j,j<ops.size/\k∈A.getD j []
  .obtain⟨m,hm,hkm,hmax⟩:=jfZ _ _ hex;rw[hp.bdone m k hm hkm (hall m hm) (λj hj hkj _=>hmax j hj hkj)];have:=jht h (k:=k) (j:=m+1) (ops.size-(m+1)) omg_ (λj oj h1 h2 hj hkj=>by grind);grind
  .rw[hp.brest k (λj hj hkj=>absurd ⟨j,hj,hkj⟩ hex)];have:=jht h (k:=k) (j:=0) ops.size omg_ (λj oj h1 h2 hj hkj=>hex ⟨j,omg_,hkj⟩)
   simp_all
 cases σ;simp_all
end
theorem joO{l:Ä Ë}{i:G}(hi:l.getD i X=U):(l.setIfInBounds i X).toList.count U+1=l.toList.count false:=by
 have hlt:i<l.size:=by grind
 have hv:l.toList[i]'(by simpa using hlt)=false:=by
  simp_all
 grind
theorem jt2{l:Ä Ë}(h:l.toList.count U=0){j:G}(hj:j<l.size):l.getD j U=true:=by
 have h0:U∉l.toList:=List.count_eq_zero.1 h;simp only[Þ,Â hj,Option.getD_some];grind
theorem juZ{ops:Ä É}{A:H (H G)}(hok:DOkR ops A){listed:Ä Ë}(hs:listed.size=ops.size)(h:Region.ready .any ops listed=[]):∀j,j<ops.size->listed.getD j U=true:=by
 intro j;induction j using Nat.strongRecOn with
 |_ j ih=>
  intro hj;cases hq:listed.getD j U with
  |true=>rfl
  |false=>
   have ho:ops[j]? = B ops[j]:=Â hj
   have hm:j∈Region.ready .any ops listed:=mem_ready.2 ⟨by
    simp_all,ops[j],ho,λe he hb=>ih _ (hok.lt j _ ho _ (jng.2 ⟨e,he,hb,rfl⟩)) (Nat.lt_trans (hok.lt j _ ho _ (jng.2 ⟨e,he,hb,rfl⟩)) hj)⟩
   simp_all
theorem jt3{P:Ç}{E:Env}(hT:j1K P E.T){ops:Ä É}{cl:H G}{A:H (H G)}(hcl:ClOk ops cl)(hok:DOkR ops A){τ:G->St}(h:je8 P E ops cl A τ)
  {Q:â->Æ->Á->Prop}(hn:∀a' w' S' γ',Rel E.N E.np S0 w0 refs (τ ops.size) a' w' S' γ'->j2z (τ ops.size)->Q .normal a' w') :
  ∀(fuel:G)(listed:Ä Ë){σ:St}{a:Æ}{w:Á}{S:j09}{γ:G->Y},listed.size=ops.size->listed.toList.count U<=fuel->Rel E.N E.np S0 w0 refs σ a w S γ->j2z σ->
   Ph ops A τ listed σ->wpAny P .any ops Q fuel listed a w:=by
 have hend:∀(listed:Ä Ë){σ:St}{a:Æ}{w:Á}{S:j09}{γ:G->Y},Rel E.N E.np S0 w0 refs σ a w S γ->j2z σ->Ph ops A τ listed σ->(∀j,j<ops.size->listed.getD j U=X)->Q .normal a w:=by grind[jBP]
 intro fuel;induction fuel with
 |zero=>intro listed σ a w S γ hs hcnt hR hc hph;have hall:∀j,j<ops.size->listed.getD j U=true:=λj hj=>jt2 omg_ omg_;refine⟨?_,hend listed hR hc hph hall⟩;refine List.eq_nil_iff_forall_not_mem.2 λi hi=>?_;grind[mem_ready]
 |succ fuel ih=>
  intro listed σ a w S γ hs hcnt hR hc hph;refine⟨λhnil=>hend listed hR hc hph (juZ hok hs hnil),λi hi=>?_⟩;obtain⟨hun,o,ho,hdeps⟩:=jt0 hi;have hun':=joN hun;have hcs:=joO hun;have hsz:(listed.setIfInBounds i X).size=ops.size:=by simpa using hs
  obtain⟨hd,hstep⟩:=h i o ho;refine D_wp hT hR hc ho hd hstep (jAy hok h hph ho hun' hdeps hcl) (jAx hok h hph ho hun' hdeps) ?_;grind[jAz]
theorem jt4{P:Ç}{E:Env}(hT:j1K P E.T)(hC:j7R P E.C)(hF:CFun E.C)(hR:Rel E.N E.np S0 w0 refs σ a w S γ)(hc:j2z σ){ops:Ä É}{A:H (H G)}
  {R:Type}{k:St->O R}{r:R}{Q:â->Æ->Á->Prop}(hn:∀σ' a' w' S' γ',Rel E.N E.np S0 w0 refs σ' a' w' S' γ'->j2z σ'->k σ'=B r->Q .normal a' w')(h:jhk E ops A σ k=B r) :
  wpAny P .any ops Q ops.size (ð ops.size U) a { w with drawn:=w.drawn+1 }:=by
 unfold jhk at h;split at h
 .rename_i hok;obtain⟨τ,h1,h2,h3⟩:=juX (P:=P) (ops:=ops) hC hF ops.size 0 σ (Nat.zero_add _) (by simpa using h);have hfalse:∀j,(ð ops.size U).getD j U=false:=by intro j;rcases ú j ops.size with hj|hj;all_goals simp_all
  have hcl:ClOk ops (ju4 ops.toList []):=jrK ops.toList [] (λi j h=>by simp at h) (λk o hk=>by simpa using hk);refine jt3 hT hcl (jqf hcl hok) (τ:=τ) (λj o ho=>h3 j o (Nat.zero_le _) ho) (λa' w' S' γ' hR' hc'=>hn _ a' w' S' γ' hR' hc' h2) ops.size _ smp_ smp_ (hR.drawn _) hc ?_
  exact⟨λj o _ hj=>by simp_all,λj o t _ _ hj=>by simp_all,λt _=>by rw[h1],
   λj k _ _ hj=>by simp_all,λk _=>by rw[h1]⟩
 .simp at h
end
def FR(ro:O G):Fence:={ Fence.wide with round:=ro }
theorem jv0(ro:O G)(n:G):(FR ro).room n:=λd h=>by simp[FR,Fence.wide]at h
section
variable{P:Ç}{ro:O G}{n:G}
theorem jAA{f:FuncId}{args:Ä Y}{w:Á}{R:Ending->Á->Prop}(h:Calls P f args w R):CallsIn (FR ro) n P f args w R:=(callsIn_wide (n:=n)).2 h
theorem jAB{f:FuncId}{args:Ä Y}{w:Á}{R:Ending->Á->Prop}(h:CallsIn (FR ro) n P f args w R):Calls P f args w R:=(callsIn_wide (n:=n)).1 h
theorem jBQ{m:G}{c:é}{Q:â->Æ->Á->Prop}{a:Æ}{w:Á}(h:c.wpIn (FR ro) n P Q a w):c.wpIn (FR ro) m P Q a w:=
 λb k cs hro hb hr=>h b k cs hro hb (jv0 _ _)
theorem jBR{row:String}{args:Ä Y}{w:Á}{R:Y->Á->Prop}(h:Rows P row args w R):RowsIn (FR ro) n P row args w R:=
 λc cs _=>let ⟨v,w',r,s⟩:=h c cs;⟨v,w',r,stepsIn_wide.2 s⟩
theorem jni{o:É}(hp:ro=Ã\/∀c,o.op ≠ .defer c){a:Æ}{w:Á}{K K':Æ->Á->Prop}{Q:â->Æ->Á->Prop}(hK:∀a w,K a w->K' a w)
  (h:o.wp P a w K Q):o.wpIn (FR ro) n P a w K' Q:=by
 refine⟨λ_ _=>trivial,?_⟩
 have e:o.semAt (FR ro).round a.eval=execOp a.eval o:=by
  rcases hp with rfl|hp
  .rfl
  .exact Oper.semAt_eq _ _ _ hp
 rw[e];unfold Ý at h;revert h;cases (execOp a.eval o).run P w with
 |ok x w'=>
  cases x with
  |value v=>intro h;exact hK _ _ h
  |skip=>intro h;exact hK _ _ h
  |defer d=>intro h;exact hK _ _ h
  |enter f args=>
   intro h;refine⟨λhd=>by simp[FR,Fence.wide]at hd,jAA (Calls.mono h λe w'' he=>?_)⟩;cases e with
   |returned v=>exact hK _ _ he
   |panicked c=>exact he
   |outgrown=>exact he
  |row r args=>intro h;exact⟨λhd=>by simp[FR,Fence.wide]at hd,jBR (Rows.mono h λv w'' he=>hK _ _ he)⟩
  |round l f tmps x y=>intro h;exact h.elim
  |_=>intro h;exact h.elim
 |halt x w'=>cases x<;>intro h<;>exact h
theorem jhu{ops:Ä É}{Q:â->Æ->Á->Prop}(hp:ro=Ã\/∀o∈ops.toList,∀c,o.op ≠ .defer c)(hno:¬LetsOut Q):∀(l:H G)(a:Æ)(w:Á),wpOps P ops Q l a w->wpOpsIn (FR ro) n P ops Q l a w
 |[],a,w,h=>h
 |i::r,a,w,h=>by
  simp only[wpOps]at h;simp only[wpOpsIn];cases ho:ops[i]? with
  |none=>simp only[ho]at h ⊢;exact jhu hp hno r a w h
  |some o=>
   simp only[ho]at h ⊢;split
   .rename_i hw;simp only[hw,if_true]at h;rcases h with h|⟨_,h⟩
    .refine jni (hp.imp id λhh=>hh o ?_) (λa w=>jhu hp hno r a w) h;obtain⟨hlt,rfl⟩:=Array.getElem?_eq_some_iff.1 ho;exact Array.mem_toList_iff.2 (Array.getElem_mem hlt)
    .exact absurd h hno
   .rename_i hw;simp only[hw]at h;exact⟨λ_ _=>trivial,jhu hp hno r _ w h⟩
theorem jrM{md:Region.Mode}{ops:Ä É}{Q:â->Æ->Á->Prop}(hp:ro=Ã\/∀o∈ops.toList,∀c,o.op ≠ .defer c)(hno:¬LetsOut Q) :
  ∀(fuel:G)(listed:Ä Ë)(a:Æ)(w:Á),wpAny P md ops Q fuel listed a w->wpAnyIn (FR ro) n P md ops Q fuel listed a w
 |0,_,_,_,h=>h
 |fuel+1,listed,a,w,h=>by
  refine⟨h.1,λi hi=>?_⟩;have h2:=h.2 i hi;unfold wpOp at h2;unfold wpOpIn;cases ho:ops[i]? with
  |none=>simp only[ho]at h2 ⊢;exact jrM hp hno fuel _ a w h2
  |some o=>
   simp only[ho]at h2 ⊢;split
   .rename_i hw;simp only[hw,if_true]at h2;rcases h2 with h2|⟨_,h2⟩
    .refine jni (hp.imp id λhh=>hh o ?_) (λa w=>jrM hp hno fuel _ a w) h2;obtain⟨hlt,rfl⟩:=Array.getElem?_eq_some_iff.1 ho;exact Array.mem_toList_iff.2 (Array.getElem_mem hlt)
    .exact absurd h2 hno
   .rename_i hw;simp only[hw]at h2;exact⟨λ_ _=>trivial,jrM hp hno fuel _ _ w h2⟩
end
theorem Rel.allocO(hR:Rel N np S0 w0 refs σ a w S γ)(o:Obj):Rel N np S0 w0 refs σ a (w.alloc o) S γ:=
 Rel.step (bx':=σ.bx) (γ':=γ) hR (j8z hR o) (.refl _ _) (λk b hb=>j2i.keep (j8z hR o) (.refl _ _) rfl (λg hg=>⟨heap_alloc_old w o (j4O (hR.box k b hb) hg),λ_=>Iff.rfl⟩) (hR.box k b hb))
  hR.own hR.apart hR.new (λg i h=>by have:=hR.here g i h;simp;omega) (λg hg hr=>(heap_alloc_old w o (ë hg hR.grow)).trans (hR.below g hg hr)) (by have:=hR.grow;simp;omega) hR.os hR.tape hR.output
  (λg hg _ h=>⟨heap_alloc_old w o hg,h⟩)
structure Grew(w w':Á):Prop where
 old:∀g,g<w.heap.size->w'.heap[g]? = w.heap[g]?
 size:w.heap.size<=w'.heap.size
 os:w'.os=w.os
 tape:w'.tape=w.tape
 output:w'.output=w.output
structure jt5(S:j09)(w:Á)(S':j09)(w':Á):Prop where
 sub:∀g o,S g o->S' g o
 new:∀g o,S' g o->S g o\/w.heap.size<=g
 here:∀g o,S' g o->g<w'.heap.size
theorem Rel.grew(hR:Rel N np S0 w0 refs σ a w S γ){S':j09}{w':Á}(h:Grew w w')(hs:jt5 S w S' w'):Rel N np S0 w0 refs σ a w' S' γ:=
 have hst:j3m S w S' w':=λg o hg=>⟨hs.sub g o hg,Ì (h.old g (hR.here g o hg))⟩
 Rel.step (bx':=σ.bx) (γ':=γ) hR hst (.refl _ _) (λk b hb=>j2i.keep hst (.refl _ _) rfl (λg hg=>
   have hl:=j4O (hR.box k b hb) hg
   ⟨h.old g hl,λo=>⟨λh1=>(hs.new g o h1).resolve_right omg_,hs.sub g o⟩⟩) (hR.box k b hb))
  hR.own hR.apart (λg o h1=>(hs.new g o h1).elim (hR.new g o) λh2=> .inr (.inl (û hR.grow h2))) hs.here (λg hg hr=>(h.old g (ë hg hR.grow)).trans (hR.below g hg hr)) (û hR.grow h.size) (h.os.trans hR.os) (h.tape.trans hR.tape) (h.output.trans hR.output)
  (λg hg _ hn=>⟨h.old g hg,hn⟩)
theorem Rel.swap(hR:Rel N np S0 w0 refs σ a w S γ){N':NT}{refs':Refs}{a':Æ}(hb:refs'.blks=refs.blks)(hv:refs'.val=refs.val)(hsz:a'.tmps.size=N'.n)(hds:a'.defers=refs'.ds)
  (hslot:∀i,j4i S w γ σ.bx (tm a') (σ.sl i) (tm a' i))(hk:∀g o,refs'.kw g=B o->w.heap[g]? = B o/\∀k b,σ.bx k = .live b->blk (γ k)≠B g)
  (hf:∀i v,refs'.fix i=B v->N'.pin i=X/\a'.tmps.getD i undef=v)(hmv:refs'.mv=refs.mv:=by rfl):Rel N' np S0 w0 refs' σ a' w S γ:=
 have hm:∀g,g∈refs'↔g∈refs:=λg=>by show g∈refs'.blks↔g∈refs.blks;rw[hb]
 ⟨hsz,hds,hslot,hR.box,λk b g h h'=>(hR.own k b g h h').imp (λh=>Own.swap h hb hmv) λh=>⟨(hm g).2 h.1,h.2⟩,hR.apart,hR.ext,λg o h=>(hR.new g o h).imp id λh=>Own.swap h hb hmv,hR.here,λg h h'=>hR.below g h λh2=>h' ((hm g).2 h2),
  hR.grow,hR.os,hR.tape,hR.output,λk v h=>hR.par k v (hv▸h),hk,hf⟩
theorem jjO{g o:G}{x:Obj}(h:w.heap[g]? = B x)(hc:x.isCells=U):w.cell? ⟨g,o,Ã⟩=none:=by
 unfold World.cell?;simp only[h];cases x<;>first|rfl|(simp[Obj.isCells]at hc)
theorem Rel.putO(hR:Rel N np S0 w0 refs σ a w S γ){l:G}{o o':Obj}(hk:refs.kw l=B o)(hl:w0.heap.size<=l)(hc:o.isCells=U)(hc':o'.isCells=U) :
  Rel N np S0 w0 { refs with kw:=λg=>if g=l then B o' else refs.kw g } σ a (w.putObj l o') S γ:=by
 obtain⟨hw,hno⟩:=hR.kept l o hk;have hlt:=(Array.getElem?_eq_some_iff.1 hw).1
 have hst:j3m S w S (w.putObj l o'):=λg i h=>⟨h,by
  by_cases hg:g=l
  .subst hg;rw[jjO hw hc,jjO (í hlt) hc']
  .exact Ì (Î hg)⟩
 have hR1:Rel N np S0 w0 { refs with kw:=λg=>if g=l then Ã else refs.kw g } σ a w S γ:=
  Rel.swap hR rfl rfl hR.size hR.defers hR.slot (λg x h=>by
   simp only at h;split at h
   .simp at h
   .exact hR.kept g x h) hR.fix
 have hR2:Rel N np S0 w0 { refs with kw:=λg=>if g=l then Ã else refs.kw g } σ a (w.putObj l o') S γ:=
  Rel.step (bx':=σ.bx) (γ':=γ) hR1 hst (.refl _ _) (λk b hb=>j2i.keep hst (.refl _ _) rfl (λg hg=>⟨Î (λe=>hno k b hb (e▸hg)),λ_=>Iff.rfl⟩) (hR.box k b hb))
   hR1.own hR1.apart hR1.new (λg i h=>by simpa using hR.here g i h) (λg hg hr=>(Î omg_).trans (hR1.below g hg hr)) (by simpa using hR.grow) hR.os hR.tape hR.output
   (λg _ hkn h=>⟨Î (λe=>by subst e;simp at hkn),h⟩)
 refine Rel.swap hR2 rfl rfl hR2.size hR2.defers hR2.slot (λg x h=>?_) hR2.fix;simp only at h;split at h
 .rename_i e;subst e;simp only[j5]at h;subst h;exact⟨í hlt,hno⟩
 .rename_i e;have h1:=hR.kept g x h;exact⟨(Î e).trans h1.1,h1.2⟩
theorem jv1(np:G)(K:Keep)(s:Snap)(i:G):(∃c,(j0Q np K s).sl i = .one c)/\(i∉K.slots->(j0Q np K s).sl i = .one (.one .dead)):=by
 have hsl:(j0Q np K s).sl i=match K.slots.idxOf? i with
  |some j=>jpT s[j]?
  |none=> .one (.one .dead):=rfl
 rw[hsl];cases hq:K.slots.idxOf? i with
 |none=>exact⟨⟨_,rfl⟩,λ_=>rfl⟩
 |some j=>refine⟨?_,λh=>absurd (È (j8j hq)) h⟩;simp only;unfold jpT;split<;>exact⟨_,rfl⟩
theorem Rel.frame{K:Keep}{s:Snap}(hR:Rel N np S0 w0 refs (j0Q np K s) a w S γ){N':NT}{refs':Refs}{a':Æ}(hb:refs'.blks=refs.blks)(hv:refs'.val=refs.val)(hsz:a'.tmps.size=N'.n)(hds:a'.defers=refs'.ds)
  (hsl:∀i∈K.slots,tm a' i=tm a i)(hk:∀g o,refs'.kw g=B o->w.heap[g]? = B o/\∀k b,(j0Q np K s).bx k = .live b->blk (γ k)≠B g)
  (hf:∀i v,refs'.fix i=B v->N'.pin i=X/\a'.tmps.getD i undef=v)(hmv:refs'.mv=refs.mv:=by rfl):Rel N' np S0 w0 refs' (j0Q np K s) a' w S γ:=by
 refine hR.swap hb hv hsz hds (λi=>?_) hk hf hmv;obtain⟨⟨c,hc⟩,hd⟩:=jv1 np K s i;by_cases hi:i∈K.slots
 .have:=hR.slot i;rw[hc]at this ⊢;rw[hsl i hi];exact this
 .rw[hd hi];exact⟨trivial,λh=>absurd rfl h⟩
section
variable{P:Ç}{F:Fence}{n:G}{b:Frame}{a:Æ}{k:H Go.Item}{cs:H Frame}{w:Á}{Q:â->Æ->Á->Prop}
theorem ja8{c:é}:step P (lone (b.atR a (.code (.scope c)::k)) cs w) = .next (lone (b.atR a (.code c :: .inScope c::k)) cs w):=
 step_lone_go (by simp[stepG,stepG.exec,Frame.atR])
theorem jnj{c:é}:step P (lone (b.atR a (.inScope c::k)) cs w) = .next (lone (b.atR a k) cs w):=
 step_lone_go (by simp[stepG,stepG.exec,Frame.atR])
theorem jt6{c:é}(hng:∀l a w,¬Q (.goto l) a w)(h:c.wpIn F n P Q a w):(Code.scope c).wpIn F n P Q a w:=by
 intro b k cs hro hb hr;have h0:(lone (b.atR a (.code (.scope c)::k)) cs w).fenced P F:=fenced_calm hb hr rfl;obtain⟨e,a₁,w₁,hq,harr⟩:=h b (.inScope c::k) cs hro hb hr;cases e with
 |normal=>exact⟨.normal,a₁,w₁,hq,.head h0 ja8 (StepsIn.trans harr (.one (fenced_calm hb hr rfl) jnj))⟩
 |exit id=>
  have hx:exitTo id (.inScope c::k)=exitTo id k:=by simp[exitTo]
  exact⟨_,a₁,w₁,hq,λk' hk=> .head h0 ja8 (harr.1 k' (by rw[hx];exact hk)),
   λhr' hk=>let ⟨k₁,h1,h2⟩:=harr.2 hr' (by rw[hx];exact hk);⟨k₁,h1,.head h0 ja8 h2⟩⟩
 |goto l=>exact absurd hq (hng l a₁ w₁)
 |ret=>exact⟨_,a₁,w₁,hq,.of_steps (.one h0 ja8) harr⟩
 |panic ch=>exact⟨_,a₁,w₁,hq,.of_steps (.one h0 ja8) harr⟩
 |outgrown=>exact⟨_,a₁,w₁,hq,.of_steps (.one h0 ja8) harr⟩
end
theorem jv2{t:Ty}:∀{xs:H t.den}{css:H (H Y)}{bx:G->BS},All2 (λx c=>Rep S w t x c) xs css->All2 (j08 S w γ bx) (xs.flatMap λx=>(scat t x).map TV.leaf) css.flatten
 |[],[],_,_=>trivial
 |[],_::_,_,h=>h.elim
 |_::_,[],_,h=>h.elim
 |x::xs,c::css,_,h=>(j92 (j7E t x c h.1)).append (jv2 h.2)
theorem jAC{t:Ty}(xs:H t.den):rowL t xs.length xs=xs.flatMap λx=>(scat t x).map TV.leaf:=by
 unfold rowL;rw[List.flatMap_def,List.flatMap_def];exact congrArg List.flatten (jmh (λx=>(scat t x).map TV.leaf) t.dflt xs)
theorem joP{rd:G->BS}(hrd:RdF np σ rd)(hB:jov S w γ σ.bx)(t:Ty):∀{n:G}{ls:H Leaf}{xs:H t.den}{u:Ups}{cs:H Y},jsC rd t n ls=B (xs,u)->All2 (j08 S w γ σ.bx) ls cs->cs.length=n*t.size->
  FrzL np σ.bx u/\xs.length=n/\∀S' w',j3m S w S' w'->Froz σ.bx γ S' w' u->∃css,css.flatten=cs/\All2 (λx c=>Rep S' w' t x c) xs css
 |0,[],xs,u,cs,h,ha,hc=>by
  simp only[jsC,j5,j9]at h;obtain⟨rfl,rfl⟩:=h;have:cs=[]:=List.eq_nil_of_length_eq_zero (by rw[hc,Nat.zero_mul]);subst this;exact⟨.nil,rfl,λS' w' _ _=>⟨[],rfl,trivial⟩⟩
 |0,_::_,_,_,_,h,_,_=>by simp[jsC]at h
 |n+1,ls,xs,u,cs,h,ha,hc=>by
  simp only[jsC]at h;split at h
  case h_2=>simp at h
  rename_i x r u1 hx;split at h
  case h_2=>simp at h
  rename_i xs' v hxs;simp only[j5,j9]at h;obtain⟨rfl,rfl⟩:=h;obtain⟨f1,e1,p1⟩:=jcu hrd hB t hx ha;have ha2:All2 (j08 S w γ σ.bx) r (cs.drop t.size):=by rw[e1];exact ha.drop _
  obtain⟨f2,l2,p2⟩:=joP hrd hB t hxs ha2 (by rw[List.length_drop,hc,Nat.succ_mul];omega);refine⟨FrzL.app.2 ⟨f1,f2⟩,by rw[List.length_cons,l2],λS' w' hk hf=>?_⟩;obtain⟨hf1,hf2⟩:=Froz.app.1 hf;obtain⟨css,e3,q3⟩:=p2 S' w' hk hf2;exact⟨cs.take t.size::css,by rw[List.flatten_cons,e3,List.take_append_drop],p1 S' w' hk hf1,q3⟩
theorem jqg(hR:Rel N np S0 w0 refs σ a w S γ)(hc:j2z σ){g:Gh}{σ':St}(h:ju5 np σ g=B (X,σ')):∃S' γ',Rel N np S0 w0 refs σ' a w S' γ'/\j2z σ':=by
 cases g with
 |ex k c n m=>
  simp only[ju5]at h;split at h
  case h_2=>simp at h
  rename_i ls hk;split at h
  case h_2=>simp at h
  rename_i b hs;split at h
  case h_2=>simp at h
  rename_i e t xs hb;split at h
  case isTrue=>simp at h
  rename_i hcond;simp only[j5,j9]at h;obtain⟨h1,rfl⟩:=h;have h1:xs.length=m:=Ü h1;subst h1;simp only[Ð,not_or,ù,beq_eq_false_iff_ne,Bool.not_eq_false']at hcond;obtain⟨⟨⟨⟨hm,hp⟩,hbn⟩,hbk⟩,hn⟩:=hcond
  have hn:σ.bx n = .free:=by
   revert hn
   cases σ.bx n<;>simp[j6s]
  have hkn:k≠n:=by rintro rfl;rw[hn]at hk;simp at hk
  obtain⟨gk,curk,ek,hgk,hhk,hlk,hok,hSk,_⟩:=hR.box k _ hk
  have hls:ls[c]? = B (.ol b):=by
   cases hc':ls[c]? with
   |none=>simp[hc']at hs
   |some x=>simp[hc']at hs;rw[hs]
  obtain⟨z,hz,hzl⟩:=hlk.get c _ hls;have hu:z=γ b:=hzl.2.2 _ hb;obtain⟨css,hown,hall,hS⟩:=j6U hm (hR.box b _ hb);have hR1:=jfV hR hb;have hn1:(σ.setB b .gone).bx n = .free:=by rw[j07 σ _ (Ne.symm hbn)];exact hn
  obtain⟨hR2,hle2⟩:=jkj hR1 hn1 (v':=γ b) (b:= .row e t xs.length (rowL t xs.length xs)) (λg' hg'=>by
   refine⟨⟨?_,hR.kw_live hb hg'⟩,λk' b' hb' hk'=>?_⟩
   .rcases hR.own b _ g' hb hg' with h|h
    .exact h
    .rw[hp]at h;simp at h
   .have hkk:k'≠b:=by rintro rfl;rw[j0y]at hb';simp at hb'
    rw[j07 σ _ hkk]at hb';exact hR.apart k' b _ _ g' hkk hb' hb hk' hg') (by
   refine⟨hm,⟨css.flatten,by rw[j0p];exact hown,by rw[jAC];exact jv2 hall,λu hu=>?_⟩,λg hg o=>?_⟩
   .obtain⟨c',hc',huc⟩:=List.mem_flatten.1 hu;obtain⟨x,_,hx⟩:=hall.mem_right c' hc';exact Rep.one t x c' hx u huc
   .rw[j0p]at hg;exact(hS g hg).1 rfl o)
  have hk2:((σ.setB b .gone).setB n (.live (.row e t xs.length (rowL t xs.length xs)))).bx k = .live (.cell ls U):=by rw[j07 _ _ hkn,j07 _ _ (λh=>hbk h.symm)];exact hk
  refine⟨S,_,jnd hR2 hk2 (b':= .cell (ls.set c (.ol n)) U) trivial (λbx' hle3=>?_),λi=>hc i⟩;obtain⟨g3,cur3,e3,q1,q2,q3,q4,q5,_⟩:=hR2.box k _ hk2;rw[j0o γ _ hkn,hgk]at q1;simp at q1;subst q1;rw[hhk]at q2;simp at q2;obtain⟨rfl,rfl⟩:=q2;refine⟨gk,curk,ek,by rw[j0o γ _ hkn];exact hgk,hhk,?_,by rw[Ú];exact q4,q5,smp_⟩;rw[Ú];refine All2.set_left (q3.mono (λx u hx=>j08.keep (.refl S w) hle3 hx)) c (.ol n) z hz ?_;have hnlive:((σ.setB b .gone).setB n (.live (.row e t xs.length (rowL t xs.length xs)))).bx n = .live (.row e t xs.length (rowL t xs.length xs)):=j0y _ _ _;refine j08.keep (.refl S w) hle3 (x:= .ol n) ⟨by rw[hnlive];simp,hzl.2.1,λb' hb'=>?_⟩;rw[j0p];exact hu
 |rl k=>
  simp only[ju5]at h;split at h
  .rename_i e t n ls hk;split at h
   case h_2=>simp at h
   rename_i xs u hx;split at h
   case isTrue=>simp at h
   rename_i hany;simp only[j5,j9,true_and]at h;subst h;have hany:u.any (λy=>y.1==k)=false:=Bool.eq_false_iff.2 hany;have hrd:RdF np σ (λj=>if parK np j then .gone else mskM σ.bx j):=jmr (RdR.msk λ_=> .inl rfl);obtain⟨hm,⟨cs,hown,hall,h1⟩,_⟩:=hR.box k _ hk;obtain⟨hf,hl,hp⟩:=joP hrd hR.box t hx hall hown.1;obtain⟨S1,hR1,hst1,hfz1,hsame⟩:=j4t u σ S hR hf;have hk1:(σ.upd u).bx k = .live (.row e t n ls):=(j2H u σ hany).trans hk;obtain⟨css,hcss,hall2⟩:=hp S1 w hst1 hfz1;have hR2:=jnd hR1 hk1 (b':= .lst e t xs U) ⟨rfl,rfl,hm,hl.symm⟩ (λbx' hle=>jip hm ⟨css,by rw[hcss,hl];exact hown,hall2,λg hg=>⟨λ_=>(hR1.box k _ hk1).2.2 g hg,smp_⟩⟩);refine⟨S1,γ,by rw[j6S];exact hR2,λi=>?_⟩;rw[jmf];exact hc i
  .simp only[j5,j9,true_and]at h;subst h;exact⟨S,γ,hR,hc⟩
 |da l=>
  simp only[ju5]at h;split at h
  .rename_i σ1 hd;simp only[j5,j9,true_and]at h;subst h;obtain⟨S',hR',hc'⟩:=jrI l σ σ1 S hR hc hd;exact⟨S',γ,hR',hc'⟩
  .simp at h
theorem jf5{R:Type}{r:R}:∀{gs:H Gh}{σ:St}{S:j09}{γ:G->Y}{k:St->O R},Rel N np S0 w0 refs σ a w S γ->j2z σ->jka np gs σ k=B r->
  ∃σ' S' γ',Rel N np S0 w0 refs σ' a w S' γ'/\j2z σ'/\k σ'=B r
 |[],σ,S,γ,k,hR,hc,h=>⟨σ,S,γ,hR,hc,h⟩
 |g::gs,σ,S,γ,k,hR,hc,h=>by
  simp only[jka]at h;split at h
  .rename_i b σ1 hg;cases b with
   |false=>simp at h
   |true=>obtain⟨S1,γ1,hR1,hc1⟩:=jqg hR hc hg;exact jf5 hR1 hc1 h
  .simp at h
section
def exOf:Ex->â
 |.normal=> .normal
 |.exit i=> .exit i
 |.ret=> .ret
def jmx(E:Env)(b:G)(c:é):Prop:=
 ∀(s:Snap)(R:Type)(k:Ex->Snap->O R)(r:R),E.L b s R k=B r->∃n e s',loopN (joo E b c) n s=B (e,s')/\k e s'=B r
def MrOK(E:Env)(b:G)(c:é):Prop:=
 ∀(m nm:G)(p:MrP),E.mr b=B (m,nm)->mrP b c=B p->∀(s:Snap)(R:Type)(k:Snap->O R)(r:R),E.M b s R k=B r->
  ∃(em:G)(v:Ty)(xs ys:H (à×v.den)),isM em=X/\s=j5m s em v xs/\
   (∀zs,(j0Q E.np (E.keep b) (j5m s em v zs)).bx nm = .live (.lst em (.pair (.int .i64) v) zs U)/\(j0Q E.np (E.keep b) (j5m s em v zs)).sl m = .one (.one (.ol nm)))/\
   All2 (λx y=>y.1=x.1/\∀zs,jon E.off0 b p m (j5m s em v zs) v x.1 x.2 B=B (j5m s em v (@j2Y _ _ (Ty.int .i64).keq zs x.1 y.2))) xs ys/\k (j5m s em v ys)=B r
theorem jkA(p:G->Prop):∀n,p n->∃m,p m/\∀j,p j->m<=j:=by
 intro n;induction n using Nat.strongRecOn<;>grind
open Classical in
noncomputable def jrN(p:G->Prop):Nat:=if h:∃n,p n then (jkA p h.choose h.choose_spec).choose else 0
theorem jkB{p:G->Prop}{n:G}(h:p n):p (jrN p)/\jrN p<=n:=by
 unfold jrN;have hx:∃n,p n:=⟨n,h⟩;grind
theorem jkC{P:Ç}{F:Fence}{n0:G}{Q:â->Æ->Á->Prop}{c:é}(I:G->Æ->Á->Prop){n:G}(h₀:I n a w)
  (round:∀n a w,I n a w->c.wpIn F n0 P (Exit.then (λa' w'=>∃m,m<n/\I m a' w') Q) a w):(Code.loop c).wpIn F n0 P Q a w:=by
 refine wpIn_loop (λa w=>∃n,I n a w) (λa w=>jrN λn=>I n a w) ⟨n,h₀⟩ (λa w hI=>?_);obtain⟨m,hm⟩:=hI;have hl:=(jkB (p:=λn=>I n a w) hm).1;refine wpIn_mono (round _ a w hl) (λe a' w' h=>?_);cases e with
 |normal=>obtain⟨m',hlt,hI'⟩:=h;exact⟨⟨m',hI'⟩,Nat.lt_of_le_of_lt (jkB (p:=λn=>I n a' w') hI').2 hlt⟩
 |_=>exact h
def jgL(w0:Á)(refs:Refs):Prop:=
 refs.ds.Nodup/\∀d∈refs.ds,∃D,d={ target:= .collected D,args:=#[] }/\w0.heap.size<=D/\refs.kw D=B (.deferred (B []))
structure jjp(w0:Á)(refs refs':Refs):Prop where
 blks:refs'.blks=refs.blks
 val:refs'.val=refs.val
 fix:refs'.fix=refs.fix
 marks:jgL w0 refs'
 mv:refs'.mv=refs.mv
theorem jjp.trans{r r' r'':Refs}(h:jjp w0 r r')(h':jjp w0 r' r''):jjp w0 r r'':=⟨h'.blks.trans h.blks,h'.val.trans h.val,h'.fix.trans h.fix,h'.marks,h'.mv.trans h.mv⟩
def Post(E:Env)(S0:j09)(w0:Á)(refs:Refs)(pl:Ë){R:Type}(k:Ex->St->O R)(r:R):â->Æ->Á->Prop:=
 λe a' w'=>∃refs' ex σ' S' γ',jjp w0 refs refs'/\(pl=X->refs'=refs)/\exOf ex=e/\Rel E.N E.np S0 w0 refs' σ' a' w' S' γ'/\j2z σ'/\k ex σ'=B r
theorem jnk{E:Env}{pl:Ë}{R:Type}{k:Ex->St->O R}{r:R}:¬LetsOut (Post E S0 w0 refs pl k r):=by
 rintro⟨a,w,refs',ex,_,_,_,_,_,he,_⟩
 cases ex<;>simp[exOf]at he
def BwOK(P:Ç)(f:G)(t:Ty):Prop:=
 Fun P f/\∀(cv:Ä Y)(m l:G)(J:G->j09->Á->Prop)(Jx:Á->Prop)(W:Á)(S:j09),
  (∀j S W S' W',Grew W W'->jt5 S W S' W'->J j S W->J j S' W')->(∀W W',Grew W W'->Jx W->Jx W')->(∀j S W,J j S W->∀g o,S g o->g<W.heap.size)->
  (∀j S W,j<m->J j S W->∃xs:H t.den,All2 (j82 S W) [.p [⟨.list t,xs⟩]] cv.toList/\m-1-j<xs.length/\∀S' W' x v,Grew W W'->jt5 S W S' W'->xs[m-1-j]? = B x->VRep S' W' ⟨t,x⟩ v->
   YieldAt (FR Ã) 0 P l #[.int .i64 ((m-1-j:G):à),v] W' λe W'=>(e = .returned (.bool X)/\∃S',J (j+1) S' W')\/(e = .returned (.bool U)/\Jx W'))->
  (∃(S':j09)(xs:H t.den),xs.length=m/\(∀g o,S' g o->g<W.heap.size)/\All2 (j82 S' W) [.p [⟨.list t,xs⟩]] cv.toList)->J 0 S W->
  CallsIn (FR Ã) 0 P f (#[.func (.yield l) #[] #[]]++cv) W λe W'=>(∃v,e = .returned v)/\((∃S',J m S' W')\/Jx W')
def ItOK(P:Ç)(f:G)(kd:Ë)(t:Ty):Prop:=
 Fun P f/\∀(cv:Ä Y)(l:G)(J:à->j09->Á->Prop)(Je Jx:Á->Prop)(W:Á)(S:j09)(xs0:H t.den),
  (∀c S W S' W',Grew W W'->jt5 S W S' W'->J c S W->J c S' W')->(∀W W',Grew W W'->Je W->Je W')->(∀W W',Grew W W'->Jx W->Jx W')->(∀c S W,J c S W->∀g o,S g o->g<W.heap.size)->
  (∀c S W,J c S W->∃xs:H t.den,All2 (j82 S W) [.p [⟨.list t,xs⟩]] cv.toList/\(jAd kd xs.length c=X->Je W)/\
   (jAd kd xs.length c=U->itOk kd xs.length c=X/\∀S' W' vs,Grew W W'->jt5 S W S' W'->All2 (VRep S' W') (jol kd t xs c) vs->
    YieldAt (FR Ã) 0 P l vs.toArray W' λe W'=>(e = .returned (.bool X)/\∃S',J (jok kd c) S' W')\/(e = .returned (.bool U)/\Jx W')))->
  (∃S',(∀g o,S' g o->g<W.heap.size)/\All2 (j82 S' W) [.p [⟨.list t,xs0⟩]] cv.toList)->J (jkb kd xs0.length) S W->
  CallsIn (FR Ã) 0 P f (#[.func (.yield l) #[] #[]]++cv) W λe W'=>(∃v,e = .returned v)/\(Je W'\/Jx W')
def jv3(P:Ç)(fK fS e:G):Prop:=Fun P fK/\Fun P fS/\∀(w:Á)(g:G)(es:Ä Ø)(clock:G)(ks:H à),
 w.heap[g]? = B (.map es clock)->MapKept.Stamped es clock->es.toList.map (·.key)=ks.map (Ù .i64)->(∀x∈ks, -9223372036854775808<=x/\x<=9223372036854775807)->ks.length<=1000000->
 Calls P fK #[.map (B g)] w λr w1=>∃c,r = .returned c/\Grew w w1/\Calls P fS #[c] w1 λr2 w2=>∃v,r2 = .returned v/\w2.ownsRow w1.heap.size e 1 v ks.length ((jeC ks).map (Ù .i64))/\Grew w1 w2
def jzb(P:Ç)(f e sz:G):Prop:=Fun P f/\∀(w:Á)(n:à),0<=n->n<=1000000->
 Calls P f #[.slice Ã 0 0,.int .i64 n] w λr w'=>∃v,r = .returned v/\w'.ownsRow w.heap.size e sz v 0 []/\Grew w w'
def BwK(P:Ç)(f:G):Ë×Ty->Prop
 |(X,.arr fK (.arr e .bool))=>jv3 P fK f e
 |(X,.arr e (.arr sz .unit))=>jzb P f e sz
 |(kd,t)=>ItOK P f kd t
theorem BwK.it{P:Ç}{f:G}{kd:Ë}{t:Ty}(h:BwK P f (kd,t))(ht:kd=X->t=segT):ItOK P f kd t:=by
 cases kd with
 |false=>exact h
 |true=>obtain rfl:=ht rfl;exact h
theorem jxV(ks:H à):(jeC ks).length=ks.length:=by
 have hi:∀(x:à)(l:H à),(insI x l).length=l.length+1:=by intro x l;induction l<;>grind[insI]
 induction ks<;>grind[jeC]
theorem jhv{vt:Ty}:∀{xs:H (à×vt.den)}{l:H Ø},All2 (λ(x:(Ty.int .i64).den×vt.den)(e:Ø)=>Rep S w (.int .i64) x.1 [e.key]/\VRep S w ⟨vt,x.2⟩ e.val) xs l->
  l.map (·.key)=(xs.map λx=>x.1).map (Ù .i64)
 |[],[],_=>rfl
 |[],_::_,h=>h.elim
 |_::_,[],h=>h.elim
 |y::r,z::q,h=>by
  have h1:[z.key]=[Ù .i64 y.1]:=h.1.1;simp only[ï,List.cons.injEq];exact⟨by simpa using h1,jhv h.2⟩
theorem jt7{P:Ç}{E:Env}(hbw:∀f t,E.bw f=B t->BwK P f t)(hR:Rel E.N E.np S0 w0 refs σ a w S γ)(hc:j2z σ){o o2:É}(hd:jeV E.N o=X)(hd2:jeV E.N o2=X)
  {σ':St}(h:jmU E σ o o2=B (X,σ')){next next1:Æ->Á->Prop}{Q:â->Æ->Á->Prop}
  (hn1:∀a1 w1,o2.wp P a1 w1 next Q->next1 a1 w1)(hn:∀a' w' S' γ',Rel E.N E.np S0 w0 refs σ' a' w' S' γ'->j2z σ'->next a' w'):o.wp P a w next1 Q:=by
 unfold jmU at h;split at h
 case h_2=>simp at h
 rename_i c1 c2 ho ho2;split at h
 case h_2=>simp at h
 rename_i f1 x f2 d hc1 ha1 hc2 ha2;split at h
 case h_2=>simp at h
 rename_i fK b fS hf1 hx hf2;split at h
 case h_2=>simp at h
 rename_i fK' e em ta xs fr hbe hbb;split at h
 case h_2=>simp at h
 rename_i cq ys hkb;split at h
 case isFalse=>simp at h
 rename_i hcond;obtain⟨rfl,hod,hem,hee,hfree⟩:=hcond;simp only[j5,j9]at h;obtain⟨rfl,rfl⟩:=h;obtain⟨hFK,hFS,hspec⟩:jv3 P fK' fS e:=hbw _ _ hbe;have evx:=jat hR x;rw[hx]at evx;have hux:a.eval x=γ b:=evx.1.2.2 _ hbb;unfold jBG at hkb;split at hkb
 case h_2=>simp at hkb
 rename_i vt xs;simp only[j5,j9]at hkb;obtain⟨hok,rfl⟩:=hkb;obtain⟨g,es,clock,hg,hh,hall,hst⟩:jop S w (.pair (.int .i64) vt) xs (γ b):=by rcases (hR.box b _ hbb).1 with⟨hm,_⟩|⟨_,hm⟩;all_goals simp_all
 unfold job at hok;simp only[À,List.all_eq_true,decide_eq_true_eq]at hok;have hln:xs.length<=1000000:=Õ hok.1;have hks:es.toList.map (·.key)=(xs.map λx=>x.1).map (Ù .i64):=by exact jhv hall
 have hsp:=hspec w g es clock (xs.map λx=>x.1) hh hst.1 hks (λz hz=>by
  grind) (by simpa using hln)
 have evf:=jat hR f1;rw[hf1]at evf;obtain⟨cv,hu1,hcv⟩:=evf.1
 obtain rfl:cv = #[]:=by
  have:cv.toList=[]:=by
   cases hq:cv.toList with
   |nil=>rfl
   |cons=>rw[hq]at hcv;exact hcv.elim
  exact Array.toList_eq_nil_iff.1 this
 have hrun:=jjL (w:=w) hFK ho hc1 hu1;have e1:c1.args.map a.eval ++ #[] = #[.map (B g)]:=by apply Array.ext';simp[ha1,hux,hg]
 rw[e1]at hrun;unfold Ý;rw[hrun,ç];refine hsp.mono ?_
 rintro r w1 ⟨c,rfl,hgr,hsp2⟩
 have hR1:=hR.grew hgr (S':=S) ⟨λ_ _ h=>h,λ_ _ h=> .inl h,λg o h=>ë (hR.here g o h) hgr.size⟩;obtain⟨hR2,hc2'⟩:=jfX hR1 hc (jkp hd) (s:= .one (.one .dead)) (v:=c) ⟨trivial,λh=>absurd rfl h⟩ rfl;have evf2:=jat hR2 f2;rw[hf2]at evf2;obtain⟨cv,hu2,hcv⟩:=evf2.1
 obtain rfl:cv = #[]:=by
  have:cv.toList=[]:=by
   cases hq:cv.toList with
   |nil=>rfl
   |cons=>rw[hq]at hcv;exact hcv.elim
  exact Array.toList_eq_nil_iff.1 this
 have hrun2:=jjL (w:=w1) hFS ho2 hc2 hu2;have hda:d<a.tmps.size:=by rw[hR.size];exact(jkp hd d hod).1
 have e2:c2.args.map (a.put o.dst c).eval ++ #[] = #[c]:=by
  apply Array.ext';have:(a.put o.dst c).eval (.tmp d)=c:=by show tm (a.put o.dst c) d=c;grind[jdx]
  simp[ha2,this]
 rw[e2]at hrun2;refine hn1 _ _ ?_;unfold Ý;rw[hrun2,ç];refine hsp2.mono ?_
 rintro r2 w2 ⟨v,rfl,hrow,hgr2⟩
 have hfr:(σ.setD o.dst (.one (.one .dead))).bx ((o2.dst.getD 0)*64) = .free:=by rw[show (σ.setD o.dst (.one (.one .dead))).bx=σ.bx by rw[hod];rfl];grind[j6s]
 have hblk:∀g',blk v=B g'->w1.heap.size<=g'/\g'<w2.heap.size:=by intro g' hg';rcases hrow.2 with⟨rfl,_⟩|⟨gb,cap,cur,rfl,hb0,hgb,_⟩;all_goals grind[blk]
 have hrow0:w2.ownsRow 0 e (Ty.int .i64).size v (jdb xs).length (((jdb xs).map (λx=>[Ù .i64 x])).flatten):=by
  have e3:((jdb xs).map (λx=>[Ù .i64 x])).flatten=(jeC (xs.map λx=>x.1)).map (Ù .i64):=by
   unfold jdb;induction jeC (xs.map λx=>x.1) with
   |nil=>rfl
   |cons y r ih=>simp_all
  rw[e3,show (jdb xs).length=(xs.map λx=>x.1).length from jxV _];refine⟨hrow.1,?_⟩;rcases hrow.2 with hl|⟨gb,cap,cur,h1,h2,h3⟩
  .exact .inl hl
  .exact .inr ⟨gb,cap,cur,h1,Nat.zero_le _,h3⟩
 have hnl:=jfW hR2 hfr (w':=w2) (S':=S) (v':=v) (e:=e) hee (el:= .int .i64) (zs:=jdb xs) (frz:=U) (css:=(jdb xs).map λx=>[Ù .i64 x])
  (λg' o' hs=>⟨hs,Ì (hgr2.old g' (hR2.here g' o' hs))⟩) (λg' hg' _=>hgr2.old g' hg') hgr2.size
  (λg' hg'=>⟨.inl (û hR2.grow (hblk g' hg').1),λk b' hb' hk=>by have:=j4O (hR2.box k b' hb') hk;grind,(hblk g' hg').2⟩)
  (λ_ _ h=> .inl h) hgr2.os hgr2.tape hgr2.output hrow0 (by
   generalize jdb xs=l
   induction l with
   |nil=>trivial
   |cons y r ih=>exact⟨rfl,ih⟩)
  (λg' hg'=>⟨λ_ o' hs=>by have:=hR2.here g' o' hs;grind,λh=>by simp at h⟩) (λg' hg'=>hR2.kw_new (hblk g' hg').1)
 obtain⟨hR3,hcel⟩:=hnl;obtain⟨hR4,hc4⟩:=jfX hR3 (λi=>hc2' i) (jkp hd2) (s:= .one (.one (.ol ((o2.dst.getD 0)*64)))) (v:=v) hcel rfl;grind
theorem jt8{P:Ç}{E:Env}(hbw:∀f t,E.bw f=B t->BwK P f t)(hR:Rel E.N E.np S0 w0 refs σ a w S γ)(hc:j2z σ){o:É}(hd:jeV E.N o=X)
  {σ':St}(h:jmV E σ o=B (X,σ')){next:Æ->Á->Prop}{Q:â->Æ->Á->Prop}
  (hn:∀a' w' S' γ',Rel E.N E.np S0 w0 refs σ' a' w' S' γ'->j2z σ'->next a' w'):o.wp P a w next Q:=by
 unfold jmV at h;split at h
 case h_2=>simp at h
 rename_i c1 ho;split at h
 case h_2=>simp at h
 rename_i f1 x y hc1 ha1;split at h
 case h_2=>simp at h
 rename_i fG n hf1 hx hy;split at h
 case h_2=>simp at h
 rename_i e sz ti hbe hti;split at h
 case h_2=>simp at h
 rename_i ta hty;split at h
 case isFalse=>simp at h
 rename_i hcond;obtain⟨rfl,hee,hfree⟩:=hcond;simp only[j5,j9,À,decide_eq_true_eq]at h;obtain⟨⟨hn0,hn1⟩,rfl⟩:=h;obtain⟨hFG,hspec⟩:jzb P fG e ta.size:=hbw _ _ hbe;have evx:=jat hR x;rw[hx]at evx;have hux:a.eval x = .slice Ã 0 0:=evx.1;have evy:=jat hR y;rw[hy]at evy;have huy:a.eval y = .int .i64 n:=je0 evy;have evf:=jat hR f1;rw[hf1]at evf;obtain⟨cv,hu1,hcv⟩:=evf.1
 obtain rfl:cv = #[]:=by
  have:cv.toList=[]:=by
   cases hq:cv.toList with
   |nil=>rfl
   |cons=>rw[hq]at hcv;exact hcv.elim
  exact Array.toList_eq_nil_iff.1 this
 have hrun:=jjL (w:=w) hFG ho hc1 hu1;have e1:c1.args.map a.eval ++ #[] = #[.slice Ã 0 0,.int .i64 n]:=by apply Array.ext';simp[ha1,hux,huy]
 rw[e1]at hrun;unfold Ý;rw[hrun,ç];refine(hspec w n hn0 hn1).mono ?_
 rintro r w1 ⟨v,rfl,hrow,hgr⟩
 have hfr:σ.bx ((o.dst.getD 0)*64) = .free:=by grind[j6s]
 have hblk:∀g',blk v=B g'->w.heap.size<=g'/\g'<w1.heap.size:=by intro g' hg';rcases hrow.2 with⟨rfl,_⟩|⟨gb,cap,cur,rfl,hb0,hgb,_⟩;all_goals grind[blk]
 have hrow0:w1.ownsRow 0 e ta.size v ([]:H ta.den).length (([]:H (H Y)).flatten):=by refine⟨hrow.1,?_⟩;rcases hrow.2 with hl|⟨gb,cap,cur,h1,h2,h3⟩;all_goals grind
 have hnl:=jfW hR hfr (w':=w1) (S':=S) (v':=v) (e:=e) hee (el:=ta) (zs:=[]) (frz:=U) (css:=[])
  (λg' o' hs=>⟨hs,Ì (hgr.old g' (hR.here g' o' hs))⟩) (λg' hg' _=>hgr.old g' hg') hgr.size
  (λg' hg'=>⟨.inl (û hR.grow (hblk g' hg').1),λk b' hb' hk=>by have:=j4O (hR.box k b' hb') hk;grind,(hblk g' hg').2⟩)
  (λ_ _ h=> .inl h) hgr.os hgr.tape hgr.output hrow0 trivial
  (λg' hg'=>⟨λ_ o' hs=>by have:=hR.here g' o' hs;grind,λh=>by simp at h⟩) (λg' hg'=>hR.kw_new (hblk g' hg').1)
 obtain⟨hR3,hcel⟩:=hnl;obtain⟨hR4,hc4⟩:=jfX hR3 (λi=>hc i) (jkp hd) (s:= .one (.one (.ol ((o.dst.getD 0)*64)))) (v:=v) hcel rfl;grind
theorem jmy{P:Ç}{E:Env}(hT:j1K P E.T)(hC:j7R P E.C)(hbw:∀f t,E.bw f=B t->BwK P f t)(hR:Rel E.N E.np S0 w0 refs σ a w S γ)(hc:j2z σ){o:É}(hd:jeV E.N o=X){R:Type}{k:St->O R}{r:R}
  (h:runK E σ o k=B r){next:Æ->Á->Prop}{Q:â->Æ->Á->Prop}
  (hn:∀σ' a' w' S' γ',Rel E.N E.np S0 w0 refs σ' a' w' S' γ'->j2z σ'->k σ'=B r->next a' w'):o.wp P a w next Q:=by
 unfold runK at h;split at h
 .grind[jt8]
 .exact jby hT hC hR (act:=[]) (λg hg=>by simp at hg) (p:=U) (λ_=>hc) hd h (λσ' a' w' S' γ' hR' hc' hk=>hn _ _ _ _ _ hR' (hc' rfl) hk)
theorem jiF{P:Ç}{E:Env}(hT:j1K P E.T)(hC:j7R P E.C)(hbw:∀f t,E.bw f=B t->BwK P f t){ops:Ä É}(hbare:bare ops=X){R:Type}{k:St->O R}{r:R}{Q:â->Æ->Á->Prop}
  (hn:∀σ' a' w' S' γ',Rel E.N E.np S0 w0 refs σ' a' w' S' γ'->j2z σ'->k σ'=B r->Q .normal a' w') :
  ∀(n i:G)(σ:St)(a:Æ)(w:Á)(S:j09)(γ:G->Y),i+n=ops.size->Rel E.N E.np S0 w0 refs σ a w S γ->j2z σ->jbd E (ops.toList.drop i) σ k=B r->
   wpOps P ops Q (List.range' i n) a w
 |0,i,σ,a,w,S,γ,hi,hR,hc,h=>by
  rw[Ñ sqo_]at h;exact hn _ _ _ _ _ hR hc h
 |1,i,σ,a,w,S,γ,hi,hR,hc,h=>by
  have hlt:i<ops.size:=omg_;rw[Ê (by simpa using hlt),Ñ sqo_]at h;simp only[jbd]at h;split at h
  .rename_i hd;have ho:ops[i]? = B ops[i]:=Â hlt;simp only[Ò,wpOps,ho];have hg:ops[i].guard=none:=by have:=List.all_eq_true.1 hbare ops[i] smp_;simpa using this
   have hw:Å ops[i] (yielded ops a.tmps)=true:=by simp[Å,hg]
   simp only[hw,if_true];exact .inl (jmy hT hC hbw hR hc (by simpa using hd) (by simpa using h) (λσ' a' w' S' γ' hR' hc' hk=>hn _ _ _ _ _ hR' hc' hk))
  .simp at h
 |n+2,i,σ,a,w,S,γ,hi,hR,hc,h=>by
  have hlt:i<ops.size:=omg_;have hlt2:i+1<ops.size:=omg_;rw[Ê (by simpa using hlt),Ê (by simpa using hlt2)]at h;simp only[jbd]at h;have ho:ops[i]? = B ops[i]:=Â hlt;have ho2:ops[i+1]? = B ops[i+1]:=Â hlt2
  have hw:∀(j:G)(hj:j<ops.size)(a:Æ),Å ops[j] (yielded ops a.tmps)=true:=λj hj a=>by
   have hg:ops[j].guard=none:=by have:=List.all_eq_true.1 hbare ops[j] smp_;simpa using this
   simp[Å,hg]
  split at h
  case isFalse=>simp at h
  rename_i hd;split at h
  .rename_i cq σ' hks;split at h
   case isFalse=>simp at h
   rename_i hd2;cases cq with
   |false=>simp at h
   |true=>simp only[j6]at h;simp only[Ò,wpOps,ho,ho2,hw i hlt,hw (i+1) hlt2,if_true];refine .inl (jt7 hbw hR hc (by simpa using hd) (by simpa using hd2) (by simpa using hks) (λa1 w1 hq=> .inl hq) (λa' w' S' γ' hR' hc'=>?_));exact jiF hT hC hbw hbare hn n (i+2) σ' a' w' S' γ' omg_ hR' hc' h
  .rw[Ò];simp only[wpOps,ho,hw i hlt,if_true];refine .inl (jmy hT hC hbw hR hc (by simpa using hd) (by simpa using h) (λσ' a' w' S' γ' hR' hc' hk=>?_));refine jiF hT hC hbw hbare hn (n+1) (i+1) σ' a' w' S' γ' omg_ hR' hc' ?_;rw[Ê (by simpa using hlt2)];simpa using hk
theorem jt9{P:Ç}{E:Env}(hT:j1K P E.T)(hC:j7R P E.C)(hbw:∀f t,E.bw f=B t->BwK P f t)(hR:Rel E.N E.np S0 w0 refs σ a w S γ)(hc:j2z σ){ops:Ä É}{R:Type}{k:St->O R}{r:R}
  {Q:â->Æ->Á->Prop}(hn:∀σ' a' w' S' γ',Rel E.N E.np S0 w0 refs σ' a' w' S' γ'->j2z σ'->k σ'=B r->Q .normal a' w')(h:ju3 E ops σ k=B r) :
  wpOps P ops Q (List.range ops.size) a w:=by
 rw[ß];unfold ju3 at h;split at h
 .rename_i hb;exact jiF hT hC hbw hb hn ops.size 0 σ a w S γ omg_ hR hc (by simpa using h)
 .simp at h
theorem jDz{P:Ç}{f:G}{t:Ty}(h:BwOK P f t):ItOK P f U t:=by
 refine⟨h.1,λcv l J Je Jx W S xs0 hst hse hsx hh hY hcap hJ0=>?_⟩;obtain⟨S',hS',hc'⟩:=hcap;refine CallsIn.mono (h.2 cv xs0.length l (λj S W=>j<=xs0.length/\J ((xs0.length:à)-j) S W) Jx W S (λj S W S' W' hg hs hj=>⟨hj.1,hst _ _ _ _ _ hg hs hj.2⟩) hsx (λj S W hj=>hh _ _ _ hj.2) ?_ ⟨S',xs0,rfl,hS',hc'⟩ ⟨Nat.zero_le _,?_⟩) ?_
 .rintro j S W hj ⟨_,hJ⟩
  obtain⟨xs,h1,_,h3⟩:=hY _ _ _ hJ;obtain⟨h4,h5⟩:=h3 (by show decide _=U;exact decide_eq_false omg_);have h4:(xs0.length:à)-j<=Int.ofNat xs.length:=of_decide_eq_true h4;have h4:(xs0.length:à)-j<=(xs.length:à):=h4;refine⟨xs,h1,omg_,λS' W' x v hg hs hx hv=>?_⟩
  have hv2:All2 (VRep S' W') (jol U t xs ((xs0.length:à)-j)) [.int .i64 ((xs0.length-1-j:G):à),v]:=by
   refine⟨⟨?_,λhm=>absurd hm (show¬jdn (.int .i64)=X by decide),λ_=>rfl⟩,?_,trivial⟩
   .show [Ù .i64 ((xs0.length-1-j:G):à)]=[Ù .i64 ((xs0.length:à)-j-1)];grind
   .have e:List.getD xs ((xs0.length:à)-j-1).toNat t.dflt=x:=by rw[show ((xs0.length:à)-j-1).toNat=xs0.length-1-j by omega];simp[List.getD,hx]
    rw[e];exact hv
  obtain⟨fn,tmps,as,bo,hy,hR⟩:=h5 S' W' _ hg hs hv2;refine⟨fn,tmps,as,bo,hy,hR.mono λe W' he=>?_⟩;grind[jok]
 .grind[jkb]
 .rintro e W' ⟨hv,⟨S',_,hJ⟩|hx⟩
  .obtain⟨xs,_,h2,_⟩:=hY _ _ _ hJ;exact⟨hv,.inl (h2 (by show decide _=X;exact decide_eq_true omg_))⟩
  simp_all
def jrO(P:Ç)(E:Env)(ro:O G)(c:é):Prop:=
 ∀(b n:G){S0:j09}{w0:Á}{refs:Refs}{σ:St}{a:Æ}{w:Á}{S:j09}{γ:G->Y}{R:Type}{k:Ex->St->O R}{r:R},jgL w0 refs->
  (∀x∈j1E b c,jmx E x.1 x.2/\MrOK E x.1 x.2)->Rel E.N E.np S0 w0 refs σ a w S γ->j2z σ->j0V E b c σ k=B r->c.wpIn (FR ro) n P (Post E S0 w0 refs (j1H c) k r) a w
theorem j69:∀(c:é)(b:G),j1H c=X->j1E b c=[]
 |.seq x y,b,h=>by simp only[j1H,À]at h;simp[j1E,j69 x b h.1,j69 y b h.2]
 |.cond _ x y,b,h=>by simp only[j1H,À]at h;simp[j1E,j69 x b h.1,j69 y b h.2]
 |.block id c,b,h=>by simp only[j1H]at h;simp[j1E,j69 c id h]
 |.loop c,b,h=>by simp[j1H]at h
 |.rangeFunc _ _ _ _,b,h=>by simp[j1H]at h
 |.skip,_,_=>rfl
 |.region _ _ _,_,_=>rfl
 |.exit _,_,_=>rfl
 |.goto _,_,_=>rfl
 |.label _,_,_=>rfl
 |.ret,_,_=>rfl
 |.scope c,b,h=>by simp only[j1H]at h;simp[j1E,j69 c b h]
theorem jv4:∀(L:H (G×Y))(T:Ä Y),jeY (L.map (·.1))=X->(∀q∈L,q.1<T.size)->
  (∀q∈L,(L.foldl (λt (q:G×Y)=>t.setIfInBounds q.1 q.2) T).getD q.1 undef=q.2)/\(∀i,i∉L.map (·.1)->(L.foldl (λt (q:G×Y)=>t.setIfInBounds q.1 q.2) T).getD i undef=T.getD i undef)/\
  (L.foldl (λt (q:G×Y)=>t.setIfInBounds q.1 q.2) T).size=T.size
 |[],T,_,_=>⟨λq h=>by simp at h,λ_ _=>rfl,rfl⟩
 |q::r,T,hn,hb=>by
  simp only[ï,jeY,À,Û,Í,decide_eq_false_iff_not]at hn;obtain⟨h1,h2,h3⟩:=jv4 r (T.setIfInBounds q.1 q.2) hn.2 (λp hp=>by simpa using hb p (by simp[hp]));have hq:=hb q smp_;refine⟨λp hp=>?_,λi hi=>?_,by simpa using h3⟩
  .rcases List.mem_cons.1 hp with rfl|hp
   .show (List.foldl (λt (q:G×Y)=>t.setIfInBounds q.1 q.2) (T.setIfInBounds p.1 p.2) r).getD p.1 undef=_;rw[h2 p.1 hn.1];simp[Array.getD,hq]
   .exact h1 p hp
  .simp only[ï,List.mem_cons,not_or]at hi;show (List.foldl (λt (q:G×Y)=>t.setIfInBounds q.1 q.2) (T.setIfInBounds q.1 q.2) r).getD i undef=_;rw[h2 i hi.2];rw[Þ,Array.getElem?_setIfInBounds,if_neg (λh=>hi.1 h.symm),<-Þ]
theorem jrP{N:NT}{np:G}:∀(L:H (G×TV)){σ:St},Rel N np S0 w0 refs σ a w S γ->j2z σ->(∀q∈L,VRep S w q.2 (tm a q.1))->Rel N np S0 w0 refs (setL L σ) a w S γ/\j2z (setL L σ)
 |[],_,hR,hc,_=>⟨hR,hc⟩
 |q::r,σ,hR,hc,hv=>by
  have h1:=jrG hR (s:=q.1) (x:= .one (jcs q.2.t q.2.v)) (je4 (hv q smp_));refine jrP r h1 (λi=>?_) (λp hp=>hv p (by simp[hp]));simp only[St.setS];split
  .rfl
  .exact hc i
theorem joQ{S:j09}{w:Á}:∀{ps:H G}{xs:H TV}{vs:H Y},All2 (VRep S w) xs vs->∀q∈ps.zip xs,∃v,(q.1,v)∈ps.zip vs/\VRep S w q.2 v
 |[],_,_,_,q,h=>by simp at h
 |p::ps,[],vs,_,q,h=>by simp at h
 |p::ps,x::xs,[],h2,q,h=>h2.elim
 |p::ps,x::xs,v::vs,h2,q,h=>by
  simp only[ó,List.mem_cons]at h;rcases h with rfl|h
  .exact⟨v,smp_,h2.1⟩
  .obtain⟨u,h3,h4⟩:=joQ h2.2 q h;exact⟨u,by simp[h3],h4⟩
theorem joR:∀(ps:H G)(vs:H Y),jeY ps=X->jeY ((ps.zip vs).map (·.1))=X
 |[],_,_=>by simp[jeY]
 |p::ps,[],_=>by simp[jeY]
 |p::ps,v::vs,h=>by
  simp only[jeY,À,Û,Í,decide_eq_false_iff_not,ó,ï]at h ⊢;refine⟨λhm=>h.1 ?_,joR ps vs h.2⟩;obtain⟨q,hq,he⟩:=List.mem_map.1 hm;rw[<-he];exact(ÿ hq).1
theorem jAD{kd:Ë}{t:Ty}{xs:H t.den}{c:à}(h:kd=X->t=segT):(jol kd t xs c).length=cond kd 1 2:=by
 cases kd with
 |false=>rfl
 |true=>have:=h rfl;subst this;rfl
theorem jxW{P:Ç}{E:Env}(hbw:∀f t,E.bw f=B t->BwK P f t)(hpin:E.N.pin=λ_=>U){b n:G}{g:î}{ps:Ä G}{x y:é}
  (ihx:∀l,j1H x=X->jrO P (E.rnd ps x y) (B l) x)(ihy:∀l,j1H y=X->jrO P (E.rnd ps x y) (B l) y)
  (h0:E.off0=E)(hLO:jmx E b (.rangeFunc g ps x y)){R:Type}{k:Ex->St->O R}{r:R}(hm:jgL w0 refs)(hR:Rel E.N E.np S0 w0 refs σ a w S γ)(hc:j2z σ)
  (h:j0V E b (.rangeFunc g ps x y) σ k=B r) :
  (Code.rangeFunc g ps x y).wpIn (FR Ã) n P (Post E S0 w0 refs (j1H (.rangeFunc g ps x y)) k r) a w:=by
 refine jBQ (n:=1) ?_;simp only[j0V]at h;split at h
 case h_2=>simp at h
 rename_i f t xs hev;split at h
 case h_2=>simp at h
 rename_i kd hok;split at h
 case h_2=>simp at h
 rename_i s hs;obtain⟨fu0,e,s',hloop,hk⟩:=hLO _ R _ r h
 rw[show joo E b (.rangeFunc g ps x y)=jjl E b g ps x y from by
  funext s
  show jjl E.off0 b g ps x y s=_;rw[h0]]at hloop
 have hrep:=jat hR g;rw[hev]at hrep;obtain⟨⟨cv,hgv,hcv⟩,_⟩:=hrep;obtain⟨S1,γ1,hR1,hc1⟩:=j6Q hR hc hs;have parts:∀f t kd,rfK E b f t ps x y=B kd->E.bw f=B (kd,t)/\(kd=X->t=segT)/\ps.toList.length=cond kd 1 2/\jeY ps.toList=X/\(∀p∈ps.toList,p<E.N.n)/\j1H x=X/\j1H y=X/\pinK ps x y (E.keep b)=true:=by grind[rfK]
 obtain⟨hbf,hsg,h2,hnd,hlt,hpx,hpy,hpk⟩:=parts f t kd hok;obtain⟨⟨fn',hfn',hbody,hnm⟩,hit⟩:=(hbw f _ hbf).it hsg
 have heg:∀args w,(callFunc f args).run P w = .ok (.enter f args) w:=λargs w=>by
  have h2':¬fn'.body=none:=λhn=>by grind
  have h3' : ¬ fn'.name = "runtime.NumGoroutine" := by simpa using hnm
  simp[callFunc,hfn',h2',h3']
 refine wpIn_rangeFunc λfn _=>?_;obtain⟨rec,hrec⟩:∃rec:LoopState->O é->Loop,rec=λst pe=>{ state:=st,pending:=pe,fn,tmps:=a.tmps,params:=ps,assign:=x,body:=y,defers:=w.heap.size }:=⟨_,rfl⟩;obtain⟨W1,hW1⟩:∃W1,(w.alloc (.deferred (B []))).alloc (.loop (rec .ready Ã))=W1:=⟨_,rfl⟩
 refine⟨w.heap.size+1,[{ target:= .collected w.heap.size,args:=#[] }],W1,{ target:= .fn (.func f) cv,args:=#[.func (.yield (w.heap.size+1)) #[] #[]] },W1,f,
  #[.func (.yield (w.heap.size+1)) #[] #[]]++cv,W1,?_,?_,λ_ _=>trivial,?_,λhd=>omg_,?_⟩
 .rw[<-hW1,hrec];exact run_enterLoop_outer _ _ _ _ _
 .simp only[resolve,hgv];simp[go_sem]
 .simp[invoke,go_sem,heg]
 obtain⟨l,hl⟩:∃l,l=w.heap.size+1:=⟨_,rfl⟩;rw[<-hl];let refsK:(G->O Y)->Obj->Refs:=λfx o=>{ blks:=refs.blks,val:=refs.val,ds:=[],kw:=λg=>if g=l then B o else if g=w.heap.size then B (.deferred (B [])) else refs.kw g,fix:=fx,mv:=refs.mv }
 let fx:G->O Value:=λi=>if jsD ps x y i then B (a.tmps.getD i undef) else Ã
 let aI:Go.Act:={ tmps:=a.tmps,defers:=[] }
 have hkl:∀fx o,(refsK fx o).kw l=B o:=λfx o=>by simp[refsK]
 have hwl:w0.heap.size<=l:=by have:=hR.grow;omega
 have hmk:∀fx o,jgL w0 (refsK fx o):=λfx o=>⟨List.nodup_nil,λd hd=>by simp[refsK]at hd⟩
 have hput:∀{N:NT}{fx:G->O Y}{o o':Obj}{σ:St}{a:Æ}{W:Á}{S:j09}{γ:G->Y},o.isCells=U->o'.isCells=U->Rel N E.np S0 w0 (refsK fx o) σ a W S γ->
   Rel N E.np S0 w0 (refsK fx o') σ a (W.putObj l o') S γ:=by
  intro N fx o o' σ a W S γ h1 h2 hR;have:=hR.putO (hkl fx o) hwl h1 h2;grind
 have hframe:∀{N N':NT}{fx fx':G->O Y}{o:Obj}{K:Keep}{s:Snap}{a a':Æ}{W:Á}{S:j09}{γ:G->Y},Rel N E.np S0 w0 (refsK fx o) (j0Q E.np K s) a W S γ->a'.tmps.size=N'.n->a'.defers=[]->
   (∀i∈K.slots,tm a' i=tm a i)->(∀i v,fx' i=B v->N'.pin i=X/\a'.tmps.getD i undef=v)->Rel N' E.np S0 w0 (refsK fx' o) (j0Q E.np K s) a' W S γ:=by
  intro N N' fx fx' o K s a a' W S γ hR h1 h2 h3 h4;exact hR.frame rfl rfl h1 h2 h3 (λg u hg=>hR.kept g u hg) h4
 have hnofix:∀i v,(λ_=>Ã:G->O Y) i=B v->E.N.pin i=X/\aI.tmps.getD i undef=v:=λi v h=>by simp at h
 let J:à->j09->Á->Prop:=λc S W=>∃s γ fu,Rel E.N E.np S0 w0 (refsK (λ_=>Ã) (.loop (rec .ready Ã))) (j0Q E.np (E.keep b) s) aI W S γ/\j2z (j0Q E.np (E.keep b) s)/\
  loopN (jjl E b g ps x y) fu (.s (.one (.d (.int .i64) c))::s)=B (e,s')
 let Je:Á->Prop:=λW=>∃S γ,Rel E.N E.np S0 w0 (refsK (λ_=>Ã) (.loop (rec .ready Ã))) (j0Q E.np (E.keepX b e) s') aI W S γ/\j2z (j0Q E.np (E.keepX b e) s')/\e = .normal
 let Jx:Á->Prop:=λW=>∃S γ c,Rel E.N E.np S0 w0 (refsK (λ_=>Ã) (.loop (rec .done (B c)))) (j0Q E.np (E.keepX b e) s') aI W S γ/\j2z (j0Q E.np (E.keepX b e) s')/\
  ((e = .ret/\c = .ret)\/∃i,e = .exit i/\c = .exit i)
 have hpin1:∀K:Keep,pinK ps x y K=X->∀i∈K.slots,jsD ps x y i=true:=λK hK i hi=>List.all_eq_true.1 hK i hi;have hpnot:∀i,jsD ps x y i=X->i∉ps.toList:=by grind[jsD]
 have hJ0:J (jkb kd xs.length) S1 W1:=by
  refine⟨s,γ1,fu0,?_,hc1,hloop⟩;have hA:=(hR1.allocO (.deferred (B []))).allocO (.loop (rec .ready Ã));rw[hW1]at hA;refine hA.frame rfl rfl hR.size rfl (λi _=>rfl) (λg' u hg'=>?_) hnofix;simp only[refsK]at hg';split at hg'
  .rename_i e';simp only[j5]at hg';subst hg';rw[e',hl];refine⟨?_,λk' b' hb' hbk=>?_⟩
   .grind[á,World.size_alloc]
   .have:=j4O (hR1.box k' b' hb') hbk;omega
  .split at hg'
   .rename_i _ e';simp only[j5]at hg';subst hg';rw[e'];refine⟨?_,λk' b' hb' hbk=>?_⟩
    .grind[heap_alloc_old,á]
    .have:=j4O (hR1.box k' b' hb') hbk;omega
   .exact hA.kept g' u hg'
 have haI:aI.eval g=a.eval g:=by cases g<;>rfl
 have hsz0:aI.tmps.size=E.N.n:=hR.size
 have hgrx:∀{K:Keep}{s:Snap}{o:Obj}{W W':Á}{S:j09}{γ:G->Y},Grew W W'->Rel E.N E.np S0 w0 (refsK (λ_=>Ã) o) (j0Q E.np K s) aI W S γ->Rel E.N E.np S0 w0 (refsK (λ_=>Ã) o) (j0Q E.np K s) aI W' S γ:=
  λhg h1=>h1.grew hg ⟨λ_ _ h=>h,λ_ _ h=> .inl h,λg o h=>ë (h1.here g o h) hg.size⟩
 refine CallsIn.mono (hit cv l J Je Jx W1 S1 xs (λc S W S' W' hg hs ⟨s,γ,fu,h1,h2,h3⟩=>⟨s,γ,fu,h1.grew hg hs,h2,h3⟩) (λW W' hg ⟨S,γ,h1,h2⟩=>⟨S,γ,hgrx hg h1,h2⟩) (λW W' hg ⟨S,γ,c,h1,h2⟩=>⟨S,γ,c,hgrx hg h1,h2⟩)
  (λc S W ⟨s,γ,fu,h1,_⟩=>h1.here) ?_ ?_ hJ0) ?_
 ·-- a round
  rintro cn S W ⟨s,γ,fu,hRj,hcj,hlp⟩
  cases fu with
  |zero=>simp[loopN]at hlp
  |succ fu=>
  simp only[loopN]at hlp;cases hst:jjl E b g ps x y (.s (.one (.d (.int .i64) cn))::s) with
  |none=>rw[hst]at hlp;simp at hlp
  |some r0=>
  rw[hst]at hlp;unfold jjl jkc at hst;dsimp only at hst;split at hst
  case h_2=>simp at hst
  rename_i f' t' xs' hev';split at hst
  case h_2=>simp at hst
  rename_i kd' hok';have hrep':=jat hRj g;rw[hev',haI,hgv]at hrep';obtain⟨⟨cv',hgv',hcap⟩,_⟩:=hrep';simp only[Value.func.injEq,Fn.func.injEq,true_and]at hgv';obtain⟨rfl,rfl⟩:=hgv';have ht:=(parts f t' kd' hok').1;rw[hbf]at ht;simp only[j5,j9]at ht;obtain⟨rfl,rfl⟩:=ht;refine⟨xs',hcap,λhfi=>?_,λhfi=>?_⟩
  .grind[j6Q]
  rw[hfi,j7]at hst;cases hle:itOk kd xs'.length cn with
  |false=>rw[hle]at hst;simp at hst
  |true=>
  rw[hle,j6]at hst;refine⟨rfl,λSg Wg vs hgw hgs hvs=>?_⟩;have hRj:=hRj.grew hgw hgs;have hvl:vs.toArray.size=ps.size:=by grind[All2.length,jAD]
  refine⟨fn,_,x,y,by have:=run_yield (P:=P) (args:=vs.toArray) (hRj.kept l _ (hkl _ _)).1 (by rw[hrec];exact hvl);rw[hrec]at this;exact this,roundIn_of_wpIn trivial ?_⟩;let a1:Go.Act:={ tmps:=(ps.zip vs.toArray).foldl (λt (q:G×Y)=>t.setIfInBounds q.1 q.2) a.tmps,defers:=[] }
  have hzl:(ps.zip vs.toArray).toList=ps.toList.zip vs:=smp_;have ha1:a1.tmps=(ps.toList.zip vs).foldl (λt (q:G×Y)=>t.setIfInBounds q.1 q.2) a.tmps:=by grind
  have hsub:∀i,i∈(ps.toList.zip vs).map (·.1)->i∈ps.toList:=λi hi=>by
   obtain⟨q,hq,rfl⟩:=List.mem_map.1 hi;exact(ÿ hq).1
  have hndz:jeY ((ps.toList.zip vs).map (·.1))=true:=joR _ _ hnd;obtain⟨htp,hto,htz⟩:=jv4 (ps.toList.zip vs) a.tmps hndz (λq hq=>by rw[hR.size];exact hlt _ (ÿ hq).1);rw[<-ha1]at htp hto htz;have hszr:a1.tmps.size=E.N.n:=htz.trans hR.size;have htm:∀i,i∉ps.toList->tm a1 i=tm aI i:=λi hi=>hto i (λh=>hi (hsub i h))
  have hRa:Rel (E.rnd ps x y).N E.np S0 w0 (refsK fx (.loop (rec .ready Ã))) (j0Q E.np (E.keep b) s) a1 Wg Sg γ:=hframe hRj hszr rfl (λi hi=>htm i (hpnot i (hpin1 _ hpk i hi))) (λi u hu=>by
   simp only[fx]at hu;split at hu
   .rename_i hp;simp only[j5]at hu;refine⟨hp,?_⟩;grind
   .simp at hu)
  obtain⟨hRc,hcr⟩:=jrP (ps.toList.zip (jol kd t xs' cn)) hRa hcj (λq hq=>by
   obtain⟨v,h3,h4⟩:=joQ hvs q hq;have:=htp _ h3;show VRep Sg Wg q.2 (a1.tmps.getD q.1 undef);rw[this];exact h4)
  refine wpIn_mono (ihx l hpx 0 0 (hmk _ _) (by rw[j69 x 0 hpx];simp) hRc hcr hst) ?_
  rintro e1 a2 w2 ⟨refs2,ex,σ2,S2,γ2,_,hpl,rfl,hR2,hc2,hk2⟩
  have:=hpl hpx;subst this;cases ex with
  |exit i=>simp at hk2
  |ret=>simp at hk2
  |normal=>
  refine⟨_,run_beginRound (hR2.kept l _ (hkl _ _)).1 (by rw[hrec]),?_⟩;have hR3:Rel (E.rnd ps x y).N E.np S0 w0 (refsK fx (.loop (rec .busy Ã))) σ2 a2 (w2.putObj l (.loop { rec .ready Ã with state:= .busy })) S2 γ2:=by have:=hput (o':= .loop (rec .busy Ã)) rfl rfl hR2;rw[hrec]at this ⊢;exact this
  refine wpIn_mono (ihy l hpy 0 0 (hmk _ _) (by rw[j69 y 0 hpy];simp) hR3 hc2 hk2) ?_
  rintro e1 a3 w3 ⟨refs3,ex,σ3,S3,γ3,_,hpl,rfl,hR4,hc4,hk4⟩
  have:=hpl hpy;subst this
  have hback:∀{K:Keep}{s:Snap}{o:Obj}{W:Á}{S:j09}{γ:G->Y},pinK ps x y K=X->Rel (E.rnd ps x y).N E.np S0 w0 (refsK fx o) (j0Q E.np K s) a3 W S γ->
    Rel E.N E.np S0 w0 (refsK (λ_=>Ã) o) (j0Q E.np K s) aI W S γ:=λhK hR=>hframe hR hsz0 rfl (λi hi=>by
   have:=(hR.fix i (a.tmps.getD i undef) (by grind)).2;exact this.symm) hnofix
  have hleave:∀(ex:Ex)(c:é),((ex = .ret/\c = .ret)\/∃i,ex = .exit i/\c = .exit i)->
    (cond (pinK ps x y (E.keepX b ex)) (match j7e E.np (E.keepX b ex) σ3 with
     |some s'=>B (Sum.inr (ex,s'))
     |none=>Ã) Ã:O (Snap ⊕ Ex×Snap))=B r0->
    ∃v w',(Instr.endRound l (B c)).run P w3 = .ok v w'/\((è v = .returned (.bool X)/\∃S',J (jok kd cn) S' w')\/(è v = .returned (.bool U)/\Jx w')):=by
   intro ex c hex hk5;cases hpx':pinK ps x y (E.keepX b ex) with
   |false=>rw[hpx']at hk5;simp at hk5
   |true=>
   rw[hpx',j6]at hk5;split at hk5
   case h_2=>simp at hk5
   rename_i s2 hs2;simp only[j5]at hk5;subst hk5;simp only[j5,j9]at hlp;obtain⟨rfl,rfl⟩:=hlp;obtain⟨S5,γ5,hR5,hc5⟩:=j6Q hR4 hc4 hs2;refine⟨_,_,run_endRound (B c) (hR5.kept l _ (hkl _ _)).1,.inr ⟨rfl,S5,γ5,c,?_,hc5,hex⟩⟩;have:=hput (o':= .loop (rec .done (B c))) rfl rfl (hback hpx' hR5);rw[hrec]at this ⊢;exact this
  cases ex with
  |normal=>
   dsimp only at hk4
   split at hk4
   case h_2=>simp at hk4
   rename_i s2 hs2;simp only[j5]at hk4;subst hk4;obtain⟨S5,γ5,hR5,hc5⟩:=j6Q hR4 hc4 hs2;show∃v w',(Instr.endRound l Ã).run P w3 = .ok v w'/\_;refine⟨_,_,run_endRound Ã (hR5.kept l _ (hkl _ _)).1,.inl ⟨rfl,S5,s2,γ5,fu,?_,hc5,?_⟩⟩
   .have:=hput (o':= .loop (rec .ready Ã)) rfl rfl (hback hpk hR5);rw[hrec]at this ⊢;exact this
   .exact hlp
  |exit i=>exact hleave _ _ (.inr ⟨i,rfl,rfl⟩) hk4
  |ret=>exact hleave _ _ (.inl ⟨rfl,rfl⟩) hk4
 .refine⟨S,λg o h=>by rw[<-hW1];have:=hR.here g o h;simp;omega,hcv.mono λx z hx=>?_⟩;rw[<-hW1]
  exact j82.keep (λg o h=>⟨h,by
   have:=hR.here g o h;rw[World.cell?_alloc_lt _ _ _ sqo_,World.cell?_alloc_lt _ _ _ this]⟩) hx
 .rintro e2 W2 ⟨⟨v,rfl⟩,hend⟩
  have hback:∀{K:Keep}{s:Snap}{o:Obj}{W:Á}{S:j09}{γ:G->Y},Rel E.N E.np S0 w0 (refsK (λ_=>Ã) o) (j0Q E.np K s) aI W S γ->
    ∃refs',jjp w0 refs refs'/\Rel E.N E.np S0 w0 refs' (j0Q E.np K s) { a with defers:=[{ target:= .collected w.heap.size,args:=#[] }]++a.defers } W S γ:=by
   intro K s o W S γ hRw;refine⟨{ blks:=refs.blks,val:=refs.val,ds:={ target:= .collected w.heap.size,args:=#[] }::refs.ds,kw:=λg=>if g=w.heap.size then B (.deferred (B [])) else refs.kw g,fix:=refs.fix,mv:=refs.mv },⟨rfl,rfl,rfl,⟨?_,?_⟩,rfl⟩,?_⟩
   .refine List.nodup_cons.2 ⟨λhm'=>?_,hm.1⟩;obtain⟨D,hD,_,hkD⟩:=hm.2 _ hm';simp only[Deferred.mk.injEq,Target.collected.injEq,and_true]at hD;rw[<-hD,hR.kw_new (ô _)]at hkD;simp at hkD
   .intro d hd;rcases List.mem_cons.1 hd with rfl|hd
    .exact⟨w.heap.size,rfl,hR.grow,smp_⟩
    .obtain⟨D,rfl,h1,h2⟩:=hm.2 d hd;grind
   .refine hRw.frame rfl rfl hR.size (by rw[hR.defers];rfl) (λi _=>rfl) (λg' u hg'=>hRw.kept g' u ?_) (λi v hv=>?_)
    .simp only[refsK]at hg' ⊢;by_cases h1:g'=l
     .exfalso;subst h1;rw[if_neg omg_,hR.kw_new omg_]at hg';simp at hg'
     .rw[if_neg h1];exact hg'
    .have:=(hR.fix i v hv).1;rw[hpin]at this;simp at this
  rcases hend with⟨S2,γ2,hRe,hce,rfl⟩|⟨S2,γ2,c,hRx,hcx,hex⟩
  .refine⟨Ã,_,by have:=run_endLoop (P:=P) (hRe.kept l _ (hkl _ _)).1 (by rw[hrec];simp);rw[hrec]at this;exact this,?_⟩;have hR6:=hput (o':= .loop { rec .ready Ã with state:= .exhausted }) rfl rfl hRe;obtain⟨refs',hle,hRe⟩:=hback hR6;rw[hrec]at hRe;exact⟨refs',.normal,_,S2,γ2,hle,λhf=>by simp[j1H]at hf,rfl,hRe,hce,hk⟩
  .have hR6:=hput (o':= .loop { rec .done (B c) with state:= .exhausted }) rfl rfl hRx;obtain⟨refs',hle,hRe⟩:=hback hR6;refine⟨B c,_,by have:=run_endLoop (P:=P) (hRx.kept l _ (hkl _ _)).1 (by rw[hrec];simp);rw[hrec]at this;exact this,?_⟩;rw[hrec]at hRe;rcases hex with⟨rfl,rfl⟩|⟨i,rfl,rfl⟩
   .exact wpIn_ret ⟨refs',.ret,_,S2,γ2,hle,λhf=>by simp[j1H]at hf,rfl,hRe,hcx,hk⟩
   .exact wpIn_exit ⟨refs',.exit i,_,S2,γ2,hle,λhf=>by simp[j1H]at hf,rfl,hRe,hcx,hk⟩
def MrS(P:Ç)(mrf:G->O (G×G)):Prop:=
 ∀{E:Env},E.mr=mrf->j1K P E.T->j7R P E.C->CFun E.C->(∀f t,E.bw f=B t->BwK P f t)->(E.N.pin=λ_=>U)->
  ∀(x y:é)(b n:G)(pl:Ë){S0:j09}{w0:Á}{refs:Refs}{σ:St}{a:Æ}{w:Á}{S:j09}{γ:G->Y}{R:Type}{k:Ex->St->O R}{r:R},jgL w0 refs->
   (∀z∈j1E b y,MrOK E z.1 z.2)->Rel E.N E.np S0 w0 refs σ a w S γ->j2z σ->jmd E x y=X->jom E x y σ k=B r->(Code.seq x y).wpIn (FR Ã) n P (Post E S0 w0 refs pl k r) a w
theorem joS{E:Env}{x y:é}(h:jmd E x y=X):j1H (.seq x y)=false:=by
 unfold jmd at h;grind[j1H]
theorem jkD{P:Ç}(hmix:P.follows .mixedOrders=X){mrf:G->O (G×G)}(hmr:MrS P mrf):∀(c:é){E:Env}{ro:O G},j1K P E.T->j7R P E.C->CFun E.C->E.mr=mrf->
  (∀f t,E.bw f=B t->BwK P f t)->(j1H c=X\/(ro=Ã/\E.N.pin=λ_=>U))->jrO P E ro c:=by
 intro c;induction c with
 |skip=>intro E ro hT hC hF hE hro hp b n S0 w0 refs σ a w S γ R k r hm hL hR hc h;exact wpIn_skip ⟨refs,.normal,σ,S,γ,⟨rfl,rfl,rfl,hm,rfl⟩,λ_=>rfl,rfl,hR,hc,h⟩
 |label l=>intro E ro hT hC hF hE hro hp b n S0 w0 refs σ a w S γ R k r hm hL hR hc h;exact wpIn_label ⟨refs,.normal,σ,S,γ,⟨rfl,rfl,rfl,hm,rfl⟩,λ_=>rfl,rfl,hR,hc,h⟩
 |region rid ops draw=>
  intro E ro hT hC hF hE hro hp b n S0 w0 refs σ a w S γ R k r hm hL hR hc h
  have hpo:ro=Ã\/∀o∈ops.toList,∀c,o.op ≠ .defer c:=hp.elim (λhp=> .inr λo ho c hd=>by
   have:=List.all_eq_true.1 hp o ho;grind[jz5]) λh=> .inl h.1
  cases draw with
  |true=>simp only[j0V]at h;obtain⟨σ,S,γ,hR,hc,h⟩:=jf5 hR hc h;exact wpIn_region_any hmix (jrM hpo jnk _ _ _ _ (jt4 hT hC hF hR hc (λσ' a' w' S' γ' hR' hc' hk=>⟨refs,.normal,σ',S',γ',⟨rfl,rfl,rfl,hm,rfl⟩,λ_=>rfl,rfl,hR',hc',hk⟩) h))
  |false=>
   simp only[j0V]at h;obtain⟨σ,S,γ,hR,hc,h⟩:=jf5 hR hc h;cases hks:E.ks rid with
   |true=>rw[hks,j6]at h;exact wpIn_region (jhu hpo jnk _ _ _ (jt9 hT hC hro hR hc (λσ' a' w' S' γ' hR' hc' hk=>⟨refs,.normal,σ',S',γ',⟨rfl,rfl,rfl,hm,rfl⟩,λ_=>rfl,rfl,hR',hc',hk⟩) h))
   |false=>rw[hks,j7]at h;exact wpIn_region (jhu hpo jnk _ _ _ (joI hT hC hR hc (λσ' a' w' S' γ' hR' hc' hk=>⟨refs,.normal,σ',S',γ',⟨rfl,rfl,rfl,hm,rfl⟩,λ_=>rfl,rfl,hR',hc',hk⟩) h))
 |seq x y ihx ihy=>
  intro E ro hT hC hF hE hro hp b n S0 w0 refs σ a w S γ R k r hm hL hR hc h;simp only[j0V]at h;cases hmh:jmd E x y with
  |true=>rw[hmh,j6]at h;obtain⟨rfl,hpin⟩:=hp.resolve_left (by rw[joS hmh];simp);exact hmr hE hT hC hF hro hpin x y b n _ hm (λz hz=>(hL z (by simp[j1E,hz])).2) hR hc hmh h
  |false=>
  rw[hmh,j7]at h;have hpx:j1H x=X\/(ro=Ã/\E.N.pin=λ_=>U):=hp.imp (λh=>by grind[j1H]) id;have hpy:j1H y=X\/(ro=Ã/\E.N.pin=λ_=>U):=hp.imp (λh=>by grind[j1H]) id;refine wpIn_seq (wpIn_mono (ihx hT hC hF hE hro hpx b n hm (λz hz=>hL z (by simp[j1E,hz])) hR hc h) ?_)
  rintro e a' w' ⟨refs',ex,σ',S',γ',hle,hpl,rfl,hR',hc',hk⟩
  have hx:j1H (.seq x y)=X->refs'=refs:=λh=>by grind[j1H]
  cases ex with
  |normal=>
   refine wpIn_mono (ihy hT hC hF hE hro hpy b n hle.marks (λz hz=>hL z (by simp[j1E,hz])) hR' hc' hk) ?_
   rintro e2 a2 w2 ⟨refs2,ex,σ2,S2,γ2,hle2,hpl2,rfl,hR2,hc2,hk2⟩
   refine⟨refs2,ex,σ2,S2,γ2,hle.trans hle2,λh=>?_,rfl,hR2,hc2,hk2⟩;grind[j1H]
  |exit i=>exact⟨refs',.exit i,σ',S',γ',hle,hx,rfl,hR',hc',hk⟩
  |ret=>exact⟨refs',.ret,σ',S',γ',hle,hx,rfl,hR',hc',hk⟩
 |cond c x y ihx ihy=>
  intro E ro hT hC hF hE hro hp b n S0 w0 refs σ a w S γ R k r hm hL hR hc h;simp only[j0V]at h;have hpx:j1H x=X\/(ro=Ã/\E.N.pin=λ_=>U):=hp.imp (λh=>by grind[j1H]) id;have hpy:j1H y=X\/(ro=Ã/\E.N.pin=λ_=>U):=hp.imp (λh=>by grind[j1H]) id;split at h
  .rename_i v hv;have hev:=jat hR c;rw[hv]at hev;have hcb:a.eval c = .bool v:=jah hev;refine wpIn_cond hcb ?_;cases v with
   |true=>
    rw[j6,ju6 hv]at h;refine wpIn_mono (ihx hT hC hF hE hro hpx b n hm (λz hz=>hL z (by simp[j1E,hz])) hR hc h) ?_
    rintro e a' w' ⟨refs',ex,σ',S',γ',hle,hpl,he,hr⟩
    exact⟨refs',ex,σ',S',γ',hle,λh=>by grind[j1H],he,hr⟩
   |false=>
    rw[j7,ju6 hv]at h;refine wpIn_mono (ihy hT hC hF hE hro hpy b n hm (λz hz=>hL z (by simp[j1E,hz])) hR hc h) ?_
    rintro e a' w' ⟨refs',ex,σ',S',γ',hle,hpl,he,hr⟩
    exact⟨refs',ex,σ',S',γ',hle,λh=>by grind[j1H],he,hr⟩
  .simp at h
 |block id c ih=>
  intro E ro hT hC hF hE hro hp b n S0 w0 refs σ a w S γ R k r hm hL hR hc h;simp only[j0V]at h;refine wpIn_block (wpIn_mono (ih hT hC hF hE hro hp id n hm (λz hz=>hL z (by simpa[j1E]using hz)) hR hc h) ?_)
  rintro e a' w' ⟨refs',ex,σ',S',γ',hle,hpl,rfl,hR',hc',hk⟩
  cases ex with
  |normal=>exact⟨refs',.normal,σ',S',γ',hle,hpl,rfl,hR',hc',hk⟩
  |exit i=>
   simp only[exOf,ü];simp only at hk;split
   .rename_i hi;rw[if_pos hi]at hk;exact⟨refs',.normal,σ',S',γ',hle,hpl,rfl,hR',hc',hk⟩
   .rename_i hi;rw[if_neg hi]at hk;exact⟨refs',.exit i,σ',S',γ',hle,hpl,rfl,hR',hc',hk⟩
  |ret=>exact⟨refs',.ret,σ',S',γ',hle,hpl,rfl,hR',hc',hk⟩
 |scope c ih=>intro E ro hT hC hF hE hro hp b n S0 w0 refs σ a w S γ R k r hm hL hR hc h;simp only[j0V]at h;refine jt6 (λl a w hq=>?_) (ih hT hC hF hE hro hp b n hm (λz hz=>hL z (by simpa[j1E]using hz)) hR hc h);obtain⟨_,ex,_,_,_,_,_,he,_⟩:=hq;cases ex<;>simp[exOf]at he
 |loop c ih=>
  intro E ro hT hC hF hE hro hp b n S0 w0 refs σ a w S γ R k r hm hL hR hc h;have hrn:=hp.resolve_left (by simp[j1H]);simp only[j0V]at h;cases hrf:isRf c with
  |true=>simp_all
  |false=>
  rw[hrf,j7]at h;cases hun:Nat.blt 0 (E.un b) with
  |true=>
   rw[hun,j6]at h;refine jkC (λn a w=>∃refs' σ' S γ,jjp w0 refs refs'/\Rel E.N E.np S0 w0 refs' σ' a w S γ/\j2z σ'/\∃i,jji (λi σ k=>j0V (E.offR i) b c σ k) n i σ' k=B r) ⟨refs,σ,S,γ,⟨rfl,rfl,rfl,hm,rfl⟩,hR,hc,0,h⟩ ?_
   rintro m a1 w1 ⟨refs1,σ1,S2,γ2,hle1,hR2,hc2,i,hm'⟩
   cases m with
   |zero=>simp[jji]at hm'
   |succ m=>
    simp only[jji]at hm';have hL':∀z∈j1E b c,jmx (E.offR i) z.1 z.2/\MrOK (E.offR i) z.1 z.2:=λz hz=>hL z (by simp[j1E,hz]);refine wpIn_mono (ih (E:=E.offR i) hT hC hF hE hro (.inr hrn) b n hle1.marks hL' hR2 hc2 hm') ?_
    rintro e2 a2 w2 ⟨refs2,ex,σ2,S3,γ3,hle2,_,rfl,hR3,hc3,hk3⟩
    cases ex with
    |normal=>exact⟨m,Nat.lt_succ_self m,refs2,σ2,S3,γ3,hle1.trans hle2,hR3,hc3,i+1,hk3⟩
    |exit i=>exact⟨refs2,.exit i,σ2,S3,γ3,hle1.trans hle2,λhf=>by simp[j1H]at hf,rfl,hR3,hc3,hk3⟩
    |ret=>exact⟨refs2,.ret,σ2,S3,γ3,hle1.trans hle2,λhf=>by simp[j1H]at hf,rfl,hR3,hc3,hk3⟩
  |false=>
  rw[hun,j7]at h;split at h
  .rename_i s hs;obtain⟨n1,e,s',hn,hk⟩:=(hL (b,c) (by simp[j1E])).1 s R _ r h
   have hstep:joo E b c=jdX E.off0 b c:=by
    funext s
    cases c<;>first|rfl|simp[isRf]at hrf
   rw[hstep]at hn;obtain⟨S1,γ1,hR1,hc1⟩:=j6Q hR hc hs;refine jkC (λn a w=>∃refs' s S γ,jjp w0 refs refs'/\Rel E.N E.np S0 w0 refs' (j0Q E.np (E.keep b) s) a w S γ/\j2z (j0Q E.np (E.keep b) s)/\loopN (jdX E.off0 b c) n s=B (e,s')) ⟨refs,s,S1,γ1,⟨rfl,rfl,rfl,hm,rfl⟩,hR1,hc1,hn⟩ ?_
   rintro m a1 w1 ⟨refs1,s1,S2,γ2,hle1,hR2,hc2,hm'⟩
   cases m with
   |zero=>simp[loopN]at hm'
   |succ m=>
    simp only[loopN]at hm';cases hst:jdX E.off0 b c s1 with
    |none=>simp[hst]at hm'
    |some out=>
     rw[hst]at hm';unfold jdX at hst;refine wpIn_mono (ih (E:=E.off0) hT hC hF hE hro (.inr hrn) b n hle1.marks (λz hz=>hL z (by simp[j1E,hz])) hR2 hc2 hst) ?_
     rintro e2 a2 w2 ⟨refs2,ex,σ2,S3,γ3,hle2,_,rfl,hR3,hc3,hk3⟩
     cases ex with
     |normal=>
      simp only at hk3;split at hk3
      .rename_i s2 hs2;simp only[j5]at hk3;subst hk3;obtain⟨S4,γ4,hR4,hc4⟩:=j6Q hR3 hc3 hs2;exact⟨m,Nat.lt_succ_self m,refs2,s2,S4,γ4,hle1.trans hle2,hR4,hc4,hm'⟩
      .simp at hk3
     |exit i=>
      simp only at hk3;split at hk3
      .rename_i s2 hs2;simp only[j5]at hk3;subst hk3;obtain⟨S4,γ4,hR4,hc4⟩:=j6Q hR3 hc3 hs2;simp only[j5,j9]at hm';obtain⟨rfl,rfl⟩:=hm';exact⟨refs2,.exit i,_,S4,γ4,hle1.trans hle2,λhf=>by simp[j1H]at hf,rfl,hR4,hc4,hk⟩
      .simp at hk3
     |ret=>
      simp only at hk3;split at hk3
      .rename_i s2 hs2;simp only[j5]at hk3;subst hk3;obtain⟨S4,γ4,hR4,hc4⟩:=j6Q hR3 hc3 hs2;simp only[j5,j9]at hm';obtain⟨rfl,rfl⟩:=hm';exact⟨refs2,.ret,_,S4,γ4,hle1.trans hle2,λhf=>by simp[j1H]at hf,rfl,hR4,hc4,hk⟩
      .simp at hk3
  .simp at h
 |rangeFunc g ps x y ihx ihy=>
  intro E ro hT hC hF hE hro hp b n S0 w0 refs σ a w S γ R k r hm hL hR hc h;obtain⟨rfl,hpin⟩:=hp.resolve_left (by simp[j1H])
  exact jxW (E:=E.off0) hro hpin (λl hx=>ihx (E:=E.off0.rnd ps x y) hT hC hF hE hro (.inl hx)) (λl hy=>ihy (E:=E.off0.rnd ps x y) hT hC hF hE hro (.inl hy))
   rfl (hL (b,.rangeFunc g ps x y) (by simp[j1E])).1 hm hR hc h
 |exit i=>intro E ro hT hC hF hE hro hp b n S0 w0 refs σ a w S γ R k r hm hL hR hc h;exact wpIn_exit ⟨refs,.exit i,σ,S,γ,⟨rfl,rfl,rfl,hm,rfl⟩,λ_=>rfl,rfl,hR,hc,h⟩
 |ret=>intro E ro hT hC hF hE hro hp b n S0 w0 refs σ a w S γ R k r hm hL hR hc h;exact wpIn_ret ⟨refs,.ret,σ,S,γ,⟨rfl,rfl,rfl,hm,rfl⟩,λ_=>rfl,rfl,hR,hc,h⟩
 |goto l=>intro E ro hT hC hF hE hro hp b n S0 w0 refs σ a w S γ R k r hm hL hR hc h;simp[j0V]at h
 |refuse y=>intro E ro hT hC hF hE hro hp b n S0 w0 refs σ a w S γ R k r hm hL hR hc h;simp[j0V]at h
end
def keyB(es:Ä Ø):H (Y×G):=es.toList.map λe=>(e.key,e.born)
theorem joT{α:Type}{p q:α->Ë}(h:∀x,q x=X->p x=X):∀l:H α,(l.filter q).length<=(l.filter p).length
 |[]=>ô _
 |x::r=>by
  have ih:=joT h r;grind
theorem joU{α:Type}{p q:α->Ë}(h:∀x,q x=X->p x=X):∀l:H α,(∃x∈l,p x=X/\q x≠X)->(l.filter q).length<(l.filter p).length
 |[],hx=>by simp_all
 |y::r,hx=>by
  obtain⟨x,hx,h1,h2⟩:=hx;have hle:=joT h r;rw[List.filter_cons,List.filter_cons];rcases List.mem_cons.1 hx with rfl|hx
  .grind
  .have ih:=joU h r ⟨x,hx,h1,h2⟩;grind
theorem jv5{ks:H (Y×G)}{seen:Ä G}{b:G}(h:∃q∈ks,q.2=b/\seen.contains q.2=U):(ks.filter λq=> !(seen.push b).contains q.2).length<(ks.filter λq=> !seen.contains q.2).length:=by
 refine joU (λx hx=>?_) ks ?_;all_goals grind
structure AtR(g r it since clock:G)(ks:H (Y×G))(es:Ä Ø)(seen:Ä G)(a:Æ)(w:Á):Prop where
 map:w.heap[g]? = B (.map es clock)
 ks:keyB es=ks
 iter:w.heap[r]? = B (.mapIter (B g) since seen clock)
 ptr:tm a it = .pointer (B ⟨r,0,Ã⟩)
theorem jta{P:Ç}{ro:O G}(hro:ro=Ã){n0 g r it d1 c2 b since clock rid:G}{ks:H (Y×G)}{o1 o2:É}{body:é}{Q:â->Æ->Á->Prop}
  (ho1:o1.op = .next (.tmp it) U)(hd1:o1.dst=B d1)(hg1:o1.guard=Ã)(ho2:o2.op = .extract (.tmp d1) 0)(hd2:o2.dst=B c2)(hg2:o2.guard=Ã)(hi1:it≠d1)(hi2:it≠c2)(hgr:g≠r)
  (hsc:since<=clock)(hold:∀q∈ks,q.2<since)(N:G)(hn1:d1<N)(hn2:c2<N)
  (J:Ä Ø->Ä G->Æ->Á->Prop)(hJ:∀es seen a w,J es seen a w->a.tmps.size=N)
  (hend:∀es seen a w v v',AtR g r it since clock ks es seen a w->J es seen a w->(∀x∈es.toList,seen.contains x.born=X)->Q (.exit b) ((a.put (B d1) v).put (B c2) v') w)
  (hstep:∀es seen a w w1 v v' e,AtR g r it since clock ks es seen a w->J es seen a w->e∈es.toList->seen.contains e.born=U->(w1=w\/w1=w.drew)->
   AtR g r it since clock ks es (seen.push e.born) ((a.put (B d1) v).put (B c2) v') (ä w1 r (.mapIter (B g) since (seen.push e.born) clock))->
   body.wpIn (FR ro) n0 P (Exit.then (λa' w'=>∃es',AtR g r it since clock ks es' (seen.push e.born) a' w'/\J es' (seen.push e.born) a' w') Q) ((a.put (B d1) v).put (B c2) v') (ä w1 r (.mapIter (B g) since (seen.push e.born) clock)))
  {es:Ä Ø} {seen:Ä G} {a:Æ} {w:Á} (h0:AtR g r it since clock ks es seen a w) (hJ0:J es seen a w) :
  (Code.loop ((Code.region rid #[o1,o2] U).seq ((Code.cond (.tmp c2) .skip (.exit b)).seq body))).wpIn (FR ro) n0 P Q a w:=by
 refine jkC (λn a w=>∃es seen,AtR g r it since clock ks es seen a w/\J es seen a w/\n=(ks.filter λq=> !seen.contains q.2).length) ⟨es,seen,h0,hJ0,rfl⟩ ?_
 rintro n a w ⟨es,seen,hA,hJa,rfl⟩
 subst hro;have hsz:=hJ _ _ _ _ hJa
 have hborn:∀x∈es.toList,x.born<since:=λx hx=>by
  have:(x.key,x.born)∈keyB es:=List.mem_map.2 ⟨x,hx,rfl⟩;grind[AtR.ks]
 have hev:a.eval (.tmp it) = .pointer (B ⟨r,0,Ã⟩):=hA.ptr
 have two:∀(v v':Y)(w':Á),(execOp a.eval o1).run P w = .ok (.value v) w'->(execOp (a.put (B d1) v).eval o2).run P w' = .ok (.value v') w'->
   ((Code.cond (.tmp c2) .skip (.exit b)).seq body).wpIn (FR Ã) n0 P (Exit.then (λa' w'=>∃m,m<(ks.filter λq=> !seen.contains q.2).length/\∃es seen,AtR g r it since clock ks es seen a' w'/\J es seen a' w'/\m=(ks.filter λq=> !seen.contains q.2).length) Q) ((a.put (B d1) v).put (B c2) v') w'->
   ((Code.region rid #[o1,o2] U).seq ((Code.cond (.tmp c2) .skip (.exit b)).seq body)).wpIn (FR Ã) n0 P (Exit.then (λa' w'=>∃m,m<(ks.filter λq=> !seen.contains q.2).length/\∃es seen,AtR g r it since clock ks es seen a' w'/\J es seen a' w'/\m=(ks.filter λq=> !seen.contains q.2).length) Q) a w:=by
  intro v v' w' h1 h2 h3;refine wpIn_seq (wpIn_mono (Q:=λe a' w''=>e = .normal/\a'=(a.put (B d1) v).put (B c2) v'/\w''=w') (wpIn_region (jhu (.inl rfl) (by rintro⟨a,w,h,_⟩;cases h) _ _ _ ?_)) ?_)
  .show wpOps P #[o1,o2] _ [0,1] a w;have e0:(#[o1,o2]:Ä É)[0]? = B o1:=rfl;have e1:(#[o1,o2]:Ä É)[1]? = B o2:=rfl;have w0:∀tm,Å o1 (yielded #[o1,o2] tm)=true:=λtm=>by simp[Å,hg1]
   have w1:∀tm,Å o2 (yielded #[o1,o2] tm)=true:=λtm=>by simp[Å,hg2]
   simp only[wpOps,e0,e1,w0,w1,if_true];grind[Ý,Ö]
  .rintro e a' w'' ⟨rfl,rfl,rfl⟩
   exact h3
 have hext:∀(v:Y)(t:Ä Y)(w':Á)(x:Y),v = .tuple t->t[0]? = B x->(execOp (a.put (B d1) v).eval o2).run P w' = .ok (.value x) w':=by
  intro v t w' x hv ht;have:(a.put (B d1) v).eval (.tmp d1)=v:=by show tm (a.put (B d1) v) d1=v;grind[jdx]
  simp_all[execOp,Instr.extract]
 have hcv:∀v v',(((a.put (B d1) v).put (B c2) v').eval (.tmp c2))=v':=λv v'=>by
  show tm _ c2=v';grind[jdx,j8i]
 rcases run_next_at (P:=P) w o1.type r g since clock seen es clock hA.iter hA.map hborn hsc with⟨h0,hrun⟩|⟨e,he,w1,hal,hrun⟩
 .refine two (.tuple #[.bool U]) (.bool U) w (by simp[execOp,ho1,hev,hrun,ò]) (hext (.tuple #[.bool U]) #[.bool U] w (.bool U) rfl rfl) (wpIn_seq (wpIn_cond_false (hcv _ _) (wpIn_exit ?_)));refine hend es seen a w _ _ hA hJa (λx hx=>?_);cases hs:seen.contains x.born with
  |true=>rfl
  |false=>
   have hx2:x∈(leftOf es seen).toList:=by grind[leftOf]
   simp_all
 .have hel:e∈es.toList/\seen.contains e.born=false:=by grind[leftOf]
  have hA2:AtR g r it since clock ks es (seen.push e.born) ((a.put (B d1) (.tuple #[.bool X,e.key,e.val])).put (B c2) (.bool X)) (ä w1 r (.mapIter (B g) since (seen.push e.born) clock)):=by
   have hm1:w1.heap[g]? = B (.map es clock):=by rcases hal with rfl|rfl<;>exact hA.map
   have hi1':w1.heap[r]? = B (.mapIter (B g) since seen clock):=by rcases hal with rfl|rfl<;>exact hA.iter
   have hlt:r<w1.heap.size:=(Array.getElem?_eq_some_iff.1 hi1').1;refine⟨?_,hA.ks,?_,?_⟩
   .show (w1.heap.setIfInBounds r _)[g]? = _;grind
   .show (w1.heap.setIfInBounds r _)[r]? = _;rw[Array.getElem?_setIfInBounds_self_of_lt hlt]
   grind[jdx,j8i,AtR.ptr]
  refine two (.tuple #[.bool X,e.key,e.val]) (.bool X) (ä w1 r (.mapIter (B g) since (seen.push e.born) clock)) (by simp[execOp,ho1,hev,hrun,ò]) (hext (.tuple #[.bool X,e.key,e.val]) #[.bool X,e.key,e.val] _ (.bool X) rfl rfl) (wpIn_seq (wpIn_cond_true (hcv _ _) (wpIn_skip ?_)));refine wpIn_mono (hstep es seen a w w1 _ _ e hA hJa hel.1 hel.2 hal hA2) ?_;intro ex a' w' hq;cases ex with
  |normal=>obtain⟨es',q1,q2⟩:=hq;exact⟨_,jv5 (ks:=ks) (seen:=seen) (b:=e.born) ⟨(e.key,e.born),by rw[<-hA.ks];exact List.mem_map.2 ⟨e,hel.1,rfl⟩,rfl,hel.2⟩,es',seen.push e.born,q1,q2,rfl⟩
  |_=>exact hq
theorem jrQ{P:Ç}{E:Env}(hT:j1K P E.T)(hC:j7R P E.C){ops:Ä É}(hbare:bare ops=X){R:Type}{k:St->O R}{r:R}{Q:â->Æ->Á->Prop}{rest:H G}
  (hn:∀σ' a' w' S' γ',Rel E.N E.np S0 w0 refs σ' a' w' S' γ'->j2z σ'->k σ'=B r->wpOps P ops Q rest a' w') :
  ∀(n i:G)(σ:St)(a:Æ)(w:Á)(S:j09)(γ:G->Y),i+n<=ops.size->Rel E.N E.np S0 w0 refs σ a w S γ->j2z σ->j7T E ((ops.toList.drop i).take n) σ k=B r->
   wpOps P ops Q (List.range' i n++rest) a w
 |0,i,σ,a,w,S,γ,hi,hR,hc,h=>by
  rw[List.take_zero]at h;exact hn _ _ _ _ _ hR hc h
 |n+1,i,σ,a,w,S,γ,hi,hR,hc,h=>by
  have hlt:i<ops.size:=omg_;rw[Ê (by simpa using hlt),List.take_succ_cons]at h;simp only[j7T]at h;split at h
  .rename_i hd;have ho:ops[i]? = B ops[i]:=Â hlt;simp only[Ò,List.cons_append,wpOps,ho];have hg:ops[i].guard=none:=by have:=List.all_eq_true.1 hbare ops[i] smp_;simpa using this
   have hw:Å ops[i] (yielded ops a.tmps)=true:=by simp[Å,hg]
   simp only[hw,if_true];refine .inl (jby hT hC hR (act:=[]) (λg hg=>by simp at hg) (p:=U) (λ_=>hc) (by simpa using hd) (by simpa using h) (λσ' a' w' S' γ' hR' hc' hk=>?_));exact jrQ hT hC hbare hn n (i+1) σ' a' w' S' γ' omg_ hR' (hc' rfl) hk
  .simp at h
theorem joV{β:Type}:∀{zs:H (à×β)}{j:G}{x:à×β},(zs.map λx=>x.1).Nodup->zs[j]? = B x->∀y,@j2Y _ _ (Ty.int .i64).keq zs x.1 y=zs.set j (x.1,y)
 |[],j,x,_,h,y=>by simp at h
 |z::r,0,x,_,h,y=>by
  have h:z=x:=by simpa using h
  subst h;show cond ((z.1:à)==z.1) ((z.1,y)::r) _=(z.1,y)::r;rw[beq_self_eq_true];rfl
 |z::r,j+1,x,hn,h,y=>by
  have h:r[j]? = B x:=by simpa using h
  have hc:=List.nodup_cons.1 (show (z.1::r.map λx=>x.1).Nodup from hn);have hne:¬(x.1:à)=z.1:=λhe=>hc.1 (he▸List.mem_map.2 ⟨x,È h,rfl⟩);show cond ((x.1:à)==z.1) _ (z::@j2Y _ _ (Ty.int .i64).keq r x.1 y)=z::r.set j (x.1,y);rw[beq_false_of_ne hne,j7,joV hc.2 h y]
theorem jzc(hR:Rel N np S0 w0 refs σ a w S γ){nm em:G}{v:Ty}{zs:H (à×v.den)}(hem:isM em=X)(hb:σ.bx nm = .live (.lst em (.pair (.int .i64) v) zs U)) :
  ∃g es clock,γ nm = .map (B g)/\w.heap[g]? = B (.map es clock)/\All2 (jkn S w (.int .i64) v) zs es.toList/\jjm es clock:=by
 rcases (hR.box nm _ hb).1 with⟨hm,_⟩|⟨_,hm⟩
 .simp_all
 .exact hm
theorem jrR{es:Ä Ø}{clock:G}(h:jjm es clock){j:G}{e:Ø}(he:es.toList[j]? = B e):e.born=j:=by
 have h1:(es.toList.map (·.born))[j]? = B e.born:=by simp[he]
 rw[h.2]at h1;grind
theorem jf6{es:Ä Ø}{clock:G}(h:jjm es clock):es.toList.length=clock:=by
 have:=congrArg List.length h.2;simpa using this
theorem jAE{es es':Ä Ø}(h1:es'.toList.map (·.key)=es.toList.map (·.key))(h2:es'.toList.map (·.born)=es.toList.map (·.born)):keyB es'=keyB es:=by
 have hz:∀es:Ä Ø,keyB es=(es.toList.map (·.key)).zip (es.toList.map (·.born)):=λes=>by
  grind[keyB]
 simp_all
structure Mix{β:Type}(xs ys:H (à×β))(seen:Ä G)(zs:H (à×β)):Prop where
 len:zs.length=xs.length
 get:∀i,zs[i]? = if seen.contains i=X then ys[i]? else xs[i]?
theorem jv6{β:Type}{Z:à×β->à×β->Prop}:∀{xs ys:H (à×β)},All2 (λx y=>y.1=x.1/\Z x y) xs ys->xs.length=ys.length/\∀(j:G)(x:à×β),xs[j]? = B x->∃y,ys[j]? = B y/\y.1=x.1/\Z x y:=
 λh=>⟨h.length,λj x hx=>h.get j x hx⟩
theorem jBS{b:G}{c:é}{p:MrP}(h:mrP b c=B p):∃rid r3 o1 o2 o3,c = .seq (.region rid #[o1,o2] U) (.seq (.cond (.tmp p.c2) .skip (.exit b)) (.block p.b6 (.seq (.region r3 p.ops U) p.rest)))/\
  o1.op = .next (.tmp p.it) U/\o1.dst=B p.d1/\o1.guard=Ã/\o2.op = .extract (.tmp p.d1) 0/\o2.dst=B p.c2/\o2.guard=Ã/\p.ops[0]? = B o3/\o3.op = .entry (.tmp p.it)/\o3.dst=B p.d3/\o3.guard=none:=by
 unfold mrP at h;split at h
 case h_2=>simp at h
 rename_i rid ops c b' b6 r3 ops3 rest;split at h
 case h_2=>simp at h
 rename_i o1 o2 o3 l3 hops hops3;split at h
 case h_2=>simp at h
 rename_i it d1 d1' c2 it' d3 h1 h2 h3;split at h
 case isFalse=>simp at h
 rename_i hcond;obtain⟨rfl,rfl,rfl,rfl⟩:=hcond;simp only[j5]at h;subst h;have hops:ops = #[o1,o2]:=Array.ext' (by simpa using hops);subst hops;have e3:ops3[0]? = B o3:=by rw[<-Array.getElem?_toList,hops3];rfl
 grind[jBI,fstO,entO]
theorem nbeq{i j:G}(h:ñ i j=U):i≠j:=by
 grind[Nat.beq_refl]
theorem beqF{i j:G}(h:i≠j):ñ i j=false:=by
 cases hq:ñ i j<;>simp_all
theorem jxX{P:Ç}(hmix:P.follows .mixedOrders=X)(mrf:G->O (G×G)):MrS P mrf:=by
 intro E hE hT hC hF hbw hpin x y b n pl S0 w0 refs σ a w S γ R k r hm hMO hR hc hhd h;unfold jom at h;split at h
 case h_2=>simp at h
 rename_i rid ops bl c;split at h
 case h_2=>simp at h
 rename_i m nm p o hmr hp hlast;split at h
 case h_2=>simp at h
 rename_i t m1 it hop hod;cases hcc:(bare ops&&(ñ it p.it&&(mrC E bl p m&&(jk6 E.T t).isSome))) with
 |false=>simp_all
 |true=>
 rw[hcc,j6]at h;simp only[À]at hcc;obtain⟨hbare,hit,hmc,hty⟩:=hcc;obtain rfl:it=p.it:=Ü hit;have hMK:=hMO (bl,c) (by simp[j1E]) m nm p hmr hp;unfold mrC at hmc;simp only[À,Û,Í,decide_eq_false_iff_not]at hmc;obtain⟨hb3,hpr,n1,n2,n3,n4,n5,n6,n7,l1,l2,l3,l4,k1,k2,k3⟩:=hmc;have n1:=nbeq n1;have n2:=nbeq n2;have n3:=nbeq n3;have n4:=nbeq n4;have n5:=nbeq n5;have n6:=nbeq n6;have n7:=nbeq n7;have l1:p.it<E.N.n:=Õ l1;have l2:p.d1<E.N.n:=Õ l2;have l3:p.c2<E.N.n:=Õ l3;have l4:p.d3<E.N.n:=Õ l4;obtain⟨rid1,r3,o1,o2,o3,hceq,q1,q2,q3,p1,p2,p3,e3,s1,s2,s3⟩:=jBS hp;refine wpIn_seq (wpIn_mono (Q:=λe a2 w2=>e = .normal/\(Code.block bl (.loop c)).wpIn (FR Ã) n P (Post E S0 w0 refs pl k r) a2 w2) (wpIn_region (jhu (.inl rfl) (by rintro⟨a,w,h,_⟩;cases h) _ _ _ ?_)) ?_)
 rotate_left
 .rintro e a2 w2 ⟨rfl,h⟩;exact h
 obtain⟨pre,hpre⟩:=List.getLast?_eq_some_iff.1 hlast;have hsz:ops.size=pre.length+1:=by grind
 rw[ß,hsz,List.range'_concat];refine jrQ hT hC hbare (k:=mrGo E bl m m1 k) (r:=r) (λσ1 a1 w1 S1 γ1 hR1 hc1 hgo=>?_) pre.length 0 σ a w S γ omg_ hR hc (by simp_all);have ho:ops[0+1*pre.length]? = B o:=by grind
 have hg:o.guard=none:=by have:=List.all_eq_true.1 hbare o (by rw[hpre];simp);simpa using this
 have hw:Å o (yielded ops a1.tmps)=true:=by simp[Å,hg]
 simp only[wpOps,ho,hw,if_true];refine .inl ?_;unfold mrGo at hgo;split at hgo
 case h_2=>simp at hgo
 rename_i bm bm' hm1 hmm;cases hcb:(ñ bm bm'&&ju7 (σ1.bx bm)) with
 |false=>simp_all
 |true=>
 rw[hcb,j6]at hgo;simp only[À]at hcb;obtain⟨hbb,hmb⟩:=hcb;obtain rfl:bm=bm':=Ü hbb;split at hgo
 case h_2=>simp at hgo
 rename_i s hs;obtain⟨em,v,xs,ys,hem,hse,hbs,hxy,hk⟩:=hMK s R _ r hgo;obtain⟨S2,γ2,hR2,hc2⟩:=j6Q hR1 hc1 hs;rw[hse]at hR2 hc2;obtain⟨g,es,clock,hg2,hh2,hall2,hst2⟩:=jzc hR2 hem (hbs xs).1;have hlv:∃bx,σ1.bx bm = .live bx:=by unfold ju7 at hmb;grind
 obtain⟨bx,hbx⟩:=hlv;have hv1:tm a1 m1=γ1 bm:=by have:=hR1.slot m1;rw[hm1]at this;exact this.1.2.2 _ hbx
 have hv2:tm a1 m=γ1 bm:=by have:=hR1.slot m;rw[hmm]at this;exact this.1.2.2 _ hbx
 have hv3:tm a1 m=γ2 nm:=by have:=hR2.slot m;rw[(hbs xs).2]at this;exact this.1.2.2 _ (hbs xs).1
 have hvm:tm a1 m = .map (B g):=hv3.trans hg2;have hev:a1.eval (.tmp m1) = .map (B g):=hv1.trans (hv2.symm.trans hvm);obtain⟨ky,kv,hkv⟩:∃ky kv,jk6 E.T t=B (ky,kv):=by cases hq:jk6 E.T t<;>grind
 obtain⟨kt,vt,tv,hund,_⟩:=jn9 hT hkv;have hrun:=run_range_map (P:=P) w1 t kt vt g es clock hund hh2;obtain⟨rr,hrr⟩:∃rr,rr=w1.heap.size:=⟨_,rfl⟩;rw[<-hrr]at hrun;have hrun2:(execOp a1.eval o).run P w1 = .ok (.value (.pointer (B ⟨rr,0,Ã⟩))) (w1.alloc (.mapIter (B g) clock #[] clock)):=by simp[execOp,hop,hev,hrun,ò]
 unfold Ý;rw[hrun2,Ö,hod];refine⟨trivial,?_⟩;let fx:G->O Value:=λi=>if i=p.it then B (.pointer (B ⟨rr,0,Ã⟩)) else if i=m then B (.map (B g)) else Ã
 let refsJ:Ä G->Refs:=λseen=>{ blks:=refs.blks,val:=refs.val,ds:=refs.ds,kw:=λx=>if x=rr then B (.mapIter (B g) clock seen clock) else refs.kw x,fix:=fx,mv:=refs.mv }
 let N':NT:=(E.off0.mrE p.it m).N
 have hkn:refs.kw rr=none:=hR1.kw_new omg_;have hwr:w0.heap.size<=rr:=by have:=hR1.grow;omega
 have hmk:∀seen,jgL w0 (refsJ seen):=λseen=>⟨hm.1,λd hd=>by
  obtain⟨D,hD,hw0,hkD⟩:=hm.2 d hd;grind⟩
 have hgr:g≠rr:=by grind
 have hput:∀{seen seen':Ä G}{σ:St}{a:Æ}{W:Á}{S:j09}{γ:G->Y},Rel N' E.np S0 w0 (refsJ seen) σ a W S γ->Rel N' E.np S0 w0 (refsJ seen') σ a (W.putObj rr (.mapIter (B g) clock seen' clock)) S γ:=by intro seen seen' σ a W S γ hR;have:=hR.putO (l:=rr) (o:= .mapIter (B g) clock seen clock) (o':= .mapIter (B g) clock seen' clock) (by simp[refsJ]) hwr rfl rfl;grind
 have hpit:N'.pin p.it=true:=by show (ñ p.it p.it||Nat.beq p.it m)=X;rw[Nat.beq_refl];rfl
 have hpm:N'.pin m=true:=by show (ñ m p.it||Nat.beq m m)=X;rw[Nat.beq_refl,Bool.or_true]
 have hfx:∀{a':Æ},tm a' p.it = .pointer (B ⟨rr,0,Ã⟩)->tm a' m = .map (B g)->∀i u,fx i=B u->N'.pin i=X/\a'.tmps.getD i undef=u:=by
  intro a' h1 h2 i u hu;simp only[fx]at hu;split at hu
  .rename_i e;subst e;simp only[j5]at hu;exact⟨hpit,h1.trans hu⟩
  .split at hu
   .rename_i e;subst e;simp only[j5]at hu;exact⟨hpm,h2.trans hu⟩
   .simp at hu
 have hsz1:a1.tmps.size=E.N.n:=hR1.size;let a2:Go.Act:=a1.put (B p.it) (.pointer (B ⟨rr,0,Ã⟩))
 have ht2:∀j,tm a2 j=if j=p.it then .pointer (B ⟨rr,0,Ã⟩) else tm a1 j:=λj=>jdx omg_ _ j
 have hRL:Rel N' E.np S0 w0 (refsJ #[]) (j0Q E.np (E.keep bl) (j5m s em v xs)) a2 (w1.alloc (.mapIter (B g) clock #[] clock)) S2 γ2:=by
  have hA:=hR2.allocO (.mapIter (B g) clock #[] clock);refine hA.frame rfl rfl ((j8i _ _).trans hsz1) ((j8N _ _).trans hR1.defers) (λi hi=>?_) (λg' u hg'=>?_) (hfx ?_ ?_)
  .grind
  .simp only[refsJ]at hg';split at hg'
   .rename_i e';simp only[j5]at hg';subst hg';rw[e',hrr];refine⟨á _ _,λk' b' hb' hbk=>?_⟩;have:=j4O (hR2.box k' b' hb') hbk;omega
   .exact hA.kept g' u hg'
  all_goals grind
 have hat0:AtR g rr p.it clock clock (keyB es) es #[] a2 (w1.alloc (.mapIter (B g) clock #[] clock)):=by
  refine⟨(heap_alloc_old _ _ (Array.getElem?_eq_some_iff.1 hh2).1).trans hh2,rfl,?_,?_⟩
  .rw[hrr];exact á _ _
  .rw[ht2,if_pos rfl]
 let J:Ä Ø->Ä G->Æ->Á->Prop:=λes' seen a w=>∃(zs:H (à×v.den))(S:j09)(γ:G->Y),Rel N' E.np S0 w0 (refsJ seen) (j0Q E.np (E.keep bl) (j5m s em v zs)) a w S γ/\
  j2z (j0Q E.np (E.keep bl) (j5m s em v zs))/\Mix xs ys seen zs/\jjm es' clock
 have hxl:xs.length=clock:=by rw[hall2.length,jf6 hst2]
 obtain⟨hxyl,hxyg⟩:=jv6 hxy;have hJ0:J es #[] a2 (w1.alloc (.mapIter (B g) clock #[] clock)):=⟨xs,S2,γ2,hRL,hc2,⟨rfl,λi=>smp_⟩,hst2⟩
 have hJm:∀{es':Ä Ø}{seen:Ä G}{a:Æ}{w:Á}{zs:H (à×v.den)}{S:j09}{γ:G->Y},Rel N' E.np S0 w0 (refsJ seen) (j0Q E.np (E.keep bl) (j5m s em v zs)) a w S γ->
   ∃es' clock',γ nm = .map (B g)/\w.heap[g]? = B (.map es' clock')/\All2 (jkn S w (.int .i64) v) zs es'.toList/\jjm es' clock':=by
  intro es' seen a w zs S γ hR;obtain⟨g',es',clock',h1,h2,h3,h4⟩:=jzc hR hem (hbs zs).1;have h5:tm a m=γ nm:=by have:=hR.slot m;rw[(hbs zs).2]at this;exact this.1.2.2 _ (hbs zs).1
  have h6:tm a m = .map (B g):=(hR.fix m (.map (B g)) (by grind)).2;grind
 subst hceq
 refine wpIn_block (wpIn_mono (jta (P:=P) (ro:=Ã) rfl (Q:=λe a' w'=>e = .exit bl/\∃S' γ',Rel E.N E.np S0 w0 refs (j0Q E.np (E.keep bl) (j5m s em v ys)) a' w' S' γ'/\j2z (j0Q E.np (E.keep bl) (j5m s em v ys)))
  q1 q2 q3 p1 p2 p3 n1 n2 hgr (ô clock) (λq hq=>?_) E.N.n l2 l3 J (λes' seen a' w' hJ=>?_) ?_ ?_ hat0 hJ0) ?_)
 .obtain⟨e,he,rfl⟩:=List.mem_map.1 hq;exact hst2.1.1 e he
 .obtain⟨zs,S',γ',hR',_⟩:=hJ;exact hR'.size
 ·-- the end
  rintro es' seen a' w' u u' hA ⟨zs,S',γ',hR',hc',hmix',hst'⟩ hall'
  have hzy:zs=ys:=by
   refine List.ext_getElem? λi=>?_;rw[hmix'.get i];split
   .rfl
   .rename_i hns;by_cases hi:i<clock
    .exfalso;have hlt:i<es'.toList.length:=by rw[jf6 hst'];exact hi
     have hb:=jrR hst' (ø hlt);grind
    grind
  subst hzy;refine⟨rfl,S',γ',hR'.frame rfl rfl ?_ ?_ (λi hi=>?_) (λg' o' hg'=>?_) (λi u hu=>?_),hc'⟩
  .rw[j8i,j8i];exact hR'.size
  .rw[j8N,j8N];exact hR'.defers
  .have z1:i≠p.c2:=λe=>k3 (e▸hi);have z2:i≠p.d1:=λe=>k2 (e▸hi);have z3:a'.tmps.size=E.N.n:=hR'.size;grind[jdx,j8i]
  .refine hR'.kept g' o' ?_;grind
  .have:=(hR.fix i u hu).1;grind
 ·-- a round
  rintro es' seen a' w' w1' u u' e hA ⟨zs,S',γ',hR',hc',hmix',hst'⟩ he hns hal hA2
  have hsz':a'.tmps.size=E.N.n:=hR'.size;obtain⟨es2,clock2,hg2',hh2',hall',hst2'⟩:=hJm (es':=es') hR';have:es2=es'/\clock2=clock:=by have:=hA.map;grind
  obtain⟨rfl,rfl⟩:=this;obtain⟨j,hj⟩:=List.mem_iff_getElem?.1 he;have hbj:e.born=j:=jrR hst2' hj;have hjl:j<xs.length:=by grind[jf6]
  have hzx:zs[j]? = xs[j]? := by
   rw[hmix'.get j,if_neg];rw[<-hbj,hns];simp
  obtain⟨x,hx⟩:∃x,xs[j]? = B x:=⟨_,ø hjl⟩;obtain⟨e',he',hkx,hvx⟩:=hall'.get j x (hzx.trans hx);obtain rfl:e'=e:=by grind
  obtain⟨y,hy,hyx,hev'⟩:=hxyg j x hx;have hnd:(zs.map λx=>x.1).Nodup:=by have h1:=hst2'.1.2.2;rw[jhv hall']at h1;exact(List.pairwise_map.1 h1).imp λh e=>h (by rw[e])
  have hRd:Rel N' E.np S0 w0 (refsJ seen) (j0Q E.np (E.keep bl) (j5m s em v zs)) a' w1' S' γ':=by
   rcases hal with rfl|rfl
   .exact hR'
   .exact hR'.drawn _
  have hvx1:VRep S' w1' ⟨v,x.2⟩ e'.val:=by
   rcases hal with rfl|rfl
   .exact hvx
   .exact VRep.keep (S:=S') (w:=w') (S':=S') (w':=w'.drew) (λg o hs=>⟨hs,rfl⟩) hvx
  have hRp:=hput (seen':=seen.push e'.born) hRd;obtain⟨w2,hw2⟩:∃w2,w1'.putObj rr (.mapIter (B g) clock2 (seen.push e'.born) clock2)=w2:=⟨_,rfl⟩;have hA2:AtR g rr p.it clock2 clock2 (keyB es) es2 (seen.push e'.born) ((a'.put (B p.d1) u).put (B p.c2) u') w2:=by rw[<-hw2];exact hA2
  show (Code.block p.b6 _).wpIn (FR Ã) n P _ _ (w1'.putObj rr (.mapIter (B g) clock2 (seen.push e'.born) clock2));rw[hw2]at hRp ⊢;obtain⟨a3,ha3⟩:∃a3,(a'.put (B p.d1) u).put (B p.c2) u'=a3:=⟨_,rfl⟩;rw[ha3]at hA2 ⊢
  have ht3:∀j,tm a3 j=if j=p.c2 then u' else if j=p.d1 then u else tm a' j:=λj=>by
   rw[<-ha3,jdx (by rw[j8i];omega),jdx omg_]
  have hsz3:a3.tmps.size=E.N.n:=by rw[<-ha3,j8i,j8i];exact hsz'
  have hti:tm a' p.it = .pointer (B ⟨rr,0,Ã⟩):=hA.ptr;have htm:tm a' m = .map (B g):=(hR'.fix m (.map (B g)) (by grind)).2
  have hR3:Rel N' E.np S0 w0 (refsJ (seen.push e'.born)) (j0Q E.np (E.keep bl) (j5m s em v zs)) a3 w2 S' γ':=by
   refine hRp.frame rfl rfl hsz3 (by rw[<-ha3,j8N,j8N];exact hR'.defers) (λi hi=>?_) (λg' o' hg'=>hRp.kept g' o' hg') (hfx ?_ ?_)
   .have z1:i≠p.c2:=λe=>k3 (e▸hi);have z2:i≠p.d1:=λe=>k2 (e▸hi);grind
   all_goals grind
  have hst3:j3m S' w1' S' w2:=λg' o' hs'=>by
   refine⟨hs',?_⟩;have hq:=(hRd.kept rr (.mapIter (B g) clock2 seen clock2) (by grind)).1;by_cases hgl:g'=rr
   .subst hgl;rw[jjO hq rfl,<-hw2,jjO (í (Array.getElem?_eq_some_iff.1 hq).1) rfl]
   .rw[<-hw2];exact Ì (Î hgl)
  have hkey:e'.key = .int .i64 x.1:=by have:[e'.key]=[Ù .i64 x.1]:=hkx;simpa using this
  have hent:=run_entry_at (P:=P) w2 rr g clock2 seen es2 clock2 e' hA2.iter hA2.map he hst2'.1.2.1;have hti3:a3.eval (.tmp p.it) = .pointer (B ⟨rr,0,Ã⟩):=hA2.ptr;have hrun3:(execOp a3.eval o3).run P w2 = .ok (.value (.tuple #[e'.key,e'.val])) w2:=by simp[execOp,s1,hti3,hent,ò]
  obtain⟨hR4,hc4⟩:=jfX hR3 hc' (dst:=B p.d3) (λd hd=>by
   simp only[j5]at hd;subst hd;refine⟨l4,?_⟩;show (ñ p.d3 p.it||Nat.beq p.d3 m)=U;grind[beqF]) (s:= .tup [.one (.d (.int .i64) x.1),jcs v x.2]) (v:= .tuple #[e'.key,e'.val]) (by
   refine⟨#[e'.key,e'.val],rfl,⟨hkx,λ_=>by rw[hkey];rfl⟩,?_,trivial⟩;exact je4 (x:=⟨v,x.2⟩) (VRep.keep hst3 hvx1)) rfl
  have hev2:=hev' zs;unfold jon at hev2;have hsz5:p.ops.size=(p.ops.size-1)+1:=by have:=(Array.getElem?_eq_some_iff.1 e3).1;omega
  have hw3:Å o3 (yielded p.ops a3.tmps)=true:=by simp[Å,s3]
  have hmr0:MrS P (λ_=>Ã):=by intro E hE _ _ _ _ _ x y _ _ _ _ _ _ _ _ _ _ _ _ _ _ _ _ _ _ hhd _;unfold jmd at hhd;split at hhd;all_goals grind
  have hrest:=jkD hmix hmr0 p.rest (E:=E.off0.mrE p.it m) (ro:=Ã) hT hC hF rfl hbw (.inl hpr)
  refine wpIn_block (wpIn_seq (wpIn_mono (Q:=λe4 a4 w4=>e4 = .normal/\p.rest.wpIn (FR Ã) n P (Post (E.off0.mrE p.it m) S0 w0 (refsJ (seen.push e'.born)) (j1H p.rest) (λe σ2=>cond (mrNx p.b6 e) (match j7e E.np (E.keep bl) σ2 with
   |some s'=>B s'
   |none=>Ã) Ã) (j5m s em v (@j2Y _ _ (Ty.int .i64).keq zs x.1 y.2))) a4 w4) (wpIn_region (jhu (.inl rfl) (by rintro⟨a,w,h,_⟩;cases h) _ _ _ ?_)) ?_))
  .rw[ß,hsz5,Ò];simp only[wpOps,e3,hw3,if_true];refine .inl ?_;unfold Ý;rw[hrun3,Ö,s2];refine jkq (E:=E.off0.mrE p.it m) hT hC hb3 (λσ' a' w' S' γ' h1 h2 h3=>⟨rfl,hrest p.b6 n (hmk _) (by rw[j69 _ _ hpr];simp) h1 h2 h3⟩) (p.ops.size-1) 1 _ _ _ _ _ omg_ hR4 hc4 ?_;rw[List.drop_one];exact hev2
  rintro e4 a4 w4 ⟨rfl,h4⟩
  refine wpIn_mono h4 ?_
  rintro e5 a5 w5 ⟨refs5,ex,σ5,S5,γ5,_,hpl5,rfl,hR5,hc5,hk5⟩
  have:=hpl5 hpr;subst this;dsimp only at hk5;cases hnx:mrNx p.b6 ex with
  |false=>grind
  |true=>
  rw[hnx,j6]at hk5;split at hk5
  case h_2=>simp at hk5
  rename_i s6 hs6;simp only[j5]at hk5;subst hk5;obtain⟨S6,γ6,hR6,hc6⟩:=j6Q hR5 hc5 hs6
  have hib:∀Q:â->Æ->Á->Prop,Q .normal a5 w5->ü p.b6 Q (exOf ex) a5 w5:=by
   intro Q hQ;cases ex with
   |normal=>exact hQ
   |exit i=>have:i=p.b6:=Ü hnx;simp only[exOf,ü,this,if_true];exact hQ
   |ret=>simp[mrNx]at hnx
  refine hib _ ?_;obtain⟨es3,clock3,hg3,hh3,hall3,hst3'⟩:=hJm (es':=es2) hR6;have hset:@j2Y _ _ (Ty.int .i64).keq zs x.1 y.2=zs.set j y:=by grind[joV]
  have hk3:(@j2Y _ _ (Ty.int .i64).keq zs x.1 y.2).map (λx=>x.1)=zs.map λx=>x.1:=by rw[hset,List.map_set,hyx];refine List.ext_getElem? λi=>?_;rw[List.getElem?_set];split;all_goals grind
  have hl3:clock3=clock2:=by rw[<-jf6 hst3',<-hall3.length,<-jf6 hst2',<-hall'.length,hset,Ú]
  subst hl3;refine⟨es3,⟨hh3,?_,?_,?_⟩,_,S6,γ6,hR6,hc6,⟨?_,λi=>?_⟩,hst3'⟩
  .rw[<-hA.ks];exact jAE (by rw[jhv hall3,jhv hall',hk3]) (by rw[hst3'.2,hst2'.2])
  .exact(hR6.kept rr (.mapIter (B g) clock3 (seen.push e'.born) clock3) (by grind)).1
  .exact(hR6.fix p.it (.pointer (B ⟨rr,0,Ã⟩)) (by grind)).2
  .rw[hset,Ú];exact hmix'.len
  .rw[hset,List.getElem?_set];by_cases hij:j=i
   .grind
   .rw[if_neg hij,hmix'.get i];by_cases hsn:seen.contains i=X;all_goals grind
 .rintro e a' w' ⟨rfl,S',γ',hR',hc'⟩
  simp only[ü,if_true];exact⟨refs,.normal,_,S',γ',⟨rfl,rfl,rfl,hm,rfl⟩,λ_=>rfl,rfl,hR',hc',hk⟩
theorem jtb{P:Ç}(hmix:P.follows .mixedOrders=X)(c:é){E:Env}{ro:O G}(hT:j1K P E.T)(hC:j7R P E.C)(hF:CFun E.C)(hbw:∀f t,E.bw f=B t->BwK P f t)
 (hq:j1H c=X\/(ro=Ã/\E.N.pin=λ_=>U)):jrO P E ro c:=jkD hmix (jxX hmix E.mr) c hT hC hF rfl hbw hq
def jqh:Arg->Ë
 |.ref _=>X
 |.rl _ _=>X
 |_=>U
def jv7(args:H Arg)(vals:H Y)(k:G):O Value:=
 if k%64=0 then match args[k/64]? with
  |some x=>if jqh x then vals[k/64]? else Ã
  |none=>Ã
 else Ã
def jdz(args:H Arg)(vals:H Y):Refs:={ blks:=j1O args vals,val:=jv7 args vals,mv:=mvOf args vals }
def γ0(vals:H Y)(k:G):Value:=vals.getD (k/64) undef
theorem jhw:∀{as:H Arg}{us:H Y}{i:G}{x:Arg}{u:Y}{g:G},as[i]? = B x->us[i]? = B u->j8L x u=B g->g∈j1O as us
 |y::as,v::us,0,x,u,g,h,h',hg=>by
  simp at h h';subst h;subst h';simp[j1O,hg]
 |y::as,v::us,i+1,x,u,g,h,h',hg=>by
  have:=jhw (as:=as) (us:=us) (i:=i) (by simpa using h) (by simpa using h') hg;simp[j1O,this]
 |[],_,_,_,_,_,h,_,_=>by simp at h
 |_::_,[],_,_,_,_,_,h',_=>by simp at h'
theorem jrS:∀{as:H Arg}{us:H Y}{i j:G}{x y:Arg}{u v:Y}{g:G},(j1O as us).Nodup->as[i]? = B x->us[i]? = B u->as[j]? = B y->us[j]? = B v->
  j8L x u=B g->j8L y v=B g->i=j
 |z::as,t::us,0,0,_,_,_,_,_,_,_,_,_,_,_,_=>rfl
 |z::as,t::us,0,j+1,x,y,u,v,g,hn,hx,hu,hy,hv,h1,h2=>by
  simp at hx hu;subst hx;subst hu;have:=jhw (as:=as) (us:=us) (i:=j) (by simpa using hy) (by simpa using hv) h2;simp[j1O,h1]at hn;exact absurd this hn.1
 |z::as,t::us,i+1,0,x,y,u,v,g,hn,hx,hu,hy,hv,h1,h2=>by
  simp at hy hv;subst hy;subst hv;have:=jhw (as:=as) (us:=us) (i:=i) (by simpa using hx) (by simpa using hu) h1;simp[j1O,h2]at hn;exact absurd this hn.1
 |z::as,t::us,i+1,j+1,x,y,u,v,g,hn,hx,hu,hy,hv,h1,h2=>by
  have hn':(j1O as us).Nodup:=by simp only[j1O]at hn;exact(List.nodup_append.1 hn).2.1
  rw[jrS hn' (i:=i) (j:=j) (by simpa using hx) (by simpa using hu) (by simpa using hy) (by simpa using hv) h1 h2]
 |[],_,_,_,_,_,_,_,_,_,h,_,_,_,_,_=>by simp at h
 |_::_,[],_,_,_,_,_,_,_,_,_,h,_,_,_,_=>by simp at h
theorem jzd:∀{as:H Arg}{us:H Y}{i e:G}{x:TV}{u:Y}{g:G},as[i]? = B (.mv e x)->us[i]? = B u->blk u=B g->g∈mvOf as us
 |y::as,v::us,0,e,x,u,g,h,h',hg=>by
  simp at h h';subst h;subst h';simp[mvOf,hg]
 |y::as,v::us,i+1,e,x,u,g,h,h',hg=>by
  have:=jzd (as:=as) (us:=us) (i:=i) (by simpa using h) (by simpa using h') hg;cases y<;>simp[mvOf,this]
 |[],_,_,_,_,_,_,h,_,_=>by simp at h
 |_::_,[],_,_,_,_,_,_,h',_=>by simp at h'
theorem jxY{args:H Arg}{vals:H Y}(ha:All2 (jbJ S w) args vals)(hnd:(j1O args vals).Nodup)(hS:∀g o,S g o->g<w.heap.size)(hlen:args.length=np)(hN:np<=N.n) :
  Rel N np S w (jdz args vals) (St.init args) ⟨vals.toArray++ð (N.n-vals.toArray.size) undef,[]⟩ w S (γ0 vals)/\j2z (St.init args):=by
 have hvl:vals.length=np:=by rw[<-ha.length,hlen]
 have htm:∀i u,vals[i]? = B u->(vals.toArray++ð (N.n-vals.toArray.size) undef).getD i undef=u:=by
  simp_all[List.getElem?_eq_some_iff,Array.getElem?_append_left]
 have hg0:∀i u,vals[i]? = B u->γ0 vals (i*64)=u:=by grind[γ0]
 have hg63:∀i u,vals[i]? = B u->γ0 vals (i*64+63)=u:=by grind[γ0]
 have hbx:∀k b,(St.init args).bx k = .live b->∃i x u,args[i]? = B x/\vals[i]? = B u/\jbJ S w x u/\((k=i*64/\jb6 (B x) = .live b)\/(k=i*64+63/\jmY (B x) = .live b)):=by
  intro k b hb;simp only[St.init]at hb;split at hb
  .rename_i hk;cases hx:args[k/64]? with
   |none=>grind[jb6]
   |some x=>obtain⟨u,hu,hxu⟩:=ha.get _ x hx;grind
  .split at hb
   .rename_i hk;cases hx:args[k/64]? with
    |none=>grind[jmY]
    |some x=>obtain⟨u,hu,hxu⟩:=ha.get _ x hx;grind
   .simp at hb
 have hmvx:∀{x:Arg}{b:Bx},jmY (B x) = .live b->∃e t xs,x = .mv e ⟨.list t,xs⟩/\b = .lst e t xs false:=by
  intro x b hb;cases x with
  |mv e y=>obtain⟨t,v⟩:=y;cases t<;>simp[jmY]at hb;grind
  |_=>simp[jmY]at hb
 have hbx63:∀i x,args[i]? = B x->(St.init args).bx (i*64+63)=jmY (B x):=by grind[St.init]
 have hbx':∀i x,args[i]? = B x->(St.init args).bx (i*64)=jb6 (B x):=by grind[St.init]
 have hblk:∀x u b,jb6 (B x) = .live b->j8L x u=blk u:=by intro x u b hb;cases x<;>first|rfl|simp[jb6]at hb
 refine⟨⟨?_,rfl,?_,?_,?_,?_,λ_ _ h=>h,λ_ _ h=> .inl h,hS,λ_ _ _=>rfl,ô _,rfl,rfl,rfl,?_,λg o h=>by simp[jdz]at h,λi v h=>by simp[jdz]at h⟩,?_⟩
 .simp;omega
 .intro i
  have hsl:(St.init args).sl i=match args[i]? with
   |some a=> .one (jmX i a)
   |none=> .one (.one .dead):=rfl
  rw[hsl];cases hx:args[i]? with
  |none=>exact⟨trivial,λh=>absurd rfl h⟩
  |some x=>
   obtain⟨u,hu,hxu⟩:=ha.get i x hx;show j0m S w (γ0 vals) (St.init args).bx (jmX i x) _;rw[htm i u hu];have hb:=hbx' i x hx;cases x with
   |v x=>exact je4 hxu
   |ref ls=>obtain⟨g,cur,e,h1,_⟩:=id hxu;exact⟨⟨by rw[hb];simp[jb6],by rw[h1];rfl,λb _=>⟨g,(hg0 i u hu).trans h1,h1⟩⟩,λ_=>by rw[h1];rfl⟩
   |rl e x=>obtain⟨t,xs,rfl,hrow,_⟩:=id hxu;have hone:One u:=hrow.one;exact⟨⟨by rw[hb];simp[jb6],hone,λb _=>(hg0 i u hu).symm⟩,λ_=>hone⟩
   |ip ls=>obtain⟨g,o,cs,h1,_⟩:=id hxu;exact⟨hxu,λ_=>by rw[h1];rfl⟩
   |clo f caps=>obtain⟨cv,h1,_⟩:=id hxu;exact⟨hxu,λ_=>by rw[h1];rfl⟩
   |mv e x=>obtain⟨t,xs,rfl,hrow,_⟩:=id hxu.1;have hone:One u:=hrow.one;have hb':=hbx63 i _ hx;exact⟨⟨by rw[hb'];simp[jmY],hone,λb _=>(hg63 i u hu).symm⟩,λ_=>hone⟩
 .intro k b hb;obtain⟨i,x,u,hx,hu,hxu,⟨rfl,hbox⟩|⟨rfl,hbox⟩⟩:=hbx k b hb
  .cases x with
   |ref ls=>simp only[jb6,BS.live.injEq]at hbox;subst hbox;exact jiz (hg0 i u hu) hxu
   |rl e x=>obtain⟨t,xs,rfl,_⟩:=id hxu;simp only[jb6,BS.live.injEq]at hbox;subst hbox;exact jbx (hg0 i u hu) hxu
   |_=>simp[jb6]at hbox
  .obtain⟨e,t,xs,rfl,rfl⟩:=hmvx hbox;exact jbx (hg63 i u hu) hxu.1
 .intro k b g hb hg;obtain⟨i,x,u,hx,hu,hxu,⟨rfl,hbox⟩|⟨rfl,hbox⟩⟩:=hbx k b hb
  .rw[hg0 i u hu,<-hblk x u b hbox]at hg;refine .inr ⟨jhw hx hu hg,?_⟩;grind[parK]
  .obtain⟨e,t,xs,rfl,rfl⟩:=hmvx hbox;rw[hg63 i u hu]at hg;exact .inl (.inr ⟨jzd hx hu hg,jhw (x:= .mv e ⟨.list t,xs⟩) hx hu hg⟩)
 .intro k k' b b' g hne hb hb' hg hg'
  have hof:∀k b g,(St.init args).bx k = .live b->blk (γ0 vals k)=B g->∃i x u,args[i]? = B x/\vals[i]? = B u/\j8L x u=B g/\((k=i*64/\jb6 (B x) = .live b)\/(k=i*64+63/\jmY (B x) = .live b)):=by
   intro k b g hb hg;obtain⟨i,x,u,hx,hu,hxu,⟨rfl,hbox⟩|⟨rfl,hbox⟩⟩:=hbx k b hb
   .grind
   .obtain⟨e,t,xs,rfl,rfl⟩:=hmvx hbox;rw[hg63 i u hu]at hg;exact⟨i,_,u,hx,hu,hg,.inr ⟨rfl,hbox⟩⟩
  obtain⟨i,x,u,hx,hu,h1,h2⟩:=hof k b g hb hg;obtain⟨j,y,v,hy,hv,h3,h4⟩:=hof k' b' g hb' hg';have hij:=jrS hnd hx hu hy hv h1 h3;subst hij;rw[hx]at hy;cases hy;rcases h2 with⟨rfl,h2⟩|⟨rfl,h2⟩<;>rcases h4 with⟨rfl,h4⟩|⟨rfl,h4⟩
  .exact hne rfl
  .obtain⟨e,t,xs,rfl,rfl⟩:=hmvx h4;simp[jb6]at h2
  .obtain⟨e,t,xs,rfl,rfl⟩:=hmvx h2;simp[jb6]at h4
  .exact hne rfl
 .intro k v hv;simp only[jdz,jv7]at hv;split at hv
  .rename_i hk;split at hv
   .rename_i x hx;split at hv
    .rename_i hr;have hi:k/64<args.length:=(List.getElem?_eq_some_iff.1 hx).1;have hk':k=(k/64)*64:=omg_;refine⟨by simp[parK,hk];omega,?_,?_⟩
     .rw[hk',hbx' _ x hx];cases x with
      |rl e y=>obtain⟨u,hu,hxu⟩:=ha.get _ _ hx;obtain⟨t,xs,rfl,_⟩:=hxu;simp[jb6]
      |ref ls=>simp[jb6]
      |_=>simp[jqh]at hr
     grind
    .simp at hv
   .simp at hv
  .simp at hv
 .intro i;show ((match args[i]? with|some a=>Slot.one (jmX i a)|none=> .one (.one .dead)):Slot).bare=X;split<;>rfl
theorem jjP{α β:Type}{P:Ç}(f:α->Sem β):∀{rs:H α}{zs:H β},All2 (λr z=>(f r).run P w = .ok z w) rs zs->(rs.mapM f).run P w = .ok zs w
 |[],[],_=>smp_
 |r::rs,z::zs,h=>by
  simp only[List.mapM_cons,ý,h.1,ì,jjP f h.2,þ]
 |[],_::_,h=>h.elim
 |_::_,[],h=>h.elim
def Uns(b:Bx):Prop:=(∃ls,b = .cell ls U)\/∃e t xs,b = .lst e t xs U
theorem jnl{P:Ç}{E:Env}(hT:j1K P E.T)(hR:Rel N np S0 w0 refs σ a w S γ){r:å}{c:Cel}(h:jkd E σ r=B c) :
  ∃z,((match r with
   |.tmp t=>pure (a.tmps.getD t undef)
   |.cell x t=>do loadVar t (<-asAddr (a.tmps.getD x undef)):Sem Y)).run P w = .ok z w/\j0m S w γ σ.bx c z:=by
 cases r with
 |tmp t=>
  simp only[jkd]at h;split at h
  .rename_i c' hc;simp only[j5]at h;subst h;have:=hR.slot t;rw[hc]at this;exact⟨_,smp_,this⟩
  .simp at h
 |cell x t=>
  simp only[jkd]at h;split at h
  .rename_i ti y ht hy;have:=hR.slot x;rw[hy]at this;obtain⟨z,hz,hcz⟩:=jou hT hR (RdR.msk λ_=> .inl rfl) ht h this.1;refine⟨z,?_,hcz⟩;show (do loadVar t (<-asAddr (a.tmps.getD x undef)):Sem Y).run P w=_
   have hu:∃ad,a.tmps.getD x undef = .pointer (B ad):=by
    generalize a.tmps.getD x undef=u at hz
    cases u with
    |pointer o=>
     cases o with
     |some ad=>exact⟨ad,rfl⟩
     |none=>simp_all[Instr.loadAt,Instr.sureAddr]
    |_=>simp[Instr.loadAt,Instr.sureAddr]at hz
   grind[Instr.loadAt,Instr.sureAddr,asAddr]
  .simp at h
theorem jjQ{rd:G->BS}(hR:Rel N np S0 w0 refs σ a w S γ)(hrd:RdF np σ rd):∀{ks:H SoK}{ls:H Leaf}{r:H RL}{n:H G}{v:Ups}{zs:H Y},soOf rd ks ls=B (r,n,v)->
  All2 (j08 S w γ σ.bx) ls zs->(∀z∈zs,One z)->FrzL np σ.bx v/\(∀k∈n,(∃b,σ.bx k = .live b/\Uns b)/\parK np k=U)/\jcv r zs=(n.filterMap λk=>blk (γ k))/\
   ∀S',j3m S w S' w->Froz σ.bx γ S' w v->(∀k∈n,∀g,blk (γ k)=B g->∀o,¬S' g o)->All2 (jxL S' w) r zs
 |[],[],r,n,v,zs,h,ha,h1=>by
  simp[soOf]at h;obtain⟨rfl,rfl,rfl⟩:=h;cases zs with
  |nil=>exact⟨.nil,smp_,rfl,λ_ _ _ _=>trivial⟩
  |cons _ _=>exact ha.elim
 |.d t::ks,l::ls,r,n,v,zs,h,ha,h1=>by
  cases zs with
  |nil=>exact ha.elim
  |cons z zs=>
  simp only[soOf]at h;split at h
  .rename_i x u r' n' v' hx hr;cases hlf:t.leafy with
   |false=>rw[hlf]at h;simp at h
   |true=>
   rw[hlf,j6]at h;simp only[j5,j9]at h;obtain⟨rfl,rfl,rfl⟩:=h;obtain⟨f1,p1⟩:=jbH hrd hR.box hx ha.1;obtain⟨f2,k2,b2,p2⟩:=jjQ hR hrd hr ha.2 (λy hy=>h1 y (by simp[hy]));refine⟨FrzL.app.2 ⟨f1,f2⟩,k2,by simp[jcv,b2],λS' hst hfz hn=>?_⟩;obtain⟨g1,g2⟩:=Froz.app.1 hfz;exact⟨⟨h1 z smp_,p1 S' w hst g1⟩,p2 S' hst g2 hn⟩
  .simp at h
 |.own e t::ks,l::ls,r,n,v,zs,h,ha,h1=>by
  cases zs with
  |nil=>exact ha.elim
  |cons z zs=>
  cases l with
  |nil=>
   simp only[soOf]at h;split at h
   .rename_i r' n' v' hr;cases hm:isM e with
    |true=>rw[hm]at h;simp at h
    |false=>
    rw[hm,j7]at h;simp only[j5,j9]at h;obtain⟨rfl,rfl,rfl⟩:=h;have hz:z = .slice Ã 0 0:=ha.1;subst hz;obtain⟨f2,k2,b2,p2⟩:=jjQ hR hrd hr ha.2 (λy hy=>h1 y (by simp[hy]));refine⟨f2,k2,by simp[jcv,blk,b2],λS' hst hfz hn=>⟨⟨t,[],rfl,.inl ⟨hm,[],⟨smp_,.inl ⟨rfl,rfl⟩⟩,trivial⟩,λg hg=>by simp[blk]at hg⟩,p2 S' hst hfz hn⟩⟩
   .simp at h
  |ol k=>
   simp only[soOf]at h;split at h
   .rename_i e' b xs hk;cases he:ñ e' e with
    |false=>rw[he]at h;simp at h
    |true=>
    rw[he,j6]at h;split at h
    .rename_i r' n' v' hr;simp only[j5,j9]at h;obtain⟨rfl,rfl,rfl⟩:=h;have hp:=hrd.par hk;have hk:=hrd.ok.live hk;have hz:=ha.1.2.2 _ hk;obtain⟨f2,k2,b2,p2⟩:=jjQ hR hrd hr ha.2 (λy hy=>h1 y (by simp[hy]));refine⟨f2,λk' hk'=>?_,?_,λS' hst hfz hn=>⟨⟨b,xs,rfl,by rw[hz];exact(hR.box k _ hk).1.keep hst (λ_ _=>rfl),λg hg=>hn k smp_ g (by rw[<-hz];exact hg)⟩,p2 S' hst hfz (λk' hk'=>hn k' (by simp[hk']))⟩⟩
     .rcases List.mem_cons.1 hk' with rfl|hk'
      .exact⟨⟨_,hk,.inr ⟨_,_,_,rfl⟩⟩,hp⟩
      .exact k2 k' hk'
     .simp only[jcv,hz,List.filterMap_cons];rw[b2];cases blk (γ k)<;>rfl
    .simp at h
   .simp at h
  |_=>simp[soOf]at h
 |[],_::_,r,n,v,zs,h,_,_=>by simp[soOf]at h
 |.d _::_,[],r,n,v,zs,h,_,_=>by simp[soOf]at h
 |.own _ _::_,[],r,n,v,zs,h,_,_=>by simp[soOf]at h
theorem jBT{P:Ç}{E:Env}(hT:j1K P E.T)(hR:Rel N E.np S0 w0 refs σ a w S γ){rd:G->BS}(hrd:RdF E.np σ rd){own:Ë}{t:G}{c:Cel}{v:RV}{ks:H G}{u:Ups}{z:Y}(h:rvOf E rd own t c=B (v,ks,u))(hc:j0m S w γ σ.bx c z) :
  FrzL E.np σ.bx u/\(∀k∈ks,(∃b,σ.bx k = .live b/\Uns b)/\parK E.np k=U)/\j93 v z=(ks.filterMap λk=>blk (γ k))/\
   ∀S',j3m S w S' w->Froz σ.bx γ S' w u->(∀k∈ks,∀g,blk (γ k)=B g->∀o,¬S' g o)->jjz S' w v z:=by
 unfold rvOf at h;split at h
 .rename_i k;split at h
  .rename_i ls hk;split at h
   .rename_i xs u1 h1;simp only[j5,j9]at h;obtain⟨rfl,rfl,rfl⟩:=h;have hp:=hrd.par hk;have hk:=hrd.ok.live hk;obtain⟨g,hg,hz⟩:=hc.1.2.2 _ hk;obtain⟨g',cur,e,hg',hh,hcur,_⟩:=hR.box k _ hk;rw[hg]at hg';simp at hg';subst hg';obtain⟨hf,hpp⟩:=jix hrd h1 hcur;refine⟨hf,λk' hk'=>by simp at hk';subst hk';exact⟨⟨_,hk,.inl ⟨_,rfl⟩⟩,hp⟩,?_,λS' hst hfz hn=>⟨g,cur,e,hz,hh,by grind[jjH],?_⟩⟩;all_goals grind[j93,jgj,blk]
   .simp at h
  .simp at h
 .rename_i f caps;simp only[j5,j9]at h;obtain⟨rfl,rfl,rfl⟩:=h;obtain⟨⟨cv,hz,hall⟩,_⟩:=hc;exact⟨.nil,smp_,by simp[j93,jgj],λS' hst _ _=>⟨cv,hz,hall.mono λ_ _ h=>j82.keep hst h⟩⟩
 .split at h
  .rename_i ti ht;split at h
   .rename_i ty hty;split at h
    .split at h
     .rename_i ls;split at h
      .rename_i r n u1 hso;simp only[j5,j9]at h;obtain⟨rfl,rfl,rfl⟩:=h;obtain⟨cs,hz,hall,hone⟩:=hc;subst hz;obtain⟨f1,k1,b1,p1⟩:=jjQ hR hrd hso hall hone;exact⟨f1,k1,b1,λS' hst hfz hn=>⟨cs,rfl,p1 S' hst hfz hn⟩⟩
      .simp at h
     .rename_i el hno _;simp only[j5,j9]at h;obtain⟨rfl,rfl,rfl⟩:=h;have hz:z = .slice Ã 0 0:=hc.1;subst hz;exact⟨.nil,smp_,by simp[j93,jgj,blk],λS' _ _ _=>⟨el,[],rfl,.inl ⟨jn0 hT ht,[],⟨smp_,.inl ⟨rfl,rfl⟩⟩,trivial⟩,λg hg=>by simp[blk]at hg⟩⟩
     .rename_i k hno _;split at h
      .rename_i e el xs hk;simp only[j5,j9]at h;obtain⟨rfl,rfl,rfl⟩:=h;have hp:=hrd.par hk;have hnm:=hrd.ok.nm hk;have hk:=hrd.ok.live hk;have hz:=hc.1.2.2 _ hk;obtain⟨css,hown,hall,_⟩:=j6U hnm (hR.box k _ hk);refine⟨.nil,λk' hk'=>by simp at hk';subst hk';exact⟨⟨_,hk,.inr ⟨_,_,_,rfl⟩⟩,hp⟩,?_,λS' hst _ hn=>⟨el,xs,rfl,by rw[hz];exact(hR.box k _ hk).1.keep hst (λ_ _=>rfl),λg hg=>hn k smp_ g (by rw[<-hz];exact hg)⟩⟩;grind[j93,jgj]
      .simp at h
     .simp at h
    .split at h
     .rename_i x u1 hx;simp only[j5,j9]at h;obtain⟨rfl,rfl,rfl⟩:=h;obtain⟨hf,hp,_⟩:=jds hrd hR.box hx hc;exact⟨hf,smp_,by simp[j93,jgj],λS' hst hfz _=>hp S' w hst hfz⟩
     .simp at h
   .simp at h
  .simp at h
theorem jkE{P:Ç}{E:Env}(hT:j1K P E.T)(hR:Rel N E.np S0 w0 refs σ a w S γ):∀{os:H Ë}{rs:H å}{ts:H G}{vs:H RV}{ks:H G}{u:Ups},jaQ E σ os rs ts=B (vs,ks,u)->
  ∃zs,All2 (λ(r:å) z=>((match r with
   |.tmp t=>pure (a.tmps.getD t undef)
   |.cell x t=>do loadVar t (<-asAddr (a.tmps.getD x undef)):Sem Y)).run P w = .ok z w) rs zs/\
  FrzL E.np σ.bx u/\(∀k∈ks,(∃b,σ.bx k = .live b/\Uns b)/\parK E.np k=U)/\j7U vs zs=(ks.filterMap λk=>blk (γ k))/\
   ∀S',j3m S w S' w->Froz σ.bx γ S' w u->(∀k∈ks,∀g,blk (γ k)=B g->∀o,¬S' g o)->All2 (jjz S' w) vs zs
 |os,[],ts,vs,ks,u,h=>by
  simp[jaQ]at h;obtain⟨rfl,rfl,rfl⟩:=h;exact⟨[],trivial,.nil,smp_,rfl,λ_ _ _ _=>trivial⟩
 |os,r::rs,ts,vs,ks,u,h=>by
  simp only[jaQ]at h;split at h
  .rename_i c hc;split at h
   .rename_i v k1 u1 hv;split at h
    .rename_i vs' k2 u2 hvs;simp only[j5,j9]at h;obtain⟨rfl,rfl,rfl⟩:=h;obtain⟨z,hz,hcz⟩:=jnl hT hR hc;obtain⟨f1,p1,n1,r1⟩:=jBT hT hR (jmr (RdR.msk λ_=> .inl rfl)) hv hcz;obtain⟨zs,hzs,f2,p2,n2,r2⟩:=jkE hT hR hvs;refine⟨z::zs,⟨hz,hzs⟩,FrzL.app.2 ⟨f1,f2⟩,λk hk=>?_,?_,λS' hst hfz hn=>?_⟩
     .rcases List.mem_append.1 hk with hk|hk
      .exact p1 k hk
      .exact p2 k hk
     .simp[j7U,n1,n2]
     .obtain⟨g1,g2⟩:=Froz.app.1 hfz;exact⟨r1 S' hst g1 (λk hk=>hn k (by simp[hk])),r2 S' hst g2 (λk hk=>hn k (by simp[hk]))⟩
    .simp at h
   .simp at h
  .simp at h
theorem jnm(hR:Rel N np S0 w0 refs σ a w S γ):∀{as:H Arg}{us:H Y}{i:G}{os:H Out}{u:Ups},outs np σ i as=B (os,u)->as.length=us.length->
  (∀(j:G)(x:Arg)(v:Y),as[j]? = B x->us[j]? = B v->jqh x=X->γ ((i+j)*64)=v)->
  FrzL np σ.bx u/\∀S',j3m S w S' w->Froz σ.bx γ S' w u->(∀(j:G)(x:Arg)(v:Y)(g:G),as[j]? = B x->us[j]? = B v->jqh x=X->(∃b,σ.bx ((i+j)*64) = .live b/\Uns b)->blk v=B g->∀o,¬S' g o)->j68 S' w as us os
 |[],us,i,os,u,h,hl,_=>by
  simp[outs]at h;obtain⟨rfl,rfl⟩:=h;cases us with
  |nil=>exact⟨.nil,λ_ _ _ _=>trivial⟩
  |cons _ _=>simp at hl
 |x::as,[],i,os,u,h,hl,_=>by simp at hl
 |x::as,v::us,i,os,u,h,hl,hg=>by
  simp only[outs]at h;split at h
  .rename_i os' u' h'
   obtain⟨f1,r1⟩:=jnm hR (i:=i+1) h' (by simpa using hl) (λj y z hy hz hr=>by
    have:=hg (j+1) y z (by simpa using hy) (by simpa using hz) hr;rwa[show i+1+j=i+(j+1) by omega])
   have hrest:∀S',j3m S w S' w->Froz σ.bx γ S' w u'->(∀(j:G)(x':Arg)(v':Y)(g:G),(x::as)[j]? = B x'->(v::us)[j]? = B v'->jqh x'=X->(∃b,σ.bx ((i+j)*64) = .live b/\Uns b)->blk v'=B g->∀o,¬S' g o)->j68 S' w as us os':=by intro S' hst hfz hn;refine r1 S' hst hfz (λj y z g hy hz hr hb hgz=>?_);exact hn (j+1) y z g (by simpa using hy) (by simpa using hz) hr (by rwa[show i+(j+1)=i+1+j by omega]) hgz
   split at h
   .rename_i ls;have hgi:γ (i*64)=v:=hg 0 _ v rfl rfl rfl;split at h
    .rename_i ls' hb;split at h
     .rename_i xs u2 hx;simp only[j5,j9]at h;obtain⟨rfl,rfl⟩:=h;obtain⟨g,cur,e,h1,h2,h3,_⟩:=hR.box _ _ hb;obtain⟨f2,r2⟩:=jix (jmr (RdR.msk λ_=> .inl rfl)) hx h3;refine⟨FrzL.app.2 ⟨f2,f1⟩,λS' hst hfz hn=>?_⟩;obtain⟨g1,g2⟩:=Froz.app.1 hfz;have hvg:v = .pointer (B ⟨g,0,Ã⟩):=by rw[<-hgi];exact h1
      exact⟨⟨g,cur,e,hvg,h2,by rw[jjH h3 (r2 S' w hst g1)];exact r2 S' w hst g1,hn 0 _ v g rfl rfl rfl ⟨_,hb,.inl ⟨ls',rfl⟩⟩ (by rw[hvg];rfl)⟩,hrest S' hst g2 hn⟩
     .simp at h
    .simp at h
   .rename_i e y;have hgi:γ (i*64)=v:=hg 0 _ v rfl rfl rfl;split at h
    .rename_i e' t xs hb;split at h
     .rename_i hcond;obtain⟨rfl,hyt⟩:=hcond;simp only[j5,j9]at h;obtain⟨rfl,rfl⟩:=h;have hown:=(hR.box _ _ hb).1;rw[hgi]at hown;refine⟨f1,λS' hst hfz hn=>⟨⟨t,xs,rfl,hown.keep hst (λ_ _=>rfl),λg hg'=>hn 0 _ v g rfl rfl rfl ⟨_,hb,.inr ⟨_,t,xs,rfl⟩⟩ hg'⟩,hyt.symm,hrest S' hst hfz hn⟩⟩
     .simp at h
    .simp at h
   .rename_i hnr1 hnr2;simp only[j5,j9]at h;obtain⟨rfl,rfl⟩:=h;refine⟨f1,λS' hst hfz hn=>?_⟩;have:=hrest S' hst hfz hn;cases x with
    |ref ls=>exact absurd rfl (hnr1 ls)
    |rl e y=>exact absurd rfl (hnr2 e y)
    |_=>exact this
  .simp at h
theorem jmz{x:Arg}{u:Y}{g:G}(h:jbJ S w x u)(hr:j8L x u=B g):∀o,¬S g o:=by
 cases x with
 |ref ls=>obtain⟨g',cur,e,h1,_,_,h4⟩:=h;have hr':blk u=B g:=hr;grind[blk]
 |rl e y=>obtain⟨t,xs,_,_,h4⟩:=h;exact h4 g hr
 |mv e y=>obtain⟨⟨t,xs,_,_,h4⟩,_⟩:=h;exact h4 g hr
 |_=>simp[j8L]at hr
theorem jgM:∀{as:H Arg}{us:H Y}{g:G},g∈j1O as us->∃(i:G)(x:Arg)(u:Y),as[i]? = B x/\us[i]? = B u/\j8L x u=B g
 |[],_,_,h=>by simp[j1O]at h
 |_::_,[],_,h=>by simp[j1O]at h
 |x::as,u::us,g,h=>by
  simp only[j1O,List.mem_append,Option.mem_toList]at h;rcases h with h|h
  .exact⟨0,x,u,rfl,rfl,h⟩
  .obtain⟨i,y,v,h1,h2,h3⟩:=jgM h;exact⟨i+1,y,v,by simpa using h1,by simpa using h2,h3⟩
theorem jnn(zs:H Y):(if h:zs.toArray.size=1 then zs.toArray[0] else .tuple zs.toArray)=j7f zs:=by
 match zs with
 |[]=>rfl
 |[z]=>rfl
 |z::z'::zs=>simp[j7f]
theorem jxZ{P:Ç}{E:Env}(hT:j1K P E.T)(hR:Rel N np S0 w0 refs σ a w S γ){rs:H å}{vs vs':H RV}{zs:H Y}
  (hzs:All2 (λ(r:å) z=>((match r with
   |.tmp t=>pure (a.tmps.getD t undef)
   |.cell x t=>do loadVar t (<-asAddr (a.tmps.getD x undef)):Sem Y)).run P w = .ok z w) rs zs) (h:nilV E σ rs vs=B vs') :
  (∀S' w',All2 (jjz S' w') vs zs->All2 (jjz S' w') vs' zs)/\j7U vs' zs=j7U vs zs/\(∀m,vs'=[.hd m]->vs=[.hd m])/\∀ns s,vs'=[.raw ns s]->vs=[.raw ns s]:=by
 unfold nilV at h;split at h
 .simp_all
 .split at h
  .rename_i r x;split at h
   .rename_i ls hc;split at h
    .rename_i hn;simp only[j5]at h;subst h;obtain⟨z,hz,hcz⟩:=jnl hT hR hc;cases zs with
     |nil=>exact hzs.elim
     |cons z' zs=>
      cases zs with
      |cons _ _=>exact hzs.2.elim
      |nil=>
       have hzz:z'=z:=by
        have h1:=hz.symm.trans hzs.1
        simp_all
       subst hzz;obtain⟨cs,hu,hall,_⟩:=hcz;refine⟨λS' w' hv=>⟨⟨hv.1,λcs' hcs' i hi z hzi=>?_⟩,trivial⟩,rfl,λm hm=>by simp at hm,λns s hm=>by simp at hm⟩;rw[hu]at hcs';simp only[Value.agg.injEq]at hcs';subst hcs';have hl:=List.all_eq_true.1 hn i hi;cases hli:ls[i]? with
       |none=>simp_all
       |some l=>rw[hli]at hl;obtain⟨z2,hz2,hlz⟩:=hall.get i l hli;rw[hzi]at hz2;simp only[j5]at hz2;subst hz2;cases l<;>first|exact hlz|simp at hl
    .simp at h
   .simp at h
  .simp at h
theorem jno{E:Env}{os:H Ë}{rs:H å}{ts:H G}{vs:H RV}{ks:H G}{u:Ups}(h:jaQ E σ os rs ts=B (vs,ks,u))(m:G):vs≠[.hd m]:=by
 cases rs with
 |nil=>grind[jaQ]
 |cons r rs=>
  simp only[jaQ]at h;split at h
  .split at h
   .rename_i v k1 u1 hv;split at h
    .simp only[j5,j9]at h;rw[<-h.1];intro he;have:v = .hd m:=by grind
     subst this;unfold rvOf at hv;split at hv
     .grind
     .simp at hv
     .split at hv;all_goals grind
    .simp at h
   .simp at h
  .simp at h
theorem jlO{E:Env}{os:H Ë}{rs:H å}{ts:H G}{vs:H RV}{ks:H G}{u:Ups}(h:jaQ E σ os rs ts=B (vs,ks,u))(ns:H G)(s:Snap):vs≠[.raw ns s]:=by
 cases rs with
 |nil=>grind[jaQ]
 |cons r rs=>
  simp only[jaQ]at h;split at h
  .split at h
   .rename_i v k1 u1 hv;split at h
    .simp only[j5,j9]at h;rw[<-h.1];intro he;have:v = .raw ns s:=by grind
     subst this;unfold rvOf at hv;split at hv
     .grind
     .simp at hv
     .split at hv;all_goals grind
    .simp at h
   .simp at h
  .simp at h
theorem jBU{P:Ç}{E:Env}(hT:j1K P E.T){fn:Func}{args:H Arg}{vals:H Y}{σ':St}{a':Æ}{w':Á}{S':j09}{γ':G->Y}(hR:Rel N E.np S w (jdz args vals) σ' a' w' S' γ')
  (ha:All2 (jbJ S w) args vals)(hS:∀g o,S g o->g<w.heap.size)(hrw:¬E.rw=X)(hhd:E.hd=X){ret:Ret}(hret:jmZ E fn args σ'=B ret){R:Type}{k:Ret->O R}{r:R}(hk:k ret=B r) :
  ∃v,(results fn a'.tmps).run P w' = .ok v w'/\∃ret,k ret=B r/\∃v' S' vs,è v = .returned v'/\jxM w S args vals ret v' w' S' vs:=by
 have hval:∀(j:G)(x:Arg)(v:Y),args[j]? = B x->vals[j]? = B v->jqh x=X->γ' ((0+j)*64)=v:=by
  intro j x v hx hv hr;refine(hR.par ((0+j)*64) v ?_).2.2
  simp_all[jdz,jv7]
 unfold jmZ at hret;rw[if_neg hrw,if_pos hhd]at hret;unfold jBJ at hret;split at hret
 .rename_i e x as r0 hres;split at hret
  .rename_i l os u' hc hos;split at hret
   .rename_i m hm;simp only[j5]at hret;subst hret;obtain⟨z,hz,hcz⟩:=jnl (P:=P) hT hR hc;obtain⟨f2,r2⟩:=jnm hR hos ha.length hval;obtain⟨S2,hR2,hst2,hfz2,hsame⟩:=j4t u' σ' S' hR f2;cases vals with
    |nil=>exact ha.elim
    |cons v0 vs0=>
    have h0:γ' 0=v0:=by have:=hval 0 _ v0 rfl rfl rfl;simpa using this
    have hpar:∀k,parK E.np k=X->u'.any (λy=>y.1==k)=false:=by
     intro k hk;rw[List.any_eq_false];intro y hy he;simp only[beq_iff_eq]at he;have:=(f2 y hy).1
     simp_all
    have hnoS:∀k b,u'.any (λy=>y.1==k)=U->σ'.bx k = .live b->Uns b->∀g,blk (γ' k)=B g->∀o,¬S2 g o:=by
     intro k b hk hb hkind g hg o;have hb2:(σ'.upd u').bx k = .live b:=(j2H _ _ hk).trans hb;have hbox:=hR2.box k b hb2;rcases hkind with⟨ls,rfl⟩|⟨e,t,xs,rfl⟩
     .obtain⟨g',cur,e,hg',_,_,_,hS,_⟩:=hbox;grind[blk]
     .exact(hbox.2 g hg).1 rfl o
    have houts:=r2 S2 hst2 hfz2 (λj x v g hx hv hr hbu hg=>by
     obtain⟨b,hb,hu⟩:=hbu
     have hp:parK E.np ((0+j)*64)=true:=by
      refine(hR.par ((0+j)*64) v ?_).1
      simp_all[jdz,jv7]
     grind)
    have hone:One z:=hcz.2 (by grind[hdOf])
    have hhead:∃ad len cap,v0 = .slice ad len cap/\m<=len/\z = .slice ad m cap:=by
     unfold hdOf at hm;split at hm
     .split at hm
      .rename_i e1 t1 xs1 hb;split at hm
       .simp at hm
       .rename_i hnm;simp only[j5]at hm;subst hm;obtain⟨css,hown,_⟩:=j6U (by simpa using hnm) (hR.box 0 _ hb);have hzz:=hcz.1.2.2 _ hb;rcases hown.2 with⟨hg,hn⟩|⟨g,cap,cur,hg,_⟩;all_goals grind
      .simp at hm
     .split at hm
      .rename_i i e1 t1 xs1 hb;simp only[j5]at hm;subst hm;obtain⟨_,hi,ad,cap,hg,hzz⟩:=hcz.1.2.2 _ hb;grind
      .simp at hm
     .simp at hm
    have hrun:(results fn a'.tmps).run P w' = .ok (j7f [z]) w':=by
     have hm:=jjP (P:=P) (w:=w') (rs:=[r0]) (zs:=[z]) (λr=>((match r with
      |.tmp t=>pure (a'.tmps.getD t undef)
      |.cell x t=>do loadVar t (<-asAddr (a'.tmps.getD x undef)):Sem Y))) ⟨hz,trivial⟩
     grind[results,æ,ý,Sem.run_map,ì,þ,jnn]
    refine⟨j7f [z],hrun,⟨[.hd m],os⟩,hk,j7f [z],S2,[z],rfl,⟨rfl,⟨hone,trivial⟩,λg hg=>by grind[j7U,jgj,j93],by simp[j7U,jgj,j93],houts,λg o hs=>⟨hR2.ext g o hs,?_⟩,λg o h=>(hR2.new g o h).imp id (λh=>h.imp id And.left),hR2.here,hR2.below,hR2.grow,hR2.os,hR2.tape,hR2.output,λns s he=>by simp at he,?_⟩⟩
    .refine Ì (hR2.below g (hS g o hs) (λhm=>?_));obtain⟨i,x,v,hx,hv,hb⟩:=jgM hm;obtain⟨v',hv',hxv⟩:=ha.get i x hx;rw[hv]at hv';simp at hv';subst hv';exact jmz hxv hb o hs
    .intro m' hm';have:m'=m:=by simpa using hm'.symm
     subst this;obtain⟨ad,len,cap,h1,h2,h3⟩:=hhead;exact⟨ad,len,cap,by rw[h1];rfl,h2,by rw[h3]⟩
   .simp at hret
  .simp at hret
 .simp at hret
theorem jkF{P:Ç}{E:Env}(hT:j1K P E.T)(hR:Rel N np S0 w0 refs σ a w S γ):∀{rs:H å}{cs:H Cel},jke E σ rs=B cs->
  ∃zs,All2 (λ(r:å) z=>((match r with
   |.tmp t=>pure (a.tmps.getD t undef)
   |.cell x t=>do loadVar t (<-asAddr (a.tmps.getD x undef)):Sem Y)).run P w = .ok z w) rs zs/\All2 (j0m S w γ σ.bx) cs zs
 |[],cs,h=>by
  simp only[jke,j5]at h;subst h;exact⟨[],trivial,trivial⟩
 |r::rs,cs,h=>by
  simp only[jke]at h;split at h
  .rename_i c cs' hc hcs;simp only[j5]at h;subst h;obtain⟨z,h1,h2⟩:=jnl (P:=P) hT hR hc;obtain⟨zs,h3,h4⟩:=jkF hT hR hcs;exact⟨z::zs,⟨h1,h3⟩,h2,h4⟩
  .simp at h
theorem jkG{bx bx':G->BS}{ns:H G}(hb:∀k∈ns,bx' k=bx k){l:Leaf}{u:Y}(hl:jdY ns l=X)(h:j08 S w γ bx l u):j08 S w γ bx' l u:=by
 cases l with
 |dead=>trivial
 |nil=>exact h
 |d t v=>exact h
 |ol k=>have hk:=hb k (by simpa[jdY]using hl);exact⟨by rw[hk];exact h.1,h.2.1,by rw[hk];exact h.2.2⟩
 |bp k c=>have hk:=hb k (by simpa[jdY]using hl);exact⟨by rw[hk];exact h.1,h.2.1,by rw[hk];exact h.2.2⟩
 |_=>simp[jdY]at hl
theorem jcy{bx bx':G->BS}{ns:H G}(hb:∀k∈ns,bx' k=bx k):∀{ls:H Leaf}{us:H Y},ls.all (jdY ns)=X->All2 (j08 S w γ bx) ls us->All2 (j08 S w γ bx') ls us
 |[],[],_,_=>trivial
 |l::ls,u::us,hl,h=>by
  simp only[ö,À]at hl;exact⟨jkG hb hl.1 h.1,jcy hb hl.2 h.2⟩
 |[],_::_,_,h=>h.elim
 |_::_,[],_,h=>h.elim
theorem jqi{bx bx':G->BS}{ns:H G}(hb:∀k∈ns,bx' k=bx k){c:Cel}{u:Y}(hl:jpU ns c=X)(h:j0m S w γ bx c u):j0m S w γ bx' c u:=by
 cases c with
 |one l=>exact⟨jkG hb hl h.1,h.2⟩
 |st ls=>obtain⟨cs,hu,ha,h1⟩:=h;exact⟨cs,hu,jcy hb hl ha,h1⟩
 |av n b xs=>exact h
theorem jAF{P:Ç}{E:Env}(hT:j1K P E.T){fn:Func}{args:H Arg}{vals:H Y}{σ':St}{a':Æ}{w':Á}{S':j09}{γ':G->Y}(hR:Rel N E.np S w (jdz args vals) σ' a' w' S' γ')
  (ha:All2 (jbJ S w) args vals)(hS:∀g o,S g o->g<w.heap.size)(hrw:E.rw=X){ret:Ret}(hret:jmZ E fn args σ'=B ret){R:Type}{k:Ret->O R}{r:R}(hk:k ret=B r) :
  ∃v,(results fn a'.tmps).run P w' = .ok v w'/\∃ret,k ret=B r/\∃v' S' vs,è v = .returned v'/\jxM w S args vals ret v' w' S' vs:=by
 unfold jmZ at hret;rw[if_pos hrw]at hret;unfold jz6 at hret;split at hret
 case h_2=>simp at hret
 rename_i cs hcs;split at hret
 case isFalse=>simp at hret
 rename_i hcond;simp only[À]at hcond;obtain⟨hnd,hns,hcl,hargs⟩:=hcond;simp only[j5]at hret;subst hret;obtain⟨zs,hzs,hcz⟩:=jkF hT hR hcs;have hrun:(results fn a'.tmps).run P w' = .ok (j7f zs) w':=by have hm:=jjP (P:=P) (w:=w') _ hzs;unfold results;rw[æ];grind[ý,Sem.run_map,ì,þ,jnn]
 have hlen:(cs.map Item.s++E.rn.map λk=>Item.b (σ'.bx k)).length-E.rn.length=cs.length:=smp_;have hC:rawC E.rn (cs.map Item.s++E.rn.map λk=>Item.b (σ'.bx k))=cs:=by unfold rawC;rw[hlen,List.take_left' smp_,List.map_map];exact List.map_id' _
 have hU:rawU E.rn (cs.map Item.s++E.rn.map λk=>Item.b (σ'.bx k))=E.rn.map λk=>(k,σ'.bx k):=by
  unfold rawU;rw[hlen,List.drop_left' smp_,List.map_map];generalize E.rn=l;induction l with
  |nil=>rfl
  |cons x l ih=>simp only[ï,ó,ih];rfl
 have hbx:∀k∈E.rn,(emp.upd (E.rn.map λk=>(k,σ'.bx k))).bx k=σ'.bx k:=λk hk=>
  jmo _ emp (by simp_all[Function.comp_def,ja7]) (List.mem_map.2 ⟨k,hk,rfl⟩)
 have hbx':∀k b,(emp.upd (E.rn.map λk=>(k,σ'.bx k))).bx k = .live b->k∈E.rn/\σ'.bx k = .live b:=by grind[j2H,emp]
 have hclB:∀k b,σ'.bx k = .live b->k∈E.rn->j2i S' w' γ' (emp.upd (E.rn.map λk=>(k,σ'.bx k))).bx k b:=by
  intro k b hb hk;have h1:=hR.box k b hb;have h2:=(Bool.and_eq_true_iff.1 (List.all_eq_true.1 hns k hk)).2;rw[hb]at h2;cases b with
  |cell ls f=>obtain⟨g,cur,e,q1,q2,q3,q4⟩:=h1;exact⟨g,cur,e,q1,q2,jcy hbx h2 q3,q4⟩
  |lst e t xs f=>exact h1
  |arr n t xs=>exact h1
  |row e t n ls=>obtain⟨q1,⟨cs',q2,q3,q4⟩,q5⟩:=h1;exact⟨q1,⟨cs',q2,jcy hbx h2 q3,q4⟩,q5⟩
 have hcels:All2 (j0m S' w' γ' (emp.upd (E.rn.map λk=>(k,σ'.bx k))).bx) cs zs:=by
  have go:∀(cs:H Cel)(zs:H Y),cs.all (jpU E.rn)=X->All2 (j0m S' w' γ' σ'.bx) cs zs->All2 (j0m S' w' γ' (emp.upd (E.rn.map λk=>(k,σ'.bx k))).bx) cs zs:=by
   intro cs;induction cs with
   |nil=>intro zs _ h;cases zs with|nil=>trivial|cons _ _=>exact h.elim
   |cons c cs ih=>
    intro zs hcl h;cases zs with
    |nil=>exact h.elim
    |cons z zs=>simp only[ö,À]at hcl;exact⟨jqi hbx hcl.1 h.1,ih zs hcl.2 h.2⟩
  simp_all
 have hnoref:j1O args vals=[]:=by
  clear hrun hcels hR;induction args generalizing vals with
  |nil=>cases vals<;>rfl
  |cons x xs ih=>
   cases vals with
   |nil=>rfl
   |cons v vs=>simp only[ö,À]at hargs;have:=ih ha.2 hargs.2;cases x<;>simp_all[j1O,j8L,ju8]
 have houts:j68 S' w' args vals []:=by
  clear hrun hcels hR hnoref;induction args generalizing vals with
  |nil=>cases vals with|nil=>trivial|cons _ _=>exact ha.elim
  |cons x xs ih=>
   cases vals with
   |nil=>exact ha.elim
   |cons v vs=>simp only[ö,À]at hargs;have:=ih ha.2 hargs.2;cases x<;>first|exact this|(simp[ju8]at hargs)
 refine⟨j7f zs,hrun,_,hk,j7f zs,S',[j7f zs],rfl,⟨rfl,⟨trivial,trivial⟩,λg hg=>by grind[j7U,jgj,j93],by simp[j7U,jgj,j93],houts,λg o hs=>⟨hR.ext g o hs,?_⟩,λg o h=>(hR.new g o h).imp id (λh=>h.imp id And.left),hR.here,
  hR.below,hR.grow,hR.os,hR.tape,hR.output,λns s he=>?_,λm hm=>by simp at hm⟩⟩
 .refine Ì (hR.below g (hS g o hs) (λhm=>?_));have hm:g∈j1O args vals:=hm
  simp_all
 .simp only[List.cons.injEq,RV.raw.injEq,and_true]at he;obtain⟨rfl,rfl⟩:=he;refine⟨γ',zs,rfl,by simp_all,λk b hb=>?_,λk b g hb hg=>?_,λk k' b b' g hne hb hb' hg hg'=>?_⟩
  .simp_all
  .rw[hU]at hb;obtain⟨h1,h2⟩:=hbx' k b hb;rcases hR.own k b g h2 hg with h|h
   .rcases h with h|h
    .exact h
    .have hm:g∈j1O args vals:=h.2
     simp_all
   simp_all
  .rw[hU]at hb hb';exact hR.apart k k' b b' g hne (hbx' k b hb).2 (hbx' k' b' hb').2 hg hg'
theorem jgN{P:Ç}{fn:Func}{n:G}{R:Ending->Á->Prop}:∀(ds:H Deferred){refs:Refs}{σ:St}{a:Æ}{w:Á}{S:j09}{γ:G->Y},refs.ds=ds->jgL w0 refs->Rel N np S0 w0 refs σ a w S γ->
  (∀w2,Rel N np S0 w0 ⟨refs.blks,refs.val,[],λ_=>Ã,λ_=>Ã,refs.mv⟩ σ { a with defers:=[] } w2 S γ->LeavesIn (FR Ã) n P fn a.tmps R [] .returning w2)->LeavesInM (FR Ã) n P fn a.tmps R ds .returning w
 |[],refs,σ,a,w,S,γ,hd,hm,hR,h=>h w (hR.swap rfl rfl hR.size rfl hR.slot (λg o h=>by simp at h) (λi v h=>by simp at h))
 |d::ds,refs,σ,a,w,S,γ,hd,hm,hR,h=>by
  obtain⟨hnd,hall⟩:=hm;rw[hd]at hnd;obtain⟨D,rfl,h1,h2⟩:=hall d (by rw[hd];simp);refine⟨smp_,.inl ⟨D,_,rfl,run_takeDeferred (hR.kept D _ h2).1,?_⟩⟩;have hR1:=hR.putO (o':= .deferred Ã) h2 h1 rfl rfl
  have hR2:=hR1.swap (a':={ a with defers:=ds }) (refs':=⟨refs.blks,refs.val,ds,λg=>if g=D then Ã else refs.kw g,refs.fix,refs.mv⟩) rfl rfl hR.size rfl hR1.slot (λg o hg=>hR1.kept g o (by
   simp only at hg ⊢;split at hg
   .simp at hg
   .rename_i e;rw[if_neg e];exact hg)) hR1.fix
  refine jgN (a:={ a with defers:=ds }) (refs:=⟨refs.blks,refs.val,ds,λg=>if g=D then Ã else refs.kw g,refs.fix,refs.mv⟩) ds rfl ⟨(List.nodup_cons.1 hnd).2,λd' hd'=>?_⟩ hR2 (λw2 hw=>h w2 hw);obtain⟨D',rfl,q1,q2⟩:=hall d' (by rw[hd];simp[hd']);refine⟨D',rfl,q1,?_⟩;show (if D'=D then Ã else refs.kw D')=_;rw[if_neg,q2]
  rintro rfl
  exact(List.nodup_cons.1 hnd).1 hd'
theorem jrT{P:Ç}{E:Env}(hT:j1K P E.T)(hC:j7R P E.C)(hF:CFun E.C)(hmix:P.follows .mixedOrders=X){f:G}{fn:Func}{c:é}(hf:P.funcs[f]? = B fn)(hb:fn.body=B c)(hN:fn.ntmps=E.N.n)(hpin:E.N.pin=λ_=>U)(hbw:∀f t,E.bw f=B t->BwK P f t)(hnp:E.np<=E.N.n)
  (hnm : (fn.name == "runtime.NumGoroutine") = U) (hL : ∀ x ∈ j1E 0 c, jmx E x.1 x.2 ∧ MrOK E x.1 x.2) : FnOK P f (fun args _ k => jhn E fn args k) := by
 intro args R k r h;refine⟨⟨fn,hf,by rw[hb];rfl,hnm⟩,?_⟩;intro w S vals ha hnd hS;by_cases hlen:args.length=E.np
 case neg=>simp[jhn,hlen]at h
 case pos=>
 simp only[jhn,hb,hlen,if_true]at h;have hvl:vals.length=E.np:=by rw[<-ha.length,hlen]
 obtain⟨hR0,hc0⟩:=jxY (N:=E.N) ha hnd hS hlen hnp;refine jAB (n:=0) (ro:=Ã) (callsIn_of_wp_marks hf hb trivial ?_);rw[hN];refine wpIn_mono (jtb hmix c (ro:=Ã) hT hC hF hbw (.inr ⟨rfl,hpin⟩) 0 0 ⟨List.nodup_nil,λd hd=>by simp[jdz]at hd⟩ hL hR0 hc0 h) ?_
 rintro e a0 w1 ⟨refs',ex,σ',S',γ',hle,_,rfl,hR1,hcn,hk⟩
 have hend:∀(hk:(match jmZ E fn args σ' with|some r=>k r|none=>Ã)=B r)(w':Á),Rel E.N E.np S w ⟨refs'.blks,refs'.val,[],λ_=>Ã,λ_=>Ã,refs'.mv⟩ σ' { a0 with defers:=[] } w' S' γ'->∃v,(results fn a0.tmps).run P w' = .ok v w'/\
   ∃ret,k ret=B r/\∃v' S' vs,è v = .returned v'/\jxM w S args vals ret v' w' S' vs:=by
  intro hk w' hR;have hR:Rel E.N E.np S w (jdz args vals) σ' { a0 with defers:=[] } w' S' γ':=hR.swap hle.blks.symm hle.val.symm hR.size rfl hR.slot (λg o h=>by simp[jdz]at h) (λi v h=>by simp[jdz]at h) hle.mv.symm;generalize ha0:({ a0 with defers:=[] }:Æ)=a' at hR;have hat:a0.tmps=a'.tmps:=by rw[<-ha0]
  rw[hat];cases hret:jmZ E fn args σ' with
  |none=>simp[hret]at hk
  |some ret=>
  simp only[hret]at hk;by_cases hrw:E.rw=X
  .exact jAF hT hR ha hS hrw hret hk
  by_cases hhd:E.hd=X
  .exact jBU hT hR ha hS hrw hhd hret hk
  have hparts:∃vs ks u os u',jaQ E σ' E.ro fn.results.toList fn.resultTypes.toList=B (vs,ks,u)/\outs E.np σ' 0 args=B (os,u')/\
    jbG ks=X/\(u++u').all (λe=> !ks.contains e.1)=X/\∃vs',nilV E σ' fn.results.toList vs=B vs'/\ret=⟨vs',os⟩:=by
   grind[jmZ]
  obtain⟨vs,ks,u,os,u',hvs,hos,hnk,hsep,vs',hvs',rfl⟩:=hparts;obtain⟨zs,hzs,f1,p1,n1,r1⟩:=jkE hT hR hvs;have hnil:(∀S' w',All2 (jjz S' w') vs zs->All2 (jjz S' w') vs' zs)/\j7U vs' zs=j7U vs zs/\(∀m,vs'=[.hd m]->vs=[.hd m])/\∀ns s,vs'=[.raw ns s]->vs=[.raw ns s]:=jxZ hT hR hzs hvs'
  have hval:∀(j:G)(x:Arg)(v:Y),args[j]? = B x->vals[j]? = B v->jqh x=X->γ' ((0+j)*64)=v:=by
   intro j x v hx hv hr;refine(hR.par ((0+j)*64) v ?_).2.2
   simp_all[jdz,jv7]
  obtain⟨f2,r2⟩:=jnm hR hos ha.length hval;obtain⟨S2,hR2,hst2,hfz2,hsame⟩:=j4t (u++u') σ' S' hR (FrzL.app.2 ⟨f1,f2⟩);obtain⟨hfz3,hfz4⟩:=Froz.app.1 hfz2
  have hnoS:∀k b,(u++u').any (λy=>y.1==k)=U->σ'.bx k = .live b->Uns b->∀g,blk (γ' k)=B g->∀o,¬S2 g o:=by
   intro k b hk hb hkind g hg o;have hb2:(σ'.upd (u++u')).bx k = .live b:=(j2H _ _ hk).trans hb;have hbox:=hR2.box k b hb2;rcases hkind with⟨ls,rfl⟩|⟨e,t,xs,rfl⟩
   .obtain⟨g',cur,e,hg',_,_,_,hS,_⟩:=hbox;grind[blk]
   .exact(hbox.2 g hg).1 rfl o
  have hkeysep:∀k∈ks,(u++u').any (λy=>y.1==k)=false:=by grind
  have hpar:∀k,parK E.np k=X->(u++u').any (λy=>y.1==k)=false:=by
   intro k hk;rw[List.any_eq_false];intro y hy he;simp only[beq_iff_eq]at he;have:=(FrzL.app.2 ⟨f1,f2⟩ y hy).1
   simp_all
  have hvals:=r1 S2 hst2 hfz3 (λk hk g hg=>by
   grind)
  have houts:=r2 S2 hst2 hfz4 (λj x v g hx hv hr hbu hg=>by
   obtain⟨b,hb,hu⟩:=hbu;have hj:j<args.length:=(List.getElem?_eq_some_iff.1 hx).1;exact hnoS ((0+j)*64) b (hpar _ (by simp[parK];omega)) hb hu g (by grind))
  have hrun:(results fn a'.tmps).run P w' = .ok (j7f zs) w':=by have hm:=jjP (P:=P) (w:=w') _ hzs;unfold results;rw[æ];simp only[ý,Sem.run_map];grind[ì,þ,jnn]
  have hnh:∀m,vs'=[.hd m]->∃ad len cap,jjJ args vals=B (.slice ad len cap)/\m<=len/\zs=[.slice ad m cap]:=λm hm=>by
   grind[jno]
  have hnr:∀ns s,vs'=[.raw ns s]->jAr w.heap.size S2 w' ns s (j7f zs):=λns s hm=>absurd (hnil.2.2.2 ns s hm) (jlO hvs ns s);refine⟨j7f zs,hrun,⟨vs',os⟩,hk,j7f zs,S2,zs,rfl,⟨rfl,hnil.1 _ _ hvals,λg hg=>?_,?_,houts,λg o hs=>⟨hR2.ext g o hs,?_⟩,λg o h=>(hR2.new g o h).imp id (λh=>h.imp id And.left),hR2.here,hR2.below,hR2.grow,hR2.os,hR2.tape,hR2.output,hnr,hnh⟩⟩
  .rw[hnil.2.1,n1]at hg;obtain⟨k,hk',hkg⟩:=List.mem_filterMap.1 hg;obtain⟨⟨b,hb,_⟩,hp⟩:=p1 k hk';rcases hR.own k b g hb hkg with h|h
   .exact h.imp id And.left
   grind
  .grind[jiy,ja7]
  .refine Ì (hR2.below g (hS g o hs) (λhm=>?_));obtain⟨i,x,v,hx,hv,hb⟩:=jgM hm;obtain⟨v',hv',hxv⟩:=ha.get i x hx;rw[hv]at hv';simp at hv';subst hv';exact jmz hxv hb o hs
 cases ex with
 |exit i=>simp at hk
 |normal=>exact jgN a0.defers hR1.defers.symm hle.marks hR1 (λw2 hw=>hend hk w2 hw)
 |ret=>exact jgN a0.defers hR1.defers.symm hle.marks hR1 (λw2 hw=>hend hk w2 hw)
section
variable{E:Env}
def LFun(L:G->Snap->(R:Type)->(Ex->Snap->O R)->O R):Prop:=
 ∀b s,∃o:O (Ex×Snap),∀(R:Type)(k:Ex->Snap->O R),L b s R k=o.bind λx=>k x.1 x.2
def MFun(M:G->Snap->(R:Type)->(Snap->O R)->O R):Prop:=∀b s,∃o:O Snap,∀(R:Type)(k:Snap->O R),M b s R k=o.bind k
def Det{α:Type}(f:(R:Type)->(α->O R)->O R):Prop:=∃o:O α,∀(R:Type)(k:α->O R),f R k=o.bind k
theorem Det.val{α:Type}(x:α):Det (λ_ k=>k x):=⟨B x,λ_ _=>rfl⟩
theorem Det.no{α:Type}:Det (λR (_:α->O R)=>Ã):=⟨Ã,λ_ _=>rfl⟩
theorem Det.cond{α:Type}{f g:(R:Type)->(α->O R)->O R}(b:Ë)(h:Det f)(h':Det g):Det (λR k=>cond b (f R k) (g R k)):=by
 cases b with
 |true=>exact h
 |false=>exact h'
theorem Det.bind{α β:Type}{f:(R:Type)->(α->O R)->O R}{g:α->(R:Type)->(β->O R)->O R}(h:Det f)(h':∀a,Det (g a)):Det (λR k=>f R λa=>g a R k):=by
 obtain⟨o,ho⟩:=h;cases o with
 |none=>exact⟨Ã,λR k=>ho R _⟩
 |some a=>obtain⟨o',ho'⟩:=h' a;exact⟨o',λR k=>(ho R _).trans (ho' R k)⟩
theorem Det.congr{α:Type}{f g:(R:Type)->(α->O R)->O R}(h:Det f)(e:∀R k,g R k=f R k):Det g:=by
 obtain⟨o,ho⟩:=h;exact⟨o,λR k=>(e R k).trans (ho R k)⟩
theorem jv8{v:à}{f:à->(R:Type)->(St->O R)->O R}(h:∀j,Det (f j)):∀m j,Det (λR k=>spl v (λi=>f i R k) m j)
 |0,_=> .no
 |m+1,j=> .cond _ (h _) (jv8 h m (j+1))
theorem jv9(σ:St)(o:É):Det (λR (k:St->O R)=>pre σ o k):=by
 unfold pre;split
 .rename_i t kk v n _;exact jv8 (f:=λj R k=>k (σ.setS t (.one (.one (.d (.int kk) j))))) (λj=> .val _) n 0
 .exact .val _
theorem jjR(hF:CFun E.C)(hz:E.nz=U)(p:Ë)(σ:St)(act:H (G×Ë))(o:É):Det (λR (k:St->O R)=>run1 E p σ act o k):=by
 unfold run1;refine Det.bind (jv9 σ o) λσ=>?_;simp only[hz,j7];split
 .exact .no
 .exact .cond _ (.val _) .no
 .rename_i f args mk _;refine Det.bind (f:=λR k=>E.C f args R k) (hF f args) λret=>?_;split
  .exact .val _
  .exact .no
theorem jmA:∀(l:H (G×Ë))(σ:St),Det (λR (k:St×Ë->O R)=>jjg l σ λa b=>k (a,b))
 |[],σ=> .val _
 |(s,w)::r,σ=>by
  simp only[jjg]
  refine(Det.bind (jmA r σ) (g:=λx R k=>match x.2 with
   |true=>match ju1 r x.1 s with
    |some v=>cond v (k (x.1.setS s (.one (.one (.d .bool X))),w)) (k (x.1.setS s (.one (.one (.d .bool U))), !w))
    |none=>Ã
   |false=>k (x.1,U)) λx=>?_).congr λR k=>rfl
  obtain⟨σ1,a⟩:=x;cases a with
  |true=>
   dsimp only
   split
   .exact .cond _ (.val _) (.val _)
   .exact .no
  |false=>exact .val _
theorem jva(hF:CFun E.C)(hz:E.nz=U)(ops:Ä É)(σ:St)(o:É):Det (λR (k:St->O R)=>ju2 E ops σ o k):=by
 unfold ju2;split
 .split
  .exact jjR hF hz _ _ _ _
  .exact .no
 .rename_i g _
  have slow:Det (λR (k:St->O R)=>jjg (σ.chain 40 g) σ λσ' a=>match a with
    |true=>run1 E X σ' (σ.chain 40 g) o k
    |false=>k (σ'.put o.dst (.one (.one .dead)))):=by
   refine(Det.bind (jmA (σ.chain 40 g) σ) (g:=λx R k=>match x.2 with
    |true=>run1 E X x.1 (σ.chain 40 g) o k
    |false=>k (x.1.put o.dst (.one (.one .dead)))) λx=>?_).congr λR k=>rfl
   obtain⟨σ1,a⟩:=x;cases a with
   |true=>exact jjR hF hz _ _ _ _
   |false=>exact .val _
  dsimp only
  split
  .split
   .exact .cond _ (.val _) .no
   .exact slow
  .exact slow
theorem je9(hF:CFun E.C)(hz:E.nz=U):∀(l:H É)(σ:St),Det (λR (k:St->O R)=>j7T E l σ k)
 |[],σ=> .val _
 |o::os,σ=>by
  simp only[j7T];split
  .exact Det.bind (jjR hF hz U σ [] o) λσ'=>je9 hF hz os σ'
  .exact .no
theorem jmB(hF:CFun E.C)(hz:E.nz=U)(ops:Ä É):∀(l:H É)(σ:St),Det (λR (k:St->O R)=>jmb E ops l σ k)
 |[],σ=> .val _
 |o::os,σ=>by
  simp only[jmb];split
  .exact Det.bind (jva hF hz ops σ o) λσ'=>jmB hF hz ops os σ'
  .exact .no
theorem jqj(hF:CFun E.C)(hz:E.nz=U)(ops:Ä É)(σ:St):Det (λR (k:St->O R)=>jaP E ops σ k):=by
 unfold jaP;split
 .exact je9 hF hz _ _
 .exact jmB hF hz _ _ _
theorem jrU(hF:CFun E.C)(hz:E.nz=U)(σ:St)(o:É):Det (λR (k:St->O R)=>runK E σ o k):=by
 unfold runK;split
 .rename_i c σ' _;exact .cond c (.val σ') .no
 .exact jjR hF hz U σ [] o
theorem jf7(hF:CFun E.C)(hz:E.nz=U):∀(l:H É)(σ:St),Det (λR (k:St->O R)=>jbd E l σ k)
 |[],σ=> .val σ
 |[o],σ=>by
  simp only[jbd];split
  .exact jrU hF hz σ o
  .exact .no
 |o::o2::os,σ=>by
  simp only[jbd];split
  .split
   .split
    .exact .cond _ (jf7 hF hz os _) .no
    .exact .no
   .exact Det.bind (jrU hF hz σ o) λσ'=>jf7 hF hz (o2::os) σ'
  .exact .no
theorem jvb(hF:CFun E.C)(hz:E.nz=U)(ops:Ä É)(σ:St):Det (λR (k:St->O R)=>ju3 E ops σ k):=by
 unfold ju3;split
 .exact jf7 hF hz _ _
 .exact .no
theorem jnp(hF:CFun E.C)(hz:E.nz=U)(M Ai:H G)(σ:St)(o:É):Det (λR (k:St->O R)=>runD E M Ai σ o k):=by
 unfold runD;refine Det.bind (jv9 σ o) λσ=>?_;split
 .exact .no
 .split
  .exact .cond _ (.val _) .no
  .exact .no
 .rename_i f args mk _;refine Det.bind (f:=λR k=>E.C f args R k) (hF f args) λret=>?_;split
  .split
   .exact .val _
   .exact .no
  .exact .no
theorem jtc(hF:CFun E.C)(hz:E.nz=U)(ops:Ä É)(M Ai:H G)(σ:St)(o:É):Det (λR (k:St->O R)=>jog E ops M Ai σ o k):=by
 unfold jog;split
 .exact jnp hF hz _ _ _ _
 .split
  .split
   .exact .cond _ (.cond _ (jnp hF hz _ _ _ _) (.val _)) (.cond _ (.val _) (jnp hF hz _ _ _ _))
   .exact .val _
   .exact .no
  .exact .no
theorem joW(hF:CFun E.C)(hz:E.nz=U)(ops:Ä É)(cl:H G)(A:H (H G)):∀(l:H É)(i:G)(σ:St),Det (λR (k:St->O R)=>jsB E ops cl A l i σ k)
 |[],_,σ=> .val _
 |o::os,i,σ=>by
  simp only[jsB];split
  .exact Det.bind (jtc hF hz ops _ _ σ o) λσ'=>joW hF hz ops cl A os (i+1) σ'
  .exact .no
theorem joX(hF:CFun E.C)(hz:E.nz=U)(ops:Ä É)(A:H (H G))(σ:St):Det (λR (k:St->O R)=>jhk E ops A σ k):=by
 unfold jhk;split
 .exact joW hF hz _ _ _ _ _ _
 .exact .no
theorem jiG(np:G):∀(gs:H Gh)(σ:St),Det (λR (k:St->O R)=>jka np gs σ k)
 |[],σ=> .val _
 |g::gs,σ=>by
  simp only[jka];split
  .exact .cond _ (jiG np gs _) .no
  .exact .no
theorem jmC{f:(R:Type)->G->St->(Ex->St->O R)->O R}(hf:∀i σ,Det (λR (k:Ex×St->O R)=>f R i σ λe σ'=>k (e,σ'))):∀(n i:G)(σ:St),
  Det (λR (k:Ex×St->O R)=>jji (f R) n i σ λe σ'=>k (e,σ'))
 |0,_,σ=> .no
 |n+1,i,σ=>by
  refine(Det.bind (hf i σ) (g:=λz R k=>match z.1 with
   |.normal=>jji (f R) n (i+1) z.2 λe σ'=>k (e,σ')
   |e=>k (e,z.2)) λz=>?_).congr λR k=>by
    simp only[jji];congr 1;try (funext e σ';cases e<;>rfl)
  obtain⟨e,σ'⟩:=z;cases e with
  |normal=>exact jmC hf n (i+1) σ'
  |exit i=>exact .val _
  |ret=>exact .val _
theorem jtd(hF:CFun E.C)(hz:E.nz=U)(hM:MFun E.M)(x y:é)(σ:St):Det (λR (k:Ex×St->O R)=>jom E x y σ λe σ'=>k (e,σ')):=by
 unfold jom;split
 .rename_i b _;split
  .split
   .refine .cond _ (Det.bind (je9 hF hz _ σ) λσ1=>?_) .no;unfold mrGo;split
    .refine .cond _ ?_ .no;split
     .rename_i s _;obtain⟨o,ho⟩:=hM b s;exact Det.bind (f:=λR k=>E.M b s R k) ⟨o,λR k=>ho R _⟩ (g:=λs' R k=>k (Ex.normal,j0Q E.np (E.keep b) s')) λz=> .val (Ex.normal,j0Q E.np (E.keep b) z)
     .exact .no
    .exact .no
   .exact .no
  .exact .no
 .exact .no
theorem jnq:∀(c:é){E:Env}(_:CFun E.C)(_:E.nz=U)(_:LFun E.L/\MFun E.M)(b:G)(σ:St),Det (λR (k:Ex×St->O R)=>j0V E b c σ λe σ'=>k (e,σ')):=by
 intro c;induction c with
 |skip=>intro E hF hz hL b σ;exact .val _
 |region id ops draw=>
  intro E hF hz hL b σ;cases draw with
  |true=>exact Det.bind (jiG E.np (E.pre id) σ) λσ1=>Det.bind (joX hF hz ops (E.dw id) σ1) λσ'=> .val (Ex.normal,σ')
  |false=>exact Det.bind (jiG E.np (E.pre id) σ) λσ1=> .cond _ (Det.bind (jvb hF hz ops σ1) λσ'=> .val (Ex.normal,σ')) (Det.bind (jqj hF hz ops σ1) λσ'=> .val (Ex.normal,σ'))
 |seq x y ihx ihy=>
  intro E hF hz hL b σ;simp only[j0V];refine .cond _ (jtd hF hz hL.2 x y σ) ?_
  refine(Det.bind (ihx hF hz hL b σ) (g:=λz R k=>match z.1 with
   |.normal=>j0V E b y z.2 λe σ'=>k (e,σ')
   |e=>k (e,z.2)) λz=>?_).congr λR k=>by
    congr 1
    try (funext e σ';cases e<;>rfl)
  obtain⟨e,σ'⟩:=z;cases e with
  |normal=>exact ihy hF hz hL b σ'
  |exit i=>exact .val _
  |ret=>exact .val _
 |cond c x y ihx ihy=>
  intro E hF hz hL b σ;simp only[j0V];split
  .exact .cond _ (ihx hF hz hL b _) (ihy hF hz hL b _)
  .exact .no
 |block id c ih=>
  intro E hF hz hL b σ
  refine(Det.bind (ih hF hz hL id σ) (g:=λz R k=>match z.1 with
   |.exit i=>if i=id then k (.normal,z.2) else k (.exit i,z.2)
   |e=>k (e,z.2)) λz=>?_).congr λR k=>by
    simp only[j0V];congr 1;try (funext e σ';cases e<;>rfl)
  obtain⟨e,σ'⟩:=z;cases e with
  |normal=>exact .val _
  |exit i=>
   dsimp only
   split
   .exact .val _
   .exact .val _
  |ret=>exact .val _
 |loop c ih=>
  intro E hF hz hL b σ;simp only[j0V];refine .cond _ .no (.cond _ ?_ ?_)
  .exact jmC (f:=λR i σ k=>j0V (E.offR i) b c σ k) (λi σ=>ih (E:=E.offR i) hF hz hL b σ) (E.un b) 0 σ
  split
  .rename_i s _;obtain⟨o,ho⟩:=hL.1 b s;exact Det.bind (f:=λR k=>E.L b s R λe s'=>k (e,s')) ⟨o,λR k=>ho R _⟩ (g:=λz R k=>k (z.1,j0Q E.np (E.keepX b z.1) z.2)) λz=> .val _
  .exact .no
 |rangeFunc g ps x y _ _=>
  intro E hF hz hL b σ;simp only[j0V];split
  .split
   .rename_i kd _;split
    .rename_i s _;obtain⟨o,ho⟩:=hL.1 b (.s (.one (.d (.int .i64) (jkb kd (List.length _))))::s);exact Det.bind (f:=λR k=>E.L b _ R λe s'=>k (e,s')) ⟨o,λR k=>ho R _⟩ (g:=λz R k=>k (z.1,j0Q E.np (E.keepX b z.1) z.2)) λz=> .val _
    .exact .no
   .exact .no
  .exact .no
 |scope c ih=>intro E hF hz hL b σ;exact ih hF hz hL b σ
 |label l=>intro E hF hz hL b σ;exact .val _
 |exit i=>intro E hF hz hL b σ;exact .val _
 |ret=>intro E hF hz hL b σ;exact .val _
 |_=>intro E hF hz hL b σ;exact .no
theorem jaw(hF:CFun E.C)(hz:E.nz=U)(hL:LFun E.L/\MFun E.M)(c:é)(b:G)(σ:St):Det (λR (k:Ex×St->O R)=>j0V E b c σ λe σ'=>k (e,σ')):=jnq c hF hz hL b σ
theorem jqk(hF:CFun E.C)(hz:E.nz=U)(hL:LFun E.L/\MFun E.M)(b:G)(g:î)(ps:Ä G)(x y:é)(s:Snap) :
  Det (λR (k:O (H Item)×Ex×St->O R)=>jkc E b g ps x y s λp e σ'=>k (p,e,σ')):=by
 unfold jkc;split
 .rename_i n s0;split
  .split
   .rename_i kd _;refine .cond _ (.val _) (.cond _ ?_ .no)
    refine(Det.bind (jaw (E:=E.rnd ps x y) hF hz hL x 0 _) (g:=λz R k=>match z.1 with
     |.normal=>j0V (E.rnd ps x y) 0 y z.2 λe σ'=>k (B [.s (.one (.d (.int .i64) (jok kd n)))],e,σ')
     |_=>Ã) λz=>?_).congr λR k=>by
      congr 1
      try (funext e σ';cases e<;>rfl)
    obtain⟨e,σ'⟩:=z;cases e with
    |normal=>exact Det.bind (jaw (E:=E.rnd ps x y) hF hz hL y 0 σ') λz=> .val (_,z)
    |exit i=>exact .no
    |ret=>exact .no
   .exact .no
  .exact .no
 .exact .no
theorem jte(hF:CFun E.C)(hz:E.nz=U)(hL:LFun E.L/\MFun E.M)(b:G)(p:MrP)(m:G)(s:Snap)(v:Ty)(q:à)(z:v.den):Det (λR (k:Snap->O R)=>jon E b p m s v q z k):=by
 unfold jon;refine Det.bind (je9 (E:=E.mrE p.it m) hF hz _ _) λσ1=>?_
 refine(Det.bind (jaw (E:=E.mrE p.it m) hF hz hL p.rest p.b6 σ1) (g:=λz R k=>cond (mrNx p.b6 z.1) (match j7e E.np (E.keep b) z.2 with
  |some s'=>k s'
  |none=>Ã) Ã) λz=> .cond _ ?_ .no).congr λR k=>rfl
 split
 .exact .val _
 .exact .no
theorem jtf(hF:CFun E.C)(hz:E.nz=U)(hL:LFun E.L/\MFun E.M)(fn:Func)(args:H Arg):Det (λR (k:Ret->O R)=>jhn E fn args k):=by
 unfold jhn;split
 .split
  .rename_i c _
   refine(Det.bind (jaw hF hz hL c 0 (St.init args)) (g:=λz R k=>match z.1 with
    |.exit _=>Ã
    |_=>match jmZ E fn args z.2 with
     |some r=>k r
     |none=>Ã) λz=>?_).congr λR k=>rfl
   obtain⟨e,σ'⟩:=z;cases e<;>dsimp only<;>(try split)<;>first|exact .no|exact .val _
  .exact .no
 .exact .no
end
end
end Go.Lft
