/- Regions: what they do is what the evaluator says. -/
import Derived.Test.YtllkgjaoejhneaaGreatDELB
import Derived.Laws.Cover3
import Derived.RangeFuncNested
import Derived.OrdersIn
import Derived.Maps.Range
open Option renaming some->B,none->Â
open _root_ renaming Nat->G,List->H,Option->O,Array->Ã,Bool->Ç,Int->ã
open Bool renaming false->U,true->X,not_eq_true->ä
open Go renaming Value->Y,World->À,Act->Á,Program->Å,Oper->Æ,MapEntry->Ì,Exit->Ñ,Code->Ó,ResultVar->Õ,Operand->Ü,LetsOut->ú
open Go.Region renaming wanted->Ä,ready->ô
open Go.World renaming cell?_of_block->È,putObj_heap_other->É,alloc_heap_new->Ð,putObj_heap_same->Ú,cell?_alloc_lt->ð
open Go.Oper renaming upon_value->Ê,wp->Î,upon_enter->Ö,upon_skip->ì
open List renaming getD_eq_getElem?_getD->Ë,range_eq_range'->Ï,getElem?_append_left->Ò,filter_cons->Ý,zip_cons_cons->á,length->â,of_mem_zip->ê,range'->ë,nodup_nil->í,getElem?_zipIdx->ï,map_congr_left->ñ,getElem?_set->ù,idxOf?_cons->û,flatMap_def->ü
open Go.Value renaming int->Í
open Go.ChangeMaps renaming setBlock->Ô
open Go.Ending renaming returned->Ø
open Go.Result renaming andThen_ok->Ù,andThen->à
open Array renaming getElem?_setIfInBounds_ne->Û,replicate->Þ,getElem?_eq_none->é,getElem_mem->ø
open Nat renaming beq->ß,add_assoc->ó,beq_refl->õ,lt_succ_self->ý,strongRecOn->ÿ
open Go.Fence renaming wide->å
open Go.Exit renaming inBlock->æ
open Go.Sem renaming run_bind->ç,run_pure->è,run_map->þ
open Go.Instr renaming sureAddr->î,loadAt->ö
set_option linter.unusedVariables false
namespace Go.Lft
section
variable {N:NT} {np:G} {S0:j0e} {w0:À} {refs:Refs} {σ:St} {a:Á} {w:À} {S:j0e} {γ:G→Y}
def j2s (σ:St):Prop:=∀ i,(σ.sl i).bare=X
theorem jcq {d:G} (hd:d<a.tmps.size) (v:Y) (j:G):tm (a.put (B d) v) j=if j=d then v else tm a j:=by
 unfold tm Go.Act.put
 by_cases h:j=d
 ·subst h
  simp [hd]
 ·have h':d≠j:=fun e=>h e.symm
  simp [h,Û h']
theorem jr6 {bx:G→BS} {d:G} (hd:d<a.tmps.size) {v u:Y} {x:Slot} (h:j43 S w γ bx (tm a) x u):j43 S w γ bx (tm (a.put (B d) v)) (kill d x) u:=by
 cases x with
 | one c=>exact h
 | tup l=>exact h
 | und=>exact h
 | cnd s b c=>
  simp only [kill]
  split
  ·exact ⟨trivial,fun h=>absurd rfl h⟩
  ·rename_i hne
   simp only [j43,jcq hd,if_neg hne]
   exact h
theorem j8G (dst:O G) (v:Y):(a.put dst v).tmps.size=a.tmps.size:=by cases dst<;>simp [Go.Act.put]
theorem jac (dst:O G) (v:Y):(a.put dst v).defers=a.defers:=by cases dst<;>rfl
theorem jjx (hR:Rel N np S0 w0 refs σ a w S γ) {dst:O G} (hd:∀ d,dst=B d→N.ok d) {s:Slot} {v:Y} (hs:j43 S w γ σ.bx (tm a) s v) :
  Rel N np S0 w0 refs (σ.put dst s) (a.put dst v) w S γ:=by
 cases dst with
 | none=>exact hR
 | some d=>
  have hd':d<a.tmps.size:=by rw [hR.size];exact (hd d rfl).1
  refine ⟨(j8G _ _).trans hR.size,(jac _ _).trans hR.defers,fun i=> ?_,hR.box,hR.own,hR.apart,hR.ext,hR.new,hR.here,hR.below,hR.grow,hR.os,hR.tape,hR.output,hR.par,hR.kept,fun i u h=> ?_⟩
  ·show j43 S w γ σ.bx (tm (a.put (B d) v)) (kill d (if i=d then s else σ.sl i)) (tm (a.put (B d) v) i)
   rw [jcq hd']
   split
   ·exact jr6 hd' hs
   ·exact jr6 hd' (hR.slot i)
  ·obtain ⟨h1,h2⟩:=hR.fix i u h
   refine ⟨h1,?_⟩
   show tm (a.put (B d) v) i=u
   rw [jcq hd',if_neg]
   ·exact h2
   ·rintro rfl
    have:=(hd i rfl).2
    rw [h1] at this;simp at this
theorem jnV {d:G} {x:Slot} (h:x.bare=X):kill d x=x:=by cases x<;>first | rfl | simp [Slot.bare] at h
theorem jeY (hR:Rel N np S0 w0 refs σ a w S γ) (hc:j2s σ) {dst:O G} (hd:∀ d,dst=B d→N.ok d) {s:Slot} {v:Y} (hs:j43 S w γ σ.bx (tm a) s v) (hb:s.bare=X) :
  Rel N np S0 w0 refs (σ.setD dst s) (a.put dst v) w S γ∧j2s (σ.setD dst s):=by
 have he:σ.setD dst s=σ.put dst s:=by
  cases dst with
  | none=>rfl
  | some d=>
   simp only [St.setD,St.setS,St.put]
   congr 1
   funext j
   split
   ·exact (jnV hb).symm
   ·exact (jnV (hc j)).symm
 refine ⟨he▸jjx hR hd hs,fun i=> ?_⟩
 cases dst with
 | none=>exact hc i
 | some d=>
  simp only [St.setD,St.setS]
  split
  ·exact hb
  ·exact hc i
theorem jjy {o:Æ} (h:jed N o=X):∀ d,o.dst=B d→N.ok d:=by
 intro d hd
 simpa [jed,hd,NT.ok] using h
theorem jnW {u:Ups} (h:j2s σ):j2s (σ.upd u):=by
 intro i;rw [jgz];exact h i
theorem js8 {P:Å} {E:Env} (hT:j1Q P E.T) (hR:Rel E.N E.np S0 w0 refs σ a w S γ) {o:Æ} {e:Ç} (h:nilT E σ o=B e) :
  ∃ v b,(execOp a.eval o).run P w = .ok (.value v) w∧v = .bool b∧(b=X→e=X):=by
 unfold nilT at h
 split at h
 ·rename_i t x y ty hop
  split at h
  ·rename_i el xs ti hx hy hti
   split at h
   ·rename_i hl
    simp only [jb] at h
    subst h
    have ex:=j8Y hR x
    have ey:=j8Y hR y
    rw [hx] at ex
    rw [hy] at ey
    obtain ⟨ad,cap,hcs,hlen,_,hnone,_⟩:=ex.1
    have hux:a.eval x = .slice ad (â xs) cap:=by simpa using hcs
    have huy:a.eval y = .slice Â 0 0:=ey.1
    obtain ⟨a',hty⟩:=jhC hl
    obtain ⟨hd,_⟩:=j51 hT hti hty
    refine ⟨.bool ad.isNone,ad.isNone,?_,rfl,fun hb=> ?_⟩
    ·simp only [execOp,hop,hux,huy,eqGuard,binOp]
     simp [run_equal_slice_nil w t ti.elem ad (â xs) cap hd]
    ·have:ad=none:=by cases ad<;>simp_all
     have:=hnone this
     have:â xs=0:=omg_
     cases xs with
     | nil=>rfl
     | cons=>simp at this
   ·simp at h
  ·simp at h
 ·simp at h
theorem jcr {P:Å} {E:Env} (hT:j1Q P E.T) (hC:j7n P E.C) (hR:Rel E.N E.np S0 w0 refs σ a w S γ) {act:H (G×Ç)} (hact:jjk (tm a) act) {p:Ç}
  (hc:p=U→j2s σ) {o:Æ} (hd:jed E.N o=X) {R:Type} {k:St→O R} {r:R} (h:run1 E p σ act o k=B r) {next:Á→À→Prop} {Q:Ñ→Á→À→Prop}
  (hn:∀ σ' a' w' S' γ',Rel E.N E.np S0 w0 refs σ' a' w' S' γ'→(p=U→j2s σ')→k σ'=B r→next a' w'):o.wp P a w next Q:=by
 have hd:=jjy hd
 have hfin:∀ (u:Ups) (s:Slot) (v:Y) (w':À) (S':j0e) (γ':G→Y),Rel E.N E.np S0 w0 refs (σ.upd u) a w' S' γ'→j43 S' w' γ' (σ.upd u).bx (tm a) s v→s.bare=X→
   k (cond p ((σ.upd u).put o.dst s) ((σ.upd u).setD o.dst s))=B r→next (a.put o.dst v) w':=by
  intro u s v w' S' γ' hR' hs hb hk
  cases p with
  | true=>exact hn _ _ _ _ _ (jjx hR' hd hs) smp_ hk
  | false=>
   obtain ⟨h1,h2⟩:=jeY hR' (jnW (hc rfl)) hd hs hb
   exact hn _ _ _ _ _ h1 (fun _=>h2) hk
 unfold run1 at h
 split at h
 ·rename_i e he
  have he:nilT E σ o=B e:=by
   cases hz:E.nz with
   | true=>rw [hz] at he;exact he
   | false=>rw [hz] at he;simp at he
  obtain ⟨v,b,hrun,rfl,hb⟩:=js8 (P:=P) hT hR he
  obtain ⟨h1,h2⟩:=jpq h
  unfold Î
  rw [hrun,Ê]
  cases b with
  | true=>exact hfin [] (.one (.one (.d .bool X))) (.bool X) w S γ hR ⟨rfl,fun _=>rfl⟩ rfl (h2 (hb rfl))
  | false=>exact hfin [] (.one (.one (.d .bool U))) (.bool U) w S γ hR ⟨rfl,fun _=>rfl⟩ rfl h1
 split at h
 ·simp at h
 ·rename_i chk s u ho
  cases chk with
  | false=>simp at h
  | true=>
   obtain ⟨⟨v,w',S',γ',hrun,hR',hs⟩,hb⟩:=jpB hT hR hact (fun _=> .inl rfl) ho
   unfold Î
   rcases hrun with hrun | ⟨hrun,rfl⟩
   ·rw [hrun,Ê];exact hfin u s v w' S' γ' hR' hs hb h
   ·rw [hrun,ì];exact hfin u s undef w' S' γ' hR' hs hb h
 ·rename_i f args mk ho
  obtain ⟨hf,hspec⟩:=hC f args R _ r h
  obtain ⟨vals,hrun,hcalls,hb⟩:=jr5 hR hact (fun _=> .inl rfl) ho hf hspec
  unfold Î
  rw [hrun,Ö]
  refine hcalls.mono ?_
  rintro e w' ⟨ret,hk,hall⟩
  split at hk
  ·rename_i s u hmk
   obtain ⟨v,S',γ',rfl,hR',hs⟩:=hall s u hmk
   exact hfin u s v w' S' γ' hR' hs (hb ret s u hmk) hk
  ·simp at hk
theorem jjz {P:Å} {E:Env} (hT:j1Q P E.T) (hC:j7n P E.C) {ops:Ã Æ} (hbare:bare ops=X) {R:Type} {k:St→O R} {r:R} {Q:Ñ→Á→À→Prop}
  (hn:∀ σ' a' w' S' γ',Rel E.N E.np S0 w0 refs σ' a' w' S' γ'→j2s σ'→k σ'=B r→Q .normal a' w') :
  ∀ (n i:G) (σ:St) (a:Á) (w:À) (S:j0e) (γ:G→Y),i+n=ops.size→Rel E.N E.np S0 w0 refs σ a w S γ→j2s σ→jbR E (ops.toList.drop i) σ k=B r→
   wpOps P ops Q (ë i n) a w
 | 0,i,σ,a,w,S,γ,hi,hR,hc,h=>by
  rw [jj sqo_] at h
  exact hn _ _ _ _ _ hR hc h
 | n+1,i,σ,a,w,S,γ,hi,hR,hc,h=>by
  have hlt:i<ops.size:=omg_
  rw [jh (by simpa using hlt)] at h
  simp only [jbR] at h
  split at h
  ·rename_i hd
   have ho:ops[i]? = B ops[i]:=ju hlt
   simp only [vq,wpOps,ho]
   have hg:ops[i].guard=none:=by
    have:=jw.1 hbare ops[i] smp_
    simpa using this
   have hw:Ä ops[i] (yielded ops a.tmps)=true:=by simp [Ä,hg]
   simp only [hw,if_true]
   refine .inl (jcr hT hC hR (act:=[]) (fun g hg=>by simp at hg) (p:=U) (fun _=>hc) (by simpa using hd) (by simpa using h) (fun σ' a' w' S' γ' hR' hc' hk=> ?_))
   exact jjz hT hC hbare hn n (i+1) σ' a' w' S' γ' omg_ hR' (hc' rfl) hk
  ·simp at h
theorem jeZ {ops:Ã Æ} {o:Æ} {g:G×Ç} (h:j8j ops o=B g):Ä o (yielded ops a.tmps)=X↔tm a g.1 = .bool g.2:=by
 unfold j8j at h
 split at h
 ·simp at h
 ·rename_i j wn hgu
  split at h
  ·rename_i oj hoj
   split at h
   ·rename_i s hs
    simp only [jb] at h;subst h
    simp only [Ä,hgu,yielded,hoj,ja,hs,tm]
    cases hq:a.tmps[s]? with
    | none=>
     have:a.tmps.getD s undef=undef:=by simp [hq]
     rw [this];simp [undef]
    | some v=>
     have:a.tmps.getD s undef=v:=by simp [hq]
     rw [this]
     cases v<;>simp
   ·simp at h
  ·simp at h
theorem jmi (hR:Rel N np S0 w0 refs σ a w S γ):∀ (n:G) (g:G×Ç),tm a g.1 = .bool g.2→jjk (tm a) (σ.chain n g)
 | 0,g,h=>by intro x hx;simp only [St.chain,qj] at hx;subst hx;exact h
 | n+1,g,h=>by
  simp only [St.chain]
  have hs:=hR.slot g.1
  split
  ·rename_i s b c hc
   rw [hc] at hs
   have h2:tm a s = .bool b:=by
    rcases hs with hs | hs
    ·exact hs.1
    ·have:tm a g.1=undef:=hs.2
     rw [h] at this;simp [undef] at this
   intro x hx
   rcases jl.1 hx with rfl | hx
   ·exact h
   ·exact jmi hR n (s,b) h2 x hx
  ·intro x hx;simp only [qj] at hx;subst hx;exact h
theorem jty:∀ (n:G) (g:G×Ç),g∈σ.chain n g
 | 0,g=>by simp [St.chain]
 | n+1,g=>by simp only [St.chain];split<;>simp
theorem jtz (hR:Rel N np S0 w0 refs σ a w S γ):∀ {l:H (G×Ç)} {b:Ç},actB σ l=B b→jjk (tm a) l→b=X
 | [],b,h,_=>by simp [actB] at h;exact h
 | (s,wn)::r,b,h,ha=>by
  have ht:tm a s = .bool wn:=ha (s,wn) smp_
  simp only [actB] at h
  split at h
  ·rename_i v hv
   have hvv:v=wn:=by
    have hs:=hR.slot s
    unfold gval at hv
    split at hv
    ·rename_i v' hsl
     simp only [jb] at hv;subst hv
     rw [hsl] at hs
     have:tm a s = .bool v':=j8F hs
     rw [ht] at this;simpa using this.symm
    ·rename_i s' b' v' hsl
     simp only [jb] at hv;subst hv
     rw [hsl] at hs
     rcases hs with hs | hs
     ·have:tm a s = .bool v':=j8F hs.2
      rw [ht] at this;simpa using this.symm
     ·have:tm a s=undef:=hs.2
      rw [ht] at this;simp [undef] at this
    ·simp at hv
   subst hvv
   split at h
   ·simp only [jb] at h;rw [←h];cases v<;>rfl
   ·split at h
    ·rename_i b2 hb2
     simp only [jb] at h
     have:=jtz hR hb2 (fun g hg=>ha g (by simp [hg]))
     rw [←h,this];cases v<;>rfl
    ·simp at h
  ·simp at h
theorem jmj (hR:Rel N np S0 w0 refs σ a w S γ) {s:G} {x:Slot} (h:j43 S w γ σ.bx (tm a) x (tm a s)):Rel N np S0 w0 refs (σ.setS s x) a w S γ:=by
 refine ⟨hR.size,hR.defers,fun i=> ?_,hR.box,hR.own,hR.apart,hR.ext,hR.new,hR.here,hR.below,hR.grow,hR.os,hR.tape,hR.output,hR.par,hR.kept,hR.fix⟩
 simp only [St.setS]
 split
 ·rename_i hi;subst hi;exact h
 ·exact hR.slot i
theorem jjA {R:Type}:∀ (l:H (G×Ç)) {σ:St} {k:St→Ç→O R} {r:R},Rel N np S0 w0 refs σ a w S γ→jid l σ k=B r→
  ∃ σ' b,Rel N np S0 w0 refs σ' a w S γ∧k σ' b=B r∧(b=X↔jjk (tm a) l)
 | [],σ,k,r,hR,h=>⟨σ,X,hR,h,by simp [jjk]⟩
 | (s,wn)::l,σ,k,r,hR,h=>by
  simp only [jid] at h
  obtain ⟨σ1,b1,hR1,hk1,hb1⟩:=jjA l hR h
  cases b1 with
  | false=>
   refine ⟨σ1,U,hR1,hk1,?_⟩
   simp only [qf,false_iff] at hb1 ⊢
   exact fun ha=>hb1 (fun g hg=>ha g (by simp [hg]))
  | true=>
   have hal:=hb1.1 rfl
   simp only at hk1
   split at hk1
   ·rename_i v hv
    have ht:tm a s = .bool v:=by
     have hs:=hR1.slot s
     unfold jsV at hv
     split at hv
     ·rename_i v' hsl
      simp only [jb] at hv;subst hv
      rw [hsl] at hs
      exact j8F hs
     ·rename_i s' b' v' hsl
      split at hv
      ·rename_i hm
       simp only [jb] at hv;subst hv
       rw [hsl] at hs
       have hm':(s',b')∈l:=by simpa using hm
       have:=hal _ hm'
       rcases hs with hs | hs
       ·exact j8F hs.2
       ·exact absurd this hs.1
      ·simp at hv
     ·simp at hv
    have hrel:∀ b,b=v→Rel N np S0 w0 refs (σ1.setS s (.one (.one (.d .bool b)))) a w S γ:=by
     rintro b rfl
     refine jmj hR1 ⟨?_,fun _=> ?_⟩
     ·show Rep S w .bool b [tm a s];rw [ht];rfl
     ·rw [ht];rfl
    cases v with
    | true=>
     simp only [jc] at hk1
     refine ⟨_,wn,hrel X rfl,hk1,?_⟩
     constructor
     ·rintro rfl g hg
      rcases jl.1 hg with rfl | hg
      ·exact ht
      ·exact hal g hg
     ·intro ha
      have:=ha (s,wn) smp_
      rw [ht] at this;simpa using this.symm
    | false=>
     simp only [jd] at hk1
     refine ⟨_, !wn,hrel U rfl,hk1,?_⟩
     constructor
     ·intro hw g hg
      have hw':wn=false:=by simpa using hw
      subst hw'
      rcases jl.1 hg with rfl | hg
      ·exact ht
      ·exact hal g hg
     ·intro ha
      have:=ha (s,wn) smp_
      rw [ht] at this
      have:U=wn:=by simpa using this
      rw [←this];rfl
   ·simp at hk1
theorem jxQ {P:Å} {E:Env} (hT:j1Q P E.T) (hC:j7n P E.C) (hR:Rel E.N E.np S0 w0 refs σ a w S γ) {ops:Ã Æ} {o:Æ} (hd:jed E.N o=X)
  {R:Type} {k:St→O R} {r:R} (h:jsW E ops σ o k=B r) {next:Á→À→Prop} {Q:Ñ→Á→À→Prop}
  (hn:∀ σ' a' w' S' γ',Rel E.N E.np S0 w0 refs σ' a' w' S' γ'→k σ'=B r→next a' w') :
  if Ä o (yielded ops a.tmps) then o.wp P a w next Q∨(o.asks P a w∧ú Q) else next (a.put o.dst undef) w:=by
 have hdl:=jjy hd
 unfold jsW at h
 split at h
 ·split at h
  ·rename_i hg
   have hw:Ä o (yielded ops a.tmps)=true:=by simp [Ä,hg]
   simp only [hw,if_true]
   exact .inl (jcr hT hC hR (act:=[]) (fun g hg=>by simp at hg) (p:=X) smp_ hd h (fun σ' a' w' S' γ' hR' _ hk=>hn σ' a' w' S' γ' hR' hk))
  ·simp at h
 ·rename_i g hg
  dsimp only at h
  have hwi:=jeZ (a:=a) hg
  have hslow:jid (σ.chain 40 g) σ (fun σ' a=>match a with
    | true=>run1 E X σ' (σ.chain 40 g) o k
    | false=>k (σ'.put o.dst (.one (.one .dead))))=B r→
    if Ä o (yielded ops a.tmps) then o.wp P a w next Q∨(o.asks P a w∧ú Q) else next (a.put o.dst undef) w:=by
   intro hs
   obtain ⟨σ',b,hR',hk,hb⟩:=jjA _ hR hs
   cases b with
   | true=>
    have hact:=hb.1 rfl
    have hw:=hwi.2 (hact g (jty 40 g))
    simp only [hw,if_true]
    exact .inl (jcr hT hC hR' hact (p:=X) smp_ hd hk (fun σ' a' w' S' γ' hR' _ hk=>hn σ' a' w' S' γ' hR' hk))
   | false=>
    have hw:¬ Ä o (yielded ops a.tmps)=true:=fun hw=>by
     have:=hb.2 (jmi hR 40 g (hwi.1 hw));simp at this
    simp only [hw]
    exact hn _ _ _ _ _ (jjx hR' hdl (s:= .one (.one .dead)) (v:=undef) ⟨trivial,fun h=>absurd rfl h⟩) hk
  split at h
  ·rename_i chk c ho
   split at h
   ·rename_i ab hab
    by_cases hw:Ä o (yielded ops a.tmps)=X
    ·have hact:=jmi hR 40 g (hwi.1 hw)
     have:=jtz hR hab hact
     subst this
     simp only [hw,if_true]
     cases chk with
     | false=>simp at h
     | true=>
      simp only [jk,Bool.or_false,jc] at h
      obtain ⟨⟨v,w',S',γ',hrun,hR',hs⟩,hb⟩:=jpB hT hR hact (fun _=> .inl rfl) ho
      have hput:=jjx hR' hdl (s:= .cnd g.1 g.2 c) (v:=v) (.inl ⟨hwi.1 hw,hs⟩)
      refine .inl ?_
      unfold Î
      rcases hrun with hrun | ⟨hrun,rfl⟩
      ·rw [hrun,Ê];exact hn _ _ _ _ _ hput h
      ·rw [hrun,ì];exact hn _ _ _ _ _ hput h
    ·simp only [hw]
     have hk:k (σ.put o.dst (.cnd g.1 g.2 c))=B r:=by
      cases hc:(chk || !ab) with
      | true=>rw [hc] at h;exact h
      | false=>rw [hc] at h;simp at h
     exact hn _ _ _ _ _ (jjx hR hdl (s:= .cnd g.1 g.2 c) (v:=undef) (.inr ⟨fun hh=>hw (hwi.2 hh),rfl⟩)) hk
   ·exact hslow h
  ·exact hslow h
theorem jtA (hR:Rel N np S0 w0 refs σ a w S γ):Rel N np S0 w0 refs σ.clear a w S γ∧j2s σ.clear:=by
 refine ⟨⟨hR.size,hR.defers,fun i=> ?_,hR.box,hR.own,hR.apart,hR.ext,hR.new,hR.here,hR.below,hR.grow,hR.os,hR.tape,hR.output,hR.par,hR.kept,hR.fix⟩,fun i=> ?_⟩
 ·have:=hR.slot i
  simp only [St.clear]
  cases hs:σ.sl i with
  | one c=>rw [hs] at this;exact this
  | tup l=>rw [hs] at this;exact this
  | und=>rw [hs] at this;exact this
  | cnd s b c=>exact ⟨trivial,fun h=>absurd rfl h⟩
 ·simp only [St.clear];cases σ.sl i<;>rfl
theorem jr7 {P:Å} {E:Env} (hT:j1Q P E.T) (hC:j7n P E.C) {ops:Ã Æ} {R:Type} {k:St→O R} {r:R} {Q:Ñ→Á→À→Prop}
  (hn:∀ σ' a' w' S' γ',Rel E.N E.np S0 w0 refs σ' a' w' S' γ'→j2s σ'→k σ'=B r→Q .normal a' w') :
  ∀ (n i:G) (σ:St) (a:Á) (w:À) (S:j0e) (γ:G→Y),i+n=ops.size→Rel E.N E.np S0 w0 refs σ a w S γ→jlg E ops (ops.toList.drop i) σ k=B r→
   wpOps P ops Q (ë i n) a w
 | 0,i,σ,a,w,S,γ,hi,hR,h=>by
  rw [jj sqo_] at h
  obtain ⟨h1,h2⟩:=jtA hR
  exact hn _ _ _ _ _ h1 h2 h
 | n+1,i,σ,a,w,S,γ,hi,hR,h=>by
  have hlt:i<ops.size:=omg_
  rw [jh (by simpa using hlt)] at h
  simp only [jlg] at h
  split at h
  ·rename_i hd
   have ho:ops[i]? = B ops[i]:=ju hlt
   simp only [vq,wpOps,ho]
   exact jxQ hT hC hR (by simpa using hd) (by simpa using h) (fun σ' a' w' S' γ' hR' hk=>jr7 hT hC hn n (i+1) σ' a' w' S' γ' omg_ hR' hk)
  ·simp at h
theorem jtB {P:Å} {E:Env} (hT:j1Q P E.T) (hC:j7n P E.C) (hR:Rel E.N E.np S0 w0 refs σ a w S γ) (hc:j2s σ) {ops:Ã Æ} {R:Type} {k:St→O R} {r:R}
  {Q:Ñ→Á→À→Prop} (hn:∀ σ' a' w' S' γ',Rel E.N E.np S0 w0 refs σ' a' w' S' γ'→j2s σ'→k σ'=B r→Q .normal a' w') (h:jjf E ops σ k=B r) :
  wpOps P ops Q (List.range ops.size) a w:=by
 rw [Ï]
 unfold jjf at h
 split at h
 ·rename_i hb
  exact jjz hT hC hb hn ops.size 0 σ a w S γ omg_ hR hc (by simpa using h)
 ·exact jr7 hT hC hn ops.size 0 σ a w S γ omg_ hR (by simpa using h)
end
section
variable {N:NT} {np:G} {S0:j0e} {w0:À} {refs:Refs} {σ:St} {a:Á} {w:À} {S:j0e} {γ:G→Y}
theorem jmk (hR:Rel N np S0 w0 refs σ a w S γ) {k:G} {b b':Bx} (hk:σ.bx k = .live b) (hsh:j1Y b b') (hbox:∀ bx',BxLe γ σ.bx γ bx'→j1X S w γ bx' k b') :
  Rel N np S0 w0 refs (σ.setB k (.live b')) a w S γ:=by
 have hle:BxLe γ σ.bx γ (σ.setB k (.live b')).bx:=by
  intro k' hk'
  by_cases h:k'=k
  ·subst h;rw [j0r];exact ⟨smp_,rfl,fun x hx=>by simp at hx;subst hx;exact ⟨b,hk,hsh⟩⟩
  ·rw [j09 σ _ h];exact ⟨hk',rfl,fun x hx=>⟨x,hx,.refl x⟩⟩
 have live':∀ k' x,(σ.setB k (.live b')).bx k' = .live x→∃ x',σ.bx k' = .live x':=by
  intro k' x hx
  by_cases h:k'=k
  ·subst h;exact ⟨b,hk⟩
  ·rw [j09 σ _ h] at hx;exact ⟨x,hx⟩
 refine Rel.step (bx':=(σ.setB k (.live b')).bx) hR (.refl S w) hle ?_ ?_ ?_ hR.new hR.here hR.below hR.grow hR.os hR.tape hR.output (fun g _ _ h=>⟨rfl,fun k' b' hb'=>by obtain ⟨b2,hb2⟩:=live' k' b' hb';exact h k' b2 hb2⟩)
 ·intro k' x hx
  by_cases h:k'=k
  ·subst h;rw [j0r] at hx;simp at hx;subst hx;exact hbox _ hle
  ·rw [j09 σ _ h] at hx
   exact j1X.keep (.refl S w) hle rfl (fun g hg=>⟨rfl,fun _=>Iff.rfl⟩) (hR.box k' x hx)
 ·intro k' x g hx hg
  obtain ⟨x',hx'⟩:=live' k' x hx
  exact hR.own k' x' g hx' hg
 ·intro k1 k2 x1 x2 g hne h1 h2 hg
  obtain ⟨y1,hy1⟩:=live' k1 x1 h1
  obtain ⟨y2,hy2⟩:=live' k2 x2 h2
  exact hR.apart k1 k2 y1 y2 g hne hy1 hy2 hg
theorem All2.set_left {α β:Type} {R:α→β→Prop}:∀ {as:H α} {bs:H β},All2 R as bs→∀ (i:G) (x:α) (b:β),bs[i]? = B b→R x b→All2 R (as.set i x) bs
 | [],[],_,i,x,b,hb,_=>by simp at hb
 | _::_,_::_,h,0,x,b,hb,hr=>by simp at hb;subst hb;exact ⟨hr,h.2⟩
 | _::_,_::_,h,i+1,x,b,hb,hr=>⟨h.1,All2.set_left h.2 i x b (by simpa using hb) hr⟩
 | [],_::_,h,_,_,_,_,_=>h.elim
 | _::_,[],h,_,_,_,_,_=>h.elim
theorem jml:∀ (l:H (Loc×Ty)) (σ σ':St) (S:j0e),Rel N np S0 w0 refs σ a w S γ→j2s σ→jeU np l σ=B σ'→∃ S',Rel N np S0 w0 refs σ' a w S' γ∧j2s σ'
 | [],σ,σ',S,hR,hc,h=>by simp [jeU] at h;subst h;exact ⟨S,hR,hc⟩
 | (l,t)::r,σ,σ',S,hR,hc,h=>by
  simp only [jeU] at h
  split at h
  ·rename_i v u hv
   have hrdf:=jjw (np:=np) (σ:=σ) (rd:=mskM σ.bx) (RdR.msk fun _=> .inl rfl)
   suffices hs:∃ S',Rel N np S0 w0 refs (jfI (σ.upd u) l (.d t v)) a w S' γ∧j2s (jfI (σ.upd u) l (.d t v)) by
    obtain ⟨S1,hR1,hc1⟩:=hs
    exact jml r _ σ' S1 hR1 hc1 h
   cases l with
   | slot i=>
    cases hsl:σ.sl i with
    | tup x=>simp only [j5O,hsl] at hv;simp [jbQ,je7,lenL,j7l] at hv
    | cnd x y z=>simp only [j5O,hsl] at hv;simp [jbQ,je7,lenL,j7l] at hv
    | und=>simp only [j5O,hsl] at hv;simp [jbQ,je7,lenL,j7l] at hv
    | one c=>
     cases c with
     | st ls=>simp only [j5O,hsl] at hv;simp [jbQ,je7,lenL,j7l] at hv
     | av n b xs=>simp only [j5O,hsl] at hv;simp [jbQ,je7,lenL,j7l] at hv
     | one x=>
      simp only [j5O,hsl] at hv
      have hsr:=hR.slot i
      rw [hsl] at hsr
      obtain ⟨hfl,hp⟩:=j8Z hrdf hR.box hv hsr.1
      obtain ⟨S1,hR1,hst1,hfz1,_⟩:=j2B u σ S hR hfl
      have hrep:=hp S1 w hst1 hfz1
      refine ⟨S1,?_,?_⟩
      ·simp only [jfI,jgz,hsl]
       exact jmj hR1 ⟨hrep,fun _=>Rep.one _ _ _ hrep _ (qj.2 rfl)⟩
      ·intro j
       simp only [jfI,jgz,hsl,St.setS]
       split
       ·rfl
       ·exact hc j
   | cell k c=>
    have hbad:j5O σ (.cell k c) ≠ .dead:=fun hd=>by rw [hd] at hv;simp [jbQ,je7,lenL,j7l] at hv
    cases hbx:σ.bx k with
    | free=>simp [j5O,hbx] at hbad
    | gone=>simp [j5O,hbx] at hbad
    | live b=>
     cases b with
     | lst e b xs f=>simp [j5O,hbx] at hbad
     | arr n b xs=>simp [j5O,hbx] at hbad
     | row e b n ls=>simp [j5O,hbx] at hbad
     | cell ls f=>
      cases f with
      | true=>simp [j5O,hbx] at hbad
      | false=>
       have hl:j5O σ (.cell k c)=ls.getD c .dead:=by simp [j5O,hbx]
       rw [hl] at hv hbad
       obtain ⟨g,cur,e,h1,h2,h3,h4,h5,h6⟩:=hR.box k _ hbx
       cases hg:ls[c]? with
       | none=>simp [hg] at hbad
       | some x=>
        have hgx:ls.getD c .dead=x:=by simp [hg]
        rw [hgx] at hv
        obtain ⟨z,hz,hxz⟩:=h3.get c x hg
        obtain ⟨hfl,hp⟩:=j8Z hrdf hR.box hv hxz
        obtain ⟨S1,hR1,hst1,hfz1,hsame⟩:=j2B u σ S hR hfl
        have hrep:=hp S1 w hst1 hfz1
        have hbx1:=hsame.cell hbx
        refine ⟨S1,?_,?_⟩
        ·simp only [jfI,hbx1]
         refine jmk hR1 hbx1 trivial (fun bx' hle=> ?_)
         obtain ⟨g',cur',e',h1',h2',h3',h4',h5',h6'⟩:=hR1.box k _ hbx1
         rw [h1] at h1';simp at h1';subst h1'
         rw [h2] at h2';simp at h2';obtain ⟨rfl,rfl⟩:=h2'
         exact ⟨g,cur,e,h1,h2,by rw [zt];exact All2.set_left (h3'.mono (fun x u hx=>j0b.keep (.refl S1 w) hle hx)) c (.d t v) z hz hrep,by rw [zt];exact h4',h5',smp_⟩
        ·intro j
         simp only [jfI,hbx1]
         show ((σ.upd u).sl j).bare=X
         rw [jgz];exact hc j
  ·simp at h
theorem jjB:∀ (l:H jhv) (σ σ':St) (S:j0e),Rel N np S0 w0 refs σ a w S γ→j2s σ→jef np l σ=B σ'→∃ S',Rel N np S0 w0 refs σ' a w S' γ∧j2s σ'
 | [],σ,σ',S,hR,hc,h=>by simp [jef] at h;subst h;exact ⟨S,hR,hc⟩
 | x::r,σ,σ',S,hR,hc,h=>by
  simp only [jef] at h
  split at h
  ·split at h
   ·split at h
    ·split at h
     ·rename_i e b xs f hbx
      split at h
      ·simp at h
      ·rename_i hp
       simp only [qs,not_or,ä] at hp
       obtain ⟨S1,hR1,_⟩:=jhD hR hp.2 hbx hp.1
       exact jjB r _ σ' S1 hR1 (fun i=>hc i) h
     ·simp at h
    ·exact jjB r σ σ' S hR hc h
   ·exact jjB r σ σ' S hR hc h
  ·exact jjB r σ σ' S hR hc h
theorem j6T:∀ {l:H G} {i j:G},l.idxOf? i=B j→l[j]? = B i
 | [],i,j,h=>by simp at h
 | x::l,i,j,h=>by
  rw [û] at h
  split at h
  ·rename_i he
   simp at h he;subst h;subst he;rfl
  ·cases hq:l.idxOf? i with
   | none=>simp [hq] at h
   | some j'=>
    simp [hq] at h;subst h
    simpa using j6T hq
theorem jmm:∀ {l:H G} {i:G},l.idxOf? i=Â→i∉l
 | [],i,_=>smp_
 | x::l,i,h=>by
  rw [û] at h
  split at h
  ·simp at h
  ·rename_i he
   have hq:l.idxOf? i=none:=by simpa using h
   have:=jmm hq
   simp only [jl,not_or]
   exact ⟨fun e=>he (by simp [e]),this⟩
theorem jfM {e:G} {t:Ty} {l:Loc} {k:O G} {xs:H t.den} {f:Ç} (h:jlh σ e t l=B (k,xs,f)) :
  (k=Â∧isM e=U∧xs=[]∧j5O σ l = .nil)∨∃ k0,k=B k0∧j5O σ l = .ol k0∧σ.bx k0 = .live (.lst e t xs f):=by
 unfold jlh at h
 split at h
 ·rename_i hl
  split at h
  ·simp at h
  ·rename_i hm
   simp only [jb,jf] at h
   exact .inl ⟨h.1.symm,by simpa using hm,h.2.1.symm,hl⟩
 ·rename_i k0 hl
  split at h
  ·rename_i e' t' xs' f' hb
   split at h
   ·rename_i v hto
    split at h
    ·rename_i he
     simp only [jb,jf] at h
     obtain ⟨rfl,rfl,rfl⟩:=h
     have:=jfh hto
     cases this
     subst he
     exact .inr ⟨k0,rfl,hl,hb⟩
    ·simp at h
   ·simp at h
  ·simp at h
 ·simp at h
theorem jd8 {e:G} {t:Ty}:∀ {ls:H Loc} {k:O G} {xs:H t.den} {f:Ç},jfH σ e t ls=B (k,xs,f)→
  (∃ l∈ls,jlh σ e t l=B (k,xs,f))∧∀ l∈ls,∃ xs' f',jlh σ e t l=B (k,xs',f')
 | [],_,_,_,h=>by simp [jfH] at h
 | [l],k,xs,f,h=>by
  simp only [jfH] at h
  exact ⟨⟨l,smp_,h⟩,fun l' hl'=>by simp at hl';subst hl';exact ⟨_,_,h⟩⟩
 | l::l2::ls,k,xs,f,h=>by
  simp only [jfH] at h
  split at h
  ·rename_i k1 xs1 f1 k2 xs2 f2 h1 h2
   split at h
   ·rename_i hk
    simp only [jb,jf] at h
    obtain ⟨rfl,rfl,rfl⟩:=h
    subst hk
    obtain ⟨_,hall⟩:=jd8 h2
    refine ⟨⟨l,smp_,h1⟩,fun l' hl'=> ?_⟩
    rcases jl.1 hl' with rfl | hl'
    ·exact ⟨_,_,h1⟩
    ·exact hall l' hl'
   ·simp at h
  ·simp at h
def jyZ (np:G) (σ:St) (bs:H G) (x:jhv) (it:Item) (src:O G):Prop:=
 ∃ xs f f',jfH σ x.e x.a x.locs=B (src,xs,f)∧it = .b (.live (.lst x.e x.a xs f'))∧∀ k0,src=B k0→f'=f∧k0∉bs∧parK np k0=U
theorem jfr {bs:H G}:∀ {L:H jhv} {is:H Item} {ks:H G},jch np σ bs L=B (is,ks)→
  ∃ srcs:H (O G),ks=srcs.filterMap id∧ks.Nodup∧∀ (j:G) (x:jhv),L[j]? = B x→∃ it src,is[j]? = B it∧srcs[j]? = B src∧jyZ np σ bs x it src
 | [],is,ks,h=>by
  simp [jch] at h
  obtain ⟨rfl,rfl⟩:=h
  exact ⟨[],rfl,í,fun j x hx=>by simp at hx⟩
 | x::L,is,ks,h=>by
  simp only [jch] at h
  split at h
  ·rename_i k xs f is' ks' h1 h2
   obtain ⟨srcs,e1,e2,e3⟩:=jfr h2
   split at h
   ·simp only [jb,jf] at h
    obtain ⟨rfl,rfl⟩:=h
    refine ⟨Â::srcs,by simp [e1],e2,fun j y hy=> ?_⟩
    cases j with
    | zero=>simp at hy;subst hy;exact ⟨_,Â,rfl,rfl,xs,f,x.frz,h1,rfl,smp_⟩
    | succ j=>exact e3 j y (by simpa using hy)
   ·rename_i k0
    split at h
    ·simp at h
    ·rename_i hn
     simp only [qs,not_or,ä,qi,jq] at hn
     simp only [jb,jf] at h
     obtain ⟨rfl,rfl⟩:=h
     refine ⟨B k0::srcs,by simp [e1],qx.2 ⟨hn.1.1,e2⟩,fun j y hy=> ?_⟩
     cases j with
     | zero=>simp at hy;subst hy;exact ⟨_,B k0,rfl,rfl,xs,f,f,h1,rfl,fun k1 hk1=>by simp at hk1;subst hk1;exact ⟨rfl,hn.1.2,hn.2⟩⟩
     | succ j=>exact e3 j y (by simpa using hy)
  ·simp at h
theorem jr8:∀ {srcs:H (O G)},(srcs.filterMap id).Nodup→∀ {j j' k:G},srcs[j]? = B (B k)→srcs[j']? = B (B k)→j=j'
 | [],_,j,_,_,h,_=>by simp at h
 | s::srcs,hn,j,j',k,h,h'=>by
  have hmem:∀ {i:G},srcs[i]? = B (B k)→k∈srcs.filterMap id:=fun hi=>vu.2 ⟨B k,ki hi,rfl⟩
  have hn':(srcs.filterMap id).Nodup:=by
   cases s with
   | none=>simpa using hn
   | some y=>simp at hn;exact hn.2
  cases j with
  | zero=>
   cases j' with
   | zero=>rfl
   | succ j'=>
    simp at h h';subst h
    simp at hn
    exact absurd (by simpa using hmem h') hn.1
  | succ j=>
   cases j' with
   | zero=>
    simp at h h';subst h'
    simp at hn
    exact absurd (by simpa using hmem h) hn.1
   | succ j'=>
    have:=jr8 hn' (j:=j) (j':=j') (k:=k) (by simpa using h) (by simpa using h')
    omega
theorem jnX:∀ {l:H G},l.Nodup→∀ {i j n:G},l[i]? = B n→l[j]? = B n→i=j
 | [],_,i,_,_,hi,_=>by simp at hi
 | x::l,h,i,j,n,hi,hj=>by
  obtain ⟨h1,h2⟩:=qx.1 h
  cases i with
  | zero=>
   cases j with
   | zero=>rfl
   | succ j=>simp at hi hj;subst hi;exact absurd (ki hj) h1
  | succ i=>
   cases j with
   | zero=>simp at hi hj;subst hj;exact absurd (ki hi) h1
   | succ j=>rw [jnX h2 (i:=i) (j:=j) (n:=n) (by simpa using hi) (by simpa using hj)]
end
section
variable {N:NT} {np:G} {S0:j0e} {w0:À} {refs:Refs} {σ:St} {a:Á} {w:À} {S:j0e} {γ:G→Y}
theorem jpC {K:Keep} {l:Loc} {n:G} (h:jnz K l=B n):∃ (j:G) (x:jhv),K.lists[j]? = B x∧x.name=n∧l∈x.locs:=by
 unfold jnz at h
 obtain ⟨x,hq,hn⟩:=Option.map_eq_some_iff.1 h
 have h1:=List.find?_some hq
 obtain ⟨j,hj⟩:=za.1 (List.mem_of_find?_eq_some hq)
 exact ⟨j,x,hj,hn,by simpa using h1⟩
theorem jad {K:Keep} {k:G} {x:BS} {b:Bx} (h:jnB K k x = .live b):∃ b0,x = .live b0∧j1Y b0 b:=by
 unfold jnB at h
 split at h
 ·simp only [BS.live.injEq] at h;subst h;exact ⟨_,rfl,trivial⟩
 ·simp only [BS.live.injEq] at h;subst h;exact ⟨_,rfl,.refl _⟩
 ·simp only [BS.live.injEq] at h;subst h;exact ⟨_,rfl,.refl _⟩
 ·simp at h
theorem jae {K:Keep} {k:G} {x:BS}:jnB K k x ≠ .free:=by
 unfold jnB;split<;>simp
theorem jlx {R:Leaf→Y→Prop} {f:Leaf×G→Leaf}:∀ {ls:H Leaf} {cs:H Y} (n:G),(∀ (j:G) (x:Leaf) (u:Y),ls[j]? = B x→cs[j]? = B u→R (f (x,n+j)) u)→ls.length=cs.length→
  All2 R ((ls.zipIdx n).map f) cs
 | [],[],_,_,_=>trivial
 | x::ls,c::cs,n,h,hl=>by
  refine ⟨h 0 x c rfl rfl,jlx (n+1) (fun j y u hy hu=> ?_) (by simpa using hl)⟩
  have:=h (j+1) y u (by simpa using hy) (by simpa using hu)
  rwa [show n+1+j=n+(j+1) by omega]
 | [],_::_,_,_,hl=>by simp at hl
 | _::_,[],_,_,hl=>by simp at hl
theorem jvU {K:Keep} {s:Snap} (hR:Rel N np S0 w0 refs σ a w S γ) (hs:jpr np K σ=B s):∃ γ',Rel N np S0 w0 refs (j0J np K s) a w S γ'∧j2s (j0J np K s):=by
 unfold jpr at hs
 cases hL:jch np σ K.boxes K.lists with
 | none=>simp [hL] at hs
 | some p=>
 obtain ⟨is,ks⟩:=p
 simp only [hL] at hs
 cases hok:K.ok np with
 | false=>simp [hok] at hs
 | true=>
 simp only [hok,if_true,jb] at hs
 obtain ⟨srcs,hks,hnd,hinfo⟩:=jfr hL
 rw [hks] at hnd
 simp only [Keep.ok,ji] at hok
 have hnames:=j8n hok.1
 have hnb:∀ (j:G) (x:jhv),K.lists[j]? = B x→x.name∉K.boxes:=by
  intro j x hx
  have:=jw.1 hok.2 x (ki hx)
  simp only [ji] at this
  simpa using this.1
 have hnpar:∀ (j:G) (x:jhv),K.lists[j]? = B x→parK np x.name=false:=by
  intro j x hx
  have:=jw.1 hok.2 x (ki hx)
  simp only [ji] at this
  simpa using this.2
 let γ':G→Value:=fun n=>match K.boxes.idxOf? n with
  | some _=>γ n
  | none=>match (K.lists.map (·.name)).idxOf? n with
   | some j=>match srcs[j]? with
    | some (B k)=>γ k
    | _=> .slice Â 0 0
   | none=>γ n
 have hbx:(j0J np K s).bx=fun n=>match K.boxes.idxOf? n with
  | some j=>jnC s[K.slots.length+j]?
  | none=>match (K.lists.map (·.name)).idxOf? n with
   | some j=>jnC s[K.slots.length+K.boxes.length+j]?
   | none=>if parK np n then .gone else .free:=rfl
 have hB:∀ n,n∈K.boxes→(j0J np K s).bx n=jnB K n (σ.bx n)∧γ' n=γ n:=by
  intro n hn
  rw [hbx]
  cases hq:K.boxes.idxOf? n with
  | none=>exact absurd hn (jmm hq)
  | some j=>
   have hj:=j6T hq
   refine ⟨?_,by simp only [γ',hq]⟩
   simp only [hq,←hs]
   rw [ku smp_]
   simp only [qa,Nat.add_sub_cancel_left]
   rw [Ò (by simp;exact (kb.1 hj).1)]
   simp [hj,jnC]
 have hNm:∀ (j:G) (x:jhv),K.lists[j]? = B x→∃ it src,srcs[j]? = B src∧jyZ np σ K.boxes x it src∧(j0J np K s).bx x.name=jnC (B it)∧
   γ' x.name=(match src with | some k=>γ k | none=> .slice Â 0 0):=by
  intro j x hx
  obtain ⟨it,src,h1,h2,h3⟩:=hinfo j x hx
  have hq0:K.boxes.idxOf? x.name=none:=by
   cases hq:K.boxes.idxOf? x.name with
   | none=>rfl
   | some i=>exact absurd (ki (j6T hq)) (hnb j x hx)
  have hjn:(K.lists.map (·.name))[j]? = B x.name:=by simp [hx]
  cases hq:(K.lists.map (·.name)).idxOf? x.name with
  | none=>exact absurd (ki hjn) (jmm hq)
  | some i=>
   have hi:=jnX hnames (j6T hq) hjn
   subst hi
   refine ⟨it,src,h2,h3,?_,?_⟩
   ·rw [hbx]
    simp only [hq0,hq,←hs]
    rw [ku sqo_,ku sqo_]
    have:K.slots.length+K.boxes.length+i-(K.slots.map fun i=>Item.s (jvx K i (σ.sl i))).length-(K.boxes.map fun k=>Item.b (jnB K k (σ.bx k))).length=i:=sqo_
    rw [this,h1]
   ·simp only [γ',hq0,hq,h2]
    cases src<;>rfl
 have hF:∀ n b,(j0J np K s).bx n = .live b→n∈K.boxes∨∃ (j:G) (x:jhv),K.lists[j]? = B x∧x.name=n:=by
  intro n b hb
  by_cases hn:n∈K.boxes
  ·exact .inl hn
  ·right
   rw [hbx] at hb
   have hq0:K.boxes.idxOf? n=none:=by
    cases hq:K.boxes.idxOf? n with
    | none=>rfl
    | some i=>exact absurd (ki (j6T hq)) hn
   simp only [hq0] at hb
   split at hb
   ·rename_i j hq
    have hj:=j6T hq
    simp only [qn] at hj
    cases hx:K.lists[j]? with
    | none=>simp [hx] at hj
    | some x=>simp [hx] at hj;exact ⟨j,x,hx,hj⟩
   ·split at hb<;>simp at hb
 have hleaf:∀ (loc:O Loc) (x:Leaf) (u:Y),j0b S w γ σ.bx x u→(x ≠ .dead→One u)→(∀ l,loc=B l→j5O σ l=x)→
   j0b S w γ' (j0J np K s).bx (jhx K loc x) u∧(jhx K loc x ≠ .dead→One u):=by
  intro loc x u hl h1 hloc
  have hdead:j0b S w γ' (j0J np K s).bx .dead u∧(Leaf.dead ≠ .dead→One u):=⟨trivial,fun h=>absurd rfl h⟩
  have hname:∀ n,loc.bind (jnz K)=B n→∀ (hu:(x = .nil)∨∃ k,x = .ol k),j0b S w γ' (j0J np K s).bx (.ol n) u∧(Leaf.ol n ≠ .dead→One u):=by
   intro n hn hu
   cases loc with
   | none=>simp at hn
   | some l=>
    simp only [ja] at hn
    have hat:=hloc l rfl
    obtain ⟨j,y,hy,hyn,hly⟩:=jpC hn
    obtain ⟨it,src,_,⟨xs,f,f',hlists,hit,hsrc⟩,hbn,hgn⟩:=hNm j y hy
    obtain ⟨_,hall⟩:=jd8 hlists
    obtain ⟨xs',f1,hla⟩:=hall l hly
    have hone:One u:=h1 (by rcases hu with rfl | ⟨k,rfl⟩<;>simp)
    rw [hyn] at hbn hgn
    refine ⟨⟨by rw [hbn,hit];simp [jnC],hone,fun b _=> ?_⟩,fun _=>hone⟩
    rw [hgn]
    rcases jfM hla with ⟨rfl,_,_,hnil⟩ | ⟨k0,rfl,hol,hbk⟩
    ·rw [hat] at hnil
     subst hnil
     exact hl
    ·rw [hat] at hol
     subst hol
     exact hl.2.2 _ hbk
  cases x with
  | dead=>exact hdead
  | nil=>
   simp only [jhx]
   split
   ·rename_i n hn;exact hname n hn (.inl rfl)
   ·exact ⟨hl,h1⟩
  | d t v=>exact ⟨hl,h1⟩
  | ip ls=>exact ⟨hl,h1⟩
  | clo f caps=>exact ⟨hl,h1⟩
  | clr f ks=>
   simp only [jhx]
   split
   ·rename_i hks
    obtain ⟨cv,hu,ha⟩:=hl
    refine ⟨⟨cv,hu,?_⟩,fun _=>h1 smp_⟩
    have go:∀ (ks:H G) (zs:H Y),ks.all (fun k=>K.boxes.contains k)=X→All2 (jt3 γ σ.bx) ks zs→All2 (jt3 γ' (j0J np K s).bx) ks zs:=by
     intro ks
     induction ks with
     | nil=>intro zs _ h;cases zs with | nil=>trivial | cons _ _=>exact h.elim
     | cons k ks ih=>
      intro zs hc h
      cases zs with
      | nil=>exact h.elim
      | cons z zs=>
       simp only [zj,ji] at hc
       obtain ⟨hb1,hb2⟩:=hB k (by simpa using hc.1)
       refine ⟨⟨by rw [hb1];exact jae,h.1.2.1,fun b hb=> ?_⟩,ih zs hc.2 h.2⟩
       rw [hb1] at hb
       obtain ⟨b0,hb0,_⟩:=jad hb
       rw [hb2];exact h.1.2.2 b0 hb0
    exact go ks cv.toList hks ha
   ·exact hdead
  | ep k i c=>exact hdead
  | tl k i=>
   simp only [jhx]
   split
   ·rename_i hk
    obtain ⟨hb1,hb2⟩:=hB k (by simpa using hk)
    refine ⟨⟨by rw [hb1];exact jae,hl.2.1,fun b hb=> ?_⟩,fun _=>hl.2.1⟩
    rw [hb1] at hb
    obtain ⟨b0,hb0,hs0⟩:=jad hb
    have h3:=hl.2.2 b0 hb0
    rw [hb2]
    cases b0<;>cases b<;>simp only [j1Y] at hs0<;>first
     | exact hs0.elim
     | exact h3.elim
     | (obtain ⟨rfl,rfl,hl'⟩:=hs0;simp only at h3 ⊢;obtain ⟨hm,h3⟩:=h3;rw [←hl' hm];exact ⟨hm,h3⟩)
   ·exact hdead
  | hd k i=>
   simp only [jhx]
   split
   ·rename_i hk
    obtain ⟨hb1,hb2⟩:=hB k (by simpa using hk)
    refine ⟨⟨by rw [hb1];exact jae,hl.2.1,fun b hb=> ?_⟩,fun _=>hl.2.1⟩
    rw [hb1] at hb
    obtain ⟨b0,hb0,hs0⟩:=jad hb
    have h3:=hl.2.2 b0 hb0
    rw [hb2]
    cases b0<;>cases b<;>simp only [j1Y] at hs0<;>first
     | exact hs0.elim
     | exact h3.elim
     | (obtain ⟨rfl,rfl,hl'⟩:=hs0;simp only at h3 ⊢;obtain ⟨hm,h3⟩:=h3;rw [←hl' hm];exact ⟨hm,h3⟩)
   ·exact hdead
  | ol k=>
   simp only [jhx]
   split
   ·rename_i hk
    obtain ⟨hb1,hb2⟩:=hB k (by simpa using hk)
    refine ⟨⟨by rw [hb1];exact jae,hl.2.1,fun b hb=> ?_⟩,fun _=>hl.2.1⟩
    rw [hb1] at hb
    obtain ⟨b0,hb0,_⟩:=jad hb
    rw [hb2];exact hl.2.2 b0 hb0
   ·split
    ·rename_i n hn;exact hname n hn (.inr ⟨k,rfl⟩)
    ·exact hdead
  | bp k c=>
   simp only [jhx]
   split
   ·rename_i hk
    obtain ⟨hb1,hb2⟩:=hB k (by simpa using hk)
    refine ⟨⟨by rw [hb1];exact jae,hl.2.1,fun b hb=> ?_⟩,fun _=>hl.2.1⟩
    rw [hb1] at hb
    obtain ⟨b0,hb0,_⟩:=jad hb
    rw [hb2];exact hl.2.2 b0 hb0
   ·exact hdead
 have hsrcbox:∀ n b,(j0J np K s).bx n = .live b→(n∈K.boxes∧γ' n=γ n∧∃ b0,σ.bx n = .live b0)∨(blk (γ' n)=Â)∨
   ∃ (j:G) (x:jhv) (k:G) (b0:Bx),K.lists[j]? = B x∧x.name=n∧srcs[j]? = B (B k)∧γ' n=γ k∧σ.bx k = .live b0∧k∉K.boxes∧parK np k=false:=by
  intro n b hb
  rcases hF n b hb with hn | ⟨j,x,hx,rfl⟩
  ·obtain ⟨h1,h2⟩:=hB n hn
   rw [h1] at hb
   obtain ⟨b0,hb0,_⟩:=jad hb
   exact .inl ⟨hn,h2,b0,hb0⟩
  ·obtain ⟨it,src,hsrc,⟨xs,f,f',hlists,hit,hk0⟩,hbn,hgn⟩:=hNm j x hx
   obtain ⟨⟨l,_,hla⟩,_⟩:=jd8 hlists
   rcases jfM hla with ⟨rfl,_,_,_⟩ | ⟨k,rfl,_,hbk⟩
   ·exact .inr (.inl (by rw [hgn];rfl))
   ·obtain ⟨_,h2,h3⟩:=hk0 k rfl
    exact .inr (.inr ⟨j,x,k,_,hx,rfl,hsrc,hgn,hbk,h2,h3⟩)
 refine ⟨γ',⟨hR.size,hR.defers,?_,?_,?_,?_,hR.ext,hR.new,hR.here,hR.below,hR.grow,hR.os,hR.tape,hR.output,?_,fun g o h=>⟨(hR.kept g o h).1,fun n b hb hbk=>by
  have hno:=(hR.kept g o h).2
  rcases hsrcbox n b hb with ⟨_,e,b0,hb0⟩ | e | ⟨j,x,k,b0,_,_,_,e,hb0,_⟩
  ·rw [e] at hbk;exact hno n b0 hb0 hbk
  ·rw [e] at hbk;simp at hbk
  ·rw [e] at hbk;exact hno k b0 hb0 hbk⟩,hR.fix⟩,?_⟩
 ·-- slots
  intro i
  have hsl:(j0J np K s).sl i=match K.slots.idxOf? i with
   | some j=>jps s[j]?
   | none=> .one (.one .dead):=rfl
  rw [hsl]
  cases hq:K.slots.idxOf? i with
  | none=>exact ⟨trivial,fun h=>absurd rfl h⟩
  | some j=>
   have hj:=j6T hq
   have hitem:s[j]? = B (.s (jvx K i (σ.sl i))):=by
    rw [←hs,Ò (by simp;exact (kb.1 hj).1)]
    simp [hj]
   simp only [hitem,jps]
   have hsr:=hR.slot i
   show j0k S w γ' (j0J np K s).bx (jvx K i (σ.sl i)) _
   cases hs1:σ.sl i with
   | tup l=>exact ⟨trivial,fun h=>absurd rfl h⟩
   | cnd x y z=>exact ⟨trivial,fun h=>absurd rfl h⟩
   | und=>exact ⟨trivial,fun h=>absurd rfl h⟩
   | one c=>
    rw [hs1] at hsr
    cases c with
    | one x=>
     exact hleaf (B (.slot i)) x _ hsr.1 hsr.2 (fun l hl=>by simp at hl;subst hl;simp [j5O,hs1])
    | st ls=>
     obtain ⟨cs,hu,hall,h1⟩:=hsr
     refine ⟨cs,hu,?_,h1⟩
     refine All2.map_left.2 ?_
     have:∀ {ls:H Leaf} {cs:H Y},All2 (j0b S w γ σ.bx) ls cs→(∀ u∈cs,One u)→All2 (fun x u=>j0b S w γ' (j0J np K s).bx (jhx K Â x) u) ls cs:=by
      intro ls
      induction ls with
      | nil=>intro cs h _;cases cs with | nil=>trivial | cons _ _=>exact h.elim
      | cons x ls ih=>
       intro cs h h1
       cases cs with
       | nil=>exact h.elim
       | cons u cs=>exact ⟨(hleaf Â x u h.1 (fun _=>h1 u smp_) smp_).1,ih h.2 (fun v hv=>h1 v (by simp [hv]))⟩
     exact this hall h1
    | av n b xs=>
     obtain ⟨cs,hu,hrep⟩:=hsr
     exact ⟨cs,hu,hrep⟩
 ·-- boxes
  intro n b hb
  rcases hF n b hb with hn | ⟨j,x,hx,rfl⟩
  ·obtain ⟨h1,h2⟩:=hB n hn
   rw [h1] at hb
   unfold jnB at hb
   split at hb
   ·rename_i ls frz hbx0
    simp only [BS.live.injEq] at hb;subst hb
    obtain ⟨g,cur,e,q1,q2,q3,q4,q5,q6⟩:=hR.box n _ hbx0
    have hlz:(ls.zipIdx.map fun x=>jhx K (if frz=X then Â else B (Loc.cell n x.2)) x.1).length=ls.length:=smp_
    refine ⟨g,cur,e,h2.trans q1,q2,?_,by rw [hlz];exact q4,q5,q6⟩
    rw [hlz]
    refine jlx 0 (fun j x u hx hu=> ?_) q3.length
    obtain ⟨u',hu',hxu⟩:=q3.get j x hx
    rw [hu] at hu';simp at hu';subst hu'
    refine (hleaf _ x u hxu (fun _=>q4 u (ki hu)) (fun l hl=> ?_)).1
    cases frz with
    | true=>simp at hl
    | false=>
     simp at hl;subst hl
     simp [j5O,hbx0,hx]
   ·rename_i m t xs hbx0
    simp only [BS.live.injEq] at hb;subst hb
    obtain ⟨g,cur,e,q1,q2,q3,q4⟩:=hR.box n _ hbx0
    exact ⟨g,cur,e,h2.trans q1,q2,q3,q4⟩
   ·rename_i e t xs frz hbx0
    simp only [BS.live.injEq] at hb;subst hb
    obtain ⟨q1,q3⟩:=hR.box n _ hbx0
    exact ⟨by rw [h2];exact q1,by rw [h2];exact q3⟩
   ·simp at hb
  ·obtain ⟨it,src,hsrc,⟨xs,f,f',hlists,hit,hk0⟩,hbn,hgn⟩:=hNm j x hx
   obtain ⟨⟨l,_,hla⟩,_⟩:=jd8 hlists
   rw [hbn,hit] at hb
   simp only [jnC,BS.live.injEq] at hb;subst hb
   rcases jfM hla with ⟨rfl,hnm,rfl,_⟩ | ⟨k,rfl,_,hbk⟩
   ·refine jhy hnm ⟨[],?_,trivial,fun g hg=> ?_⟩
    ·rw [hgn];exact ⟨smp_,.inl ⟨rfl,rfl⟩⟩
    ·rw [hgn] at hg;simp [blk] at hg
   ·obtain ⟨rfl,_,_⟩:=hk0 k rfl
    obtain ⟨q1,q3⟩:=hR.box k _ hbk
    exact ⟨by rw [hgn];exact q1,by rw [hgn];exact q3⟩
 ·-- own
  intro n b g hb hg
  rcases hsrcbox n b hb with ⟨_,h2,b0,h3⟩ | h | ⟨j,x,k,b0,_,_,_,h2,h3,_,h5⟩
  ·rw [h2] at hg;exact hR.own n b0 g h3 hg
  ·rw [h] at hg;simp at hg
  ·rw [h2] at hg
   rcases hR.own k b0 g h3 hg with h | h
   ·exact .inl h
   ·rw [h5] at h;simp at h
 ·-- apart
  intro n n' b b' g hne hb hb' hg hg'
  rcases hsrcbox n b hb with ⟨m1,h2,b0,h3⟩ | h | ⟨j,x,k,b0,hx,hxn,hj,h2,h3,h4,_⟩
  ·rw [h2] at hg
   rcases hsrcbox n' b' hb' with ⟨_,i2,b1,i3⟩ | i | ⟨j',x',k',b1,_,_,_,i2,i3,i4,_⟩
   ·rw [i2] at hg';exact hR.apart n n' b0 b1 g hne h3 i3 hg hg'
   ·rw [i] at hg';simp at hg'
   ·rw [i2] at hg';exact hR.apart n k' b0 b1 g (by rintro rfl;exact i4 m1) h3 i3 hg hg'
  ·rw [h] at hg;simp at hg
  ·rw [h2] at hg
   rcases hsrcbox n' b' hb' with ⟨m1,i2,b1,i3⟩ | i | ⟨j',x',k',b1,hx',hxn',hj',i2,i3,i4,_⟩
   ·rw [i2] at hg';exact hR.apart k n' b0 b1 g (by rintro rfl;exact h4 m1) h3 i3 hg hg'
   ·rw [i] at hg';simp at hg'
   ·rw [i2] at hg'
    by_cases hkk:k=k'
    ·subst hkk
     have:=jr8 hnd hj hj'
     subst this
     rw [hx] at hx';simp at hx';subst hx'
     exact hne (hxn.symm.trans hxn')
    ·exact hR.apart k k' b0 b1 g hkk h3 i3 hg hg'
 ·-- parameters
  intro k v hv
  obtain ⟨p1,p2,p3⟩:=hR.par k v hv
  refine ⟨p1,?_,?_⟩
  ·by_cases hk:k∈K.boxes
   ·rw [(hB k hk).1];exact jae
   ·rw [hbx]
    have hq0:K.boxes.idxOf? k=none:=by
     cases hq:K.boxes.idxOf? k with
     | none=>rfl
     | some i=>exact absurd (ki (j6T hq)) hk
    simp only [hq0]
    split
    ·rename_i j hq
     have hj:=j6T hq
     simp only [qn] at hj
     cases hx:K.lists[j]? with
     | none=>simp [hx] at hj
     | some x=>
      simp [hx] at hj
      have:=hnpar j x hx
      rw [hj,p1] at this;simp at this
    ·simp [p1]
  ·by_cases hk:k∈K.boxes
   ·rw [(hB k hk).2];exact p3
   ·have hq0:K.boxes.idxOf? k=none:=by
     cases hq:K.boxes.idxOf? k with
     | none=>rfl
     | some i=>exact absurd (ki (j6T hq)) hk
    simp only [γ',hq0]
    split
    ·rename_i j hq
     have hj:=j6T hq
     simp only [qn] at hj
     cases hx:K.lists[j]? with
     | none=>simp [hx] at hj
     | some x=>
      simp [hx] at hj
      have:=hnpar j x hx
      rw [hj,p1] at this;simp at this
    ·exact p3
 ·intro i
  show ((match K.slots.idxOf? i with | some j=>jps s[j]? | none=>Slot.one (.one .dead)):Slot).bare=X
  split
  ·unfold jps;split<;>rfl
  ·rfl
theorem j5v {K:Keep} {s:Snap} (hR:Rel N np S0 w0 refs σ a w S γ) (hc:j2s σ) (hs:j5P np K σ=B s):∃ S' γ',Rel N np S0 w0 refs (j0J np K s) a w S' γ'∧j2s (j0J np K s):=by
 unfold j5P at hs
 split at hs
 ·rename_i σ1 h1
  split at hs
  ·rename_i σ2 h2
   obtain ⟨S1,hR1,hc1⟩:=jml _ _ _ _ hR hc h1
   obtain ⟨S2,hR2,hc2⟩:=jjB _ _ _ _ hR1 hc1 h2
   obtain ⟨γ',hR3,hc3⟩:=jvU hR2 hs
   exact ⟨S2,γ',hR3,hc3⟩
  ·simp at hs
 ·simp at hs
end
def RdLe (rd rd':G→BS):Prop:=∀ k,rd k=rd' k∨rd k = .gone
theorem RdLe.live {rd rd':G→BS} (h:RdLe rd rd') {k:G} {b:Bx} (hk:rd k = .live b):rd' k = .live b:=by
 rcases h k with h | h
 ·rw [←h];exact hk
 ·rw [h] at hk;simp at hk
theorem RdLe.free {rd rd':G→BS} (h:RdLe rd rd') {k:G} (hk:j4B (rd k)=X):j4B (rd' k)=true:=by
 rcases h k with h | h
 ·rw [←h];exact hk
 ·rw [h] at hk;simp [j4B] at hk
theorem RdLe.isLive {rd rd':G→BS} (h:RdLe rd rd') {k:G} (hk:isLive (rd k)=X):isLive (rd' k)=true:=by
 rcases h k with h | h
 ·rw [←h];exact hk
 ·rw [h] at hk;simp [Lft.isLive] at hk
theorem RdLe.rdf {rd rd':G→BS} (h:RdLe rd rd') (np:G):RdLe (fun k=>if parK np k then .gone else rd k) (fun k=>if parK np k then .gone else rd' k):=by
 intro k
 dsimp only
 split
 ·exact .inl rfl
 ·exact h k
theorem RdLe.msk {rd rd':G→BS} (h:RdLe rd rd'):RdLe (mskM rd) (mskM rd'):=by
 intro k
 rcases h k with h | h
 ·left;unfold mskM;rw [h]
 ·right;unfold mskM;rw [h]
theorem jmn (M:H G) (rd:G→BS):RdLe (jb4 M rd) rd:=by
 intro k
 unfold jb4
 split
 ·exact .inr rfl
 ·exact .inl rfl
section
variable {rd rd':G→BS} (hle:RdLe rd rd')
include hle
theorem jpD {t:Ty} {l:Leaf} {x} (h:j7l rd t l=B x):j7l rd' t l=B x:=by
 unfold j7l at h ⊢
 split at h
 ·exact h
 ·exact h
 ·split at h
  ·rename_i hk
   rw [hle.live hk];exact h
  ·simp at h
 ·simp at h
theorem jtC {l:Leaf} {n:G} (h:lenL rd l=B n):lenL rd' l=B n:=by
 unfold lenL at h ⊢
 split at h
 ·simp at h
 ·exact h
 ·split at h
  ·rename_i hk
   rw [hle.live hk];exact h
  ·rename_i hk
   rw [hle.live hk];exact h
  ·simp at h
 ·simp at h
theorem jxR {t:Ty} {l:Leaf} {x} (h:j7l rd t l=B x):lenL rd' l=lenL rd l:=by
 cases l with
 | ol k=>
  simp only [j7l] at h
  split at h
  ·rename_i hk
   simp only [lenL,hk,hle.live hk]
  ·simp at h
 | d t' v=>cases t'<;>first | rfl | (rename_i b;cases b<;>rfl)
 | _=>rfl
theorem jly {t:Ty} {l:Leaf} {x} (h:jbQ rd t l=B x):jbQ rd' t l=B x:=by
 unfold jbQ at h ⊢
 cases hH:je7 rd t l with
 | some v=>
  rw [hH] at h
  have:je7 rd' t l=B v:=by
   unfold je7 at hH ⊢
   split at hH
   ·rename_i n hn
    rw [jtC hle hn];exact hH
   ·simp at hH
  rw [this];exact h
 | none=>
  rw [hH] at h
  have:je7 rd' t l=none:=by
   unfold je7 at hH ⊢
   rw [jxR hle h];exact hH
  rw [this];exact jpD hle h
theorem jgE:∀ (t:Ty) {ls:H Leaf} {x},gath rd t ls=B x→gath rd' t ls=B x:=by
 intro t
 induction t with
 | unit=>intro ls x h;simpa [gath] using h
 | wrap a ih=>
  intro ls x h
  simp only [gath] at h ⊢
  split at h
  ·rename_i hg;rw [ih hg];exact h
  ·simp at h
 | pair a b iha ihb=>
  intro ls x h
  simp only [gath] at h ⊢
  split at h
  ·rename_i hg
   rw [iha hg]
   dsimp only
   split at h
   ·rename_i hg2;rw [ihb hg2];exact h
   ·simp at h
  ·simp at h
 | arr n a ih=>intro ls x h;simp [gath] at h
 | _=>
  intro ls x h
  cases ls with
  | nil=>simp [gath] at h
  | cons l ls=>
   simp only [gath] at h ⊢
   split at h
   ·rename_i hl;rw [jly hle hl];exact h
   ·simp at h
theorem jfN {t:Ty} {c:Cel} {x} (h:jfp rd t c=B x):jfp rd' t c=B x:=by
 unfold jfp at h ⊢
 split at h
 ·split at h
  ·simp at h
  ·rename_i ha
   simp only [ha,zd,qf]
   split at h
   ·rename_i hg;rw [jgE hle _ hg];exact h
   ·simp at h
 ·split at h
  ·rename_i ha
   simp only [ha,if_true]
   split at h
   ·rename_i hg;rw [jgE hle _ hg];exact h
   ·simp at h
  ·simp at h
 ·exact h
theorem js9 {ti:TyI} {l:Leaf} {x} (h:jhw rd ti l=B x):jhw rd' ti l=B x:=by
 unfold jhw at h ⊢
 split at h
 ·split at h
  ·rename_i hk;rw [hle.live hk];exact h
  ·rename_i hk;rw [hle.live hk];exact h
  ·simp at h
 ·split at h
  ·rename_i hk;rw [hle.live hk];exact h
  ·rename_i hk;rw [hle.live hk];exact h
  ·rename_i hk;rw [hle.live hk];exact h
  ·simp at h
 ·exact h
 ·simp at h
theorem jpE {ti:TyI} {i:G} {l:Leaf} {x} (h:jdS rd ti i l=B x):jdS rd' ti i l=B x:=by
 unfold jdS at h ⊢
 split at h
 ·split at h
  ·split at h
   ·rename_i hl;simp only [hle.isLive hl,if_true];exact h
   ·simp at h
  ·simp at h
 ·split at h
  ·split at h
   ·rename_i hl;simp only [hle.isLive hl,if_true];exact h
   ·simp at h
  ·simp at h
 ·exact h
 ·simp at h
theorem jpF {ti:TyI} {l i:Leaf} {x} (h:jgv rd ti l i=B x):jgv rd' ti l i=B x:=by
 unfold jgv at h ⊢
 split at h
 ·split at h
  ·rename_i hk;rw [hle.live hk];exact h
  ·rename_i hk;rw [hle.live hk];exact h
  ·simp at h
 ·exact h
 ·split at h
  ·rename_i hk;rw [hle.live hk];exact h
  ·rename_i hk;rw [hle.live hk];exact h
  ·simp at h
 ·split at h
  ·rename_i hk;rw [hle.live hk];exact h
  ·simp at h
 ·simp at h
theorem jlz (a:Ty):∀ {ls:H Leaf} {x},jm0 rd a ls=B x→jm0 rd' a ls=B x
 | [],_,h=>h
 | l::ls,x,h=>by
  simp only [jm0] at h ⊢
  split at h
  ·rename_i h1 h2
   rw [jly hle h1,jlz a h2]
   exact h
  ·simp at h
theorem jpG {t:O Ty} {l:Leaf} {x} (h:jgu rd t l=B x):jgu rd' t l=B x:=by
 unfold jgu at h ⊢
 split at h
 ·split at h
  ·split at h
   ·rename_i hi
    rw [if_pos hi]
    split at h
    ·rename_i hk;rw [hle.live hk];exact h
    ·simp at h
   ·simp at h
  ·simp at h
 ·simp at h
theorem jpH {ti:TyI} {l:Leaf} {c:Cel} (h:jgu rd ti.ty l=Â) (hc:jhw rd ti l=B c):jgu rd' ti.ty l=none:=by
 unfold jgu at h ⊢
 split at h
 ·rename_i k
  split at h
  ·rename_i m el hty
   split at h
   ·rename_i hi
    rw [if_pos hi]
    simp only [jhw] at hc
    split at hc
    ·rename_i ls frz hk
     rw [hle.live hk]
     cases frz with
     | true=>rfl
     | false=>rw [hk] at h;simp at h
    ·rename_i hk
     rw [hle.live hk]
    ·simp at hc
   ·rename_i hi
    rw [if_neg hi]
  ·rfl
 ·rfl
theorem jfO (a:Ty):∀ (ps:H (G×Cel)) {xs:H a.den} {u:Ups} {x},j7m rd a xs u ps=B x→j7m rd' a xs u ps=B x
 | [],_,_,_,h=>h
 | (i,c)::r,xs,u,x,h=>by
  simp only [j7m] at h ⊢
  split at h
  ·rename_i hd
   rw [jfN hle hd]
   dsimp only
   split at h
   ·rename_i hi;simp only [hi,if_true];exact jfO a r h
   ·simp at h
  ·simp at h
theorem jtD {t:O Ty} {l:Leaf} {x} (h:lenC rd t l=B x):lenC rd' t l=B x:=by
 unfold lenC at h ⊢
 split at h
 ·exact h
 ·split at h
  ·rename_i hk;rw [hle.live hk];exact h
  ·rename_i hk;rw [hle.live hk];exact h
  ·simp at h
 ·exact h
 ·exact h
 ·split at h
  ·rename_i hk;rw [hle.live hk];exact h
  ·simp at h
 ·split at h
  ·rename_i hk;rw [hle.live hk];exact h
  ·simp at h
 ·simp at h
theorem jtE {e:G} {a:Ty} {s l:Leaf} {x} (h:appH rd e a s l=B x):appH rd' e a s l=B x:=by
 unfold appH at h ⊢
 split at h
 ·split at h
  ·rename_i hkk
   rw [if_pos hkk]
   split at h
   ·rename_i hk;rw [hle.live hk];exact h
   ·simp at h
  ·simp at h
 ·simp at h
omit hle in
theorem jtF {e e':G} {a a':Ty} {s l:Leaf} {x} (h:appS rd e a s=B x):appH rd' e' a' s l=none:=by
 unfold appS at h
 split at h
 ·rfl
 ·rfl
 ·simp at h
omit hle in
theorem jtG {fr fr':Ç} (hf:fr=X→fr'=X) {e:G} {a:Ty} {n len:G} {ps:H (G×Cel)} {x} (h:one1 fr e a n len ps=B x):one1 fr' e a n len ps=B x:=by
 unfold one1 at h ⊢
 split at h
 ·split at h
  ·split at h
   ·rename_i hc
    rw [if_pos ⟨hc.1,hc.2.1,hc.2.2.1,hf hc.2.2.2.1,hc.2.2.2.2⟩];exact h
   ·simp at h
  ·simp at h
 ·simp at h
omit hle in
theorem jtH {rdf rdf':G→BS} (hlf:RdLe rdf rdf') {e:G} {a:Ty} {l:Leaf} {x} (h:rowS rdf e a l=B x):rowS rdf' e a l=B x:=by
 unfold rowS at h ⊢
 split at h
 ·exact h
 ·split at h
  ·rename_i hk;rw [hlf.live hk];exact h
  ·simp at h
 ·simp at h
theorem jtI {rdf rdf':G→BS} (hlf:RdLe rdf rdf') {e:G} {a:Ty} {n:G} {s l:Leaf} {x} (h:appN rd rdf e a n s l=B x):appN rd' rdf' e a n s l=B x:=by
 unfold appN at h ⊢
 split at h
 ·split at h
  ·rename_i hk
   rw [hlf.live hk]
   dsimp only
   split at h
   ·rename_i hr
    rw [jtH hlf hr]
    dsimp only
    split at h
    ·rename_i hc;rw [if_pos ⟨hc.1,hc.2.1,hc.2.2.1,hle.free hc.2.2.2⟩];exact h
    ·simp at h
   ·simp at h
  ·simp at h
 ·simp at h
omit hle in
theorem jsa {rdf:G→BS} {e e':G} {a a':Ty} {n:G} {s l:Leaf} {x} (h:appN rd rdf e a n s l=B x):appH rd' e' a' s l=none:=by
 unfold appN at h
 split at h
 ·unfold appH;split
  ·rename_i hc;cases hc
  ·rfl
 ·simp at h
omit hle in
theorem jtJ {rdf' rd0:G→BS} (hsub:∀ k,rdf' k = .gone∨rdf' k=rd0 k) {e:G} {a a':Ty} {n:G} {s l:Leaf} {x} (h:appX rd0 a l=B x):appN rd rdf' e a' n s l=none:=by
 unfold appN
 split
 ·rename_i k
  unfold appX at h
  dsimp only at h
  split at h
  ·rename_i hk
   rcases hsub k with h1 | h1
   ·rw [h1]
   ·rw [h1,hk]
  ·simp at h
 ·rfl
theorem jpI {ti:TyI} {l m:Leaf} {lo hi:O Leaf} {x} (h:jle rd ti l lo hi m=B x):jle rd' ti l lo hi m=B x:=by
 unfold jle at h ⊢
 split at h
 ·split at h
  ·rename_i hk;rw [hle.live hk];exact h
  ·simp at h
 ·simp at h
theorem jtK {e:G} {a:Ty} {l:Leaf} {x} (h:appS rd e a l=B x):appS rd' e a l=B x:=by
 unfold appS at h ⊢
 split at h
 ·split at h
  ·rename_i hk;rw [hle.live hk];exact h
  ·simp at h
 ·exact h
 ·simp at h
theorem jjC {a:Ty} {l:Leaf} {x} (h:appX rd a l=B x):appX rd' a l=B x:=by
 unfold appX at h ⊢
 split at h
 ·split at h
  ·rename_i hk;rw [hle.live hk];exact h
  ·simp at h
 ·exact h
 ·exact h
 ·split at h
  ·rename_i hk;rw [hle.live hk];exact h
  ·simp at h
 ·simp at h
theorem jsb {t:O Ty} {l m:Leaf} {x} (h:jrP rd t l m=B x):jrP rd' t l m=B x:=by
 unfold jrP at h ⊢
 split at h
 ·split at h
  ·rename_i hk
   rw [hle.live hk]
   dsimp only
   split at h
   ·rename_i ht
    rw [if_pos ht]
    split at h
    ·rename_i hy;rw [jjC hle hy];exact h
    ·simp at h
   ·simp at h
  ·simp at h
 ·simp at h
theorem jpJ {t:O Ty} {l:Leaf} {x} (h:jlf rd t l=B x):jlf rd' t l=B x:=by
 unfold jlf at h ⊢
 split at h
 ·split at h
  ·rename_i hk;rw [hle.live hk];exact h
  ·simp at h
 ·simp at h
theorem jiY:∀ (ls:H Leaf) {x},tvs rd ls=B x→tvs rd' ls=B x
 | [],_,h=>h
 | l::ls,x,h=>by
  simp only [tvs] at h ⊢
  split at h
  ·rename_i hr
   rw [jiY ls hr]
   dsimp only
   split at h
   ·exact h
   ·split at h
    ·rename_i hk;rw [hle.live hk];exact h
    ·simp at h
   ·simp at h
  ·simp at h
theorem jlA:∀ (cs:H Cel) {x},jnv rd cs=B x→jnv rd' cs=B x
 | [],_,h=>h
 | c::cs,x,h=>by
  simp only [jnv] at h ⊢
  split at h
  ·rename_i hr
   rw [jlA cs hr]
   dsimp only
   split at h
   ·exact h
   ·split at h
    ·rename_i hk
     rw [hle.live hk]
     dsimp only
     split at h
     ·rename_i ht;rw [jiY hle _ ht];exact h
     ·simp at h
    ·simp at h
   ·simp at h
  ·simp at h
end
theorem jpK {rd rd' rdf rdf':G→BS} (hle:RdLe rd rd') (hlf:RdLe rdf rdf') {n:G} {c:Cel} {l:Leaf} {x} (h:jib rd rdf n c l=B x):jib rd' rdf' n c l=B x:=by
 unfold jib at h ⊢
 split at h
 ·split at h
  ·rename_i hk;rw [hle.live hk];exact h
  ·rename_i hk;rw [hle.live hk];exact h
  ·simp at h
 ·split at h
  ·rename_i hk
   rw [hle.live hk]
   dsimp only
   split at h
   ·split at h
    ·rename_i hi
     rw [if_pos hi]
     split at h
     ·rename_i hg;rw [jgE hlf _ hg];exact h
     ·simp at h
    ·simp at h
   ·simp at h
  ·rename_i hk
   rw [hle.live hk]
   dsimp only
   split at h
   ·split at h
    ·rename_i hi
     rw [if_pos hi]
     split at h
     ·rename_i hg;rw [jgE hlf _ hg];exact h
     ·simp at h
    ·simp at h
   ·simp at h
  ·rename_i hk;rw [hle.live hk];exact h
  ·simp at h
 ·simp at h
theorem jpL {par:G→Ç} {rd rd':G→BS} (hle:RdLe rd rd') {ti:TyI} {n:G} {l:Leaf} {lo hi:O Leaf} {x} (h:jld par rd ti n l lo hi=B x):jld par rd' ti n l lo hi=B x:=by
 unfold jld at h ⊢
 split at h
 ·exact h
 ·split at h
  ·split at h
   ·rename_i hk;rw [hle.live hk];exact h
   ·simp at h
  ·split at h
   ·rename_i hk
    rw [hle.live hk]
    dsimp only
    split at h
    ·rename_i hty
     rw [if_pos hty]
     split at h
     ·split at h
      ·rename_i hp
       rw [if_pos hp];exact h
      ·rename_i hp
       rw [if_neg hp]
       split at h
       ·rename_i hl
        rw [if_pos hl]
        split at h
        ·rename_i hf;rw [if_pos (hle.free hf)];exact h
        ·simp at h
       ·rename_i hl
        rw [if_neg hl];exact h
     ·simp at h
    ·simp at h
   ·simp at h
 ·split at h
  ·rename_i hk;rw [hle.live hk];exact h
  ·simp at h
 ·simp at h
theorem jsc {rd rd' rdf rdf':G→BS} (hle:RdLe rd rd') (hlf:RdLe rdf rdf') {t:O TyI} {mv rl:Ç} {c:Cel} {x} (h:jnw rd rdf t mv rl c=B x):jnw rd' rdf' t mv rl c=B x:=by
 unfold jnw at h ⊢
 split at h
 ·split at h
  ·rename_i hk
   rw [hle.live hk]
   dsimp only
   split at h
   ·rename_i ht;rw [jiY hlf _ ht];exact h
   ·simp at h
  ·rename_i hk
   rw [hle.live hk]
   dsimp only
   split at h
   ·rename_i ht;rw [jiY hlf _ ht];exact h
   ·simp at h
  ·simp at h
 ·exact h
 ·exact h
 ·split at h
  ·cases mv with
   | true=>
    simp only [jc] at h ⊢
    split at h
    ·rename_i hk;rw [hlf.live hk];exact h
    ·simp at h
   | false=>
    simp only [jd] at h ⊢
    split at h
    ·rename_i hk;rw [hle.live hk];exact h
    ·simp at h
  ·split at h
   ·rename_i hk;rw [hlf.live hk];exact h
   ·simp at h
 ·split at h
  ·split at h
   ·split at h
    ·rename_i hd;rw [jfN hlf hd];exact h
    ·simp at h
   ·simp at h
  ·simp at h
theorem jfP {rd rd' rdf rdf':G→BS} (hle:RdLe rd rd') (hlf:RdLe rdf rdf') {T:G→O TyI} {mv:Ç}:∀ (cs:H Cel) {ts:H G} {ms:H Ç} {x},jce rd rdf T mv ts ms cs=B x→jce rd' rdf' T mv ts ms cs=B x
 | [],_,_,_,h=>h
 | c::cs,ts,ms,x,h=>by
  simp only [jce] at h ⊢
  split at h
  ·rename_i ha
   rw [jsc hle hlf ha]
   dsimp only
   split at h
   ·rename_i hr;rw [jfP hle hlf cs hr];exact h
   ·simp at h
  ·simp at h
theorem jtL {rd rd' rdf rdf':G→BS} (hle:RdLe rd rd') (hlf:RdLe rdf rdf') {n m:G} {us:Ups} {fs:H Bk} {os:H Out} {x} (h:mkHd rd rdf n us fs m os=B x):mkHd rd' rdf' n us fs m os=B x:=by
 unfold mkHd at h ⊢
 split at h
 ·split at h
  ·split at h
   ·rename_i hf
    simp only [ji] at hf
    rw [if_pos (by simp only [ji];exact ⟨hle.free hf.1,hlf.isLive hf.2⟩)]
    exact h
   ·simp at h
  ·simp at h
 ·simp at h
theorem jlB {rd rd' rdf rdf':G→BS} (hle:RdLe rd rd') (hlf:RdLe rdf rdf') {n:G} {us:Ups} {fs:H Bk} {r:Ret} {x} (h:jm1 rd rdf n us fs r=B x):jm1 rd' rdf' n us fs r=B x:=by
 unfold jm1 at h ⊢
 split at h
 ·exact jtL hle hlf h
 ·unfold jsU at h ⊢
  split at h
  ·split at h
   ·rename_i hf
    simp only [ji] at hf
    rw [if_pos (by simp only [ji];exact ⟨hf.1,jw.2 fun e he=>hle.free (jw.1 hf.2 e he)⟩)]
    exact h
   ·simp at h
  ·simp at h
 ·split at h
  ·split at h
   ·split at h
    ·rename_i hf
     rw [if_pos (jw.2 fun e he=>hle.free (jw.1 hf e he))]
     exact h
    ·simp at h
   ·simp at h
  ·simp at h
inductive ActLe:Act→Act→Prop
 | val (chk:Ç) (s:Slot) (u:Ups):ActLe (.val chk s u) (.val chk s u)
 | call (f:G) (args:H Arg) (mk mk':Ret→O (Slot×Ups)):(∀ r x,mk r=B x→mk' r=B x)→ActLe (.call f args mk) (.call f args mk')
theorem ActLe.refl (x:Act):ActLe x x:=by cases x with
 | val chk s u=>exact .val chk s u
 | call f args mk=>exact .call f args mk mk fun _ _ h=>h
theorem jlC {x y:O Leaf} (h:∀ z,x=B z→y=B z) {r:Act} (hr:jfG x=B r):jfG y=B r:=by
 cases x with
 | none=>simp [jfG] at hr
 | some z=>rw [h z rfl];exact hr
theorem jtM {x y:O (Ç×Leaf)} (h:∀ z,x=B z→y=B z) {r:Act} (hr:oChk x=B r):oChk y=B r:=by
 cases x with
 | none=>simp [oChk] at hr
 | some z=>rw [h z rfl];exact hr
theorem jnY {rd rd':G→BS} (hle:RdLe rd rd') {t:G} {k v:Ty} {x y:Leaf} {z} (h:mapC rd t k v x y=B z):mapC rd' t k v x y=B z:=by
 unfold mapC at h ⊢
 split at h
 ·split at h
  ·rename_i hb
   simp only [hle.live hb]
   exact h
  ·simp at h
 ·simp at h
theorem jlD {E:Env} {ev:Ü→Slot} {rd rd':G→BS} (hl0:RdLe rd rd') {act:H (G×Ç)} {o:Æ} {A:Act} (h:j42 E ev rd act o=B A):∃ A',j42 E ev rd' act o=B A'∧ActLe A A':=by
 have hle:=hl0.msk
 have hlf:=hle.rdf E.np
 have hsub:∀ k,(if parK E.np k then BS.gone else mskM rd' k) = .gone∨(if parK E.np k then BS.gone else mskM rd' k)=mskM rd' k:=fun k=>by by_cases hp:parK E.np k=X<;>simp [hp]
 have same:j42 E ev rd' act o=B A→∃ A',j42 E ev rd' act o=B A'∧ActLe A A':=fun h=>⟨A,h,.refl A⟩
 obtain ⟨dst,op,type,pos,after,guard⟩:=o
 cases op
 case alloc t=>
  refine same ?_
  simp only [j42] at h ⊢
  split at h
  ·split at h
   ·rename_i hf;simp only [hle.free hf,if_true];exact h
   ·simp at h
  ·simp at h
 case box t x=>
  refine same ?_
  simp only [j42] at h ⊢
  split at h
  ·rename_i hf;simp only [hle.free hf,if_true];exact h
  ·simp at h
 case build t ps=>
  refine same ?_
  simp only [j42] at h ⊢
  split at h
  ·split at h
   ·split at h
    ·rename_i hi;simp only [hi,if_true];exact h
    rename_i hi
    rw [if_neg hi]
    split at h
    ·rename_i hb;rw [jfO hlf _ _ hb];exact h
    ·simp at h
   ·exact h
   ·simp at h
  ·simp at h
 case buildSlice t n ps=>
  refine same ?_
  simp only [j42] at h ⊢
  split at h
  ·split at h
   ·split at h
    ·rename_i hb1
     rw [if_pos hb1]
     exact jtG hle.free h
    rename_i hb1
    rw [if_neg hb1]
    split at h
    ·simp at h
    ·rename_i hn
     simp only [hn,zd]
     split at h
     ·rename_i hb
      rw [jfO hlf _ _ hb]
      dsimp only
      split at h
      ·rename_i hf;simp only [hle.free hf,if_true];exact h
      ·simp at h
     ·simp at h
   ·simp at h
  ·simp at h
 case load t x=>
  refine same ?_
  simp only [j42] at h ⊢
  split at h
  ·split at h
   ·rename_i hla
    split at h
    ·rename_i hg
     rw [jpG hle hla]
     dsimp only
     rw [jlz hlf _ hg]
     exact h
    ·simp at h
   ·rename_i hla
    cases hlc:jhw (mskM rd) _ (lf ((ev x).cel act)) with
    | none=>rw [hlc] at h;simp [oCel] at h
    | some c=>
     rw [jpH hle hla hlc,js9 hle hlc]
     rw [hlc] at h
     exact h
  ·simp at h
 case store t x y=>
  refine same ?_
  simp only [j42] at h ⊢
  split at h
  ·split at h
   ·rename_i hs;rw [jpK hle hlf hs];exact h
   ·simp at h
  ·simp at h
 case nilCheck x=>
  refine same ?_
  simp only [j42] at h ⊢
  split at h
  ·split at h
   ·rename_i hl;simp only [hle.isLive hl,if_true];exact h
   ·simp at h
  ·split at h
   ·rename_i hl;simp only [hle.isLive hl,if_true];exact h
   ·simp at h
  ·exact h
  ·simp at h
 case makeFunc fn first captured=>
  refine same ?_
  cases fn with
  | func f=>
   simp only [j42] at h ⊢
   split at h
   ·rename_i hf
    simp only [hf,if_true]
    split at h
    ·rename_i hcr
     simp only [hcr,if_true]
     exact h
    ·rename_i hcr
     simp only [hcr]
     split at h
     ·rename_i hc;rw [jlA hlf _ hc];exact h
     ·simp at h
   ·simp at h
  | _=>simp [j42] at h
 case fieldAddr t x i=>
  refine same ?_
  simp only [j42] at h ⊢
  split at h
  ·exact jlC (fun z hz=>jpE hle hz) h
  ·simp at h
 case indexAddr t x i=>
  refine same ?_
  simp only [j42] at h ⊢
  split at h
  ·exact jtM (fun z hz=>jpF hle hz) h
  ·simp at h
 case call c=>
  simp only [j42] at h ⊢
  cases hc:c.callee with
  | invoke r m=>simp [hc] at h
  | value f=>
   simp only [hc] at h ⊢
   split at h
   ·split at h
    ·rename_i ha
     rw [jfP hl0 hlf _ ha]
     dsimp only
     split at h
     ·rename_i hb
      simp only [hb,if_true]
      simp only [jb] at h;subst h
      exact ⟨_,rfl,.call _ _ _ _ fun r x hx=>jlB hle hlf hx⟩
     ·simp at h
    ·simp at h
   ·split at h
    ·rename_i ha
     rw [jfP hl0 hlf _ ha]
     dsimp only
     split at h
     ·rename_i hb
      simp only [hb,if_true]
      simp only [jb] at h;subst h
      exact ⟨_,rfl,.call _ _ _ _ fun r x hx=>jlB hle hlf hx⟩
     ·simp at h
    ·simp at h
   ·simp at h
  | builtin b=>
   simp only [hc] at h ⊢
   cases b
   case len=>
    refine ⟨A,?_,.refl A⟩
    dsimp only at h ⊢
    split at h
    ·split at h
     ·exact jlC (fun z hz=>jtD hle hz) h
     ·simp at h
    ·simp at h
   case append=>
    refine ⟨A,?_,.refl A⟩
    dsimp only at h ⊢
    split at h
    ·split at h
     ·rename_i ht
      rw [if_pos ht]
      split at h
      ·split at h
       ·rename_i hty
        split at h
        ·rename_i hh
         rw [jtE hle hh];exact h
        split at h
        ·rename_i hh
         rw [jsa hh]
         dsimp only
         rw [jtI hle hlf hh];exact h
        split at h
        ·rename_i h1 h2
         rw [jtF h1]
         dsimp only
         rw [jtJ hsub (jjC hle h2),jtK hlf h1,jjC hle h2]
         dsimp only
         split at h
         ·rename_i hf;simp only [hle.free hf,if_true];exact h
         ·simp at h
        ·simp at h
       ·simp at h
      ·simp at h
     ·simp at h
    ·simp at h
   case copy=>
    refine ⟨A,?_,.refl A⟩
    dsimp only at h ⊢
    split at h
    ·split at h
     ·rename_i ht
      rw [if_pos ht]
      split at h
      ·split at h
       ·rename_i hq;rw [jsb hle hq];exact h
       ·simp at h
      ·simp at h
     ·simp at h
    ·simp at h
   case clear=>
    refine ⟨A,?_,.refl A⟩
    dsimp only at h ⊢
    split at h
    ·split at h
     ·split at h
      ·rename_i hq;rw [jpJ hle hq];exact h
      ·simp at h
     ·simp at h
    ·simp at h
   all_goals exact ⟨A,h,.refl A⟩
 case slice t x lo hi mx=>
  refine same ?_
  cases mx with
  | some m=>
   simp only [j42] at h ⊢
   split at h
   ·split at h
    ·rename_i hq;rw [jpI hle hq];exact h
    ·simp at h
   ·simp at h
  | none=>
   simp only [j42] at h ⊢
   split at h
   ·split at h
    ·rename_i hq;rw [jpL hle hq];exact h
    ·simp at h
   ·simp at h
 case makeMap t x=>
  refine same ?_
  cases x with
  | some m=>simp [j42] at h
  | none=>
   simp only [j42] at h ⊢
   split at h
   ·split at h
    ·rename_i hf;simp only [hle.free hf,if_true];exact h
    ·simp at h
   ·simp at h
 case lookup t x i ok=>
  refine same ?_
  simp only [j42] at h ⊢
  split at h
  ·split at h
   ·rename_i hq;rw [jnY hl0 hq];exact h
   ·simp at h
  ·simp at h
 case mapUpdate t x i y=>
  refine same ?_
  simp only [j42] at h ⊢
  split at h
  ·split at h
   ·rename_i hq hd;rw [jnY hl0 hq,jfN hlf hd];exact h
   ·simp at h
  ·simp at h
 all_goals exact ⟨A,h,.refl A⟩
section
variable {N:NT} {np:G} {S0:j0e} {w0:À} {refs:Refs} {σ:St} {a:Á} {w:À} {S:j0e} {γ:G→Y}
def CFun (C:G→H Arg→(R:Type)→(Ret→O R)→O R):Prop:=
 ∀ f args,∃ o:O Ret,∀ (R:Type) (k:Ret→O R),C f args R k=o.bind k
theorem jjD {E:Env} {ev ev':Ü→Slot} {rd:G→BS} {act:H (G×Ç)} {o:Æ} (h:∀ x∈o.op.operands,ev x=ev' x):j42 E ev rd act o=j42 E ev' rd act o:=by
 have pairs:∀ ps:Ã (G×Ü),(∀ x∈ps.toList.map (·.2),ev x=ev' x)→
   (ps.toList.map fun p=>(p.1,(ev p.2).cel act))=(ps.toList.map fun p=>(p.1,(ev' p.2).cel act)):=fun ps hp=>
  ñ fun p hm=>by simp only [hp p.2 (kp.2 ⟨p,hm,rfl⟩)]
 have args:∀ ps:Ã Ü,(∀ x∈ps,ev x=ev' x)→(ps.toList.map fun p=>(ev p).cel act)=(ps.toList.map fun p=>(ev' p).cel act):=fun ps hp=>
  ñ fun p hm=>by rw [hp p (by simpa using hm)]
 obtain ⟨dst,op,type,pos,after,guard⟩:=o
 cases op<;>simp only [Op.operands] at h<;>simp only [j42]
 case build t ps=>rw [pairs ps fun x hx=>h x (by simpa using hx)]
 case buildSlice t n ps=>rw [pairs ps fun x hx=>h x (by simpa using hx)]
 case makeFunc fn first captured=>
  have e:=args captured fun x hx=>h x (by simp [hx])
  cases fn with
  | func f=>simp only [e]
  | _=>rfl
 case call c=>
  have ha:=args c.args (fun x hx=>h x (by simp [Call.operands,hx]))
  have hx1:∀ x∈c.args.toList,ev x=ev' x:=fun x hx=>h x (by simp [Call.operands];right;simpa using hx)
  simp only [ha]
  cases hc:c.callee with
  | value f=>
   have hf:ev f=ev' f:=h f (by simp [Call.operands,hc])
   simp only [hf]
  | invoke r m=>rfl
  | builtin b=>
   cases b<;>simp only
   case len=>
    split
    ·rename_i x t hxs hts
     have:=hx1 x (by rw [hxs];simp)
     simp only [this]
    ·rfl
   case append=>
    split
    ·rename_i t t' s x hts hxs
     have e1:=hx1 s (by rw [hxs];simp)
     have e2:=hx1 x (by rw [hxs];simp)
     simp only [e1,e2]
    ·rfl
   case copy=>
    split
    ·rename_i t t' s x hts hxs
     have e1:=hx1 s (by rw [hxs];simp)
     have e2:=hx1 x (by rw [hxs];simp)
     simp only [e1,e2]
    ·rfl
   case clear=>
    split
    ·rename_i t x hts hxs
     have e1:=hx1 x (by rw [hxs];simp)
     simp only [e1]
    ·rfl
 case slice t x lo hi mx=>
  have e1:=h x smp_
  have eo:∀ y:O Ü,(∀ z,y=B z→ev z=ev' z)→(y.map fun x=>lf ((ev x).cel act))=(y.map fun x=>lf ((ev' x).cel act)):=by
   intro y hy
   cases y with
   | none=>rfl
   | some z=>simp only [kz,hy z rfl]
  have e2:=eo lo (fun z hz=>h z (by simp [hz]))
  have e3:=eo hi (fun z hz=>h z (by simp [hz]))
  cases mx with
  | some m=>
   have e4:=h m smp_
   simp only [e1,e2,e3,e4]
  | none=>simp only [e1,e2,e3]
 case makeMap t x=>cases x<;>rfl
 all_goals (first | rfl | (simp_all;done))
def ShEq:BS→BS→Prop
 | .live (.cell _ _),.live (.cell _ _)=>True
 | .live (.lst e a xs _),.live (.lst e' a' xs' _)=>e=e'∧a=a'∧xs.length=xs'.length
 | .live (.arr n a _),.live (.arr n' a' _)=>n=n'∧a=a'
 | .live (.row e a n _),.live (.row e' a' n' _)=>e=e'∧a=a'∧n=n'
 | .free,.free=>True
 | .gone,.gone=>True
 | _,_=>False
theorem ShEq.refl:∀ b:BS,ShEq b b
 | .live (.cell _ _)=>trivial
 | .live (.lst _ _ _ _)=>⟨rfl,rfl,rfl⟩
 | .live (.arr _ _ _)=>⟨rfl,rfl⟩
 | .live (.row _ _ _ _)=>⟨rfl,rfl,rfl⟩
 | .free=>trivial
 | .gone=>trivial
theorem ShEq.symm {b c:BS} (h:ShEq b c):ShEq c b:=by
 cases b with
 | free=>cases c<;>simp_all [ShEq]
 | gone=>cases c<;>simp_all [ShEq]
 | live b=>
  cases c with
  | free=>cases b<;>simp [ShEq] at h
  | gone=>cases b<;>simp [ShEq] at h
  | live c=>
   cases b<;>cases c<;>simp only [ShEq] at h ⊢
   ·exact ⟨h.1.symm,h.2.1.symm,h.2.2.symm⟩
   ·exact ⟨h.1.symm,h.2.symm⟩
   ·exact ⟨h.1.symm,h.2.1.symm,h.2.2.symm⟩
theorem ShEq.trans {b c d:BS} (h:ShEq b c) (h':ShEq c d):ShEq b d:=by
 cases b with
 | free=>cases c with
  | free=>exact h'
  | gone=>simp [ShEq] at h
  | live c=>cases c<;>simp [ShEq] at h
 | gone=>cases c with
  | gone=>exact h'
  | free=>simp [ShEq] at h
  | live c=>cases c<;>simp [ShEq] at h
 | live b=>cases c with
  | free=>cases b<;>simp [ShEq] at h
  | gone=>cases b<;>simp [ShEq] at h
  | live c=>cases d with
   | free=>cases c<;>simp [ShEq] at h'
   | gone=>cases c<;>simp [ShEq] at h'
   | live d=>
    cases b<;>cases c<;>simp only [ShEq] at h<;>cases d<;>simp only [ShEq] at h' ⊢
    ·exact ⟨h.1.trans h'.1,h.2.1.trans h'.2.1,h.2.2.trans h'.2.2⟩
    ·exact ⟨h.1.trans h'.1,h.2.trans h'.2⟩
    ·exact ⟨h.1.trans h'.1,h.2.1.trans h'.2.1,h.2.2.trans h'.2.2⟩
theorem ShEq.mask {rd rd':G→BS} {M:H G} (h:∀ k,M.contains k=U→ShEq (rd k) (rd' k)) (k:G):ShEq (jb4 M rd k) (jb4 M rd' k):=by
 unfold jb4
 split
 ·trivial
 ·rename_i hc;exact h k (by simpa using hc)
theorem jgF {b c:BS} (h:ShEq b c):isLive b=isLive c:=by
 cases b with
 | free=>cases c<;>simp_all [ShEq,isLive]
 | gone=>cases c<;>simp_all [ShEq,isLive]
 | live b=>cases c with
  | free=>cases b<;>simp [ShEq] at h
  | gone=>cases b<;>simp [ShEq] at h
  | live c=>rfl
theorem jtN {rd rd':G→BS} (h:∀ k,ShEq (rd k) (rd' k)) (ti:TyI) (l i:Leaf):jgv rd ti l i=jgv rd' ti l i:=by
 unfold jgv
 split
 ·rename_i k _ _
  have hk:=h k
  generalize rd k=b at hk
  generalize rd' k=c at hk
  cases b with
  | free=>cases c<;>simp_all [ShEq]
  | gone=>cases c<;>simp_all [ShEq]
  | live b=>cases c with
   | free=>cases b<;>simp [ShEq] at hk
   | gone=>cases b<;>simp [ShEq] at hk
   | live c=>
    cases b with
    | lst e a xs f=>cases c with
     | lst e' a' xs' f'=>
      simp only [ShEq] at hk
      obtain ⟨rfl,rfl,hl⟩:=hk
      dsimp only
      rw [hl]
     | cell _ _=>simp [ShEq] at hk
     | arr _ _ _=>simp [ShEq] at hk
     | row _ _ _ _=>simp [ShEq] at hk
    | cell _ _=>cases c<;>first | rfl | (simp [ShEq] at hk)
    | arr _ _ _=>cases c<;>first | rfl | (simp [ShEq] at hk)
    | row e a n _=>cases c with
     | row e' a' n' _=>
      simp only [ShEq] at hk
      obtain ⟨rfl,rfl,rfl⟩:=hk
      rfl
     | _=>simp [ShEq] at hk
 ·rfl
 ·rename_i k _ _
  have hk:=h k
  generalize rd k=b at hk
  generalize rd' k=c at hk
  cases b with
  | free=>cases c<;>simp_all [ShEq]
  | gone=>cases c<;>simp_all [ShEq]
  | live b=>cases c with
   | free=>cases b<;>simp [ShEq] at hk
   | gone=>cases b<;>simp [ShEq] at hk
   | live c=>
    cases b with
    | arr n a xs=>cases c with
     | arr n' a' xs'=>
      simp only [ShEq] at hk
      obtain ⟨rfl,rfl⟩:=hk
      rfl
     | cell _ _=>simp [ShEq] at hk
     | lst _ _ _ _=>simp [ShEq] at hk
     | row _ _ _ _=>simp [ShEq] at hk
    | cell _ _=>cases c<;>first | rfl | (simp [ShEq] at hk)
    | lst _ _ _ _=>cases c<;>first | rfl | (simp [ShEq] at hk)
    | row _ _ _ _=>cases c<;>first | rfl | (simp [ShEq] at hk)
 ·rename_i k _ _ _
  have hk:=h k
  generalize rd k=b at hk
  generalize rd' k=c at hk
  cases b with
  | free=>cases c<;>simp_all [ShEq]
  | gone=>cases c<;>simp_all [ShEq]
  | live b=>cases c with
   | free=>cases b<;>simp [ShEq] at hk
   | gone=>cases b<;>simp [ShEq] at hk
   | live c=>
    cases b with
    | lst e a xs f=>cases c with
     | lst e' a' xs' f'=>
      simp only [ShEq] at hk
      obtain ⟨rfl,rfl,hl⟩:=hk
      dsimp only
      rw [hl]
     | cell _ _=>simp [ShEq] at hk
     | arr _ _ _=>simp [ShEq] at hk
     | row _ _ _ _=>simp [ShEq] at hk
    | cell _ _=>cases c<;>first | rfl | (simp [ShEq] at hk)
    | arr _ _ _=>cases c<;>first | rfl | (simp [ShEq] at hk)
    | row _ _ _ _=>cases c<;>first | rfl | (simp [ShEq] at hk)
 ·rfl
theorem jtO {rd rd':G→BS} (h:∀ k,ShEq (rd k) (rd' k)) (ti:TyI) (i:G) (l:Leaf):jdS rd ti i l=jdS rd' ti i l:=by
 unfold jdS
 split
 ·rw [jgF (h _)]
 ·rw [jgF (h _)]
 ·rfl
 ·rfl
theorem ShEq.msk {rd rd':G→BS} {k:G} (h:ShEq (rd k) (rd' k)):ShEq (mskM rd k) (mskM rd' k):=by
 unfold mskM
 generalize rd k=a at h
 generalize rd' k=b at h
 cases a with
 | free=>cases b<;>simp_all [ShEq]
 | gone=>cases b<;>simp_all [ShEq]
 | live a=>
  cases b with
  | free=>cases a<;>simp [ShEq] at h
  | gone=>cases a<;>simp [ShEq] at h
  | live b=>
   cases a<;>cases b<;>simp only [ShEq] at h<;>dsimp only
   ·trivial
   ·obtain ⟨rfl,rfl,h3⟩:=h
    rename_i e _ _ _ _ _
    cases isM e
    ·exact ⟨rfl,rfl,h3⟩
    ·trivial
   ·exact h
   ·exact h
theorem jvV {E:Env} {ev:Ü→Slot} {rd rd':G→BS} {act:H (G×Ç)} {o:Æ} (ha:jee o=X) (h:∀ k,ShEq (rd k) (rd' k)):j42 E ev rd act o=j42 E ev rd' act o:=by
 have h:∀ k,ShEq (mskM rd k) (mskM rd' k):=fun k=>(h k).msk
 obtain ⟨dst,op,type,pos,after,guard⟩:=o
 cases op<;>simp only [jee,qf] at ha
 ·simp only [j42]
  split
  ·rw [jgF (h _)]
  ·rw [jgF (h _)]
  ·rfl
  ·rfl
 ·simp only [j42]
  split
  ·rw [jtO h]
  ·rfl
 ·simp only [j42]
  split
  ·rw [jtN h]
  ·rfl
theorem jwP:∀ (u:Ups) (σ:St),(∀ e∈u,ShEq (σ.bx e.1) e.2)→∀ k,ShEq (σ.bx k) ((σ.upd u).bx k)
 | [],σ,_,k=>ShEq.refl _
 | e::u,σ,h,k=>by
  have h0:∀ k,ShEq (σ.bx k) ((σ.setB e.1 e.2).bx k):=by
   intro k
   simp only [St.setB]
   split
   ·rename_i hk;rw [hk];exact h e smp_
   ·exact ShEq.refl _
  have h1:=jwP u (σ.setB e.1 e.2) (fun x hx=>(h0 x.1).symm.trans (h x (by simp [hx]))) k
  exact (h0 k).trans h1
def UpSh (rd:G→BS) (u:Ups):Prop:=∀ e∈u,ShEq (rd e.1) e.2∧isLive e.2=X
theorem jtP {rd:G→BS} {t:Ty} {l:Leaf} {v:t.den} {u:Ups} (h:j7l rd t l=B (v,u)):UpSh rd u:=by
 unfold j7l at h
 split at h
 ·split at h
  ·simp only [jb,jf] at h;rw [←h.2];intro e he;simp at he
  ·simp at h
 ·split at h
  ·simp only [jb,jf] at h;rw [←h.2];intro e he;simp at he
  ·simp at h
 ·split at h
  ·rename_i hk
   split at h
   ·simp only [jb,jf] at h
    rw [←h.2]
    intro e he
    simp only [qj] at he
    subst he
    dsimp only
    rw [hk]
    exact ⟨⟨rfl,rfl,rfl⟩,rfl⟩
   ·simp at h
  ·simp at h
 ·simp at h
theorem jvW {rd:G→BS} {t:Ty} {l:Leaf} {v:t.den} {u:Ups} (h:jbQ rd t l=B (v,u)):UpSh rd u:=by
 unfold jbQ at h
 split at h
 ·simp only [jb,jf] at h;rw [←h.2];intro e he;simp at he
 ·exact jtP h
theorem UpSh.app {rd:G→BS} {u v:Ups} (h:UpSh rd u) (h':UpSh rd v):UpSh rd (u++v):=by
 intro e he
 rcases js.1 he with he | he
 ·exact h e he
 ·exact h' e he
theorem jtQ {rd:G→BS}:∀ (t:Ty) {ls:H Leaf} {v:t.den} {r:H Leaf} {u:Ups},gath rd t ls=B (v,r,u)→UpSh rd u:=by
 intro t
 induction t with
 | unit=>intro ls v r u h;simp only [gath,jb,jf] at h;rw [←h.2.2];intro e he;simp at he
 | wrap a ih=>
  intro ls v r u h
  simp only [gath] at h
  split at h
  ·rename_i hg
   simp only [jb,jf] at h
   rw [←h.2.2];exact ih hg
  ·simp at h
 | pair a b iha ihb=>
  intro ls v r u h
  simp only [gath] at h
  split at h
  ·rename_i hg
   split at h
   ·rename_i hg2
    simp only [jb,jf] at h
    rw [←h.2.2];exact (iha hg).app (ihb hg2)
   ·simp at h
  ·simp at h
 | arr n a ih=>intro ls v r u h;simp [gath] at h
 | _=>
  intro ls v r u h
  cases ls with
  | nil=>simp [gath] at h
  | cons l ls=>
   simp only [gath] at h
   split at h
   ·rename_i hl
    simp only [jb,jf] at h
    rw [←h.2.2];exact jvW hl
   ·simp at h
theorem jtR {rd rdf:G→BS} (hrdf:RdLe rdf rd) {n:G} {c:Cel} {l:Leaf} {u:Ups} (h:jib rd rdf n c l=B u):UpSh rd u:=by
 have one:∀ (k:G) (b b':Bx),rd k = .live b→ShEq (.live b) (.live b')→UpSh rd [(k,.live b')]:=by
  intro k b b' hk hs e he
  simp only [qj] at he
  subst he
  exact ⟨by rw [hk];exact hs,rfl⟩
 have lift:∀ u,UpSh rdf u→UpSh rd u:=by
  intro u hu e he
  obtain ⟨h1,h2⟩:=hu e he
  rcases hrdf e.1 with hq | hq
  ·rw [hq] at h1;exact ⟨h1,h2⟩
  ·rw [hq] at h1
   cases h3:e.2 with
   | free=>rw [h3] at h2;simp [isLive] at h2
   | gone=>rw [h3] at h2;simp [isLive] at h2
   | live b=>rw [h3] at h1;cases b<;>simp [ShEq] at h1
 unfold jib at h
 split at h
 ·split at h
  ·rename_i hk
   split at h
   ·split at h
    ·simp only [jb] at h;subst h
     exact one _ _ _ hk trivial
    ·simp at h
   ·simp at h
  ·rename_i hk
   split at h
   ·split at h
    ·split at h
     ·split at h
      ·simp only [jb] at h;subst h
       exact one _ _ _ hk ⟨rfl,rfl⟩
      ·simp at h
     ·simp at h
    ·simp at h
   ·simp at h
  ·simp at h
 ·split at h
  ·rename_i hk
   split at h
   ·split at h
    ·split at h
     ·rename_i hg
      split at h
      ·simp at h
      ·simp only [jb] at h;subst h
       exact (lift _ (jtQ _ hg)).app (one _ _ _ hk ⟨rfl,rfl,smp_⟩)
     ·simp at h
    ·simp at h
   ·simp at h
  ·rename_i hk
   split at h
   ·split at h
    ·split at h
     ·rename_i hg
      split at h
      ·simp at h
      ·simp only [jb] at h;subst h
       exact (lift _ (jtQ _ hg)).app (one _ _ _ hk ⟨rfl,rfl⟩)
     ·simp at h
    ·simp at h
   ·simp at h
  ·rename_i hk
   split at h
   ·split at h
    ·simp only [jb] at h;subst h
     exact one _ _ _ hk ⟨rfl,rfl,rfl⟩
    ·simp at h
   ·simp at h
  ·simp at h
 ·simp at h
theorem jz0 (np:G) (rd:G→BS):RdLe (fun k=>if parK np k then .gone else rd k) rd:=by
 intro k
 dsimp only
 split
 ·exact .inr rfl
 ·exact .inl rfl
theorem UpSh.le {rd rd':G→BS} (hle:RdLe rd rd') {u:Ups} (h:UpSh rd u):UpSh rd' u:=by
 intro e he
 obtain ⟨h1,h2⟩:=h e he
 rcases hle e.1 with hq | hq
 ·rw [hq] at h1;exact ⟨h1,h2⟩
 ·rw [hq] at h1
  cases h3:e.2 with
  | free=>rw [h3] at h2;simp [isLive] at h2
  | gone=>rw [h3] at h2;simp [isLive] at h2
  | live b=>rw [h3] at h1;cases b<;>simp [ShEq] at h1
theorem jxS (rd:G→BS):RdLe (mskM rd) rd:=fun k=>jta k
theorem jpM {E:Env} {ev:Ü→Slot} {rd:G→BS} {act:H (G×Ç)} {o:Æ} (ho:jcW o=X) {chk:Ç} {s:Slot} {u:Ups} (h:j42 E ev rd act o=B (.val chk s u)):UpSh rd u:=by
 obtain ⟨dst,op,type,pos,after,guard⟩:=o
 cases op<;>simp only [jcW,qf] at ho
 simp only [j42] at h
 split at h
 ·split at h
  ·rename_i hs
   simp only [jb,Act.val.injEq] at h
   rw [←h.2.2]
   exact (jtR (jz0 E.np (mskM rd)) hs).le (jxS rd)
  ·simp at h
 ·simp at h
theorem jjE {E:Env} {ev:Ü→Slot} {rd:G→BS} {act:H (G×Ç)} {o:Æ} (ho:jcW o=X) {f:G} {args:H Arg} {mk:Ret→O (Slot×Ups)}:j42 E ev rd act o≠B (.call f args mk):=by
 obtain ⟨dst,op,type,pos,after,guard⟩:=o
 cases op<;>simp only [jcW,qf] at ho
 intro h
 simp only [j42] at h
 split at h
 ·split at h
  ·simp at h
  ·simp at h
 ·simp at h
theorem UpSh.unmask {rd:G→BS} {M:H G} {u:Ups} (h:UpSh (jb4 M rd) u):UpSh rd u:=by
 intro e he
 obtain ⟨h1,h2⟩:=h e he
 rcases jmn M rd e.1 with hq | hq
 ·rw [hq] at h1;exact ⟨h1,h2⟩
 ·rw [hq] at h1
  cases h3:e.2 with
  | free=>rw [h3] at h2;simp [isLive] at h2
  | gone=>rw [h3] at h2;simp [isLive] at h2
  | live b=>rw [h3] at h1;cases b<;>simp [ShEq] at h1
end
section
variable {N:NT} {np:G} {S0:j0e} {w0:À} {refs:Refs} {σ:St} {a:Á} {w:À} {S:j0e} {γ:G→Y}
inductive Bef (ops:Ã Æ):G→G→Prop
 | dep {i j:G} {o:Æ}:ops[i]? = B o→j∈jcg o→Bef ops i j
 | trans {i j k:G}:Bef ops i j→Bef ops j k→Bef ops i k
structure DOkR (ops:Ã Æ) (A:H (H G)):Prop where
 lt:∀ i o,ops[i]? = B o→∀ j∈jcg o,j<i
 addr:∀ i o,ops[i]? = B o→jee o=X→∀ k,k∉A.getD i []
 dst:∀ i j oi oj t,ops[i]? = B oi→ops[j]? = B oj→i≠j→oj.dst=B t→oi.dst≠B t∧(t∈oi.looksAt ops→Bef ops i j∨Bef ops j i)
 box:∀ i j oi oj k,ops[i]? = B oi→ops[j]? = B oj→i≠j→k∈A.getD i []→k∈A.getD j []→Bef ops i j∨Bef ops j i
theorem DOkR.bef {ops:Ã Æ} {A:H (H G)} (h:DOkR ops A) {i j:G} (hb:Bef ops i j):j<i:=by
 induction hb with
 | dep ho hj=>exact h.lt _ _ ho _ hj
 | trans _ _ h1 h2=>omega
def ClOk (ops:Ã Æ) (cl:H G):Prop:=∀ i j,(cl.getD i 0).testBit j=X→Bef ops i j
theorem jnZ {ops:Ã Æ} {cls:H G} (hc:ClOk ops cls) {i:G} {o:Æ} (ho:ops[i]? = B o):∀ (l:H G) (m:G),(∀ j∈l,j∈jcg o)→(∀ j,m.testBit j=X→Bef ops i j)→
  ∀ j,(l.foldl (fun m j=>m|||(2^j|||cls.getD j 0)) m).testBit j=X→Bef ops i j
 | [],m,_,hm,j,h=>hm j h
 | x::l,m,hl,hm,j,h=>by
  refine jnZ hc ho l _ (fun j hj=>hl j (by simp [hj])) (fun j hj=> ?_) j h
  simp only [Nat.testBit_or,qs,Nat.testBit_two_pow,jq] at hj
  rcases hj with hj | hj | hj
  ·exact hm j hj
  ·subst hj;exact .dep ho (hl x smp_)
  ·exact .trans (.dep ho (hl x smp_)) (hc x j hj)
theorem jr9 {ops:Ã Æ}:∀ (l:H Æ) (cls:H G),ClOk ops cls→(∀ k o,l[k]? = B o→ops[cls.length+k]? = B o)→ClOk ops (jsY l cls)
 | [],cls,hc,_=>hc
 | o::os,cls,hc,hl=>by
  have ho:ops[cls.length]? = B o:=by have:=hl 0 o rfl;simpa using this
  refine jr9 os _ ?_ (fun k x hk=>by
   have:=hl (k+1) x (by simpa using hk)
   rw [jo,qw]
   rwa [show cls.length+1+k=cls.length+(k+1) by omega])
  intro i j hij
  rcases vi i cls.length with hi | hi | hi
  ·rw [Ë,Ò hi,←Ë] at hij
   exact hc i j hij
  ·subst hi
   rw [Ë,ku (jz _),Nat.sub_self] at hij
   simp only [List.getElem?_cons_zero,ze] at hij
   exact jnZ hc ho (jcg o) 0 (fun _ h=>h) (fun j h=>by simp at h) j hij
  ·rw [Ë,qk sqo_] at hij
   simp at hij
theorem jhK {ops:Ã Æ} {cl:H G} (hc:ClOk ops cl) {i j:G} (h:jnx cl i j=X):i=j∨Bef ops i j∨Bef ops j i:=by
 simp only [jnx,qs,vg] at h
 rcases h with (h | h) | h
 ·exact .inl h
 ·exact .inr (.inl (hc i j h))
 ·exact .inr (.inr (hc j i h))
theorem jpN {ops:Ã Æ} {cl:H G} {A:H (H G)} (hc:ClOk ops cl) (hok:jwJ ops cl A=X):DOkR ops A:=by
 have hz:∀ {i:G} {o:Æ},ops[i]? = B o→(o,i)∈ops.toList.zipIdx:=by
  intro i o ho
  rw [za]
  exact ⟨i,by rw [ï];simp [ho]⟩
 have hemp:∀ i k,k∈A.getD i []→A.isEmpty=false:=by
  intro i k hk
  cases A with
  | nil=>simp at hk
  | cons _ _=>rfl
 have hall:∀ {i:G} {o:Æ},ops[i]? = B o→(∀ j∈jcg o,j<i)∧(A.isEmpty || !jee o||(A.getD i []).isEmpty)=X∧∀ j oj,ops[j]? = B oj→jqS ops cl A i o j oj=true:=by
  intro i o ho
  have:=jw.1 hok (o,i) (hz ho)
  simp only [ji] at this
  exact ⟨fun j hj=>by simpa using jw.1 this.1.1 j hj,this.1.2,fun j oj hoj=>jw.1 this.2 (oj,j) (hz hoj)⟩
 refine ⟨fun i o ho=>(hall ho).1,fun i o ho hadr k hk=> ?_,fun i j oi oj t hi hj hij ht=> ?_,fun i j oi oj k hi hj hij hk hk'=> ?_⟩
 ·have:=(hall ho).2.1
  rw [hemp i k hk,hadr] at this
  simp only [jk,Bool.false_or,List.isEmpty_iff] at this
  rw [this] at hk;simp at hk
 ·have:=(hall hi).2.2 j oj hj
  simp only [jqS,ht,ji] at this
  have h1:=this.1
  simp only [qs,vg,hij,false_or,ji,bne_iff_ne,ne_eq,qd,qi,ko] at h1
  refine ⟨h1.1,fun hm=> ?_⟩
  rcases h1.2 with h | h
  ·exact absurd hm h
  ·exact (jhK hc h).resolve_left hij
 ·have:=(hall hi).2.2 j oj hj
  simp only [jqS,ji] at this
  have h2:=this.2
  rw [hemp i k hk] at h2
  simp only [Bool.false_or,qs] at h2
  rcases h2 with h | h
  ·exact (jhK hc h).resolve_left hij
  ·have:=jw.1 h k hk
   simp only [qi,qd,ko] at this
   exact absurd hk' this
theorem jra {ops:Ã Æ} {cl:H G} {A:H (H G)} (hc:ClOk ops cl) {i:G} {oi:Æ} {k:G} (hm:(jm4 ops cl A i oi).contains k=U) {j:G} {oj:Æ} (hj:ops[j]? = B oj) (hk:k∈A.getD j []) :
  i=j∨Bef ops i j∨Bef ops j i∨(jee oi=X∧jcW oj=X):=by
 have hz:(oj,j)∈ops.toList.zipIdx:=by
  rw [za]
  exact ⟨j,by rw [ï];simp [hj]⟩
 have hne:A.isEmpty=false:=by
  cases A with
  | nil=>simp at hk
  | cons _ _=>rfl
 unfold jm4 at hm
 rw [hne] at hm
 simp only [qf,zd,qi,ko,zg,not_exists,not_and] at hm
 have:=hm (oj,j) hz
 dsimp only at this
 split at this
 ·rename_i h
  simp only [qs,ji] at h
  rcases h with h | h
  ·rcases jhK hc h with h | h | h
   ·exact .inl h
   ·exact .inr (.inl h)
   ·exact .inr (.inr (.inl h))
  ·exact .inr (.inr (.inr h))
 ·exact absurd hk this
inductive DStep (P:Å) (E:Env) (ops:Ã Æ) (M Ai:H G) (o:Æ) (σ:St):St→Prop
 | skip (s:G) (wn v:Ç):j8j ops o=B (s,wn)→σ.sl s = .one (.one (.d .bool v))→v≠wn→DStep P E ops M Ai o σ (σ.setD o.dst .und)
 | skipU (s:G) (wn:Ç):j8j ops o=B (s,wn)→σ.sl s = .und→DStep P E ops M Ai o σ (σ.setD o.dst .und)
 | val (s:Slot) (u:Ups):(o.guard=Â∨∃ s wn,j8j ops o=B (s,wn)∧σ.sl s = .one (.one (.d .bool wn)))→j42 E σ.ev (jb4 M σ.bx) [] o=B (.val X s u)→(∀ e∈u,e.1∈Ai)→
  DStep P E ops M Ai o σ ((σ.upd u).setD o.dst s)
 | call (f:G) (args:H Arg) (mk:Ret→O (Slot×Ups)) (ret:Ret) (s:Slot) (u:Ups):(o.guard=Â∨∃ s wn,j8j ops o=B (s,wn)∧σ.sl s = .one (.one (.d .bool wn)))→
  j42 E σ.ev (jb4 M σ.bx) [] o=B (.call f args mk)→Fun P f→jvP P f args (fun r=>r=ret)→mk ret=B (s,u)→(∀ e∈u,e.1∈Ai)→DStep P E ops M Ai o σ ((σ.upd u).setD o.dst s)
theorem jtS {s:G} {x:Slot} (h:σ.sl s=x):σ.setS s x=σ:=by
 unfold St.setS
 have:(fun j=>if j=s then x else σ.sl j)=σ.sl:=by
  funext j
  split
  ·rename_i hj;subst hj;exact h.symm
  ·rfl
 rw [this]
theorem jtT {u:Ups} {Ai:H G} (h:(u.all fun e=>Ai.contains e.1)=X):∀ e∈u,e.1∈Ai:=fun e he=>by simpa using jw.1 h e he
theorem jjF {P:Å} {E:Env} (hC:j7n P E.C) (hF:CFun E.C) {ops:Ã Æ} {M Ai:H G} {o:Æ} {R:Type} {k:St→O R} {r:R}
  (hg:o.guard=Â∨∃ s wn,j8j ops o=B (s,wn)∧σ.sl s = .one (.one (.d .bool wn))) (h:runD E M Ai σ o k=B r):∃ σ',DStep P E ops M Ai o σ σ'∧k σ'=B r:=by
 unfold runD at h
 split at h
 ·simp at h
 ·rename_i chk s u ho
  split at h
  ·rename_i hb
   cases chk with
   | false=>simp at h
   | true=>exact ⟨_,.val s u hg ho (jtT hb),h⟩
  ·simp at h
 ·rename_i f args mk ho
  obtain ⟨x,hx⟩:=hF f args
  rw [hx] at h
  cases x with
  | none=>simp at h
  | some ret=>
   simp only [ja] at h
   obtain ⟨hf,hspec⟩:=hC f args Ret B ret (by rw [hx];rfl)
   split at h
   ·rename_i s u hmk
    split at h
    ·rename_i hb
     exact ⟨_,.call f args mk ret s u hg ho hf (by
      intro w S vals ha hn hS
      refine (hspec w S vals ha hn hS).mono ?_
      rintro e w' ⟨r',hr',rest⟩
      exact ⟨r',by simpa using hr',rest⟩) hmk (jtT hb),h⟩
    ·simp at h
   ·simp at h
theorem jxT {P:Å} {E:Env} (hC:j7n P E.C) (hF:CFun E.C) {ops:Ã Æ} {M Ai:H G} {o:Æ} {R:Type} {k:St→O R} {r:R}
  (h:jny E ops M Ai σ o k=B r):∃ σ',DStep P E ops M Ai o σ σ'∧k σ'=B r:=by
 unfold jny at h
 split at h
 ·rename_i hg
  exact jjF hC hF (.inl hg) h
 ·split at h
  ·rename_i s wn hg
   split at h
   ·rename_i v hv
    cases v with
    | true=>
     rw [jc,jtS hv] at h
     cases wn with
     | true=>exact jjF hC hF (.inr ⟨s,X,hg,hv⟩) h
     | false=>exact ⟨_,.skip s U X hg hv smp_,h⟩
    | false=>
     rw [jd,jtS hv] at h
     cases wn with
     | false=>exact jjF hC hF (.inr ⟨s,U,hg,hv⟩) h
     | true=>exact ⟨_,.skip s X U hg hv smp_,h⟩
   ·rename_i hv
    exact ⟨_,.skipU s wn hg hv,h⟩
   ·simp at h
  ·simp at h
theorem jtU {P:Å} {E:Env} (hC:j7n P E.C) (hF:CFun E.C) {ops:Ã Æ} {cl:H G} {A:H (H G)} {R:Type} {k:St→O R} {r:R}:∀ (n i:G) (σ:St),i+n=ops.size→jrQ E ops cl A (ops.toList.drop i) i σ k=B r→
  ∃ τ:G→St,τ i=σ∧k (τ ops.size)=B r∧∀ j o,i≤j→ops[j]? = B o→jed E.N o=X∧DStep P E ops (jm4 ops cl A j o) (A.getD j []) o (τ j) (τ (j+1))
 | 0,i,σ,hi,h=>by
  rw [jj sqo_] at h
  refine ⟨fun _=>σ,rfl,h,fun j o hj ho=> ?_⟩
  have:=(jn.1 ho).1
  omega
 | n+1,i,σ,hi,h=>by
  have hlt:i<ops.size:=omg_
  rw [jh (by simpa using hlt)] at h
  simp only [jrQ] at h
  split at h
  ·rename_i hd
   obtain ⟨σ1,hs,hk⟩:=jxT (P:=P) hC hF h
   obtain ⟨τ1,h1,h2,h3⟩:=jtU hC hF n (i+1) σ1 omg_ hk
   refine ⟨fun j=>if j=i then σ else τ1 j,smp_,?_,fun j o hj ho=> ?_⟩
   ·simp only [show ops.size≠i by omega,zd];exact h2
   ·by_cases hji:j=i
    ·subst hji
     have ho':ops[j]? = B ops[j]:=ju hlt
     rw [ho'] at ho;simp only [jb] at ho;subst ho
     refine ⟨by simpa using hd,?_⟩
     simp only [if_true,show j+1≠j by omega,zd,h1]
     simpa using hs
    ·simp only [hji,zd,show j+1≠i by omega]
     exact h3 j o omg_ ho
  ·simp at h
theorem Rel.drawn (hR:Rel N np S0 w0 refs σ a w S γ) (n:G):Rel N np S0 w0 refs σ a { w with drawn:=n } S γ:=
 Rel.step (bx':=σ.bx) (γ':=γ) hR (fun _ _ h=>⟨h,rfl⟩) (.refl _ _) (fun k b hb=>j1X.keep (w:=w) (w':={ w with drawn:=n }) (fun _ _ h=>⟨h,rfl⟩) (.refl _ _) rfl (fun _ _=>⟨rfl,fun _=>Iff.rfl⟩) (hR.box k b hb))
  hR.own hR.apart hR.new hR.here hR.below hR.grow hR.os hR.tape hR.output (fun _ _ _ h=>⟨rfl,h⟩)
theorem D_wp {P:Å} {E:Env} (hT:j1Q P E.T) (hR:Rel E.N E.np S0 w0 refs σ a w S γ) (hc:j2s σ) {ops:Ã Æ} {M Ai:H G} {i:G} {o:Æ} (ho:ops[i]? = B o) (hd:jed E.N o=X)
  {τ τ':St} (hs:DStep P E ops M Ai o τ τ') (hbx:(∀ k,jb4 M σ.bx k=jb4 M τ.bx k)∨(jee o=X∧∀ k,ShEq (jb4 M σ.bx k) (jb4 M τ.bx k))) (hlook:∀ t,t∈o.looksAt ops→σ.sl t=τ.sl t) {K:Á→À→Prop} {Q:Ñ→Á→À→Prop}
  (hK:∀ (s:Slot) (u:Ups) (a':Á) (w':À) (S':j0e) (γ':G→Y),τ'=(τ.upd u).setD o.dst s→(∀ e∈u,e.1∈Ai)→Rel E.N E.np S0 w0 refs ((σ.upd u).setD o.dst s) a' w' S' γ'→j2s ((σ.upd u).setD o.dst s)→K a' w') :
  wpOp P ops Q i K a w:=by
 have hdl:=jjy hd
 have hev:∀ x∈o.op.operands,σ.ev x=τ.ev x:=by
  intro x hx
  cases x with
  | tmp t=>exact hlook t (ke _ (vu.2 ⟨.tmp t,by simpa using hx,rfl⟩))
  | _=>rfl
 have hgl:∀ s wn,j8j ops o=B (s,wn)→s∈o.looksAt ops:=by
  intro s wn hg
  refine kc _ ?_
  unfold j8j at hg
  split at hg
  ·simp at hg
  ·rename_i j w' hgu
   split at hg
   ·rename_i oj hoj
    split at hg
    ·rename_i s' hs'
     simp only [jb,jf] at hg
     simp [hgu,hoj,hs',hg.1]
    ·simp at hg
   ·simp at hg
 have htm:∀ s v,j8j ops o≠Â→s∈o.looksAt ops→τ.sl s = .one (.one (.d .bool v))→tm a s = .bool v:=by
  intro s v _ hm hv
  have:=hR.slot s
  rw [hlook s hm,hv] at this
  exact j8F this
 have hact:j42 E σ.ev (jb4 M σ.bx) [] o=j42 E τ.ev (jb4 M τ.bx) [] o:=by
  rcases hbx with hbx | ⟨hadr,hbx⟩
  ·rw [show jb4 M σ.bx=jb4 M τ.bx from funext hbx];exact jjD hev
  ·rw [jvV hadr hbx];exact jjD hev
 have hfin:∀ (s:Slot) (u:Ups) (v:Y) (w':À) (S':j0e) (γ':G→Y),τ'=(τ.upd u).setD o.dst s→(∀ e∈u,e.1∈Ai)→Rel E.N E.np S0 w0 refs (σ.upd u) a w' S' γ'→
   j43 S' w' γ' (σ.upd u).bx (tm a) s v→s.bare=X→K (a.put o.dst v) w':=by
  intro s u v w' S' γ' he hb hR' hs' hbare
  obtain ⟨h1,h2⟩:=jeY hR' (jnW hc) hdl hs' hbare
  exact hK s u _ w' S' γ' he hb h1 h2
 have hwant:(o.guard=Â∨∃ s wn,j8j ops o=B (s,wn)∧τ.sl s = .one (.one (.d .bool wn)))→Ä o (yielded ops a.tmps)=true:=by
  rintro (hg | ⟨s,wn,hg,hv⟩)
  ·simp [Ä,hg]
  ·exact (jeZ hg).2 (htm s wn (by rw [hg];simp) (hgl s wn hg) hv)
 unfold wpOp
 simp only [ho]
 cases hs with
 | skip s wn v hg hv hne=>
  have hw:¬ Ä o (yielded ops a.tmps)=true:=fun hw=>by
   have h1:=(jeZ hg).1 hw
   rw [htm s v (by rw [hg];simp) (hgl s wn hg) hv] at h1
   exact hne (by simpa using h1)
  simp only [hw,zd,qf]
  exact hfin .und [] undef w S γ rfl smp_ hR rfl rfl
 | skipU s wn hg hv=>
  have hu:tm a s=undef:=by
   have:=hR.slot s
   rw [hlook s (hgl s wn hg),hv] at this
   exact this
  have hw:¬ Ä o (yielded ops a.tmps)=true:=fun hw=>by
   have h1:=(jeZ hg).1 hw
   rw [hu] at h1
   simp [undef] at h1
  simp only [hw,zd,qf]
  exact hfin .und [] undef w S γ rfl smp_ hR rfl rfl
 | val s u hg hop hb=>
  simp only [hwant hg,if_true]
  rw [←hact] at hop
  obtain ⟨A',hop',hle⟩:=jlD (jmn M σ.bx) hop
  cases hle
  obtain ⟨⟨v,w',S',γ',hrun,hR',hs'⟩,hbare⟩:=jpB hT hR (act:=[]) (fun g hg=>by simp at hg) (fun _=> .inl rfl) hop'
  refine .inl ?_
  unfold Î
  rcases hrun with hrun | ⟨hrun,rfl⟩
  ·rw [hrun,Ê];exact hfin s u v w' S' γ' rfl hb hR' hs' hbare
  ·rw [hrun,ì];exact hfin s u undef w' S' γ' rfl hb hR' hs' hbare
 | call f args mk ret s u hg hop hf hspec hmk hb=>
  simp only [hwant hg,if_true]
  rw [←hact] at hop
  obtain ⟨A',hop',hle⟩:=jlD (jmn M σ.bx) hop
  cases hle with
  | call _ _ _ mk' hmono=>
   have hmk':=hmono _ _ hmk
   obtain ⟨vals,hrun,hcalls,hbare⟩:=jr5 hR (act:=[]) (fun g hg=>by simp at hg) (fun _=> .inl rfl) hop' hf hspec
   refine .inl ?_
   unfold Î
   rw [hrun,Ö]
   refine hcalls.mono ?_
   rintro e w' ⟨ret',rfl,hall⟩
   obtain ⟨v,S',γ',rfl,hR',hs'⟩:=hall s u hmk'
   exact hfin s u v w' S' γ' rfl hb hR' hs' (hbare _ s u hmk')
end
section
variable {S0:j0e} {w0:À} {refs:Refs} {σ:St} {a:Á} {w:À} {S:j0e} {γ:G→Y}
theorem jmo {o:Æ} {j:G}:j∈jcg o↔∃ e∈o.after,Region.binds .any e=X∧e.on=j:=by
 simp only [jcg,vu]
 constructor
 ·rintro ⟨e,he,h⟩
  split at h
  ·rename_i hb;simp only [jb] at h;exact ⟨e,by simpa using he,hb,h⟩
  ·simp at h
 ·rintro ⟨e,he,hb,h⟩
  exact ⟨e,by simpa using he,by simp [hb,h]⟩
theorem jsd {ops:Ã Æ} {listed:Ã Ç} {i:G} (h:i∈ô .any ops listed) :
  listed.getD i X=U∧∃ o,ops[i]? = B o∧∀ j∈jcg o,listed.getD j U=true:=by
 obtain ⟨h0,o,ho,h1⟩:=mem_ready.1 h
 exact ⟨h0,o,ho,fun j hj=>by obtain ⟨e,he,hb,rfl⟩:=jmo.1 hj;exact h1 e he hb⟩
def jd9 (P:Å) (E:Env) (ops:Ã Æ) (cl:H G) (A:H (H G)) (τ:G→St):Prop:=
 ∀ j o,ops[j]? = B o→jed E.N o=X∧DStep P E ops (jm4 ops cl A j o) (A.getD j []) o (τ j) (τ (j+1))
theorem jmp:∀ (u:Ups) (σ:St) (t:G),(σ.upd u).sl t=σ.sl t
 | [],_,_=>rfl
 | e::u,σ,t=>jmp u (σ.setB e.1 e.2) t
theorem jfQ (σ:St) (d:O G) (s:Slot):(σ.setD d s).bx=σ.bx:=by cases d<;>rfl
theorem jhL {σ:St} {d:O G} {s:Slot} {t:G} (h:d≠B t):(σ.setD d s).sl t=σ.sl t:=by
 cases d with
 | none=>rfl
 | some d=>
  have:t≠d:=fun e=>h (by rw [e])
  simp [St.setD,St.setS,this]
theorem jlE {σ:St} {s:Slot} {t:G}:(σ.setD (B t) s).sl t=s:=by simp [St.setD,St.setS]
theorem jgG:∀ (u:Ups) (σ:St) (k:G),(∀ e∈u,e.1≠k)→(σ.upd u).bx k=σ.bx k
 | [],_,_,_=>rfl
 | e::u,σ,k,h=>by
  have h1:=jgG u (σ.setB e.1 e.2) k (fun x hx=>h x (by simp [hx]))
  show ((σ.setB e.1 e.2).upd u).bx k=_
  rw [h1]
  have:=h e smp_
  have hne:¬ k=e.1:=fun hk=>this hk.symm
  simp [St.setB,hne]
theorem jo0:∀ (u:Ups) (σ τ:St) (k:G),σ.bx k=τ.bx k→(σ.upd u).bx k=(τ.upd u).bx k
 | [],_,_,_,h=>h
 | e::u,σ,τ,k,h=>by
  refine jo0 u (σ.setB e.1 e.2) (τ.setB e.1 e.2) k ?_
  simp only [St.setB]
  split
  ·rfl
  ·exact h
section
variable {P:Å} {E:Env} {ops:Ã Æ} {cl:H G} {A:H (H G)} {τ:G→St}
theorem jjG (h:jd9 P E ops cl A τ) {j:G} {o:Æ} (ho:ops[j]? = B o):∃ s u,τ (j+1)=((τ j).upd u).setD o.dst s∧(∀ e∈u,e.1∈A.getD j [])∧(jcW o=X→∀ k,ShEq ((τ j).bx k) ((τ (j+1)).bx k)):=by
 obtain ⟨_,hs⟩:=h j o ho
 generalize hq:τ (j+1)=σ' at hs
 cases hs with
 | skip s wn v hg hv hne=>exact ⟨.und,[],rfl,smp_,fun _ k=>by rw [jfQ];exact ShEq.refl _⟩
 | skipU s wn hg hv=>exact ⟨.und,[],rfl,smp_,fun _ k=>by rw [jfQ];exact ShEq.refl _⟩
 | val s u hg hop hb=>exact ⟨s,u,rfl,hb,fun hst k=>by
  rw [jfQ]
  exact jwP u (τ j) (fun e he=>((jpM hst hop).unmask e he).1) k⟩
 | call f args mk ret s u hg hop hf hspec hmk hb=>exact ⟨s,u,rfl,hb,fun hst=>absurd hop (jjE hst)⟩
theorem jxU (h:jd9 P E ops cl A τ) {j:G} {o:Æ} (ho:ops[j]? = B o) {t:G} (ht:o.dst≠B t):(τ (j+1)).sl t=(τ j).sl t:=by
 obtain ⟨s,u,he,_⟩:=jjG h ho
 rw [he,jhL ht,jmp]
theorem jtV (h:jd9 P E ops cl A τ) {j:G} {o:Æ} (ho:ops[j]? = B o) {k:G} (hk:k∉A.getD j []):(τ (j+1)).bx k=(τ j).bx k:=by
 obtain ⟨s,u,he,hu,_⟩:=jjG h ho
 rw [he,jfQ]
 exact jgG u _ k (fun e hm hek=>hk (hek▸hu e hm))
theorem jgH (h:jd9 P E ops cl A τ) {t j:G}:∀ n,j+n≤ops.size→(∀ k o,j≤k→k<j+n→ops[k]? = B o→o.dst≠B t)→(τ (j+n)).sl t=(τ j).sl t
 | 0,_,_=>rfl
 | n+1,hn,hk=>by
  have hlt:j+n<ops.size:=omg_
  have ho:ops[j+n]? = B ops[j+n]:=ju hlt
  rw [←ó,jxU h ho (hk _ _ omg_ omg_ ho)]
  exact jgH h n omg_ (fun k o h1 h2=>hk k o h1 omg_)
theorem jgI (h:jd9 P E ops cl A τ) {k j:G}:∀ n,j+n≤ops.size→(∀ i o,j≤i→i<j+n→ops[i]? = B o→k∉A.getD i [])→(τ (j+n)).bx k=(τ j).bx k
 | 0,_,_=>rfl
 | n+1,hn,hk=>by
  have hlt:j+n<ops.size:=omg_
  have ho:ops[j+n]? = B ops[j+n]:=ju hlt
  rw [←ó,jtV h ho (hk _ _ omg_ omg_ ho)]
  exact jgI h n omg_ (fun i o h1 h2=>hk i o h1 omg_)
theorem jiZ (h:jd9 P E ops cl A τ) {k j:G}:∀ n,j+n≤ops.size→(∀ i o,j≤i→i<j+n→ops[i]? = B o→k∈A.getD i []→jcW o=X)→ShEq ((τ j).bx k) ((τ (j+n)).bx k)
 | 0,_,_=>ShEq.refl _
 | n+1,hn,hk=>by
  have hlt:j+n<ops.size:=omg_
  have ho:ops[j+n]? = B ops[j+n]:=ju hlt
  have ih:=jiZ h n omg_ (fun i o h1 h2=>hk i o h1 omg_)
  refine ih.trans ?_
  rw [←ó]
  by_cases hm:k∈A.getD (j+n) []
  ·obtain ⟨_,_,_,_,hst⟩:=jjG h ho
   exact hst (hk _ _ omg_ omg_ ho hm) k
  ·rw [jtV h ho hm];exact ShEq.refl _
structure Ph (ops:Ã Æ) (A:H (H G)) (τ:G→St) (listed:Ã Ç) (σ:St):Prop where
 closed:∀ j o,ops[j]? = B o→listed.getD j U=X→∀ d∈jcg o,listed.getD d U=X
 done:∀ j o t,ops[j]? = B o→o.dst=B t→listed.getD j U=X→σ.sl t=(τ (j+1)).sl t
 rest:∀ t,(∀ j o,ops[j]? = B o→o.dst=B t→listed.getD j U=U)→σ.sl t=(τ 0).sl t
 bdone:∀ j k,j<ops.size→k∈A.getD j []→listed.getD j U=X→(∀ i,i<ops.size→k∈A.getD i []→listed.getD i U=X→i≤j)→σ.bx k=(τ (j+1)).bx k
 brest:∀ k,(∀ j,j<ops.size→k∈A.getD j []→listed.getD j U=U)→σ.bx k=(τ 0).bx k
theorem Ph.bef {listed:Ã Ç} (hp:Ph ops A τ listed σ) {i j:G} (hb:Bef ops i j) (hi:listed.getD i U=X):listed.getD j U=true:=by
 induction hb with
 | dep ho hj=>exact hp.closed _ _ ho hi _ hj
 | trans _ _ h1 h2=>exact h2 (h1 hi)
theorem Ph.befd {listed:Ã Ç} (hp:Ph ops A τ listed σ) {i j:G} {o:Æ} (ho:ops[i]? = B o) (hd:∀ j∈jcg o,listed.getD j U=X) (hb:Bef ops i j):listed.getD j U=true:=by
 induction hb with
 | dep ho' hj=>rw [ho] at ho';simp only [jb] at ho';subst ho';exact hd _ hj
 | trans hb1 hb2 h1 h2=>exact hp.bef hb2 (h1 ho)
theorem jf0 (p:G→Prop):∀ n,(∃ j,j<n∧p j)→∃ m,m<n∧p m∧∀ j,j<n→p j→j≤m
 | 0,h=>by obtain ⟨j,hj,_⟩:=h;omega
 | n+1,h=>by
  by_cases hn:p n
  ·exact ⟨n,omg_,hn,fun j hj _=>omg_⟩
  ·obtain ⟨j,hj,hp⟩:=h
   have hjn:j<n:=by
    rcases qt j n with h | h
    ·exact h
    ·have:j=n:=omg_
     subst this;exact absurd hp hn
   obtain ⟨m,hm,hpm,hall⟩:=jf0 p n ⟨j,hjn,hp⟩
   refine ⟨m,omg_,hpm,fun i hi hpi=> ?_⟩
   rcases qt i n with h | h
   ·exact hall i h hpi
   ·have:i=n:=omg_
    subst this;exact absurd hpi hn
theorem jil {l:Ã Ç} {i:G} (h:l.getD i X=U):l.getD i U=false:=by
 rcases qt i l.size with h' | h'
 ·simp [h'] at h ⊢;exact h
 ·simp [é h']
theorem j4I {l:Ã Ç} {i j:G} (hi:i<l.size):(l.setIfInBounds i X).getD j U=X↔j=i∨l.getD j U=true:=by
 by_cases h:i=j
 ·subst h;simp [hi]
 ·rw [getD_set_ne U h]
  exact ⟨.inr,fun hh=>hh.resolve_left fun e=>h e.symm⟩
theorem jcs {l:Ã Ç} {i:G} (h:¬ l.getD i U=X):l.getD i U=false:=by
 cases hq:l.getD i U with
 | false=>rfl
 | true=>exact absurd hq h
section
variable (hok:DOkR ops A) (h:jd9 P E ops cl A τ) {listed:Ã Ç} (hp:Ph ops A τ listed σ) {i:G} {o:Æ} (hi:ops[i]? = B o) (hun:listed.getD i U=U) (hdeps:∀ j∈jcg o,listed.getD j U=X)
include hok h hp hi hun hdeps
theorem jxV:∀ t,t∈o.looksAt ops→σ.sl t=(τ i).sl t:=by
 intro t htl
 have hisz:i<ops.size:=(jn.1 hi).1
 have hlk:∀ j oj,ops[j]? = B oj→oj.dst=B t→j≠i→Bef ops i j∨Bef ops j i:=fun j oj hj ht hne=>(hok.dst i j o oj t hi hj (fun e=>hne e.symm) ht).2 htl
 by_cases hex:∃ (j:G) (oj:Æ),ops[j]? = B oj∧oj.dst=B t∧listed.getD j U=X
 ·obtain ⟨j,oj,hj,ht,hlj⟩:=hex
  have hji:j≠i:=fun e=>by rw [e,hun] at hlj;simp at hlj
  have hdep:Bef ops i j:=by
   rcases hlk j oj hj ht hji with hd | hd
   ·exact hd
   ·have:=hp.bef hd hlj
    rw [hun] at this;simp at this
  have hlt:=hok.bef hdep
  rw [hp.done j oj t hj ht hlj]
  have:=jgH h (t:=t) (j:=j+1) (i-(j+1)) omg_ (fun k ok h1 h2 hk=>(hok.dst k j ok oj t hk hj omg_ ht).1)
  rw [show j+1+(i-(j+1))=i by omega] at this
  exact this.symm
 ·rw [hp.rest t (fun j oj hj ht=>jcs fun hq=>hex ⟨j,oj,hj,ht,hq⟩)]
  have:=jgH h (t:=t) (j:=0) i omg_ (fun k ok _ hk hok' hdk=>by
   have hki:k≠i:=omg_
   rcases hlk k ok hok' hdk hki with hd | hd
   ·exact hex ⟨k,ok,hok',hdk,hp.befd hi hdeps hd⟩
   ·have:=hok.bef hd;omega)
  rw [kj] at this
  exact this.symm
theorem jz1 {k:G} (hk:∀ j oj,ops[j]? = B oj→k∈A.getD j []→i=j∨Bef ops i j∨Bef ops j i):σ.bx k=(τ i).bx k:=by
 have hisz:i<ops.size:=(jn.1 hi).1
 by_cases hex:∃ j,j<ops.size∧(k∈A.getD j []∧listed.getD j U=X)
 ·obtain ⟨m,hm,⟨hkm,hlm⟩,hmax⟩:=jf0 _ _ hex
  have hom:ops[m]? = B ops[m]:=ju hm
  have hmi:i≠m:=fun e=>by rw [←e,hun] at hlm;simp at hlm
  have hdep:Bef ops i m:=by
   rcases hk m _ hom hkm with hd | hd | hd
   ·exact absurd hd hmi
   ·exact hd
   ·have:=hp.bef hd hlm
    rw [hun] at this;simp at this
  have hlt:=hok.bef hdep
  rw [hp.bdone m k hm hkm hlm (fun j hj hkj hlj=>hmax j hj ⟨hkj,hlj⟩)]
  have:=jgI h (k:=k) (j:=m+1) (i-(m+1)) omg_ (fun j oj h1 h2 hj hkj=>by
   rcases hk j oj hj hkj with hd | hd | hd
   ·omega
   ·have:=hmax j omg_ ⟨hkj,hp.befd hi hdeps hd⟩;omega
   ·have:=hok.bef hd;omega)
  rw [show m+1+(i-(m+1))=i by omega] at this
  exact this.symm
 ·rw [hp.brest k (fun j hj hkj=>jcs fun hq=>hex ⟨j,hj,hkj,hq⟩)]
  have:=jgI h (k:=k) (j:=0) i omg_ (fun j oj h1 h2 hj hkj=>by
   rcases hk j oj hj hkj with hd | hd | hd
   ·omega
   ·exact hex ⟨j,omg_,hkj,hp.befd hi hdeps hd⟩
   ·have:=hok.bef hd;omega)
  rw [kj] at this
  exact this.symm
theorem jA9 (hadr:jee o=X) {k:G} (hk:∀ j oj,ops[j]? = B oj→k∈A.getD j []→i=j∨Bef ops i j∨Bef ops j i∨jcW oj=X):ShEq (σ.bx k) ((τ i).bx k):=by
 have hisz:i<ops.size:=(jn.1 hi).1
 by_cases hex:∃ j,j<ops.size∧(k∈A.getD j []∧listed.getD j U=X)
 ·obtain ⟨m,hm,⟨hkm,hlm⟩,hmax⟩:=jf0 _ _ hex
  have hom:ops[m]? = B ops[m]:=ju hm
  rw [hp.bdone m k hm hkm hlm (fun j hj hkj hlj=>hmax j hj ⟨hkj,hlj⟩)]
  rcases qt m i with hmi | hmi
  ·have:=jiZ h (k:=k) (j:=m+1) (i-(m+1)) omg_ (fun j oj h1 h2 hj hkj=>by
    rcases hk j oj hj hkj with hd | hd | hd | hd
    ·omega
    ·have:=hmax j omg_ ⟨hkj,hp.befd hi hdeps hd⟩;omega
    ·have:=hok.bef hd;omega
    ·exact hd)
   rwa [show m+1+(i-(m+1))=i by omega] at this
  ·have hmi':i≠m:=fun e=>by rw [←e,hun] at hlm;simp at hlm
   have:=jiZ h (k:=k) (j:=i) (m+1-i) omg_ (fun j oj h1 h2 hj hkj=>by
    have hlj:listed.getD j U=true:=by
     by_cases hjm:j=m
     ·rw [hjm];exact hlm
     ·rcases hok.box j m oj ops[m] k hj hom hjm hkj hkm with hd | hd
      ·have:=hok.bef hd;omega
      ·exact hp.bef hd hlm
    rcases hk j oj hj hkj with hd | hd | hd | hd
    ·rw [←hd,hun] at hlj;simp at hlj
    ·have:=hok.bef hd;omega
    ·have:=hp.bef hd hlj
     rw [hun] at this;simp at this
    ·exact hd)
   rw [show i+(m+1-i)=m+1 by omega] at this
   exact this.symm
 ·rw [hp.brest k (fun j hj hkj=>jcs fun hq=>hex ⟨j,hj,hkj,hq⟩)]
  have:=jiZ h (k:=k) (j:=0) i omg_ (fun j oj h1 h2 hj hkj=>by
   rcases hk j oj hj hkj with hd | hd | hd | hd
   ·omega
   ·exact absurd ⟨j,omg_,hkj,hp.befd hi hdeps hd⟩ hex
   ·have:=hok.bef hd;omega
   ·exact hd)
  rwa [kj] at this
theorem jxW (hc:ClOk ops cl):(∀ k,jb4 (jm4 ops cl A i o) σ.bx k=jb4 (jm4 ops cl A i o) (τ i).bx k)∨(jee o=X∧∀ k,ShEq (jb4 (jm4 ops cl A i o) σ.bx k) (jb4 (jm4 ops cl A i o) (τ i).bx k)):=by
 by_cases hadr:jee o=X
 ·refine .inr ⟨hadr,ShEq.mask fun k hk=>jA9 hok h hp hi hun hdeps hadr fun j oj hj hkj=> ?_⟩
  rcases jra hc hk hj hkj with hd | hd | hd | hd
  ·exact .inl hd
  ·exact .inr (.inl hd)
  ·exact .inr (.inr (.inl hd))
  ·exact .inr (.inr (.inr hd.2))
 ·refine .inl fun k=> ?_
  unfold jb4
  split
  ·rfl
  ·rename_i hk
   exact jz1 hok h hp hi hun hdeps fun j oj hj hkj=>by
    rcases jra hc (by simpa using hk) hj hkj with hd | hd | hd | hd
    ·exact .inl hd
    ·exact .inr (.inl hd)
    ·exact .inr (.inr hd)
    ·exact absurd hd.1 hadr
theorem jxX (hsz:ops.size≤listed.size) {s:Slot} {u:Ups} (he:τ (i+1)=((τ i).upd u).setD o.dst s) (hu:∀ e∈u,e.1∈A.getD i []):Ph ops A τ (listed.setIfInBounds i X) ((σ.upd u).setD o.dst s):=by
 have hisz:i<ops.size:=(jn.1 hi).1
 have hlt':i<listed.size:=omg_
 have hbx0:∀ k,k∈A.getD i []→σ.bx k=(τ i).bx k:=fun k hk=>jz1 hok h hp hi hun hdeps fun j oj hj hkj=>by
  by_cases hij:i=j
  ·exact .inl hij
  ·exact .inr (hok.box i j o oj k hi hj hij hk hkj)
 refine ⟨?_,?_,?_,?_,?_⟩
 ·intro j oj hoj hj d hdd
  rcases (j4I hlt').1 hj with rfl | hj
  ·rw [hi] at hoj;simp only [jb] at hoj;subst hoj
   exact (j4I hlt').2 (.inr (hdeps d hdd))
  ·exact (j4I hlt').2 (.inr (hp.closed j oj hoj hj d hdd))
 ·intro j oj t hoj ht hj
  by_cases hji:j=i
  ·subst hji
   rw [hi] at hoj;simp only [jb] at hoj;subst hoj
   rw [he,ht,jlE,jlE]
  ·rcases (j4I hlt').1 hj with hj | hj
   ·exact absurd hj hji
   ·rw [jhL (hok.dst i j o oj t hi hoj (fun e=>hji e.symm) ht).1,jmp]
    exact hp.done j oj t hoj ht hj
 ·intro t hall
  have hot:o.dst≠B t:=fun e=>by
   have:=hall i o hi e
   have h2:=(j4I (j:=i) hlt').2 (.inl rfl)
   rw [this] at h2;simp at h2
  rw [jhL hot,jmp]
  exact hp.rest t fun j oj hoj ht=>jcs fun hq=>by
   have:=hall j oj hoj ht
   have h2:=(j4I (i:=i) hlt').2 (.inr hq)
   rw [this] at h2;simp at h2
 ·intro j k hj hkj hlj hmax
  rw [jfQ]
  by_cases hji:j=i
  ·subst hji
   rw [he,jfQ]
   exact jo0 u σ (τ j) k (hbx0 k hkj)
  ·have hlj':listed.getD j U=true:=by
    rcases (j4I hlt').1 hlj with e | hh
    ·exact absurd e hji
    ·exact hh
   have hki:k∉A.getD i []:=fun hki=>by
    have hle:=hmax i hisz hki ((j4I hlt').2 (.inl rfl))
    have hoj:ops[j]? = B ops[j]:=ju hj
    rcases hok.box i j o _ k hi hoj (fun e=>hji e.symm) hki hkj with hd | hd
    ·have:=hok.bef hd;omega
    ·have:=hp.bef hd hlj'
     rw [hun] at this;simp at this
   rw [jgG u σ k (fun e hm hek=>hki (hek▸hu e hm))]
   exact hp.bdone j k hj hkj hlj' (fun i' hi' hk' hl'=>hmax i' hi' hk' ((j4I hlt').2 (.inr hl')))
 ·intro k hall
  have hki:k∉A.getD i []:=fun hki=>by
   have:=hall i hisz hki
   have h2:=(j4I (j:=i) hlt').2 (.inl rfl)
   rw [this] at h2;simp at h2
  rw [jfQ,jgG u σ k (fun e hm hek=>hki (hek▸hu e hm))]
  exact hp.brest k fun j hj hkj=>jcs fun hq=>by
   have:=hall j hj hkj
   have h2:=(j4I (i:=i) hlt').2 (.inr hq)
   rw [this] at h2;simp at h2
end
theorem jz2 (hok:DOkR ops A) (h:jd9 P E ops cl A τ) {listed:Ã Ç} (hp:Ph ops A τ listed σ) (hall:∀ j,j<ops.size→listed.getD j U=X):σ=τ ops.size:=by
 have hsl:σ.sl=(τ ops.size).sl:=by
  funext t
  by_cases hex:∃ (j:G) (oj:Æ),ops[j]? = B oj∧oj.dst=B t
  ·obtain ⟨j,oj,hj,ht⟩:=hex
   have hlt:j<ops.size:=(jn.1 hj).1
   rw [hp.done j oj t hj ht (hall j hlt)]
   have:=jgH h (t:=t) (j:=j+1) (ops.size-(j+1)) omg_ (fun k ok h1 h2 hk=>(hok.dst k j ok oj t hk hj omg_ ht).1)
   rw [show j+1+(ops.size-(j+1))=ops.size by omega] at this
   exact this.symm
  ·rw [hp.rest t (fun j oj hj ht=>absurd ⟨j,oj,hj,ht⟩ hex)]
   have:=jgH h (t:=t) (j:=0) ops.size omg_ (fun k ok _ hk hok' hdk=>hex ⟨k,ok,hok',hdk⟩)
   rw [kj] at this
   exact this.symm
 have hbx:σ.bx=(τ ops.size).bx:=by
  funext k
  by_cases hex:∃ j,j<ops.size∧k∈A.getD j []
  ·obtain ⟨m,hm,hkm,hmax⟩:=jf0 _ _ hex
   rw [hp.bdone m k hm hkm (hall m hm) (fun j hj hkj _=>hmax j hj hkj)]
   have:=jgI h (k:=k) (j:=m+1) (ops.size-(m+1)) omg_ (fun j oj h1 h2 hj hkj=>by have:=hmax j omg_ hkj;omega)
   rw [show m+1+(ops.size-(m+1))=ops.size by omega] at this
   exact this.symm
  ·rw [hp.brest k (fun j hj hkj=>absurd ⟨j,hj,hkj⟩ hex)]
   have:=jgI h (k:=k) (j:=0) ops.size omg_ (fun j oj h1 h2 hj hkj=>hex ⟨j,omg_,hkj⟩)
   rw [kj] at this
   exact this.symm
 cases σ;cases hq:τ ops.size
 rw [hq] at hbx hsl
 simp only at hbx hsl
 rw [hbx,hsl]
end
theorem jo1 {l:Ã Ç} {i:G} (hi:l.getD i X=U):(l.setIfInBounds i X).toList.count U+1=l.toList.count false:=by
 have hlt:i<l.size:=by
  rcases qt i l.size with h | h
  ·exact h
  ·simp [é h] at hi
 have hv:l.toList[i]'(by simpa using hlt)=false:=by
  simp [hlt] at hi
  simpa using hi
 have hpos:0<l.toList.count false:=List.count_pos_iff.2 (hv▸jx _)
 have hc:(l.toList.set i X).count U=l.toList.count U-(if l.toList[i]'(by simpa using hlt)==U then 1 else 0)+(if X==U then 1 else 0):=List.count_set (by simpa using hlt)
 rw [hv] at hc
 rw [Array.toList_setIfInBounds]
 simp only [qh,if_true,show (X==U)=U from rfl,qf,zd,Nat.add_zero] at hc
 omega
theorem jse {l:Ã Ç} (h:l.toList.count U=0) {j:G} (hj:j<l.size):l.getD j U=true:=by
 have h0:U∉l.toList:=List.count_eq_zero.1 h
 simp only [zr,ju hj,ze]
 cases hv:l[j] with
 | true=>rfl
 | false=>exact absurd (hv▸by simp:U∈l.toList) h0
theorem jtW {ops:Ã Æ} {A:H (H G)} (hok:DOkR ops A) {listed:Ã Ç} (hs:listed.size=ops.size) (h:ô .any ops listed=[]):∀ j,j<ops.size→listed.getD j U=true:=by
 intro j
 induction j using ÿ with
 | _ j ih=>
  intro hj
  cases hq:listed.getD j U with
  | true=>rfl
  | false=>
   have ho:ops[j]? = B ops[j]:=ju hj
   have hm:j∈ô .any ops listed:=mem_ready.2 ⟨by
    have hj':j<listed.size:=omg_
    simp [hj'] at hq ⊢;exact hq,ops[j],ho,fun e he hb=>ih _ (hok.lt j _ ho _ (jmo.2 ⟨e,he,hb,rfl⟩)) (Nat.lt_trans (hok.lt j _ ho _ (jmo.2 ⟨e,he,hb,rfl⟩)) hj)⟩
   rw [h] at hm
   simp at hm
theorem jsf {P:Å} {E:Env} (hT:j1Q P E.T) {ops:Ã Æ} {cl:H G} {A:H (H G)} (hcl:ClOk ops cl) (hok:DOkR ops A) {τ:G→St} (h:jd9 P E ops cl A τ)
  {Q:Ñ→Á→À→Prop} (hn:∀ a' w' S' γ',Rel E.N E.np S0 w0 refs (τ ops.size) a' w' S' γ'→j2s (τ ops.size)→Q .normal a' w') :
  ∀ (fuel:G) (listed:Ã Ç) {σ:St} {a:Á} {w:À} {S:j0e} {γ:G→Y},listed.size=ops.size→listed.toList.count U≤fuel→Rel E.N E.np S0 w0 refs σ a w S γ→j2s σ→
   Ph ops A τ listed σ→wpAny P .any ops Q fuel listed a w:=by
 have hend:∀ (listed:Ã Ç) {σ:St} {a:Á} {w:À} {S:j0e} {γ:G→Y},Rel E.N E.np S0 w0 refs σ a w S γ→j2s σ→Ph ops A τ listed σ→(∀ j,j<ops.size→listed.getD j U=X)→Q .normal a w:=by
  intro listed σ a w S γ hR hc hph hall
  have he:=jz2 hok h hph hall
  subst he
  exact hn a w S γ hR hc
 intro fuel
 induction fuel with
 | zero=>
  intro listed σ a w S γ hs hcnt hR hc hph
  have hall:∀ j,j<ops.size→listed.getD j U=true:=fun j hj=>jse omg_ omg_
  refine ⟨?_,hend listed hR hc hph hall⟩
  refine List.eq_nil_iff_forall_not_mem.2 fun i hi=> ?_
  have h0:=(mem_ready.1 hi).1
  have hlt:i<ops.size:=by
   obtain ⟨_,o,ho,_⟩:=mem_ready.1 hi
   exact (jn.1 ho).1
  have:=hall i hlt
  rw [jil h0] at this
  simp at this
 | succ fuel ih=>
  intro listed σ a w S γ hs hcnt hR hc hph
  refine ⟨fun hnil=>hend listed hR hc hph (jtW hok hs hnil),fun i hi=> ?_⟩
  obtain ⟨hun,o,ho,hdeps⟩:=jsd hi
  have hun':=jil hun
  have hcs:=jo1 hun
  have hsz:(listed.setIfInBounds i X).size=ops.size:=by simpa using hs
  obtain ⟨hd,hstep⟩:=h i o ho
  refine D_wp hT hR hc ho hd hstep (jxW hok h hph ho hun' hdeps hcl) (jxV hok h hph ho hun' hdeps) ?_
  intro s u a' w' S' γ' he hu hR' hc'
  exact ih _ hsz omg_ hR' hc' (jxX hok h hph ho hun' hdeps (Nat.le_of_eq hs.symm) he hu)
theorem jsg {P:Å} {E:Env} (hT:j1Q P E.T) (hC:j7n P E.C) (hF:CFun E.C) (hR:Rel E.N E.np S0 w0 refs σ a w S γ) (hc:j2s σ) {ops:Ã Æ} {A:H (H G)}
  {R:Type} {k:St→O R} {r:R} {Q:Ñ→Á→À→Prop} (hn:∀ σ' a' w' S' γ',Rel E.N E.np S0 w0 refs σ' a' w' S' γ'→j2s σ'→k σ'=B r→Q .normal a' w') (h:jgx E ops A σ k=B r) :
  wpAny P .any ops Q ops.size (Þ ops.size U) a { w with drawn:=w.drawn+1 }:=by
 unfold jgx at h
 split at h
 ·rename_i hok
  obtain ⟨τ,h1,h2,h3⟩:=jtU (P:=P) (ops:=ops) hC hF ops.size 0 σ (kj _) (by simpa using h)
  have hfalse:∀ j,(Þ ops.size U).getD j U=false:=by
   intro j
   rcases qt j ops.size with hj | hj
   ·simp [hj]
   ·simp [hj]
  have hcl:ClOk ops (jsY ops.toList []):=jr9 ops.toList [] (fun i j h=>by simp at h) (fun k o hk=>by simpa using hk)
  refine jsf hT hcl (jpN hcl hok) (τ:=τ) (fun j o ho=>h3 j o (kq _) ho) (fun a' w' S' γ' hR' hc'=>hn _ a' w' S' γ' hR' hc' h2) ops.size _ smp_ smp_ (hR.drawn _) hc ?_
  exact ⟨fun j o _ hj=>by rw [hfalse] at hj;simp at hj,fun j o t _ _ hj=>by rw [hfalse] at hj;simp at hj,fun t _=>by rw [h1],
   fun j k _ _ hj=>by rw [hfalse] at hj;simp at hj,fun k _=>by rw [h1]⟩
 ·simp at h
end
def FR (ro:O G):Fence:={ å with round:=ro }
theorem jxY (ro:O G) (n:G):(FR ro).room n:=fun d h=>by simp [FR,å] at h
section
variable {P:Å} {ro:O G} {n:G}
theorem jxZ {f:FuncId} {args:Ã Y} {w:À} {R:Ending→À→Prop} (h:Calls P f args w R):CallsIn (FR ro) n P f args w R:=(callsIn_wide (n:=n)).2 h
theorem jy0 {f:FuncId} {args:Ã Y} {w:À} {R:Ending→À→Prop} (h:CallsIn (FR ro) n P f args w R):Calls P f args w R:=(callsIn_wide (n:=n)).1 h
theorem jz3 {m:G} {c:Ó} {Q:Ñ→Á→À→Prop} {a:Á} {w:À} (h:c.wpIn (FR ro) n P Q a w):c.wpIn (FR ro) m P Q a w:=
 fun b k cs hro hb hr=>h b k cs hro hb (jxY _ _)
theorem jz4 {row:String} {args:Ã Y} {w:À} {R:Y→À→Prop} (h:Rows P row args w R):RowsIn (FR ro) n P row args w R:=
 fun c cs _=>let ⟨v,w',r,s⟩:=h c cs;⟨v,w',r,stepsIn_wide.2 s⟩
theorem jtX {o:Æ} (hp:ro=Â∨∀ c,o.op ≠ .defer c) {a:Á} {w:À} {K K':Á→À→Prop} {Q:Ñ→Á→À→Prop} (hK:∀ a w,K a w→K' a w)
  (h:o.wp P a w K Q):o.wpIn (FR ro) n P a w K' Q:=by
 refine ⟨fun _ _=>trivial,?_⟩
 have e:o.semAt (FR ro).round a.eval=execOp a.eval o:=by
  rcases hp with rfl | hp
  ·rfl
  ·exact Oper.semAt_eq _ _ _ hp
 rw [e]
 unfold Î at h
 revert h
 cases (execOp a.eval o).run P w with
 | ok x w'=>
  cases x with
  | value v=>intro h;exact hK _ _ h
  | skip=>intro h;exact hK _ _ h
  | defer d=>intro h;exact hK _ _ h
  | enter f args=>
   intro h
   refine ⟨fun hd=>by simp [FR,å] at hd,jxZ (Calls.mono h fun e w'' he=> ?_)⟩
   cases e with
   | returned v=>exact hK _ _ he
   | panicked c=>exact he
   | outgrown=>exact he
  | row r args=>
   intro h
   exact ⟨fun hd=>by simp [FR,å] at hd,jz4 (Rows.mono h fun v w'' he=>hK _ _ he)⟩
  | round l f tmps x y=>intro h;exact h.elim
  | _=>intro h;exact h.elim
 | halt x w'=>cases x<;>intro h<;>exact h
theorem jim {ops:Ã Æ} {Q:Ñ→Á→À→Prop} (hp:ro=Â∨∀ o∈ops.toList,∀ c,o.op ≠ .defer c) (hno:¬ ú Q):∀ (l:H G) (a:Á) (w:À),wpOps P ops Q l a w→wpOpsIn (FR ro) n P ops Q l a w
 | [],a,w,h=>h
 | i::r,a,w,h=>by
  simp only [wpOps] at h
  simp only [wpOpsIn]
  cases ho:ops[i]? with
  | none=>simp only [ho] at h ⊢;exact jim hp hno r a w h
  | some o=>
   simp only [ho] at h ⊢
   split
   ·rename_i hw
    simp only [hw,if_true] at h
    rcases h with h | ⟨_,h⟩
    ·refine jtX (hp.imp id fun hh=>hh o ?_) (fun a w=>jim hp hno r a w) h
     obtain ⟨hlt,rfl⟩:=jn.1 ho
     exact Array.mem_toList_iff.2 (ø hlt)
    ·exact absurd h hno
   ·rename_i hw
    simp only [hw] at h
    exact ⟨fun _ _=>trivial,jim hp hno r _ w h⟩
theorem jrb {md:Region.Mode} {ops:Ã Æ} {Q:Ñ→Á→À→Prop} (hp:ro=Â∨∀ o∈ops.toList,∀ c,o.op ≠ .defer c) (hno:¬ ú Q) :
  ∀ (fuel:G) (listed:Ã Ç) (a:Á) (w:À),wpAny P md ops Q fuel listed a w→wpAnyIn (FR ro) n P md ops Q fuel listed a w
 | 0,_,_,_,h=>h
 | fuel+1,listed,a,w,h=>by
  refine ⟨h.1,fun i hi=> ?_⟩
  have h2:=h.2 i hi
  unfold wpOp at h2
  unfold wpOpIn
  cases ho:ops[i]? with
  | none=>simp only [ho] at h2 ⊢;exact jrb hp hno fuel _ a w h2
  | some o=>
   simp only [ho] at h2 ⊢
   split
   ·rename_i hw
    simp only [hw,if_true] at h2
    rcases h2 with h2 | ⟨_,h2⟩
    ·refine jtX (hp.imp id fun hh=>hh o ?_) (fun a w=>jrb hp hno fuel _ a w) h2
     obtain ⟨hlt,rfl⟩:=jn.1 ho
     exact Array.mem_toList_iff.2 (ø hlt)
    ·exact absurd h2 hno
   ·rename_i hw
    simp only [hw] at h2
    exact ⟨fun _ _=>trivial,jrb hp hno fuel _ _ w h2⟩
end
section
variable {N:NT} {np:G} {S0:j0e} {w0:À} {refs:Refs} {σ:St} {a:Á} {w:À} {S:j0e} {γ:G→Y}
theorem Rel.allocO (hR:Rel N np S0 w0 refs σ a w S γ) (o:Obj):Rel N np S0 w0 refs σ a (w.alloc o) S γ:=
 Rel.step (bx':=σ.bx) (γ':=γ) hR (j7c hR o) (.refl _ _) (fun k b hb=>j1X.keep (j7c hR o) (.refl _ _) rfl (fun g hg=>⟨heap_alloc_old w o (j44 (hR.box k b hb) hg),fun _=>Iff.rfl⟩) (hR.box k b hb))
  hR.own hR.apart hR.new (fun g i h=>by have:=hR.here g i h;simp;omega) (fun g hg hr=>(heap_alloc_old w o (zf hg hR.grow)).trans (hR.below g hg hr)) (by have:=hR.grow;simp;omega) hR.os hR.tape hR.output
  (fun g hg _ h=>⟨heap_alloc_old w o hg,h⟩)
structure Grew (w w':À):Prop where
 old:∀ g,g<w.heap.size→w'.heap[g]? = w.heap[g]?
 size:w.heap.size≤w'.heap.size
 os:w'.os=w.os
 tape:w'.tape=w.tape
 output:w'.output=w.output
structure jy1 (S:j0e) (w:À) (S':j0e) (w':À):Prop where
 sub:∀ g o,S g o→S' g o
 new:∀ g o,S' g o→S g o∨w.heap.size≤g
 here:∀ g o,S' g o→g<w'.heap.size
theorem Rel.grew (hR:Rel N np S0 w0 refs σ a w S γ) {S':j0e} {w':À} (h:Grew w w') (hs:jy1 S w S' w'):Rel N np S0 w0 refs σ a w' S' γ:=
 have hst:j2O S w S' w':=fun g o hg=>⟨hs.sub g o hg,È (h.old g (hR.here g o hg))⟩
 Rel.step (bx':=σ.bx) (γ':=γ) hR hst (.refl _ _) (fun k b hb=>j1X.keep hst (.refl _ _) rfl (fun g hg=>
   have hl:=j44 (hR.box k b hb) hg
   ⟨h.old g hl,fun o=>⟨fun h1=>(hs.new g o h1).resolve_right omg_,hs.sub g o⟩⟩) (hR.box k b hb))
  hR.own hR.apart (fun g o h1=>(hs.new g o h1).elim (hR.new g o) fun h2=> .inr (.inl (q7 hR.grow h2))) hs.here (fun g hg hr=>(h.old g (zf hg hR.grow)).trans (hR.below g hg hr)) (q7 hR.grow h.size) (h.os.trans hR.os) (h.tape.trans hR.tape) (h.output.trans hR.output)
  (fun g hg _ hn=>⟨h.old g hg,hn⟩)
theorem Rel.swap (hR:Rel N np S0 w0 refs σ a w S γ) {N':NT} {refs':Refs} {a':Á} (hb:refs'.blks=refs.blks) (hv:refs'.val=refs.val) (hsz:a'.tmps.size=N'.n) (hds:a'.defers=refs'.ds)
  (hslot:∀ i,j43 S w γ σ.bx (tm a') (σ.sl i) (tm a' i)) (hk:∀ g o,refs'.kw g=B o→w.heap[g]? = B o∧∀ k b,σ.bx k = .live b→blk (γ k)≠B g)
  (hf:∀ i v,refs'.fix i=B v→N'.pin i=X∧a'.tmps.getD i undef=v) (hmv:refs'.mv=refs.mv:=by rfl):Rel N' np S0 w0 refs' σ a' w S γ:=
 have hm:∀ g,g∈refs'↔g∈refs:=fun g=>by show g∈refs'.blks↔g∈refs.blks;rw [hb]
 ⟨hsz,hds,hslot,hR.box,fun k b g h h'=>(hR.own k b g h h').imp (fun h=>Own.swap h hb hmv) fun h=>⟨(hm g).2 h.1,h.2⟩,hR.apart,hR.ext,fun g o h=>(hR.new g o h).imp id fun h=>Own.swap h hb hmv,hR.here,fun g h h'=>hR.below g h fun h2=>h' ((hm g).2 h2),
  hR.grow,hR.os,hR.tape,hR.output,fun k v h=>hR.par k v (hv▸h),hk,hf⟩
theorem jj0 {g o:G} {x:Obj} (h:w.heap[g]? = B x) (hc:x.isCells=U):w.cell? ⟨g,o,Â⟩=none:=by
 unfold World.cell?
 simp only [h]
 cases x<;>first | rfl | (simp [Obj.isCells] at hc)
theorem Rel.putO (hR:Rel N np S0 w0 refs σ a w S γ) {l:G} {o o':Obj} (hk:refs.kw l=B o) (hl:w0.heap.size≤l) (hc:o.isCells=U) (hc':o'.isCells=U) :
  Rel N np S0 w0 { refs with kw:=fun g=>if g=l then B o' else refs.kw g } σ a (w.putObj l o') S γ:=by
 obtain ⟨hw,hno⟩:=hR.kept l o hk
 have hlt:=(jn.1 hw).1
 have hst:j2O S w S (w.putObj l o'):=fun g i h=>⟨h,by
  by_cases hg:g=l
  ·subst hg
   rw [jj0 hw hc,jj0 (Ú hlt) hc']
  ·exact È (É hg)⟩
 have hR1:Rel N np S0 w0 { refs with kw:=fun g=>if g=l then Â else refs.kw g } σ a w S γ:=
  Rel.swap hR rfl rfl hR.size hR.defers hR.slot (fun g x h=>by
   simp only at h
   split at h
   ·simp at h
   ·exact hR.kept g x h) hR.fix
 have hR2:Rel N np S0 w0 { refs with kw:=fun g=>if g=l then Â else refs.kw g } σ a (w.putObj l o') S γ:=
  Rel.step (bx':=σ.bx) (γ':=γ) hR1 hst (.refl _ _) (fun k b hb=>j1X.keep hst (.refl _ _) rfl (fun g hg=>⟨É (fun e=>hno k b hb (e▸hg)),fun _=>Iff.rfl⟩) (hR.box k b hb))
   hR1.own hR1.apart hR1.new (fun g i h=>by simpa using hR.here g i h) (fun g hg hr=>(É omg_).trans (hR1.below g hg hr)) (by simpa using hR.grow) hR.os hR.tape hR.output
   (fun g _ hkn h=>⟨É (fun e=>by subst e;simp at hkn),h⟩)
 refine Rel.swap hR2 rfl rfl hR2.size hR2.defers hR2.slot (fun g x h=> ?_) hR2.fix
 simp only at h
 split at h
 ·rename_i e;subst e
  simp only [jb] at h;subst h
  exact ⟨Ú hlt,hno⟩
 ·rename_i e
  have h1:=hR.kept g x h
  exact ⟨(É e).trans h1.1,h1.2⟩
theorem jtY (np:G) (K:Keep) (s:Snap) (i:G):(∃ c,(j0J np K s).sl i = .one c)∧(i∉K.slots→(j0J np K s).sl i = .one (.one .dead)):=by
 have hsl:(j0J np K s).sl i=match K.slots.idxOf? i with
  | some j=>jps s[j]?
  | none=> .one (.one .dead):=rfl
 rw [hsl]
 cases hq:K.slots.idxOf? i with
 | none=>exact ⟨⟨_,rfl⟩,fun _=>rfl⟩
 | some j=>
  refine ⟨?_,fun h=>absurd (ki (j6T hq)) h⟩
  simp only
  unfold jps
  split<;>exact ⟨_,rfl⟩
theorem Rel.frame {K:Keep} {s:Snap} (hR:Rel N np S0 w0 refs (j0J np K s) a w S γ) {N':NT} {refs':Refs} {a':Á} (hb:refs'.blks=refs.blks) (hv:refs'.val=refs.val) (hsz:a'.tmps.size=N'.n) (hds:a'.defers=refs'.ds)
  (hsl:∀ i∈K.slots,tm a' i=tm a i) (hk:∀ g o,refs'.kw g=B o→w.heap[g]? = B o∧∀ k b,(j0J np K s).bx k = .live b→blk (γ k)≠B g)
  (hf:∀ i v,refs'.fix i=B v→N'.pin i=X∧a'.tmps.getD i undef=v) (hmv:refs'.mv=refs.mv:=by rfl):Rel N' np S0 w0 refs' (j0J np K s) a' w S γ:=by
 refine hR.swap hb hv hsz hds (fun i=> ?_) hk hf hmv
 obtain ⟨⟨c,hc⟩,hd⟩:=jtY np K s i
 by_cases hi:i∈K.slots
 ·have:=hR.slot i
  rw [hc] at this ⊢
  rw [hsl i hi]
  exact this
 ·rw [hd hi];exact ⟨trivial,fun h=>absurd rfl h⟩
end
section
variable {P:Å} {F:Fence} {n:G} {b:Frame} {a:Á} {k:H Go.Item} {cs:H Frame} {w:À} {Q:Ñ→Á→À→Prop}
theorem j8o {c:Ó}:step P (lone (b.atR a (.code (.scope c)::k)) cs w) = .next (lone (b.atR a (.code c :: .inScope c::k)) cs w):=
 step_lone_go (by simp [stepG,stepG.exec,Frame.atR])
theorem jmq {c:Ó}:step P (lone (b.atR a (.inScope c::k)) cs w) = .next (lone (b.atR a k) cs w):=
 step_lone_go (by simp [stepG,stepG.exec,Frame.atR])
theorem jsh {c:Ó} (hng:∀ l a w,¬ Q (.goto l) a w) (h:c.wpIn F n P Q a w):(Code.scope c).wpIn F n P Q a w:=by
 intro b k cs hro hb hr
 have h0:(lone (b.atR a (.code (.scope c)::k)) cs w).fenced P F:=fenced_calm hb hr rfl
 obtain ⟨e,a₁,w₁,hq,harr⟩:=h b (.inScope c::k) cs hro hb hr
 cases e with
 | normal=>exact ⟨.normal,a₁,w₁,hq,.head h0 j8o (StepsIn.trans harr (.one (fenced_calm hb hr rfl) jmq))⟩
 | exit id=>
  have hx:exitTo id (.inScope c::k)=exitTo id k:=by simp [exitTo]
  exact ⟨_,a₁,w₁,hq,fun k' hk=> .head h0 j8o (harr.1 k' (by rw [hx];exact hk)),
   fun hr' hk=>let ⟨k₁,h1,h2⟩:=harr.2 hr' (by rw [hx];exact hk);⟨k₁,h1,.head h0 j8o h2⟩⟩
 | goto l=>exact absurd hq (hng l a₁ w₁)
 | ret=>exact ⟨_,a₁,w₁,hq,.of_steps (.one h0 j8o) harr⟩
 | panic ch=>exact ⟨_,a₁,w₁,hq,.of_steps (.one h0 j8o) harr⟩
 | outgrown=>exact ⟨_,a₁,w₁,hq,.of_steps (.one h0 j8o) harr⟩
end
section
variable {N:NT} {np:G} {S0:j0e} {w0:À} {refs:Refs} {σ:St} {a:Á} {w:À} {S:j0e} {γ:G→Y}
theorem jtZ {t:Ty}:∀ {xs:H t.den} {css:H (H Y)} {bx:G→BS},All2 (fun x c=>Rep S w t x c) xs css→All2 (j0b S w γ bx) (xs.flatMap fun x=>(scat t x).map TV.leaf) css.flatten
 | [],[],_,_=>trivial
 | [],_::_,_,h=>h.elim
 | _::_,[],_,h=>h.elim
 | x::xs,c::css,_,h=>(j7z (j6b t x c h.1)).append (jtZ h.2)
theorem jy2 {t:Ty} (xs:H t.den):rowL t xs.length xs=xs.flatMap fun x=>(scat t x).map TV.leaf:=by
 unfold rowL
 rw [ü,ü]
 exact qb List.flatten (jln (fun x=>(scat t x).map TV.leaf) t.dflt xs)
theorem jo2 {rd:G→BS} (hrd:RdF np σ rd) (hB:jnK S w γ σ.bx) (t:Ty):∀ {n:G} {ls:H Leaf} {xs:H t.den} {u:Ups} {cs:H Y},jrR rd t n ls=B (xs,u)→All2 (j0b S w γ σ.bx) ls cs→cs.length=n*t.size→
  FrzL np σ.bx u∧xs.length=n∧∀ S' w',j2O S w S' w'→Froz σ.bx γ S' w' u→∃ css,css.flatten=cs∧All2 (fun x c=>Rep S' w' t x c) xs css
 | 0,[],xs,u,cs,h,ha,hc=>by
  simp only [jrR,jb,jf] at h
  obtain ⟨rfl,rfl⟩:=h
  have:cs=[]:=ka (by rw [hc,Nat.zero_mul])
  subst this
  exact ⟨.nil,rfl,fun S' w' _ _=>⟨[],rfl,trivial⟩⟩
 | 0,_::_,_,_,_,h,_,_=>by simp [jrR] at h
 | n+1,ls,xs,u,cs,h,ha,hc=>by
  simp only [jrR] at h
  split at h
  case h_2=>simp at h
  rename_i x r u1 hx
  split at h
  case h_2=>simp at h
  rename_i xs' v hxs
  simp only [jb,jf] at h
  obtain ⟨rfl,rfl⟩:=h
  obtain ⟨f1,e1,p1⟩:=jbf hrd hB t hx ha
  have ha2:All2 (j0b S w γ σ.bx) r (cs.drop t.size):=by rw [e1];exact ha.drop _
  obtain ⟨f2,l2,p2⟩:=jo2 hrd hB t hxs ha2 (by rw [qz,hc,ve];omega)
  refine ⟨FrzL.app.2 ⟨f1,f2⟩,by rw [jp,l2],fun S' w' hk hf=> ?_⟩
  obtain ⟨hf1,hf2⟩:=Froz.app.1 hf
  obtain ⟨css,e3,q3⟩:=p2 S' w' hk hf2
  exact ⟨cs.take t.size::css,by rw [kx,e3,qv],p1 S' w' hk hf1,q3⟩
theorem jpO (hR:Rel N np S0 w0 refs σ a w S γ) (hc:j2s σ) {g:Gh} {σ':St} (h:jrS np σ g=B (X,σ')):∃ S' γ',Rel N np S0 w0 refs σ' a w S' γ'∧j2s σ':=by
 cases g with
 | ex k c n m=>
  simp only [jrS] at h
  split at h
  case h_2=>simp at h
  rename_i ls hk
  split at h
  case h_2=>simp at h
  rename_i b hs
  split at h
  case h_2=>simp at h
  rename_i e t xs hb
  split at h
  case isTrue=>simp at h
  rename_i hcond
  simp only [jb,jf] at h
  obtain ⟨h1,rfl⟩:=h
  have h1:xs.length=m:=zv h1
  subst h1
  simp only [qs,not_or,ä,beq_eq_false_iff_ne,Bool.not_eq_false'] at hcond
  obtain ⟨⟨⟨⟨hm,hp⟩,hbn⟩,hbk⟩,hn⟩:=hcond
  have hn:σ.bx n = .free:=by
   revert hn
   cases σ.bx n<;>simp [j4B]
  have hkn:k≠n:=by rintro rfl;rw [hn] at hk;simp at hk
  obtain ⟨gk,curk,ek,hgk,hhk,hlk,hok,hSk,_⟩:=hR.box k _ hk
  have hls:ls[c]? = B (.ol b):=by
   cases hc':ls[c]? with
   | none=>simp [hc'] at hs
   | some x=>simp [hc'] at hs;rw [hs]
  obtain ⟨z,hz,hzl⟩:=hlk.get c _ hls
  have hu:z=γ b:=hzl.2.2 _ hb
  obtain ⟨css,hown,hall,hS⟩:=j5B hm (hR.box b _ hb)
  have hR1:=jeW hR hb
  have hn1:(σ.setB b .gone).bx n = .free:=by rw [j09 σ _ (Ne.symm hbn)];exact hn
  obtain ⟨hR2,hle2⟩:=jjr hR1 hn1 (v':=γ b) (b:= .row e t xs.length (rowL t xs.length xs)) (fun g' hg'=>by
   refine ⟨⟨?_,hR.kw_live hb hg'⟩,fun k' b' hb' hk'=> ?_⟩
   ·rcases hR.own b _ g' hb hg' with h | h
    ·exact h
    ·rw [hp] at h;simp at h
   ·have hkk:k'≠b:=by rintro rfl;rw [j0r] at hb';simp at hb'
    rw [j09 σ _ hkk] at hb'
    exact hR.apart k' b _ _ g' hkk hb' hb hk' hg') (by
   refine ⟨hm,⟨css.flatten,by rw [j0l];exact hown,by rw [jy2];exact jtZ hall,fun u hu=> ?_⟩,fun g hg o=> ?_⟩
   ·obtain ⟨c',hc',huc⟩:=List.mem_flatten.1 hu
    obtain ⟨x,_,hx⟩:=hall.mem_right c' hc'
    exact Rep.one t x c' hx u huc
   ·rw [j0l] at hg
    exact (hS g hg).1 rfl o)
  have hk2:((σ.setB b .gone).setB n (.live (.row e t xs.length (rowL t xs.length xs)))).bx k = .live (.cell ls U):=by
   rw [j09 _ _ hkn,j09 _ _ (fun h=>hbk h.symm)];exact hk
  refine ⟨S,_,jmk hR2 hk2 (b':= .cell (ls.set c (.ol n)) U) trivial (fun bx' hle3=> ?_),fun i=>hc i⟩
  obtain ⟨g3,cur3,e3,q1,q2,q3,q4,q5,_⟩:=hR2.box k _ hk2
  rw [j0m γ _ hkn,hgk] at q1
  simp at q1;subst q1
  rw [hhk] at q2;simp at q2;obtain ⟨rfl,rfl⟩:=q2
  refine ⟨gk,curk,ek,by rw [j0m γ _ hkn];exact hgk,hhk,?_,by rw [zt];exact q4,q5,smp_⟩
  rw [zt]
  refine All2.set_left (q3.mono (fun x u hx=>j0b.keep (.refl S w) hle3 hx)) c (.ol n) z hz ?_
  have hnlive:((σ.setB b .gone).setB n (.live (.row e t xs.length (rowL t xs.length xs)))).bx n = .live (.row e t xs.length (rowL t xs.length xs)):=j0r _ _ _
  refine j0b.keep (.refl S w) hle3 (x:= .ol n) ⟨by rw [hnlive];simp,hzl.2.1,fun b' hb'=> ?_⟩
  rw [j0l];exact hu
 | rl k=>
  simp only [jrS] at h
  split at h
  ·rename_i e t n ls hk
   split at h
   case h_2=>simp at h
   rename_i xs u hx
   split at h
   case isTrue=>simp at h
   rename_i hany
   simp only [jb,jf,qm] at h
   subst h
   have hany:u.any (fun y=>y.1==k)=false:=qo.2 hany
   have hrd:RdF np σ (fun j=>if parK np j then .gone else mskM σ.bx j):=jjw (RdR.msk fun _=> .inl rfl)
   obtain ⟨hm,⟨cs,hown,hall,h1⟩,_⟩:=hR.box k _ hk
   obtain ⟨hf,hl,hp⟩:=jo2 hrd hR.box t hx hall hown.1
   obtain ⟨S1,hR1,hst1,hfz1,hsame⟩:=j2B u σ S hR hf
   have hk1:(σ.upd u).bx k = .live (.row e t n ls):=(j1R u σ hany).trans hk
   obtain ⟨css,hcss,hall2⟩:=hp S1 w hst1 hfz1
   have hR2:=jmk hR1 hk1 (b':= .lst e t xs U) ⟨rfl,rfl,hm,hl.symm⟩ (fun bx' hle=>jhy hm ⟨css,by rw [hcss,hl];exact hown,hall2,fun g hg=>⟨fun _=>(hR1.box k _ hk1).2.2 g hg,smp_⟩⟩)
   refine ⟨S1,γ,by rw [j3O];exact hR2,fun i=> ?_⟩
   rw [jgz]
   exact hc i
  ·simp only [jb,jf,qm] at h
   subst h
   exact ⟨S,γ,hR,hc⟩
 | se k=>
  simp only [jrS] at h
  split at h
  case h_2=>simp at h
  rename_i ls hk
  split at h
  case isTrue=>simp at h
  rename_i hp
  split at h
  case h_2=>simp at h
  rename_i xs u hx
  split at h
  case isTrue=>simp at h
  rename_i hany
  simp only [jb,jf,qm] at h
  subst h
  have hp:parK np k=false:=qo.2 hp
  have hany:u.any (fun y=>y.1==k)=false:=qo.2 hany
  have hrd:RdF np σ (fun j=>if parK np j then .gone else mskM σ.bx j):=jjw (RdR.msk fun _=> .inl rfl)
  obtain ⟨g,cur,e,hg,hh,hcur,_⟩:=hR.box k _ hk
  obtain ⟨hf,hpp⟩:=jfL hrd hx hcur
  obtain ⟨S1,hR1,hst1,hfz1,hsame⟩:=j2B u σ S hR hf
  have hk1:(σ.upd u).bx k = .live (.cell ls U):=(j1R u σ hany).trans hk
  obtain ⟨S2,g2,hR2,_⟩:=jjp hR1 hk1 hp (xs:=xs) (fun g' cur' e' hg' hh' _=>by
   rw [hg] at hg';simp at hg';subst hg'
   rw [hh] at hh';simp at hh';obtain ⟨rfl,_⟩:=hh'
   exact hpp S1 w hst1 hfz1)
  refine ⟨S2,γ,by rw [j3O];exact hR2,fun i=> ?_⟩
  rw [jgz]
  exact hc i
 | da l=>
  simp only [jrS] at h
  split at h
  ·rename_i σ1 hd
   simp only [jb,jf,qm] at h
   subst h
   obtain ⟨S',hR',hc'⟩:=jml l σ σ1 S hR hc hd
   exact ⟨S',γ,hR',hc'⟩
  ·simp at h
theorem jem {R:Type} {r:R}:∀ {gs:H Gh} {σ:St} {S:j0e} {γ:G→Y} {k:St→O R},Rel N np S0 w0 refs σ a w S γ→j2s σ→jjg np gs σ k=B r→
  ∃ σ' S' γ',Rel N np S0 w0 refs σ' a w S' γ'∧j2s σ'∧k σ'=B r
 | [],σ,S,γ,k,hR,hc,h=>⟨σ,S,γ,hR,hc,h⟩
 | g::gs,σ,S,γ,k,hR,hc,h=>by
  simp only [jjg] at h
  split at h
  ·rename_i b σ1 hg
   cases b with
   | false=>simp at h
   | true=>
    obtain ⟨S1,γ1,hR1,hc1⟩:=jpO hR hc hg
    exact jem hR1 hc1 h
  ·simp at h
end
section
variable {N:NT} {np:G} {S0:j0e} {w0:À} {refs:Refs} {σ:St} {a:Á} {w:À} {S:j0e} {γ:G→Y}
def exOf:Ex→Ñ
 | .normal=> .normal
 | .exit i=> .exit i
 | .ret=> .ret
def j1z:G→Ó→H (G×Ó)
 | b,.seq x y=>j1z b x++j1z b y
 | b,.cond _ x y=>j1z b x++j1z b y
 | _,.block id c=>j1z id c
 | b,.loop c=>(b,c)::j1z b c
 | b,.rangeFunc g ps x y=>[(b,.rangeFunc g ps x y)]
 | b,.scope c=>j1z b c
 | _,_=>[]
def jo3 (E:Env) (b:G) (c:Ó):Prop:=
 ∀ (s:Snap) (R:Type) (k:Ex→Snap→O R) (r:R),E.L b s R k=B r→∃ n e s',loopN (jt1 E b c) n s=B (e,s')∧k e s'=B r
def MrOK (E:Env) (b:G) (c:Ó):Prop:=
 ∀ (m nm:G) (p:MrP),E.mr b=B (m,nm)→mrP b c=B p→∀ (s:Snap) (R:Type) (k:Snap→O R) (r:R),E.M b s R k=B r→
  ∃ (em:G) (v:Ty) (xs ys:H (ã×v.den)),isM em=X∧s=j47 s em v xs∧
   (∀ zs,(j0J E.np (E.keep b) (j47 s em v zs)).bx nm = .live (.lst em (.pair (.int .i64) v) zs U)∧(j0J E.np (E.keep b) (j47 s em v zs)).sl m = .one (.one (.ol nm)))∧
   All2 (fun x y=>y.1=x.1∧∀ zs,jlk E b p m (j47 s em v zs) v x.1 x.2 B=B (j47 s em v (@j6J _ _ (Ty.int .i64).keq zs x.1 y.2))) xs ys∧k (j47 s em v ys)=B r
theorem jsi (p:G→Prop):∀ n,p n→∃ m,p m∧∀ j,p j→m≤j:=by
 intro n
 induction n using ÿ with
 | _ n ih=>
  intro h
  by_cases hj:∃ j,j<n∧p j
  ·obtain ⟨j,hj,hp⟩:=hj
   exact ih j hj hp
  ·exact ⟨n,h,fun j hp=>Nat.le_of_not_lt fun hl=>hj ⟨j,hl,hp⟩⟩
open Classical in
noncomputable def jrc (p:G→Prop):Nat:=if h:∃ n,p n then (jsi p h.choose h.choose_spec).choose else 0
theorem jjH {p:G→Prop} {n:G} (h:p n):p (jrc p)∧jrc p≤n:=by
 unfold jrc
 have hx:∃ n,p n:=⟨n,h⟩
 rw [dif_pos hx]
 exact ⟨(jsi p hx.choose hx.choose_spec).choose_spec.1,(jsi p hx.choose hx.choose_spec).choose_spec.2 n h⟩
theorem jjI {P:Å} {F:Fence} {n0:G} {Q:Ñ→Á→À→Prop} {c:Ó} (I:G→Á→À→Prop) {n:G} (h₀:I n a w)
  (round:∀ n a w,I n a w→c.wpIn F n0 P (Exit.then (fun a' w'=>∃ m,m<n∧I m a' w') Q) a w):(Code.loop c).wpIn F n0 P Q a w:=by
 refine wpIn_loop (fun a w=>∃ n,I n a w) (fun a w=>jrc fun n=>I n a w) ⟨n,h₀⟩ (fun a w hI=> ?_)
 obtain ⟨m,hm⟩:=hI
 have hl:=(jjH (p:=fun n=>I n a w) hm).1
 refine wpIn_mono (round _ a w hl) (fun e a' w' h=> ?_)
 cases e with
 | normal=>
  obtain ⟨m',hlt,hI'⟩:=h
  exact ⟨⟨m',hI'⟩,Nat.lt_of_le_of_lt (jjH (p:=fun n=>I n a' w') hI').2 hlt⟩
 | _=>exact h
def jfR (w0:À) (refs:Refs):Prop:=
 refs.ds.Nodup∧∀ d∈refs.ds,∃ D,d={ target:= .collected D,args:=#[] }∧w0.heap.size≤D∧refs.kw D=B (.deferred (B []))
structure jin (w0:À) (refs refs':Refs):Prop where
 blks:refs'.blks=refs.blks
 val:refs'.val=refs.val
 fix:refs'.fix=refs.fix
 marks:jfR w0 refs'
 mv:refs'.mv=refs.mv
theorem jin.trans {r r' r'':Refs} (h:jin w0 r r') (h':jin w0 r' r''):jin w0 r r'':=⟨h'.blks.trans h.blks,h'.val.trans h.val,h'.fix.trans h.fix,h'.marks,h'.mv.trans h.mv⟩
def Post (E:Env) (S0:j0e) (w0:À) (refs:Refs) (pl:Ç) {R:Type} (k:Ex→St→O R) (r:R):Ñ→Á→À→Prop:=
 fun e a' w'=>∃ refs' ex σ' S' γ',jin w0 refs refs'∧(pl=X→refs'=refs)∧exOf ex=e∧Rel E.N E.np S0 w0 refs' σ' a' w' S' γ'∧j2s σ'∧k ex σ'=B r
theorem jmr {E:Env} {pl:Ç} {R:Type} {k:Ex→St→O R} {r:R}:¬ ú (Post E S0 w0 refs pl k r):=by
 rintro ⟨a,w,refs',ex,_,_,_,_,_,he,_⟩
 cases ex<;>simp [exOf] at he
def ItOK (P:Å) (f:G) (kd:Ç) (t:Ty):Prop:=
 Fun P f∧∀ (cv:Ã Y) (l:G) (J:ã→j0e→À→Prop) (Je Jx:À→Prop) (W:À) (S:j0e) (xs0:H t.den),
  (∀ c S W S' W',Grew W W'→jy1 S W S' W'→J c S W→J c S' W')→(∀ W W',Grew W W'→Je W→Je W')→(∀ W W',Grew W W'→Jx W→Jx W')→(∀ c S W,J c S W→∀ g o,S g o→g<W.heap.size)→
  (∀ c S W,J c S W→∃ xs:H t.den,All2 (j7x S W) [.p [⟨.list t,xs⟩]] cv.toList∧(jxB kd xs.length c=X→Je W)∧
   (jxB kd xs.length c=U→itOk kd xs.length c=X∧∀ S' W' vs,Grew W W'→jy1 S W S' W'→All2 (VRep S' W') (jqU kd t xs c) vs→
    YieldAt (FR Â) 0 P l vs.toArray W' fun e W'=>(e = .returned (.bool X)∧∃ S',J (jqT kd c) S' W')∨(e = .returned (.bool U)∧Jx W')))→
  (∃ S',(∀ g o,S' g o→g<W.heap.size)∧All2 (j7x S' W) [.p [⟨.list t,xs0⟩]] cv.toList)→J (jm5 kd xs0.length) S W→
  CallsIn (FR Â) 0 P f (#[.func (.yield l) #[] #[]]++cv) W fun e W'=>(∃ v,e = .returned v)∧(Je W'∨Jx W')
def jwQ (P:Å) (fK fS e:G):Prop:=Fun P fK∧Fun P fS∧∀ (w:À) (g:G) (es:Ã Ì) (clock:G) (ks:H ã),
 w.heap[g]? = B (.map es clock)→MapKept.Stamped es clock→es.toList.map (·.key)=ks.map (Í .i64)→(∀ x∈ks, -9223372036854775808≤x∧x≤9223372036854775807)→ks.length≤1000000→
 Calls P fK #[.map (B g)] w fun r w1=>∃ c,r = .returned c∧Grew w w1∧Calls P fS #[c] w1 fun r2 w2=>∃ v,r2 = .returned v∧w2.ownsRow w1.heap.size e 1 v ks.length ((jjb ks).map (Í .i64))∧Grew w1 w2
def jwR (P:Å) (f e sz:G):Prop:=Fun P f∧∀ (w:À) (n:ã),0≤n→n≤1000000→
 Calls P f #[.slice Â 0 0,.int .i64 n] w fun r w'=>∃ v,r = .returned v∧w'.ownsRow w.heap.size e sz v 0 []∧Grew w w'
def BwK (P:Å) (f:G):Ç×Ty→Prop
 | (X,.arr fK (.arr e .bool))=>jwQ P fK f e
 | (X,.arr e (.arr sz .unit))=>jwR P f e sz
 | (kd,t)=>ItOK P f kd t
theorem BwK.it {P:Å} {f:G} {kd:Ç} {t:Ty} (h:BwK P f (kd,t)) (ht:kd=X→t=segT):ItOK P f kd t:=by
 cases kd with
 | false=>exact h
 | true=>obtain rfl:=ht rfl;exact h
section
variable {N:NT} {np:G} {S0:j0e} {w0:À} {refs:Refs} {σ:St} {a:Á} {w:À} {S:j0e} {γ:G→Y}
theorem jvX (ks:H ã):(jjb ks).length=ks.length:=by
 have hi:∀ (x:ã) (l:H ã),(insI x l).length=l.length+1:=by
  intro x l
  induction l with
  | nil=>rfl
  | cons y r ih=>unfold insI;cases decide (x≤y)<;>simp [ih]
 induction ks with
 | nil=>rfl
 | cons x r ih=>simp [jjb,hi,ih]
theorem jgJ {vt:Ty}:∀ {xs:H (ã×vt.den)} {l:H Ì},All2 (fun (x:(Ty.int .i64).den×vt.den) (e:Ì)=>Rep S w (.int .i64) x.1 [e.key]∧VRep S w ⟨vt,x.2⟩ e.val) xs l→
  l.map (·.key)=(xs.map fun x=>x.1).map (Í .i64)
 | [],[],_=>rfl
 | [],_::_,h=>h.elim
 | _::_,[],h=>h.elim
 | y::r,z::q,h=>by
  have h1:[z.key]=[Í .i64 y.1]:=h.1.1
  simp only [qu,yl]
  exact ⟨by simpa using h1,jgJ h.2⟩
theorem jsj {P:Å} {E:Env} (hbw:∀ f t,E.bw f=B t→BwK P f t) (hR:Rel E.N E.np S0 w0 refs σ a w S γ) (hc:j2s σ) {o o2:Æ} (hd:jed E.N o=X) (hd2:jed E.N o2=X)
  {σ':St} (h:jm2 E σ o o2=B (X,σ')) {next next1:Á→À→Prop} {Q:Ñ→Á→À→Prop}
  (hn1:∀ a1 w1,o2.wp P a1 w1 next Q→next1 a1 w1) (hn:∀ a' w' S' γ',Rel E.N E.np S0 w0 refs σ' a' w' S' γ'→j2s σ'→next a' w'):o.wp P a w next1 Q:=by
 unfold jm2 at h
 split at h
 case h_2=>simp at h
 rename_i c1 c2 ho ho2
 split at h
 case h_2=>simp at h
 rename_i f1 x f2 d hc1 ha1 hc2 ha2
 split at h
 case h_2=>simp at h
 rename_i fK b fS hf1 hx hf2
 split at h
 case h_2=>simp at h
 rename_i fK' e em ta xs fr hbe hbb
 split at h
 case h_2=>simp at h
 rename_i cq ys hkb
 split at h
 case isFalse=>simp at h
 rename_i hcond
 obtain ⟨rfl,hod,hem,hee,hfree⟩:=hcond
 simp only [jb,jf] at h
 obtain ⟨rfl,rfl⟩:=h
 obtain ⟨hFK,hFS,hspec⟩:jwQ P fK' fS e:=hbw _ _ hbe
 have evx:=j8Y hR x
 rw [hx] at evx
 have hux:a.eval x=γ b:=evx.1.2.2 _ hbb
 unfold jyT at hkb
 split at hkb
 case h_2=>simp at hkb
 rename_i vt xs
 simp only [jb,jf] at hkb
 obtain ⟨hok,rfl⟩:=hkb
 obtain ⟨g,es,clock,hg,hh,hall,hst⟩:jnE S w (.pair (.int .i64) vt) xs (γ b):=by
  rcases (hR.box b _ hbb).1 with ⟨hm,_⟩ | ⟨_,hm⟩
  ·rw [hem] at hm;simp at hm
  ·exact hm
 unfold jwH at hok
 simp only [ji,jw,jq] at hok
 have hln:xs.length≤1000000:=zb hok.1
 have hks:es.toList.map (·.key)=(xs.map fun x=>x.1).map (Í .i64):=by
  exact jgJ hall
 have hsp:=hspec w g es clock (xs.map fun x=>x.1) hh hst.1 hks (fun z hz=>by
  obtain ⟨y,hy,rfl⟩:=kp.1 hz
  exact hok.2 y hy) (by simpa using hln)
 have evf:=j8Y hR f1
 rw [hf1] at evf
 obtain ⟨cv,hu1,hcv⟩:=evf.1
 obtain rfl:cv = #[]:=by
  have:cv.toList=[]:=by
   cases hq:cv.toList with
   | nil=>rfl
   | cons=>rw [hq] at hcv;exact hcv.elim
  exact zm.1 this
 have hrun:=jgB (w:=w) hFK ho hc1 hu1
 have e1:c1.args.map a.eval ++ #[] = #[.map (B g)]:=by
  apply q9
  simp [ha1,hux,hg]
 rw [e1] at hrun
 unfold Î
 rw [hrun,Ö]
 refine hsp.mono ?_
 rintro r w1 ⟨c,rfl,hgr,hsp2⟩
 have hR1:=hR.grew hgr (S':=S) ⟨fun _ _ h=>h,fun _ _ h=> .inl h,fun g o h=>zf (hR.here g o h) hgr.size⟩
 obtain ⟨hR2,hc2'⟩:=jeY hR1 hc (jjy hd) (s:= .one (.one .dead)) (v:=c) ⟨trivial,fun h=>absurd rfl h⟩ rfl
 have evf2:=j8Y hR2 f2
 rw [hf2] at evf2
 obtain ⟨cv,hu2,hcv⟩:=evf2.1
 obtain rfl:cv = #[]:=by
  have:cv.toList=[]:=by
   cases hq:cv.toList with
   | nil=>rfl
   | cons=>rw [hq] at hcv;exact hcv.elim
  exact zm.1 this
 have hrun2:=jgB (w:=w1) hFS ho2 hc2 hu2
 have hda:d<a.tmps.size:=by rw [hR.size];exact (jjy hd d hod).1
 have e2:c2.args.map (a.put o.dst c).eval ++ #[] = #[c]:=by
  apply q9
  have:(a.put o.dst c).eval (.tmp d)=c:=by
   show tm (a.put o.dst c) d=c
   rw [hod,jcq hda,if_pos rfl]
  simp [ha2,this]
 rw [e2] at hrun2
 refine hn1 _ _ ?_
 unfold Î
 rw [hrun2,Ö]
 refine hsp2.mono ?_
 rintro r2 w2 ⟨v,rfl,hrow,hgr2⟩
 have hfr:(σ.setD o.dst (.one (.one .dead))).bx ((o2.dst.getD 0)*64) = .free:=by
  rw [show (σ.setD o.dst (.one (.one .dead))).bx=σ.bx by rw [hod];rfl]
  cases hq:σ.bx ((o2.dst.getD 0)*64) with
  | free=>rfl
  | gone=>rw [hq] at hfree;simp [j4B] at hfree
  | live=>rw [hq] at hfree;simp [j4B] at hfree
 have hblk:∀ g',blk v=B g'→w1.heap.size≤g'∧g'<w2.heap.size:=by
  intro g' hg'
  rcases hrow.2 with ⟨rfl,_⟩ | ⟨gb,cap,cur,rfl,hb0,hgb,_⟩
  ·simp [blk] at hg'
  ·simp [blk] at hg';subst hg'
   exact ⟨hb0,(jn.1 hgb).1⟩
 have hrow0:w2.ownsRow 0 e (Ty.int .i64).size v (jlZ xs).length (((jlZ xs).map (fun x=>[Í .i64 x])).flatten):=by
  have e3:((jlZ xs).map (fun x=>[Í .i64 x])).flatten=(jjb (xs.map fun x=>x.1)).map (Í .i64):=by
   unfold jlZ
   induction jjb (xs.map fun x=>x.1) with
   | nil=>rfl
   | cons y r ih=>simp only [qu,kx,ih];rfl
  rw [e3,show (jlZ xs).length=(xs.map fun x=>x.1).length from jvX _]
  refine ⟨hrow.1,?_⟩
  rcases hrow.2 with hl | ⟨gb,cap,cur,h1,h2,h3⟩
  ·exact .inl hl
  ·exact .inr ⟨gb,cap,cur,h1,kq _,h3⟩
 have hnl:=jeX hR2 hfr (w':=w2) (S':=S) (v':=v) (e:=e) hee (el:= .int .i64) (zs:=jlZ xs) (frz:=U) (css:=(jlZ xs).map fun x=>[Í .i64 x])
  (fun g' o' hs=>⟨hs,È (hgr2.old g' (hR2.here g' o' hs))⟩) (fun g' hg' _=>hgr2.old g' hg') hgr2.size
  (fun g' hg'=>⟨.inl (q7 hR2.grow (hblk g' hg').1),fun k b' hb' hk=>by have:=j44 (hR2.box k b' hb') hk;have:=(hblk g' hg').1;omega,(hblk g' hg').2⟩)
  (fun _ _ h=> .inl h) hgr2.os hgr2.tape hgr2.output hrow0 (by
   generalize jlZ xs=l
   induction l with
   | nil=>trivial
   | cons y r ih=>exact ⟨rfl,ih⟩)
  (fun g' hg'=>⟨fun _ o' hs=>by have:=hR2.here g' o' hs;have:=(hblk g' hg').1;omega,fun h=>by simp at h⟩) (fun g' hg'=>hR2.kw_new (hblk g' hg').1)
 obtain ⟨hR3,hcel⟩:=hnl
 obtain ⟨hR4,hc4⟩:=jeY hR3 (fun i=>hc2' i) (jjy hd2) (s:= .one (.one (.ol ((o2.dst.getD 0)*64)))) (v:=v) hcel rfl
 exact hn _ _ _ _ hR4 hc4
theorem jsk {P:Å} {E:Env} (hbw:∀ f t,E.bw f=B t→BwK P f t) (hR:Rel E.N E.np S0 w0 refs σ a w S γ) (hc:j2s σ) {o:Æ} (hd:jed E.N o=X)
  {σ':St} (h:jm3 E σ o=B (X,σ')) {next:Á→À→Prop} {Q:Ñ→Á→À→Prop}
  (hn:∀ a' w' S' γ',Rel E.N E.np S0 w0 refs σ' a' w' S' γ'→j2s σ'→next a' w'):o.wp P a w next Q:=by
 unfold jm3 at h
 split at h
 case h_2=>simp at h
 rename_i c1 ho
 split at h
 case h_2=>simp at h
 rename_i f1 x y hc1 ha1
 split at h
 case h_2=>simp at h
 rename_i fG n hf1 hx hy
 split at h
 case h_2=>simp at h
 rename_i e sz ti hbe hti
 split at h
 case h_2=>simp at h
 rename_i ta hty
 split at h
 case isFalse=>simp at h
 rename_i hcond
 obtain ⟨rfl,hee,hfree⟩:=hcond
 simp only [jb,jf,ji,jq] at h
 obtain ⟨⟨hn0,hn1⟩,rfl⟩:=h
 obtain ⟨hFG,hspec⟩:jwR P fG e ta.size:=hbw _ _ hbe
 have evx:=j8Y hR x
 rw [hx] at evx
 have hux:a.eval x = .slice Â 0 0:=evx.1
 have evy:=j8Y hR y
 rw [hy] at evy
 have huy:a.eval y = .int .i64 n:=jd1 evy
 have evf:=j8Y hR f1
 rw [hf1] at evf
 obtain ⟨cv,hu1,hcv⟩:=evf.1
 obtain rfl:cv = #[]:=by
  have:cv.toList=[]:=by
   cases hq:cv.toList with
   | nil=>rfl
   | cons=>rw [hq] at hcv;exact hcv.elim
  exact zm.1 this
 have hrun:=jgB (w:=w) hFG ho hc1 hu1
 have e1:c1.args.map a.eval ++ #[] = #[.slice Â 0 0,.int .i64 n]:=by
  apply q9
  simp [ha1,hux,huy]
 rw [e1] at hrun
 unfold Î
 rw [hrun,Ö]
 refine (hspec w n hn0 hn1).mono ?_
 rintro r w1 ⟨v,rfl,hrow,hgr⟩
 have hfr:σ.bx ((o.dst.getD 0)*64) = .free:=by
  cases hq:σ.bx ((o.dst.getD 0)*64) with
  | free=>rfl
  | gone=>rw [hq] at hfree;simp [j4B] at hfree
  | live=>rw [hq] at hfree;simp [j4B] at hfree
 have hblk:∀ g',blk v=B g'→w.heap.size≤g'∧g'<w1.heap.size:=by
  intro g' hg'
  rcases hrow.2 with ⟨rfl,_⟩ | ⟨gb,cap,cur,rfl,hb0,hgb,_⟩
  ·simp [blk] at hg'
  ·simp [blk] at hg';subst hg'
   exact ⟨hb0,(jn.1 hgb).1⟩
 have hrow0:w1.ownsRow 0 e ta.size v ([]:H ta.den).length (([]:H (H Y)).flatten):=by
  refine ⟨hrow.1,?_⟩
  rcases hrow.2 with hl | ⟨gb,cap,cur,h1,h2,h3⟩
  ·exact .inl hl
  ·exact .inr ⟨gb,cap,cur,h1,kq _,h3⟩
 have hnl:=jeX hR hfr (w':=w1) (S':=S) (v':=v) (e:=e) hee (el:=ta) (zs:=[]) (frz:=U) (css:=[])
  (fun g' o' hs=>⟨hs,È (hgr.old g' (hR.here g' o' hs))⟩) (fun g' hg' _=>hgr.old g' hg') hgr.size
  (fun g' hg'=>⟨.inl (q7 hR.grow (hblk g' hg').1),fun k b' hb' hk=>by have:=j44 (hR.box k b' hb') hk;have:=(hblk g' hg').1;omega,(hblk g' hg').2⟩)
  (fun _ _ h=> .inl h) hgr.os hgr.tape hgr.output hrow0 trivial
  (fun g' hg'=>⟨fun _ o' hs=>by have:=hR.here g' o' hs;have:=(hblk g' hg').1;omega,fun h=>by simp at h⟩) (fun g' hg'=>hR.kw_new (hblk g' hg').1)
 obtain ⟨hR3,hcel⟩:=hnl
 obtain ⟨hR4,hc4⟩:=jeY hR3 (fun i=>hc i) (jjy hd) (s:= .one (.one (.ol ((o.dst.getD 0)*64)))) (v:=v) hcel rfl
 exact hn _ _ _ _ hR4 hc4
theorem jlF {P:Å} {E:Env} (hT:j1Q P E.T) (hC:j7n P E.C) (hbw:∀ f t,E.bw f=B t→BwK P f t) (hR:Rel E.N E.np S0 w0 refs σ a w S γ) (hc:j2s σ) {o:Æ} (hd:jed E.N o=X) {R:Type} {k:St→O R} {r:R}
  (h:runK E σ o k=B r) {next:Á→À→Prop} {Q:Ñ→Á→À→Prop}
  (hn:∀ σ' a' w' S' γ',Rel E.N E.np S0 w0 refs σ' a' w' S' γ'→j2s σ'→k σ'=B r→next a' w'):o.wp P a w next Q:=by
 unfold runK at h
 split at h
 ·rename_i c σ' hg
  cases c with
  | false=>simp at h
  | true=>exact jsk hbw hR hc hd hg (fun a' w' S' γ' hR' hc'=>hn _ _ _ _ _ hR' hc' h)
 ·exact jcr hT hC hR (act:=[]) (fun g hg=>by simp at hg) (p:=U) (fun _=>hc) hd h (fun σ' a' w' S' γ' hR' hc' hk=>hn _ _ _ _ _ hR' (hc' rfl) hk)
theorem jhM {P:Å} {E:Env} (hT:j1Q P E.T) (hC:j7n P E.C) (hbw:∀ f t,E.bw f=B t→BwK P f t) {ops:Ã Æ} (hbare:bare ops=X) {R:Type} {k:St→O R} {r:R} {Q:Ñ→Á→À→Prop}
  (hn:∀ σ' a' w' S' γ',Rel E.N E.np S0 w0 refs σ' a' w' S' γ'→j2s σ'→k σ'=B r→Q .normal a' w') :
  ∀ (n i:G) (σ:St) (a:Á) (w:À) (S:j0e) (γ:G→Y),i+n=ops.size→Rel E.N E.np S0 w0 refs σ a w S γ→j2s σ→j9M E (ops.toList.drop i) σ k=B r→
   wpOps P ops Q (ë i n) a w
 | 0,i,σ,a,w,S,γ,hi,hR,hc,h=>by
  rw [jj sqo_] at h
  exact hn _ _ _ _ _ hR hc h
 | 1,i,σ,a,w,S,γ,hi,hR,hc,h=>by
  have hlt:i<ops.size:=omg_
  rw [jh (by simpa using hlt),jj sqo_] at h
  simp only [j9M] at h
  split at h
  ·rename_i hd
   have ho:ops[i]? = B ops[i]:=ju hlt
   simp only [vq,wpOps,ho]
   have hg:ops[i].guard=none:=by
    have:=jw.1 hbare ops[i] smp_
    simpa using this
   have hw:Ä ops[i] (yielded ops a.tmps)=true:=by simp [Ä,hg]
   simp only [hw,if_true]
   exact .inl (jlF hT hC hbw hR hc (by simpa using hd) (by simpa using h) (fun σ' a' w' S' γ' hR' hc' hk=>hn _ _ _ _ _ hR' hc' hk))
  ·simp at h
 | n+2,i,σ,a,w,S,γ,hi,hR,hc,h=>by
  have hlt:i<ops.size:=omg_
  have hlt2:i+1<ops.size:=omg_
  rw [jh (by simpa using hlt),jh (by simpa using hlt2)] at h
  simp only [j9M] at h
  have ho:ops[i]? = B ops[i]:=ju hlt
  have ho2:ops[i+1]? = B ops[i+1]:=ju hlt2
  have hw:∀ (j:G) (hj:j<ops.size) (a:Á),Ä ops[j] (yielded ops a.tmps)=true:=fun j hj a=>by
   have hg:ops[j].guard=none:=by
    have:=jw.1 hbare ops[j] smp_
    simpa using this
   simp [Ä,hg]
  split at h
  case isFalse=>simp at h
  rename_i hd
  split at h
  ·rename_i cq σ' hks
   split at h
   case isFalse=>simp at h
   rename_i hd2
   cases cq with
   | false=>simp at h
   | true=>
    simp only [jc] at h
    simp only [vq,wpOps,ho,ho2,hw i hlt,hw (i+1) hlt2,if_true]
    refine .inl (jsj hbw hR hc (by simpa using hd) (by simpa using hd2) (by simpa using hks) (fun a1 w1 hq=> .inl hq) (fun a' w' S' γ' hR' hc'=> ?_))
    exact jhM hT hC hbw hbare hn n (i+2) σ' a' w' S' γ' omg_ hR' hc' h
  ·rw [vq]
   simp only [wpOps,ho,hw i hlt,if_true]
   refine .inl (jlF hT hC hbw hR hc (by simpa using hd) (by simpa using h) (fun σ' a' w' S' γ' hR' hc' hk=> ?_))
   refine jhM hT hC hbw hbare hn (n+1) (i+1) σ' a' w' S' γ' omg_ hR' hc' ?_
   rw [jh (by simpa using hlt2)]
   simpa using hk
theorem jsl {P:Å} {E:Env} (hT:j1Q P E.T) (hC:j7n P E.C) (hbw:∀ f t,E.bw f=B t→BwK P f t) (hR:Rel E.N E.np S0 w0 refs σ a w S γ) (hc:j2s σ) {ops:Ã Æ} {R:Type} {k:St→O R} {r:R}
  {Q:Ñ→Á→À→Prop} (hn:∀ σ' a' w' S' γ',Rel E.N E.np S0 w0 refs σ' a' w' S' γ'→j2s σ'→k σ'=B r→Q .normal a' w') (h:jsX E ops σ k=B r) :
  wpOps P ops Q (List.range ops.size) a w:=by
 rw [Ï]
 unfold jsX at h
 split at h
 ·rename_i hb
  exact jhM hT hC hbw hb hn ops.size 0 σ a w S γ omg_ hR hc (by simpa using h)
 ·simp at h
end
def jrd (P:Å) (E:Env) (ro:O G) (c:Ó):Prop:=
 ∀ (b n:G) {S0:j0e} {w0:À} {refs:Refs} {σ:St} {a:Á} {w:À} {S:j0e} {γ:G→Y} {R:Type} {k:Ex→St→O R} {r:R},jfR w0 refs→
  (∀ x∈j1z b c,jo3 E x.1 x.2∧MrOK E x.1 x.2)→Rel E.N E.np S0 w0 refs σ a w S γ→j2s σ→j0S E b c σ k=B r→c.wpIn (FR ro) n P (Post E S0 w0 refs (j1m c) k r) a w
theorem j53:∀ (c:Ó) (b:G),j1m c=X→j1z b c=[]
 | .seq x y,b,h=>by simp only [j1m,ji] at h;simp [j1z,j53 x b h.1,j53 y b h.2]
 | .cond _ x y,b,h=>by simp only [j1m,ji] at h;simp [j1z,j53 x b h.1,j53 y b h.2]
 | .block id c,b,h=>by simp only [j1m] at h;simp [j1z,j53 c id h]
 | .loop c,b,h=>by simp [j1m] at h
 | .rangeFunc _ _ _ _,b,h=>by simp [j1m] at h
 | .skip,_,_=>rfl
 | .region _ _ _,_,_=>rfl
 | .exit _,_,_=>rfl
 | .goto _,_,_=>rfl
 | .label _,_,_=>rfl
 | .ret,_,_=>rfl
 | .scope c,b,h=>by simp only [j1m] at h;simp [j1z,j53 c b h]
theorem ju0:∀ (L:H (G×Y)) (T:Ã Y),jdT (L.map (·.1))=X→(∀ q∈L,q.1<T.size)→
  (∀ q∈L,(L.foldl (fun t (q:G×Y)=>t.setIfInBounds q.1 q.2) T).getD q.1 undef=q.2)∧(∀ i,i∉L.map (·.1)→(L.foldl (fun t (q:G×Y)=>t.setIfInBounds q.1 q.2) T).getD i undef=T.getD i undef)∧
  (L.foldl (fun t (q:G×Y)=>t.setIfInBounds q.1 q.2) T).size=T.size
 | [],T,_,_=>⟨fun q h=>by simp at h,fun _ _=>rfl,rfl⟩
 | q::r,T,hn,hb=>by
  simp only [qu,jdT,ji,qd,qi,ko] at hn
  obtain ⟨h1,h2,h3⟩:=ju0 r (T.setIfInBounds q.1 q.2) hn.2 (fun p hp=>by simpa using hb p (by simp [hp]))
  have hq:=hb q smp_
  refine ⟨fun p hp=> ?_,fun i hi=> ?_,by simpa using h3⟩
  ·rcases jl.1 hp with rfl | hp
   ·show (List.foldl (fun t (q:G×Y)=>t.setIfInBounds q.1 q.2) (T.setIfInBounds p.1 p.2) r).getD p.1 undef=_
    rw [h2 p.1 hn.1]
    simp [Array.getD,hq]
   ·exact h1 p hp
  ·simp only [qu,jl,not_or] at hi
   show (List.foldl (fun t (q:G×Y)=>t.setIfInBounds q.1 q.2) (T.setIfInBounds q.1 q.2) r).getD i undef=_
   rw [h2 i hi.2]
   rw [zr,Array.getElem?_setIfInBounds,if_neg (fun h=>hi.1 h.symm),←zr]
theorem jre {N:NT} {np:G}:∀ (L:H (G×TV)) {σ:St},Rel N np S0 w0 refs σ a w S γ→j2s σ→(∀ q∈L,VRep S w q.2 (tm a q.1))→Rel N np S0 w0 refs (setL L σ) a w S γ∧j2s (setL L σ)
 | [],_,hR,hc,_=>⟨hR,hc⟩
 | q::r,σ,hR,hc,hv=>by
  have h1:=jmj hR (s:=q.1) (x:= .one (jbc q.2.t q.2.v)) (jd5 (hv q smp_))
  refine jre r h1 (fun i=> ?_) (fun p hp=>hv p (by simp [hp]))
  simp only [St.setS]
  split
  ·rfl
  ·exact hc i
theorem jo4 {S:j0e} {w:À}:∀ {ps:H G} {xs:H TV} {vs:H Y},All2 (VRep S w) xs vs→∀ q∈ps.zip xs,∃ v,(q.1,v)∈ps.zip vs∧VRep S w q.2 v
 | [],_,_,_,q,h=>by simp at h
 | p::ps,[],vs,_,q,h=>by simp at h
 | p::ps,x::xs,[],h2,q,h=>h2.elim
 | p::ps,x::xs,v::vs,h2,q,h=>by
  simp only [á,jl] at h
  rcases h with rfl | h
  ·exact ⟨v,smp_,h2.1⟩
  ·obtain ⟨u,h3,h4⟩:=jo4 h2.2 q h
   exact ⟨u,by simp [h3],h4⟩
theorem jo5:∀ (ps:H G) (vs:H Y),jdT ps=X→jdT ((ps.zip vs).map (·.1))=X
 | [],_,_=>by simp [jdT]
 | p::ps,[],_=>by simp [jdT]
 | p::ps,v::vs,h=>by
  simp only [jdT,ji,qd,qi,ko,á,qu] at h ⊢
  refine ⟨fun hm=>h.1 ?_,jo5 ps vs h.2⟩
  obtain ⟨q,hq,he⟩:=kp.1 hm
  rw [←he];exact (ê hq).1
theorem jy3 {kd:Ç} {t:Ty} {xs:H t.den} {c:ã} (h:kd=X→t=segT):(jqU kd t xs c).length=cond kd 1 2:=by
 cases kd with
 | false=>rfl
 | true=>have:=h rfl;subst this;rfl
theorem jvY {P:Å} {E:Env} (hbw:∀ f t,E.bw f=B t→BwK P f t) (hpin:E.N.pin=fun _=>U) {b n:G} {g:Ü} {ps:Ã G} {x y:Ó}
  (ihx:∀ l,j1m x=X→jrd P (E.rnd ps x y) (B l) x) (ihy:∀ l,j1m y=X→jrd P (E.rnd ps x y) (B l) y)
  (hLO:jo3 E b (.rangeFunc g ps x y)) {R:Type} {k:Ex→St→O R} {r:R} (hm:jfR w0 refs) (hR:Rel E.N E.np S0 w0 refs σ a w S γ) (hc:j2s σ)
  (h:j0S E b (.rangeFunc g ps x y) σ k=B r) :
  (Code.rangeFunc g ps x y).wpIn (FR Â) n P (Post E S0 w0 refs (j1m (.rangeFunc g ps x y)) k r) a w:=by
 refine jz3 (n:=1) ?_
 simp only [j0S] at h
 split at h
 case h_2=>simp at h
 rename_i f t xs hev
 split at h
 case h_2=>simp at h
 rename_i kd hok
 split at h
 case h_2=>simp at h
 rename_i s hs
 obtain ⟨fu0,e,s',hloop,hk⟩:=hLO _ R _ r h
 have hrep:=j8Y hR g
 rw [hev] at hrep
 obtain ⟨⟨cv,hgv,hcv⟩,_⟩:=hrep
 obtain ⟨S1,γ1,hR1,hc1⟩:=j5v hR hc hs
 have parts:∀ f t kd,rfK E b f t ps x y=B kd→E.bw f=B (kd,t)∧(kd=X→t=segT)∧ps.toList.length=cond kd 1 2∧jdT ps.toList=X∧(∀ p∈ps.toList,p<E.N.n)∧j1m x=X∧j1m y=X∧pinK ps x y (E.keep b)=true:=by
  intro f t kd hok
  unfold rfK at hok
  split at hok
  case h_2=>simp at hok
  rename_i q hq
  cases hcnd:(decide (q.2=t)&&(cond q.1 (decide (t=segT)) X&&(decide (ps.toList.length=cond q.1 1 2)&&(jdT ps.toList&&(ps.toList.all (fun p=>decide (p<E.N.n))&&(j1m x&&(j1m y&&pinK ps x y (E.keep b)))))))) with
  | false=>rw [hcnd] at hok;simp at hok
  | true=>
  rw [hcnd,jc,jb] at hok
  subst hok
  simp only [ji,jq,jw] at hcnd
  obtain ⟨h1,h0,h2,h3,h4,h5,h6,h7⟩:=hcnd
  exact ⟨by rw [hq,←h1],fun hk=>by rw [hk] at h0;exact qe h0,h2,h3,h4,h5,h6,h7⟩
 obtain ⟨hbf,hsg,h2,hnd,hlt,hpx,hpy,hpk⟩:=parts f t kd hok
 obtain ⟨⟨fn',hfn',hbody,hnm⟩,hit⟩:=(hbw f _ hbf).it hsg
 have heg:∀ args w,(callFunc f args).run P w = .ok (.enter f args) w:=fun args w=>by
  have h2':¬ fn'.body=none:=fun hn=>by rw [hn] at hbody;simp at hbody
  have h3' : ¬ fn'.name = "runtime.NumGoroutine" := by simpa using hnm
  simp [callFunc,hfn',h2',h3']
 refine wpIn_rangeFunc fun fn _=> ?_
 obtain ⟨rec,hrec⟩:∃ rec:LoopState→O Ó→Loop,rec=fun st pe=>{ state:=st,pending:=pe,fn,tmps:=a.tmps,params:=ps,assign:=x,body:=y,defers:=w.heap.size }:=⟨_,rfl⟩
 obtain ⟨W1,hW1⟩:∃ W1,(w.alloc (.deferred (B []))).alloc (.loop (rec .ready Â))=W1:=⟨_,rfl⟩
 refine ⟨w.heap.size+1,[{ target:= .collected w.heap.size,args:=#[] }],W1,{ target:= .fn (.func f) cv,args:=#[.func (.yield (w.heap.size+1)) #[] #[]] },W1,f,
  #[.func (.yield (w.heap.size+1)) #[] #[]]++cv,W1,?_,?_,fun _ _=>trivial,?_,fun hd=>by simp [FR,å] at hd,?_⟩
 ·rw [←hW1,hrec];exact run_enterLoop_outer _ _ _ _ _
 ·simp only [resolve,hgv]
  simp [go_sem]
 ·simp [invoke,go_sem,heg]
 obtain ⟨l,hl⟩:∃ l,l=w.heap.size+1:=⟨_,rfl⟩
 rw [←hl]
 let refsK:(G→O Y)→Obj→Refs:=fun fx o=>{ blks:=refs.blks,val:=refs.val,ds:=[],kw:=fun g=>if g=l then B o else if g=w.heap.size then B (.deferred (B [])) else refs.kw g,fix:=fx,mv:=refs.mv }
 let fx:G→O Value:=fun i=>if jrT ps x y i then B (a.tmps.getD i undef) else Â
 let aI:Go.Act:={ tmps:=a.tmps,defers:=[] }
 have hkl:∀ fx o,(refsK fx o).kw l=B o:=fun fx o=>by simp [refsK]
 have hwl:w0.heap.size≤l:=by have:=hR.grow;omega
 have hmk:∀ fx o,jfR w0 (refsK fx o):=fun fx o=>⟨í,fun d hd=>by simp [refsK] at hd⟩
 have hput:∀ {N:NT} {fx:G→O Y} {o o':Obj} {σ:St} {a:Á} {W:À} {S:j0e} {γ:G→Y},o.isCells=U→o'.isCells=U→Rel N E.np S0 w0 (refsK fx o) σ a W S γ→
   Rel N E.np S0 w0 (refsK fx o') σ a (W.putObj l o') S γ:=by
  intro N fx o o' σ a W S γ h1 h2 hR
  have:=hR.putO (hkl fx o) hwl h1 h2
  refine this.swap rfl rfl this.size this.defers this.slot (fun g u hg=>this.kept g u ?_) this.fix
  simp only [refsK] at hg ⊢
  split
  ·rename_i e;subst e;simpa using hg
  ·rename_i e;simpa [e] using hg
 have hframe:∀ {N N':NT} {fx fx':G→O Y} {o:Obj} {K:Keep} {s:Snap} {a a':Á} {W:À} {S:j0e} {γ:G→Y},Rel N E.np S0 w0 (refsK fx o) (j0J E.np K s) a W S γ→a'.tmps.size=N'.n→a'.defers=[]→
   (∀ i∈K.slots,tm a' i=tm a i)→(∀ i v,fx' i=B v→N'.pin i=X∧a'.tmps.getD i undef=v)→Rel N' E.np S0 w0 (refsK fx' o) (j0J E.np K s) a' W S γ:=by
  intro N N' fx fx' o K s a a' W S γ hR h1 h2 h3 h4
  exact hR.frame rfl rfl h1 h2 h3 (fun g u hg=>hR.kept g u hg) h4
 have hnofix:∀ i v,(fun _=>Â:G→O Y) i=B v→E.N.pin i=X∧aI.tmps.getD i undef=v:=fun i v h=>by simp at h
 let J:ã→j0e→À→Prop:=fun c S W=>∃ s γ fu,Rel E.N E.np S0 w0 (refsK (fun _=>Â) (.loop (rec .ready Â))) (j0J E.np (E.keep b) s) aI W S γ∧j2s (j0J E.np (E.keep b) s)∧
  loopN (jlj E b g ps x y) fu (.s (.one (.d (.int .i64) c))::s)=B (e,s')
 let Je:À→Prop:=fun W=>∃ S γ,Rel E.N E.np S0 w0 (refsK (fun _=>Â) (.loop (rec .ready Â))) (j0J E.np (E.keepX b e) s') aI W S γ∧j2s (j0J E.np (E.keepX b e) s')∧e = .normal
 let Jx:À→Prop:=fun W=>∃ S γ c,Rel E.N E.np S0 w0 (refsK (fun _=>Â) (.loop (rec .done (B c)))) (j0J E.np (E.keepX b e) s') aI W S γ∧j2s (j0J E.np (E.keepX b e) s')∧
  ((e = .ret∧c = .ret)∨∃ i,e = .exit i∧c = .exit i)
 have hpin1:∀ K:Keep,pinK ps x y K=X→∀ i∈K.slots,jrT ps x y i=true:=fun K hK i hi=>jw.1 hK i hi
 have hpnot:∀ i,jrT ps x y i=X→i∉ps.toList:=by
  intro i hi
  simp only [jrT,ji,qd,qi,ko] at hi
  exact hi.1
 have hJ0:J (jm5 kd xs.length) S1 W1:=by
  refine ⟨s,γ1,fu0,?_,hc1,hloop⟩
  have hA:=(hR1.allocO (.deferred (B []))).allocO (.loop (rec .ready Â))
  rw [hW1] at hA
  refine hA.frame rfl rfl hR.size rfl (fun i _=>rfl) (fun g' u hg'=> ?_) hnofix
  simp only [refsK] at hg'
  split at hg'
  ·rename_i e';simp only [jb] at hg';subst hg'
   rw [e',hl]
   refine ⟨?_,fun k' b' hb' hbk=> ?_⟩
   ·rw [←hW1];have:=Ð (w.alloc (.deferred (B []))) (.loop (rec .ready Â));rwa [World.size_alloc] at this
   ·have:=j44 (hR1.box k' b' hb') hbk;omega
  ·split at hg'
   ·rename_i _ e';simp only [jb] at hg';subst hg'
    rw [e']
    refine ⟨?_,fun k' b' hb' hbk=> ?_⟩
    ·rw [←hW1];exact (heap_alloc_old _ _ smp_).trans (Ð w _)
    ·have:=j44 (hR1.box k' b' hb') hbk;omega
   ·exact hA.kept g' u hg'
 have haI:aI.eval g=a.eval g:=by cases g<;>rfl
 have hsz0:aI.tmps.size=E.N.n:=hR.size
 have hgrx:∀ {K:Keep} {s:Snap} {o:Obj} {W W':À} {S:j0e} {γ:G→Y},Grew W W'→Rel E.N E.np S0 w0 (refsK (fun _=>Â) o) (j0J E.np K s) aI W S γ→Rel E.N E.np S0 w0 (refsK (fun _=>Â) o) (j0J E.np K s) aI W' S γ:=
  fun hg h1=>h1.grew hg ⟨fun _ _ h=>h,fun _ _ h=> .inl h,fun g o h=>zf (h1.here g o h) hg.size⟩
 refine CallsIn.mono (hit cv l J Je Jx W1 S1 xs (fun c S W S' W' hg hs ⟨s,γ,fu,h1,h2,h3⟩=>⟨s,γ,fu,h1.grew hg hs,h2,h3⟩) (fun W W' hg ⟨S,γ,h1,h2⟩=>⟨S,γ,hgrx hg h1,h2⟩) (fun W W' hg ⟨S,γ,c,h1,h2⟩=>⟨S,γ,c,hgrx hg h1,h2⟩)
  (fun c S W ⟨s,γ,fu,h1,_⟩=>h1.here) ?_ ?_ hJ0) ?_
 ·-- a round
  rintro cn S W ⟨s,γ,fu,hRj,hcj,hlp⟩
  cases fu with
  | zero=>simp [loopN] at hlp
  | succ fu=>
  simp only [loopN] at hlp
  cases hst:jlj E b g ps x y (.s (.one (.d (.int .i64) cn))::s) with
  | none=>rw [hst] at hlp;simp at hlp
  | some r0=>
  rw [hst] at hlp
  unfold jlj jjh at hst
  dsimp only at hst
  split at hst
  case h_2=>simp at hst
  rename_i f' t' xs' hev'
  split at hst
  case h_2=>simp at hst
  rename_i kd' hok'
  have hrep':=j8Y hRj g
  rw [hev',haI,hgv] at hrep'
  obtain ⟨⟨cv',hgv',hcap⟩,_⟩:=hrep'
  simp only [Value.func.injEq,Fn.func.injEq,qm] at hgv'
  obtain ⟨rfl,rfl⟩:=hgv'
  have ht:=(parts f t' kd' hok').1
  rw [hbf] at ht
  simp only [jb,jf] at ht
  obtain ⟨rfl,rfl⟩:=ht
  refine ⟨xs',hcap,fun hfi=> ?_,fun hfi=> ?_⟩
  ·rw [hfi,jc] at hst
   cases hpx':pinK ps x y (E.keepX b .normal) with
   | false=>rw [hpx'] at hst;simp at hst
   | true=>
   rw [hpx',jc] at hst
   split at hst
   case h_2=>simp at hst
   rename_i s3 hs3
   simp only [jb] at hst;subst hst
   simp only [jb,jf] at hlp
   obtain ⟨rfl,rfl⟩:=hlp
   obtain ⟨S5,γ5,hR5,hc5⟩:=j5v hRj hcj hs3
   exact ⟨S5,γ5,hR5,hc5,rfl⟩
  rw [hfi,jd] at hst
  cases hle:itOk kd xs'.length cn with
  | false=>rw [hle] at hst;simp at hst
  | true=>
  rw [hle,jc] at hst
  refine ⟨rfl,fun Sg Wg vs hgw hgs hvs=> ?_⟩
  have hRj:=hRj.grew hgw hgs
  have hvl:vs.toArray.size=ps.size:=by
   have e1:=hvs.length
   rw [jy3 hsg] at e1
   simp only [y9]
   rw [←e1,←h2,q8]
  refine ⟨fn,_,x,y,by have:=run_yield (P:=P) (args:=vs.toArray) (hRj.kept l _ (hkl _ _)).1 (by rw [hrec];exact hvl);rw [hrec] at this;exact this,roundIn_of_wpIn trivial ?_⟩
  let a1:Go.Act:={ tmps:=(ps.zip vs.toArray).foldl (fun t (q:G×Y)=>t.setIfInBounds q.1 q.2) a.tmps,defers:=[] }
  have hzl:(ps.zip vs.toArray).toList=ps.toList.zip vs:=smp_
  have ha1:a1.tmps=(ps.toList.zip vs).foldl (fun t (q:G×Y)=>t.setIfInBounds q.1 q.2) a.tmps:=by
   show (ps.zip vs.toArray).foldl _ _=_
   rw [←Array.foldl_toList,hzl]
  have hsub:∀ i,i∈(ps.toList.zip vs).map (·.1)→i∈ps.toList:=fun i hi=>by
   obtain ⟨q,hq,rfl⟩:=kp.1 hi
   exact (ê hq).1
  have hndz:jdT ((ps.toList.zip vs).map (·.1))=true:=jo5 _ _ hnd
  obtain ⟨htp,hto,htz⟩:=ju0 (ps.toList.zip vs) a.tmps hndz (fun q hq=>by rw [hR.size];exact hlt _ (ê hq).1)
  rw [←ha1] at htp hto htz
  have hszr:a1.tmps.size=E.N.n:=htz.trans hR.size
  have htm:∀ i,i∉ps.toList→tm a1 i=tm aI i:=fun i hi=>hto i (fun h=>hi (hsub i h))
  have hRa:Rel (E.rnd ps x y).N E.np S0 w0 (refsK fx (.loop (rec .ready Â))) (j0J E.np (E.keep b) s) a1 Wg Sg γ:=hframe hRj hszr rfl (fun i hi=>htm i (hpnot i (hpin1 _ hpk i hi))) (fun i u hu=>by
   simp only [fx] at hu
   split at hu
   ·rename_i hp
    simp only [jb] at hu
    refine ⟨hp,?_⟩
    show tm a1 i=u
    rw [htm i (hpnot i hp)];exact hu
   ·simp at hu)
  obtain ⟨hRc,hcr⟩:=jre (ps.toList.zip (jqU kd t xs' cn)) hRa hcj (fun q hq=>by
   obtain ⟨v,h3,h4⟩:=jo4 hvs q hq
   have:=htp _ h3
   show VRep Sg Wg q.2 (a1.tmps.getD q.1 undef)
   rw [this];exact h4)
  refine wpIn_mono (ihx l hpx 0 0 (hmk _ _) (by rw [j53 x 0 hpx];simp) hRc hcr hst) ?_
  rintro e1 a2 w2 ⟨refs2,ex,σ2,S2,γ2,_,hpl,rfl,hR2,hc2,hk2⟩
  have:=hpl hpx
  subst this
  cases ex with
  | exit i=>simp at hk2
  | ret=>simp at hk2
  | normal=>
  refine ⟨_,run_beginRound (hR2.kept l _ (hkl _ _)).1 (by rw [hrec]),?_⟩
  have hR3:Rel (E.rnd ps x y).N E.np S0 w0 (refsK fx (.loop (rec .busy Â))) σ2 a2 (w2.putObj l (.loop { rec .ready Â with state:= .busy })) S2 γ2:=by
   have:=hput (o':= .loop (rec .busy Â)) rfl rfl hR2
   rw [hrec] at this ⊢
   exact this
  refine wpIn_mono (ihy l hpy 0 0 (hmk _ _) (by rw [j53 y 0 hpy];simp) hR3 hc2 hk2) ?_
  rintro e1 a3 w3 ⟨refs3,ex,σ3,S3,γ3,_,hpl,rfl,hR4,hc4,hk4⟩
  have:=hpl hpy
  subst this
  have hback:∀ {K:Keep} {s:Snap} {o:Obj} {W:À} {S:j0e} {γ:G→Y},pinK ps x y K=X→Rel (E.rnd ps x y).N E.np S0 w0 (refsK fx o) (j0J E.np K s) a3 W S γ→
    Rel E.N E.np S0 w0 (refsK (fun _=>Â) o) (j0J E.np K s) aI W S γ:=fun hK hR=>hframe hR hsz0 rfl (fun i hi=>by
   have:=(hR.fix i (a.tmps.getD i undef) (by simp only [refsK,fx];rw [if_pos (hpin1 _ hK i hi)])).2
   exact this.symm) hnofix
  have hleave:∀ (ex:Ex) (c:Ó),((ex = .ret∧c = .ret)∨∃ i,ex = .exit i∧c = .exit i)→
    (cond (pinK ps x y (E.keepX b ex)) (match j5P E.np (E.keepX b ex) σ3 with
     | some s'=>B (Sum.inr (ex,s'))
     | none=>Â) Â:O (Snap ⊕ Ex×Snap))=B r0→
    ∃ v w',(Instr.endRound l (B c)).run P w3 = .ok v w'∧((Ø v = .returned (.bool X)∧∃ S',J (jqT kd cn) S' w')∨(Ø v = .returned (.bool U)∧Jx w')):=by
   intro ex c hex hk5
   cases hpx':pinK ps x y (E.keepX b ex) with
   | false=>rw [hpx'] at hk5;simp at hk5
   | true=>
   rw [hpx',jc] at hk5
   split at hk5
   case h_2=>simp at hk5
   rename_i s2 hs2
   simp only [jb] at hk5;subst hk5
   simp only [jb,jf] at hlp
   obtain ⟨rfl,rfl⟩:=hlp
   obtain ⟨S5,γ5,hR5,hc5⟩:=j5v hR4 hc4 hs2
   refine ⟨_,_,run_endRound (B c) (hR5.kept l _ (hkl _ _)).1,.inr ⟨rfl,S5,γ5,c,?_,hc5,hex⟩⟩
   have:=hput (o':= .loop (rec .done (B c))) rfl rfl (hback hpx' hR5)
   rw [hrec] at this ⊢
   exact this
  cases ex with
  | normal=>
   dsimp only at hk4
   split at hk4
   case h_2=>simp at hk4
   rename_i s2 hs2
   simp only [jb] at hk4;subst hk4
   obtain ⟨S5,γ5,hR5,hc5⟩:=j5v hR4 hc4 hs2
   show ∃ v w',(Instr.endRound l Â).run P w3 = .ok v w'∧_
   refine ⟨_,_,run_endRound Â (hR5.kept l _ (hkl _ _)).1,.inl ⟨rfl,S5,s2,γ5,fu,?_,hc5,?_⟩⟩
   ·have:=hput (o':= .loop (rec .ready Â)) rfl rfl (hback hpk hR5)
    rw [hrec] at this ⊢
    exact this
   ·exact hlp
  | exit i=>exact hleave _ _ (.inr ⟨i,rfl,rfl⟩) hk4
  | ret=>exact hleave _ _ (.inl ⟨rfl,rfl⟩) hk4
 ·refine ⟨S,fun g o h=>by rw [←hW1];have:=hR.here g o h;simp;omega,hcv.mono fun x z hx=> ?_⟩
  rw [←hW1]
  exact j7x.keep (fun g o h=>⟨h,by
   have:=hR.here g o h
   rw [ð _ _ _ sqo_,ð _ _ _ this]⟩) hx
 ·rintro e2 W2 ⟨⟨v,rfl⟩,hend⟩
  have hback:∀ {K:Keep} {s:Snap} {o:Obj} {W:À} {S:j0e} {γ:G→Y},Rel E.N E.np S0 w0 (refsK (fun _=>Â) o) (j0J E.np K s) aI W S γ→
    ∃ refs',jin w0 refs refs'∧Rel E.N E.np S0 w0 refs' (j0J E.np K s) { a with defers:=[{ target:= .collected w.heap.size,args:=#[] }]++a.defers } W S γ:=by
   intro K s o W S γ hRw
   refine ⟨{ blks:=refs.blks,val:=refs.val,ds:={ target:= .collected w.heap.size,args:=#[] }::refs.ds,kw:=fun g=>if g=w.heap.size then B (.deferred (B [])) else refs.kw g,fix:=refs.fix,mv:=refs.mv },⟨rfl,rfl,rfl,⟨?_,?_⟩,rfl⟩,?_⟩
   ·refine qx.2 ⟨fun hm'=> ?_,hm.1⟩
    obtain ⟨D,hD,_,hkD⟩:=hm.2 _ hm'
    simp only [Deferred.mk.injEq,Target.collected.injEq,and_true] at hD
    rw [←hD,hR.kw_new (jz _)] at hkD
    simp at hkD
   ·intro d hd
    rcases jl.1 hd with rfl | hd
    ·exact ⟨w.heap.size,rfl,hR.grow,smp_⟩
    ·obtain ⟨D,rfl,h1,h2⟩:=hm.2 d hd
     refine ⟨D,rfl,h1,?_⟩
     show (if D=w.heap.size then _ else refs.kw D)=_
     rw [if_neg,h2]
     rintro rfl
     rw [hR.kw_new (jz _)] at h2;simp at h2
   ·refine hRw.frame rfl rfl hR.size (by rw [hR.defers];rfl) (fun i _=>rfl) (fun g' u hg'=>hRw.kept g' u ?_) (fun i v hv=> ?_)
    ·simp only [refsK] at hg' ⊢
     by_cases h1:g'=l
     ·exfalso
      subst h1
      rw [if_neg omg_,hR.kw_new omg_] at hg'
      simp at hg'
     ·rw [if_neg h1];exact hg'
    ·have:=(hR.fix i v hv).1
     rw [hpin] at this;simp at this
  rcases hend with ⟨S2,γ2,hRe,hce,rfl⟩ | ⟨S2,γ2,c,hRx,hcx,hex⟩
  ·refine ⟨Â,_,by have:=run_endLoop (P:=P) (hRe.kept l _ (hkl _ _)).1 (by rw [hrec];simp);rw [hrec] at this;exact this,?_⟩
   have hR6:=hput (o':= .loop { rec .ready Â with state:= .exhausted }) rfl rfl hRe
   obtain ⟨refs',hle,hRe⟩:=hback hR6
   rw [hrec] at hRe
   exact ⟨refs',.normal,_,S2,γ2,hle,fun hf=>by simp [j1m] at hf,rfl,hRe,hce,hk⟩
  ·have hR6:=hput (o':= .loop { rec .done (B c) with state:= .exhausted }) rfl rfl hRx
   obtain ⟨refs',hle,hRe⟩:=hback hR6
   refine ⟨B c,_,by have:=run_endLoop (P:=P) (hRx.kept l _ (hkl _ _)).1 (by rw [hrec];simp);rw [hrec] at this;exact this,?_⟩
   rw [hrec] at hRe
   rcases hex with ⟨rfl,rfl⟩ | ⟨i,rfl,rfl⟩
   ·exact wpIn_ret ⟨refs',.ret,_,S2,γ2,hle,fun hf=>by simp [j1m] at hf,rfl,hRe,hcx,hk⟩
   ·exact wpIn_exit ⟨refs',.exit i,_,S2,γ2,hle,fun hf=>by simp [j1m] at hf,rfl,hRe,hcx,hk⟩
def MrS (P:Å) (mrf:G→O (G×G)):Prop:=
 ∀ {E:Env},E.mr=mrf→j1Q P E.T→j7n P E.C→CFun E.C→(∀ f t,E.bw f=B t→BwK P f t)→(E.N.pin=fun _=>U)→
  ∀ (x y:Ó) (b n:G) (pl:Ç) {S0:j0e} {w0:À} {refs:Refs} {σ:St} {a:Á} {w:À} {S:j0e} {γ:G→Y} {R:Type} {k:Ex→St→O R} {r:R},jfR w0 refs→
   (∀ z∈j1z b y,MrOK E z.1 z.2)→Rel E.N E.np S0 w0 refs σ a w S γ→j2s σ→jli E x y=X→jnD E x y σ k=B r→(Code.seq x y).wpIn (FR Â) n P (Post E S0 w0 refs pl k r) a w
theorem jo6 {E:Env} {x y:Ó} (h:jli E x y=X):j1m (.seq x y)=false:=by
 unfold jli at h
 split at h
 ·simp [j1m]
 ·simp at h
theorem jjJ {P:Å} (hmix:P.follows .mixedOrders=X) {mrf:G→O (G×G)} (hmr:MrS P mrf):∀ (c:Ó) {E:Env} {ro:O G},j1Q P E.T→j7n P E.C→CFun E.C→E.mr=mrf→
  (∀ f t,E.bw f=B t→BwK P f t)→(j1m c=X∨(ro=Â∧E.N.pin=fun _=>U))→jrd P E ro c:=by
 intro c
 induction c with
 | skip=>intro E ro hT hC hF hE hro hp b n S0 w0 refs σ a w S γ R k r hm hL hR hc h;exact wpIn_skip ⟨refs,.normal,σ,S,γ,⟨rfl,rfl,rfl,hm,rfl⟩,fun _=>rfl,rfl,hR,hc,h⟩
 | label l=>intro E ro hT hC hF hE hro hp b n S0 w0 refs σ a w S γ R k r hm hL hR hc h;exact wpIn_label ⟨refs,.normal,σ,S,γ,⟨rfl,rfl,rfl,hm,rfl⟩,fun _=>rfl,rfl,hR,hc,h⟩
 | region rid ops draw=>
  intro E ro hT hC hF hE hro hp b n S0 w0 refs σ a w S γ R k r hm hL hR hc h
  have hpo:ro=Â∨∀ o∈ops.toList,∀ c,o.op ≠ .defer c:=hp.elim (fun hp=> .inr fun o ho c hd=>by
   have:=jw.1 hp o ho
   simp [jwK,hd] at this) fun h=> .inl h.1
  cases draw with
  | true=>
   simp only [j0S] at h
   obtain ⟨σ,S,γ,hR,hc,h⟩:=jem hR hc h
   exact wpIn_region_any hmix (jrb hpo jmr _ _ _ _ (jsg hT hC hF hR hc (fun σ' a' w' S' γ' hR' hc' hk=>⟨refs,.normal,σ',S',γ',⟨rfl,rfl,rfl,hm,rfl⟩,fun _=>rfl,rfl,hR',hc',hk⟩) h))
  | false=>
   simp only [j0S] at h
   obtain ⟨σ,S,γ,hR,hc,h⟩:=jem hR hc h
   cases hks:E.ks rid with
   | true=>
    rw [hks,jc] at h
    exact wpIn_region (jim hpo jmr _ _ _ (jsl hT hC hro hR hc (fun σ' a' w' S' γ' hR' hc' hk=>⟨refs,.normal,σ',S',γ',⟨rfl,rfl,rfl,hm,rfl⟩,fun _=>rfl,rfl,hR',hc',hk⟩) h))
   | false=>
    rw [hks,jd] at h
    exact wpIn_region (jim hpo jmr _ _ _ (jtB hT hC hR hc (fun σ' a' w' S' γ' hR' hc' hk=>⟨refs,.normal,σ',S',γ',⟨rfl,rfl,rfl,hm,rfl⟩,fun _=>rfl,rfl,hR',hc',hk⟩) h))
 | seq x y ihx ihy=>
  intro E ro hT hC hF hE hro hp b n S0 w0 refs σ a w S γ R k r hm hL hR hc h
  simp only [j0S] at h
  cases hmh:jli E x y with
  | true=>
   rw [hmh,jc] at h
   obtain ⟨rfl,hpin⟩:=hp.resolve_left (by rw [jo6 hmh];simp)
   exact hmr hE hT hC hF hro hpin x y b n _ hm (fun z hz=>(hL z (by simp [j1z,hz])).2) hR hc hmh h
  | false=>
  rw [hmh,jd] at h
  have hpx:j1m x=X∨(ro=Â∧E.N.pin=fun _=>U):=hp.imp (fun h=>by simp only [j1m,ji] at h;exact h.1) id
  have hpy:j1m y=X∨(ro=Â∧E.N.pin=fun _=>U):=hp.imp (fun h=>by simp only [j1m,ji] at h;exact h.2) id
  refine wpIn_seq (wpIn_mono (ihx hT hC hF hE hro hpx b n hm (fun z hz=>hL z (by simp [j1z,hz])) hR hc h) ?_)
  rintro e a' w' ⟨refs',ex,σ',S',γ',hle,hpl,rfl,hR',hc',hk⟩
  have hx:j1m (.seq x y)=X→refs'=refs:=fun h=>by simp only [j1m,ji] at h;exact hpl h.1
  cases ex with
  | normal=>
   refine wpIn_mono (ihy hT hC hF hE hro hpy b n hle.marks (fun z hz=>hL z (by simp [j1z,hz])) hR' hc' hk) ?_
   rintro e2 a2 w2 ⟨refs2,ex,σ2,S2,γ2,hle2,hpl2,rfl,hR2,hc2,hk2⟩
   refine ⟨refs2,ex,σ2,S2,γ2,hle.trans hle2,fun h=> ?_,rfl,hR2,hc2,hk2⟩
   have h1:=hx h
   simp only [j1m,ji] at h
   rw [hpl2 h.2,h1]
  | exit i=>exact ⟨refs',.exit i,σ',S',γ',hle,hx,rfl,hR',hc',hk⟩
  | ret=>exact ⟨refs',.ret,σ',S',γ',hle,hx,rfl,hR',hc',hk⟩
 | cond c x y ihx ihy=>
  intro E ro hT hC hF hE hro hp b n S0 w0 refs σ a w S γ R k r hm hL hR hc h
  simp only [j0S] at h
  have hpx:j1m x=X∨(ro=Â∧E.N.pin=fun _=>U):=hp.imp (fun h=>by simp only [j1m,ji] at h;exact h.1) id
  have hpy:j1m y=X∨(ro=Â∧E.N.pin=fun _=>U):=hp.imp (fun h=>by simp only [j1m,ji] at h;exact h.2) id
  split at h
  ·rename_i v hv
   have hev:=j8Y hR c
   rw [hv] at hev
   have hcb:a.eval c = .bool v:=j8F hev
   refine wpIn_cond hcb ?_
   cases v with
   | true=>
    rw [jc,jsZ hv] at h
    refine wpIn_mono (ihx hT hC hF hE hro hpx b n hm (fun z hz=>hL z (by simp [j1z,hz])) hR hc h) ?_
    rintro e a' w' ⟨refs',ex,σ',S',γ',hle,hpl,he,hr⟩
    exact ⟨refs',ex,σ',S',γ',hle,fun h=>by simp only [j1m,ji] at h;exact hpl h.1,he,hr⟩
   | false=>
    rw [jd,jsZ hv] at h
    refine wpIn_mono (ihy hT hC hF hE hro hpy b n hm (fun z hz=>hL z (by simp [j1z,hz])) hR hc h) ?_
    rintro e a' w' ⟨refs',ex,σ',S',γ',hle,hpl,he,hr⟩
    exact ⟨refs',ex,σ',S',γ',hle,fun h=>by simp only [j1m,ji] at h;exact hpl h.2,he,hr⟩
  ·simp at h
 | block id c ih=>
  intro E ro hT hC hF hE hro hp b n S0 w0 refs σ a w S γ R k r hm hL hR hc h
  simp only [j0S] at h
  refine wpIn_block (wpIn_mono (ih hT hC hF hE hro hp id n hm (fun z hz=>hL z (by simpa [j1z] using hz)) hR hc h) ?_)
  rintro e a' w' ⟨refs',ex,σ',S',γ',hle,hpl,rfl,hR',hc',hk⟩
  cases ex with
  | normal=>exact ⟨refs',.normal,σ',S',γ',hle,hpl,rfl,hR',hc',hk⟩
  | exit i=>
   simp only [exOf,æ]
   simp only at hk
   split
   ·rename_i hi
    rw [if_pos hi] at hk
    exact ⟨refs',.normal,σ',S',γ',hle,hpl,rfl,hR',hc',hk⟩
   ·rename_i hi
    rw [if_neg hi] at hk
    exact ⟨refs',.exit i,σ',S',γ',hle,hpl,rfl,hR',hc',hk⟩
  | ret=>exact ⟨refs',.ret,σ',S',γ',hle,hpl,rfl,hR',hc',hk⟩
 | scope c ih=>
  intro E ro hT hC hF hE hro hp b n S0 w0 refs σ a w S γ R k r hm hL hR hc h
  simp only [j0S] at h
  refine jsh (fun l a w hq=> ?_) (ih hT hC hF hE hro hp b n hm (fun z hz=>hL z (by simpa [j1z] using hz)) hR hc h)
  obtain ⟨_,ex,_,_,_,_,_,he,_⟩:=hq
  cases ex<;>simp [exOf] at he
 | loop c ih=>
  intro E ro hT hC hF hE hro hp b n S0 w0 refs σ a w S γ R k r hm hL hR hc h
  have hrn:=hp.resolve_left (by simp [j1m])
  simp only [j0S] at h
  cases hrf:isRf c with
  | true=>rw [hrf] at h;simp at h
  | false=>
  rw [hrf,jd] at h
  cases hun:Nat.blt 0 (E.un b) with
  | true=>
   rw [hun,jc] at h
   refine jjI (fun n a w=>∃ refs' σ' S γ,jin w0 refs refs'∧Rel E.N E.np S0 w0 refs' σ' a w S γ∧j2s σ'∧jie (fun σ k=>j0S E b c σ k) n σ' k=B r) ⟨refs,σ,S,γ,⟨rfl,rfl,rfl,hm,rfl⟩,hR,hc,h⟩ ?_
   rintro m a1 w1 ⟨refs1,σ1,S2,γ2,hle1,hR2,hc2,hm'⟩
   cases m with
   | zero=>simp [jie] at hm'
   | succ m=>
    simp only [jie] at hm'
    refine wpIn_mono (ih hT hC hF hE hro (.inr hrn) b n hle1.marks (fun z hz=>hL z (by simp [j1z,hz])) hR2 hc2 hm') ?_
    rintro e2 a2 w2 ⟨refs2,ex,σ2,S3,γ3,hle2,_,rfl,hR3,hc3,hk3⟩
    cases ex with
    | normal=>exact ⟨m,ý m,refs2,σ2,S3,γ3,hle1.trans hle2,hR3,hc3,hk3⟩
    | exit i=>exact ⟨refs2,.exit i,σ2,S3,γ3,hle1.trans hle2,fun hf=>by simp [j1m] at hf,rfl,hR3,hc3,hk3⟩
    | ret=>exact ⟨refs2,.ret,σ2,S3,γ3,hle1.trans hle2,fun hf=>by simp [j1m] at hf,rfl,hR3,hc3,hk3⟩
  | false=>
  rw [hun,jd] at h
  split at h
  ·rename_i s hs
   obtain ⟨n1,e,s',hn,hk⟩:=(hL (b,c) (by simp [j1z])).1 s R _ r h
   have hstep:jt1 E b c=jcY E b c:=by
    funext s
    cases c<;>first | rfl | simp [isRf] at hrf
   rw [hstep] at hn
   obtain ⟨S1,γ1,hR1,hc1⟩:=j5v hR hc hs
   refine jjI (fun n a w=>∃ refs' s S γ,jin w0 refs refs'∧Rel E.N E.np S0 w0 refs' (j0J E.np (E.keep b) s) a w S γ∧j2s (j0J E.np (E.keep b) s)∧loopN (jcY E b c) n s=B (e,s')) ⟨refs,s,S1,γ1,⟨rfl,rfl,rfl,hm,rfl⟩,hR1,hc1,hn⟩ ?_
   rintro m a1 w1 ⟨refs1,s1,S2,γ2,hle1,hR2,hc2,hm'⟩
   cases m with
   | zero=>simp [loopN] at hm'
   | succ m=>
    simp only [loopN] at hm'
    cases hst:jcY E b c s1 with
    | none=>simp [hst] at hm'
    | some out=>
     rw [hst] at hm'
     unfold jcY at hst
     refine wpIn_mono (ih hT hC hF hE hro (.inr hrn) b n hle1.marks (fun z hz=>hL z (by simp [j1z,hz])) hR2 hc2 hst) ?_
     rintro e2 a2 w2 ⟨refs2,ex,σ2,S3,γ3,hle2,_,rfl,hR3,hc3,hk3⟩
     cases ex with
     | normal=>
      simp only at hk3
      split at hk3
      ·rename_i s2 hs2
       simp only [jb] at hk3;subst hk3
       obtain ⟨S4,γ4,hR4,hc4⟩:=j5v hR3 hc3 hs2
       exact ⟨m,ý m,refs2,s2,S4,γ4,hle1.trans hle2,hR4,hc4,hm'⟩
      ·simp at hk3
     | exit i=>
      simp only at hk3
      split at hk3
      ·rename_i s2 hs2
       simp only [jb] at hk3;subst hk3
       obtain ⟨S4,γ4,hR4,hc4⟩:=j5v hR3 hc3 hs2
       simp only [jb,jf] at hm'
       obtain ⟨rfl,rfl⟩:=hm'
       exact ⟨refs2,.exit i,_,S4,γ4,hle1.trans hle2,fun hf=>by simp [j1m] at hf,rfl,hR4,hc4,hk⟩
      ·simp at hk3
     | ret=>
      simp only at hk3
      split at hk3
      ·rename_i s2 hs2
       simp only [jb] at hk3;subst hk3
       obtain ⟨S4,γ4,hR4,hc4⟩:=j5v hR3 hc3 hs2
       simp only [jb,jf] at hm'
       obtain ⟨rfl,rfl⟩:=hm'
       exact ⟨refs2,.ret,_,S4,γ4,hle1.trans hle2,fun hf=>by simp [j1m] at hf,rfl,hR4,hc4,hk⟩
      ·simp at hk3
  ·simp at h
 | rangeFunc g ps x y ihx ihy=>
  intro E ro hT hC hF hE hro hp b n S0 w0 refs σ a w S γ R k r hm hL hR hc h
  obtain ⟨rfl,hpin⟩:=hp.resolve_left (by simp [j1m])
  exact jvY hro hpin (fun l hx=>ihx (E:=E.rnd ps x y) hT hC hF hE hro (.inl hx)) (fun l hy=>ihy (E:=E.rnd ps x y) hT hC hF hE hro (.inl hy))
   (hL (b,.rangeFunc g ps x y) (by simp [j1z])).1 hm hR hc h
 | exit i=>intro E ro hT hC hF hE hro hp b n S0 w0 refs σ a w S γ R k r hm hL hR hc h;exact wpIn_exit ⟨refs,.exit i,σ,S,γ,⟨rfl,rfl,rfl,hm,rfl⟩,fun _=>rfl,rfl,hR,hc,h⟩
 | ret=>intro E ro hT hC hF hE hro hp b n S0 w0 refs σ a w S γ R k r hm hL hR hc h;exact wpIn_ret ⟨refs,.ret,σ,S,γ,⟨rfl,rfl,rfl,hm,rfl⟩,fun _=>rfl,rfl,hR,hc,h⟩
 | goto l=>intro E ro hT hC hF hE hro hp b n S0 w0 refs σ a w S γ R k r hm hL hR hc h;simp [j0S] at h
 | refuse y=>intro E ro hT hC hF hE hro hp b n S0 w0 refs σ a w S γ R k r hm hL hR hc h;simp [j0S] at h
end
def keyB (es:Ã Ì):H (Y×G):=es.toList.map fun e=>(e.key,e.born)
theorem jo7 {α:Type} {p q:α→Ç} (h:∀ x,q x=X→p x=X):∀ l:H α,(l.filter q).length≤(l.filter p).length
 | []=>jz _
 | x::r=>by
  have ih:=jo7 h r
  rw [Ý,Ý]
  by_cases hq:q x=X
  ·rw [if_pos hq,if_pos (h x hq)]
   simp only [jp];omega
  ·rw [if_neg hq]
   split
   ·simp only [jp];omega
   ·exact ih
theorem jo8 {α:Type} {p q:α→Ç} (h:∀ x,q x=X→p x=X):∀ l:H α,(∃ x∈l,p x=X∧q x≠X)→(l.filter q).length<(l.filter p).length
 | [],hx=>by obtain ⟨x,hx,_⟩:=hx;simp at hx
 | y::r,hx=>by
  obtain ⟨x,hx,h1,h2⟩:=hx
  have hle:=jo7 h r
  rw [Ý,Ý]
  rcases jl.1 hx with rfl | hx
  ·rw [if_neg h2,if_pos h1]
   simp only [jp];omega
  ·have ih:=jo8 h r ⟨x,hx,h1,h2⟩
   by_cases hq:q y=X
   ·rw [if_pos hq,if_pos (h y hq)]
    simp only [jp];omega
   ·rw [if_neg hq]
    split
    ·simp only [jp];omega
    ·exact ih
theorem jgK (seen:Ã G) (b x:G):(seen.push b).contains x=X↔seen.contains x=X∨x=b:=by
 simp
theorem ju1 {ks:H (Y×G)} {seen:Ã G} {b:G} (h:∃ q∈ks,q.2=b∧seen.contains q.2=U):(ks.filter fun q=> !(seen.push b).contains q.2).length<(ks.filter fun q=> !seen.contains q.2).length:=by
 refine jo8 (fun x hx=> ?_) ks ?_
 ·rw [qd] at hx ⊢
  cases hs:seen.contains x.2 with
  | false=>rfl
  | true=>
   have:=(jgK seen b x.2).2 (.inl hs)
   rw [hx] at this;simp at this
 ·obtain ⟨q,hq,h1,h2⟩:=h
  refine ⟨q,hq,by rw [h2];rfl,?_⟩
  rw [(jgK seen b q.2).2 (.inr h1)]
  simp
structure AtR (g r it since clock:G) (ks:H (Y×G)) (es:Ã Ì) (seen:Ã G) (a:Á) (w:À):Prop where
 map:w.heap[g]? = B (.map es clock)
 ks:keyB es=ks
 iter:w.heap[r]? = B (.mapIter (B g) since seen clock)
 ptr:tm a it = .pointer (B ⟨r,0,Â⟩)
theorem jsm {P:Å} {ro:O G} (hro:ro=Â) {n0 g r it d1 c2 b since clock rid:G} {ks:H (Y×G)} {o1 o2:Æ} {body:Ó} {Q:Ñ→Á→À→Prop}
  (ho1:o1.op = .next (.tmp it) U) (hd1:o1.dst=B d1) (hg1:o1.guard=Â) (ho2:o2.op = .extract (.tmp d1) 0) (hd2:o2.dst=B c2) (hg2:o2.guard=Â) (hi1:it≠d1) (hi2:it≠c2) (hgr:g≠r)
  (hsc:since≤clock) (hold:∀ q∈ks,q.2<since) (N:G) (hn1:d1<N) (hn2:c2<N)
  (J:Ã Ì→Ã G→Á→À→Prop) (hJ:∀ es seen a w,J es seen a w→a.tmps.size=N)
  (hend:∀ es seen a w v v',AtR g r it since clock ks es seen a w→J es seen a w→(∀ x∈es.toList,seen.contains x.born=X)→Q (.exit b) ((a.put (B d1) v).put (B c2) v') w)
  (hstep:∀ es seen a w w1 v v' e,AtR g r it since clock ks es seen a w→J es seen a w→e∈es.toList→seen.contains e.born=U→(w1=w∨w1=w.drew)→
   AtR g r it since clock ks es (seen.push e.born) ((a.put (B d1) v).put (B c2) v') (Ô w1 r (.mapIter (B g) since (seen.push e.born) clock))→
   body.wpIn (FR ro) n0 P (Exit.then (fun a' w'=>∃ es',AtR g r it since clock ks es' (seen.push e.born) a' w'∧J es' (seen.push e.born) a' w') Q) ((a.put (B d1) v).put (B c2) v') (Ô w1 r (.mapIter (B g) since (seen.push e.born) clock)))
  {es:Ã Ì} {seen:Ã G} {a:Á} {w:À} (h0:AtR g r it since clock ks es seen a w) (hJ0:J es seen a w) :
  (Code.loop ((Code.region rid #[o1,o2] U).seq ((Code.cond (.tmp c2) .skip (.exit b)).seq body))).wpIn (FR ro) n0 P Q a w:=by
 refine jjI (fun n a w=>∃ es seen,AtR g r it since clock ks es seen a w∧J es seen a w∧n=(ks.filter fun q=> !seen.contains q.2).length) ⟨es,seen,h0,hJ0,rfl⟩ ?_
 rintro n a w ⟨es,seen,hA,hJa,rfl⟩
 subst hro
 have hsz:=hJ _ _ _ _ hJa
 have hborn:∀ x∈es.toList,x.born<since:=fun x hx=>by
  have:(x.key,x.born)∈keyB es:=kp.2 ⟨x,hx,rfl⟩
  rw [hA.ks] at this
  exact hold _ this
 have hev:a.eval (.tmp it) = .pointer (B ⟨r,0,Â⟩):=hA.ptr
 have two:∀ (v v':Y) (w':À),(execOp a.eval o1).run P w = .ok (.value v) w'→(execOp (a.put (B d1) v).eval o2).run P w' = .ok (.value v') w'→
   ((Code.cond (.tmp c2) .skip (.exit b)).seq body).wpIn (FR Â) n0 P (Exit.then (fun a' w'=>∃ m,m<(ks.filter fun q=> !seen.contains q.2).length∧∃ es seen,AtR g r it since clock ks es seen a' w'∧J es seen a' w'∧m=(ks.filter fun q=> !seen.contains q.2).length) Q) ((a.put (B d1) v).put (B c2) v') w'→
   ((Code.region rid #[o1,o2] U).seq ((Code.cond (.tmp c2) .skip (.exit b)).seq body)).wpIn (FR Â) n0 P (Exit.then (fun a' w'=>∃ m,m<(ks.filter fun q=> !seen.contains q.2).length∧∃ es seen,AtR g r it since clock ks es seen a' w'∧J es seen a' w'∧m=(ks.filter fun q=> !seen.contains q.2).length) Q) a w:=by
  intro v v' w' h1 h2 h3
  refine wpIn_seq (wpIn_mono (Q:=fun e a' w''=>e = .normal∧a'=(a.put (B d1) v).put (B c2) v'∧w''=w') (wpIn_region (jim (.inl rfl) (by rintro ⟨a,w,h,_⟩;cases h) _ _ _ ?_)) ?_)
  ·show wpOps P #[o1,o2] _ [0,1] a w
   have e0:(#[o1,o2]:Ã Æ)[0]? = B o1:=rfl
   have e1:(#[o1,o2]:Ã Æ)[1]? = B o2:=rfl
   have w0:∀ tm,Ä o1 (yielded #[o1,o2] tm)=true:=fun tm=>by simp [Ä,hg1]
   have w1:∀ tm,Ä o2 (yielded #[o1,o2] tm)=true:=fun tm=>by simp [Ä,hg2]
   simp only [wpOps,e0,e1,w0,w1,if_true]
   refine .inl ?_
   unfold Î
   rw [h1,Ê,hd1]
   refine .inl ?_
   rw [h2,Ê,hd2]
   exact ⟨trivial,rfl,rfl⟩
  ·rintro e a' w'' ⟨rfl,rfl,rfl⟩
   exact h3
 have hext:∀ (v:Y) (t:Ã Y) (w':À) (x:Y),v = .tuple t→t[0]? = B x→(execOp (a.put (B d1) v).eval o2).run P w' = .ok (.value x) w':=by
  intro v t w' x hv ht
  have:(a.put (B d1) v).eval (.tmp d1)=v:=by
   show tm (a.put (B d1) v) d1=v
   rw [jcq omg_,if_pos rfl]
  subst hv
  simp only [execOp,ho2,this,Instr.extract,ht]
  simp
 have hcv:∀ v v',(((a.put (B d1) v).put (B c2) v').eval (.tmp c2))=v':=fun v v'=>by
  show tm _ c2=v'
  rw [jcq (by rw [j8G];omega),if_pos rfl]
 rcases run_next_at (P:=P) w o1.type r g since clock seen es clock hA.iter hA.map hborn hsc with ⟨h0,hrun⟩ | ⟨e,he,w1,hal,hrun⟩
 ·refine two (.tuple #[.bool U]) (.bool U) w (by simp [execOp,ho1,hev,hrun,à]) (hext (.tuple #[.bool U]) #[.bool U] w (.bool U) rfl rfl) (wpIn_seq (wpIn_cond_false (hcv _ _) (wpIn_exit ?_)))
  refine hend es seen a w _ _ hA hJa (fun x hx=> ?_)
  cases hs:seen.contains x.born with
  | true=>rfl
  | false=>
   have hx2:x∈(leftOf es seen).toList:=by
    unfold leftOf
    rw [Array.toList_filter]
    exact List.mem_filter.2 ⟨hx,by rw [hs];rfl⟩
   have:(leftOf es seen).toList=[]:=zo.1 (by simpa using h0)
   rw [this] at hx2;simp at hx2
 ·have hel:e∈es.toList∧seen.contains e.born=false:=by
   unfold leftOf at he
   simpa using he
  have hA2:AtR g r it since clock ks es (seen.push e.born) ((a.put (B d1) (.tuple #[.bool X,e.key,e.val])).put (B c2) (.bool X)) (Ô w1 r (.mapIter (B g) since (seen.push e.born) clock)):=by
   have hm1:w1.heap[g]? = B (.map es clock):=by rcases hal with rfl | rfl<;>exact hA.map
   have hi1':w1.heap[r]? = B (.mapIter (B g) since seen clock):=by rcases hal with rfl | rfl<;>exact hA.iter
   have hlt:r<w1.heap.size:=(jn.1 hi1').1
   refine ⟨?_,hA.ks,?_,?_⟩
   ·show (w1.heap.setIfInBounds r _)[g]? = _
    rw [Û (Ne.symm hgr)]
    exact hm1
   ·show (w1.heap.setIfInBounds r _)[r]? = _
    rw [Array.getElem?_setIfInBounds_self_of_lt hlt]
   ·rw [jcq (by rw [j8G];omega),if_neg hi2,jcq omg_,if_neg hi1]
    exact hA.ptr
  refine two (.tuple #[.bool X,e.key,e.val]) (.bool X) (Ô w1 r (.mapIter (B g) since (seen.push e.born) clock)) (by simp [execOp,ho1,hev,hrun,à]) (hext (.tuple #[.bool X,e.key,e.val]) #[.bool X,e.key,e.val] _ (.bool X) rfl rfl) (wpIn_seq (wpIn_cond_true (hcv _ _) (wpIn_skip ?_)))
  refine wpIn_mono (hstep es seen a w w1 _ _ e hA hJa hel.1 hel.2 hal hA2) ?_
  intro ex a' w' hq
  cases ex with
  | normal=>
   obtain ⟨es',q1,q2⟩:=hq
   exact ⟨_,ju1 (ks:=ks) (seen:=seen) (b:=e.born) ⟨(e.key,e.born),by rw [←hA.ks];exact kp.2 ⟨e,hel.1,rfl⟩,rfl,hel.2⟩,es',seen.push e.born,q1,q2,rfl⟩
  | _=>exact hq
section
variable {N:NT} {np:G} {S0:j0e} {w0:À} {refs:Refs} {σ:St} {a:Á} {w:À} {S:j0e} {γ:G→Y}
theorem jrf {P:Å} {E:Env} (hT:j1Q P E.T) (hC:j7n P E.C) {ops:Ã Æ} (hbare:bare ops=X) {R:Type} {k:St→O R} {r:R} {Q:Ñ→Á→À→Prop} {rest:H G}
  (hn:∀ σ' a' w' S' γ',Rel E.N E.np S0 w0 refs σ' a' w' S' γ'→j2s σ'→k σ'=B r→wpOps P ops Q rest a' w') :
  ∀ (n i:G) (σ:St) (a:Á) (w:À) (S:j0e) (γ:G→Y),i+n≤ops.size→Rel E.N E.np S0 w0 refs σ a w S γ→j2s σ→jbR E ((ops.toList.drop i).take n) σ k=B r→
   wpOps P ops Q (ë i n++rest) a w
 | 0,i,σ,a,w,S,γ,hi,hR,hc,h=>by
  rw [List.take_zero] at h
  exact hn _ _ _ _ _ hR hc h
 | n+1,i,σ,a,w,S,γ,hi,hR,hc,h=>by
  have hlt:i<ops.size:=omg_
  rw [jh (by simpa using hlt),List.take_succ_cons] at h
  simp only [jbR] at h
  split at h
  ·rename_i hd
   have ho:ops[i]? = B ops[i]:=ju hlt
   simp only [vq,List.cons_append,wpOps,ho]
   have hg:ops[i].guard=none:=by
    have:=jw.1 hbare ops[i] smp_
    simpa using this
   have hw:Ä ops[i] (yielded ops a.tmps)=true:=by simp [Ä,hg]
   simp only [hw,if_true]
   refine .inl (jcr hT hC hR (act:=[]) (fun g hg=>by simp at hg) (p:=U) (fun _=>hc) (by simpa using hd) (by simpa using h) (fun σ' a' w' S' γ' hR' hc' hk=> ?_))
   exact jrf hT hC hbare hn n (i+1) σ' a' w' S' γ' omg_ hR' (hc' rfl) hk
  ·simp at h
theorem jo9 {β:Type}:∀ {zs:H (ã×β)} {j:G} {x:ã×β},(zs.map fun x=>x.1).Nodup→zs[j]? = B x→∀ y,@j6J _ _ (Ty.int .i64).keq zs x.1 y=zs.set j (x.1,y)
 | [],j,x,_,h,y=>by simp at h
 | z::r,0,x,_,h,y=>by
  have h:z=x:=by simpa using h
  subst h
  show cond ((z.1:ã)==z.1) ((z.1,y)::r) _=(z.1,y)::r
  rw [qh];rfl
 | z::r,j+1,x,hn,h,y=>by
  have h:r[j]? = B x:=by simpa using h
  have hc:=qx.1 (show (z.1::r.map fun x=>x.1).Nodup from hn)
  have hne:¬ (x.1:ã)=z.1:=fun he=>hc.1 (he▸kp.2 ⟨x,ki h,rfl⟩)
  show cond ((x.1:ã)==z.1) _ (z::@j6J _ _ (Ty.int .i64).keq r x.1 y)=z::r.set j (x.1,y)
  rw [beq_false_of_ne hne,jd,jo9 hc.2 h y]
theorem jwS (hR:Rel N np S0 w0 refs σ a w S γ) {nm em:G} {v:Ty} {zs:H (ã×v.den)} (hem:isM em=X) (hb:σ.bx nm = .live (.lst em (.pair (.int .i64) v) zs U)) :
  ∃ g es clock,γ nm = .map (B g)∧w.heap[g]? = B (.map es clock)∧All2 (jjv S w (.int .i64) v) zs es.toList∧jih es clock:=by
 rcases (hR.box nm _ hb).1 with ⟨hm,_⟩ | ⟨_,hm⟩
 ·rw [hem] at hm;simp at hm
 ·exact hm
theorem jrg {es:Ã Ì} {clock:G} (h:jih es clock) {j:G} {e:Ì} (he:es.toList[j]? = B e):e.born=j:=by
 have h1:(es.toList.map (·.born))[j]? = B e.born:=by simp [he]
 rw [h.2] at h1
 have h2:=(kb.1 h1).2
 simpa using h2.symm
theorem jen {es:Ã Ì} {clock:G} (h:jih es clock):es.toList.length=clock:=by
 have:=qb â h.2
 simpa using this
theorem jy4 {es es':Ã Ì} (h1:es'.toList.map (·.key)=es.toList.map (·.key)) (h2:es'.toList.map (·.born)=es.toList.map (·.born)):keyB es'=keyB es:=by
 have hz:∀ es:Ã Ì,keyB es=(es.toList.map (·.key)).zip (es.toList.map (·.born)):=fun es=>by
  unfold keyB
  rw [List.zip_map']
 rw [hz,hz,h1,h2]
structure Mix {β:Type} (xs ys:H (ã×β)) (seen:Ã G) (zs:H (ã×β)):Prop where
 len:zs.length=xs.length
 get:∀ i,zs[i]? = if seen.contains i=X then ys[i]? else xs[i]?
theorem ju2 {β:Type} {Z:ã×β→ã×β→Prop}:∀ {xs ys:H (ã×β)},All2 (fun x y=>y.1=x.1∧Z x y) xs ys→xs.length=ys.length∧∀ (j:G) (x:ã×β),xs[j]? = B x→∃ y,ys[j]? = B y∧y.1=x.1∧Z x y:=
 fun h=>⟨h.length,fun j x hx=>h.get j x hx⟩
theorem jz5 {b:G} {c:Ó} {p:MrP} (h:mrP b c=B p):∃ rid r3 o1 o2 o3,c = .seq (.region rid #[o1,o2] U) (.seq (.cond (.tmp p.c2) .skip (.exit b)) (.block p.b6 (.seq (.region r3 p.ops U) p.rest)))∧
  o1.op = .next (.tmp p.it) U∧o1.dst=B p.d1∧o1.guard=Â∧o2.op = .extract (.tmp p.d1) 0∧o2.dst=B p.c2∧o2.guard=Â∧p.ops[0]? = B o3∧o3.op = .entry (.tmp p.it)∧o3.dst=B p.d3∧o3.guard=none:=by
 unfold mrP at h
 split at h
 case h_2=>simp at h
 rename_i rid ops c b' b6 r3 ops3 rest
 split at h
 case h_2=>simp at h
 rename_i o1 o2 o3 l3 hops hops3
 split at h
 case h_2=>simp at h
 rename_i it d1 d1' c2 it' d3 h1 h2 h3
 split at h
 case isFalse=>simp at h
 rename_i hcond
 obtain ⟨rfl,rfl,rfl,rfl⟩:=hcond
 simp only [jb] at h
 subst h
 have hops:ops = #[o1,o2]:=q9 (by simpa using hops)
 subst hops
 have e3:ops3[0]? = B o3:=by rw [←qg,hops3];rfl
 unfold jyV at h1
 split at h1
 case h_2=>simp at h1
 rename_i q1 q2 q3
 simp only [jb,jf] at h1
 obtain ⟨rfl,rfl⟩:=h1
 unfold fstO at h2
 split at h2
 case h_2=>simp at h2
 rename_i p1 p2 p3
 simp only [jb,jf] at h2
 obtain ⟨rfl,rfl⟩:=h2
 unfold entO at h3
 split at h3
 case h_2=>simp at h3
 rename_i s1 s2 s3
 simp only [jb,jf] at h3
 obtain ⟨rfl,rfl⟩:=h3
 exact ⟨rid,r3,o1,o2,o3,rfl,q1,q2,q3,p1,p2,p3,e3,s1,s2,s3⟩
theorem nbeq {i j:G} (h:ß i j=U):i≠j:=by
 rintro rfl
 rw [õ] at h;simp at h
theorem beqF {i j:G} (h:i≠j):ß i j=false:=by
 cases hq:ß i j with
 | false=>rfl
 | true=>exact absurd (zv hq) h
theorem jvZ {P:Å} (hmix:P.follows .mixedOrders=X) (mrf:G→O (G×G)):MrS P mrf:=by
 intro E hE hT hC hF hbw hpin x y b n pl S0 w0 refs σ a w S γ R k r hm hMO hR hc hhd h
 unfold jnD at h
 split at h
 case h_2=>simp at h
 rename_i rid ops bl c
 split at h
 case h_2=>simp at h
 rename_i m nm p o hmr hp hlast
 split at h
 case h_2=>simp at h
 rename_i t m1 it hop hod
 cases hcc:(bare ops&&(ß it p.it&&(mrC E bl p m&&(jjd E.T t).isSome))) with
 | false=>rw [hcc] at h;simp at h
 | true=>
 rw [hcc,jc] at h
 simp only [ji] at hcc
 obtain ⟨hbare,hit,hmc,hty⟩:=hcc
 obtain rfl:it=p.it:=zv hit
 have hMK:=hMO (bl,c) (by simp [j1z]) m nm p hmr hp
 unfold mrC at hmc
 simp only [ji,qd,qi,ko] at hmc
 obtain ⟨hb3,hpr,n1,n2,n3,n4,n5,n6,n7,l1,l2,l3,l4,k1,k2,k3⟩:=hmc
 have n1:=nbeq n1;have n2:=nbeq n2;have n3:=nbeq n3;have n4:=nbeq n4;have n5:=nbeq n5;have n6:=nbeq n6;have n7:=nbeq n7
 have l1:p.it<E.N.n:=zb l1
 have l2:p.d1<E.N.n:=zb l2
 have l3:p.c2<E.N.n:=zb l3
 have l4:p.d3<E.N.n:=zb l4
 obtain ⟨rid1,r3,o1,o2,o3,hceq,q1,q2,q3,p1,p2,p3,e3,s1,s2,s3⟩:=jz5 hp
 refine wpIn_seq (wpIn_mono (Q:=fun e a2 w2=>e = .normal∧(Code.block bl (.loop c)).wpIn (FR Â) n P (Post E S0 w0 refs pl k r) a2 w2) (wpIn_region (jim (.inl rfl) (by rintro ⟨a,w,h,_⟩;cases h) _ _ _ ?_)) ?_)
 rotate_left
 ·rintro e a2 w2 ⟨rfl,h⟩;exact h
 obtain ⟨pre,hpre⟩:=List.getLast?_eq_some_iff.1 hlast
 have hsz:ops.size=pre.length+1:=by rw [←q8,hpre];simp
 rw [Ï,hsz,List.range'_concat]
 refine jrf hT hC hbare (k:=mrGo E bl m m1 k) (r:=r) (fun σ1 a1 w1 S1 γ1 hR1 hc1 hgo=> ?_) pre.length 0 σ a w S γ omg_ hR hc (by rw [hpre,yc] at h;rw [hpre,jy,yj];exact h;rfl)
 have ho:ops[0+1*pre.length]? = B o:=by rw [←qg,hpre];simp
 have hg:o.guard=none:=by
  have:=jw.1 hbare o (by rw [hpre];simp)
  simpa using this
 have hw:Ä o (yielded ops a1.tmps)=true:=by simp [Ä,hg]
 simp only [wpOps,ho,hw,if_true]
 refine .inl ?_
 unfold mrGo at hgo
 split at hgo
 case h_2=>simp at hgo
 rename_i bm bm' hm1 hmm
 cases hcb:(ß bm bm'&&jt0 (σ1.bx bm)) with
 | false=>rw [hcb] at hgo;simp at hgo
 | true=>
 rw [hcb,jc] at hgo
 simp only [ji] at hcb
 obtain ⟨hbb,hmb⟩:=hcb
 obtain rfl:bm=bm':=zv hbb
 split at hgo
 case h_2=>simp at hgo
 rename_i s hs
 obtain ⟨em,v,xs,ys,hem,hse,hbs,hxy,hk⟩:=hMK s R _ r hgo
 obtain ⟨S2,γ2,hR2,hc2⟩:=j5v hR1 hc1 hs
 rw [hse] at hR2 hc2
 obtain ⟨g,es,clock,hg2,hh2,hall2,hst2⟩:=jwS hR2 hem (hbs xs).1
 have hlv:∃ bx,σ1.bx bm = .live bx:=by
  unfold jt0 at hmb
  split at hmb
  ·rename_i hb;exact ⟨_,hb⟩
  ·simp at hmb
 obtain ⟨bx,hbx⟩:=hlv
 have hv1:tm a1 m1=γ1 bm:=by
  have:=hR1.slot m1
  rw [hm1] at this
  exact this.1.2.2 _ hbx
 have hv2:tm a1 m=γ1 bm:=by
  have:=hR1.slot m
  rw [hmm] at this
  exact this.1.2.2 _ hbx
 have hv3:tm a1 m=γ2 nm:=by
  have:=hR2.slot m
  rw [(hbs xs).2] at this
  exact this.1.2.2 _ (hbs xs).1
 have hvm:tm a1 m = .map (B g):=hv3.trans hg2
 have hev:a1.eval (.tmp m1) = .map (B g):=hv1.trans (hv2.symm.trans hvm)
 obtain ⟨ky,kv,hkv⟩:∃ ky kv,jjd E.T t=B (ky,kv):=by
  cases hq:jjd E.T t with
  | none=>rw [hq] at hty;simp at hty
  | some q=>exact ⟨q.1,q.2,rfl⟩
 obtain ⟨kt,vt,tv,hund,_⟩:=jmh hT hkv
 have hrun:=run_range_map (P:=P) w1 t kt vt g es clock hund hh2
 obtain ⟨rr,hrr⟩:∃ rr,rr=w1.heap.size:=⟨_,rfl⟩
 rw [←hrr] at hrun
 have hrun2:(execOp a1.eval o).run P w1 = .ok (.value (.pointer (B ⟨rr,0,Â⟩))) (w1.alloc (.mapIter (B g) clock #[] clock)):=by
  simp [execOp,hop,hev,hrun,à]
 unfold Î
 rw [hrun2,Ê,hod]
 refine ⟨trivial,?_⟩
 let fx:G→O Value:=fun i=>if i=p.it then B (.pointer (B ⟨rr,0,Â⟩)) else if i=m then B (.map (B g)) else Â
 let refsJ:Ã G→Refs:=fun seen=>{ blks:=refs.blks,val:=refs.val,ds:=refs.ds,kw:=fun x=>if x=rr then B (.mapIter (B g) clock seen clock) else refs.kw x,fix:=fx,mv:=refs.mv }
 let N':NT:=(E.mrE p.it m).N
 have hkn:refs.kw rr=none:=hR1.kw_new omg_
 have hwr:w0.heap.size≤rr:=by have:=hR1.grow;omega
 have hmk:∀ seen,jfR w0 (refsJ seen):=fun seen=>⟨hm.1,fun d hd=>by
  obtain ⟨D,hD,hw0,hkD⟩:=hm.2 d hd
  refine ⟨D,hD,hw0,?_⟩
  show (if D=rr then _ else refs.kw D)=_
  rw [if_neg,hkD]
  rintro rfl
  rw [hkn] at hkD;simp at hkD⟩
 have hgr:g≠rr:=by have:=(jn.1 hh2).1;omega
 have hput:∀ {seen seen':Ã G} {σ:St} {a:Á} {W:À} {S:j0e} {γ:G→Y},Rel N' E.np S0 w0 (refsJ seen) σ a W S γ→Rel N' E.np S0 w0 (refsJ seen') σ a (W.putObj rr (.mapIter (B g) clock seen' clock)) S γ:=by
  intro seen seen' σ a W S γ hR
  have:=hR.putO (l:=rr) (o:= .mapIter (B g) clock seen clock) (o':= .mapIter (B g) clock seen' clock) (by simp [refsJ]) hwr rfl rfl
  refine this.swap rfl rfl this.size this.defers this.slot (fun g u hg=>this.kept g u ?_) this.fix
  simp only [refsJ] at hg ⊢
  split
  ·rename_i e;subst e;simpa using hg
  ·rename_i e;simpa [e] using hg
 have hpit:N'.pin p.it=true:=by show (ß p.it p.it||Nat.beq p.it m)=X;rw [õ];rfl
 have hpm:N'.pin m=true:=by show (ß m p.it||Nat.beq m m)=X;rw [õ,yf]
 have hfx:∀ {a':Á},tm a' p.it = .pointer (B ⟨rr,0,Â⟩)→tm a' m = .map (B g)→∀ i u,fx i=B u→N'.pin i=X∧a'.tmps.getD i undef=u:=by
  intro a' h1 h2 i u hu
  simp only [fx] at hu
  split at hu
  ·rename_i e;subst e
   simp only [jb] at hu
   exact ⟨hpit,h1.trans hu⟩
  ·split at hu
   ·rename_i e;subst e
    simp only [jb] at hu
    exact ⟨hpm,h2.trans hu⟩
   ·simp at hu
 have hsz1:a1.tmps.size=E.N.n:=hR1.size
 let a2:Go.Act:=a1.put (B p.it) (.pointer (B ⟨rr,0,Â⟩))
 have ht2:∀ j,tm a2 j=if j=p.it then .pointer (B ⟨rr,0,Â⟩) else tm a1 j:=fun j=>jcq omg_ _ j
 have hRL:Rel N' E.np S0 w0 (refsJ #[]) (j0J E.np (E.keep bl) (j47 s em v xs)) a2 (w1.alloc (.mapIter (B g) clock #[] clock)) S2 γ2:=by
  have hA:=hR2.allocO (.mapIter (B g) clock #[] clock)
  refine hA.frame rfl rfl ((j8G _ _).trans hsz1) ((jac _ _).trans hR1.defers) (fun i hi=> ?_) (fun g' u hg'=> ?_) (hfx ?_ ?_)
  ·have z:i≠p.it:=fun e=>k1 (e▸hi)
   rw [ht2,if_neg z]
  ·simp only [refsJ] at hg'
   split at hg'
   ·rename_i e'
    simp only [jb] at hg';subst hg'
    rw [e',hrr]
    refine ⟨Ð _ _,fun k' b' hb' hbk=> ?_⟩
    have:=j44 (hR2.box k' b' hb') hbk;omega
   ·exact hA.kept g' u hg'
  ·rw [ht2,if_pos rfl]
  ·rw [ht2,if_neg n4];exact hvm
 have hat0:AtR g rr p.it clock clock (keyB es) es #[] a2 (w1.alloc (.mapIter (B g) clock #[] clock)):=by
  refine ⟨(heap_alloc_old _ _ (jn.1 hh2).1).trans hh2,rfl,?_,?_⟩
  ·rw [hrr];exact Ð _ _
  ·rw [ht2,if_pos rfl]
 let J:Ã Ì→Ã G→Á→À→Prop:=fun es' seen a w=>∃ (zs:H (ã×v.den)) (S:j0e) (γ:G→Y),Rel N' E.np S0 w0 (refsJ seen) (j0J E.np (E.keep bl) (j47 s em v zs)) a w S γ∧
  j2s (j0J E.np (E.keep bl) (j47 s em v zs))∧Mix xs ys seen zs∧jih es' clock
 have hxl:xs.length=clock:=by rw [hall2.length,jen hst2]
 obtain ⟨hxyl,hxyg⟩:=ju2 hxy
 have hJ0:J es #[] a2 (w1.alloc (.mapIter (B g) clock #[] clock)):=⟨xs,S2,γ2,hRL,hc2,⟨rfl,fun i=>smp_⟩,hst2⟩
 have hJm:∀ {es':Ã Ì} {seen:Ã G} {a:Á} {w:À} {zs:H (ã×v.den)} {S:j0e} {γ:G→Y},Rel N' E.np S0 w0 (refsJ seen) (j0J E.np (E.keep bl) (j47 s em v zs)) a w S γ→
   ∃ es' clock',γ nm = .map (B g)∧w.heap[g]? = B (.map es' clock')∧All2 (jjv S w (.int .i64) v) zs es'.toList∧jih es' clock':=by
  intro es' seen a w zs S γ hR
  obtain ⟨g',es',clock',h1,h2,h3,h4⟩:=jwS hR hem (hbs zs).1
  have h5:tm a m=γ nm:=by
   have:=hR.slot m
   rw [(hbs zs).2] at this
   exact this.1.2.2 _ (hbs zs).1
  have h6:tm a m = .map (B g):=(hR.fix m (.map (B g)) (by show (if m=p.it then _ else if m=m then _ else _)=_;rw [if_neg n4,if_pos rfl])).2
  have:g'=g:=by
   rw [h5,h1] at h6
   simpa using h6
  subst this
  exact ⟨es',clock',h1,h2,h3,h4⟩
 subst hceq
 refine wpIn_block (wpIn_mono (jsm (P:=P) (ro:=Â) rfl (Q:=fun e a' w'=>e = .exit bl∧∃ S' γ',Rel E.N E.np S0 w0 refs (j0J E.np (E.keep bl) (j47 s em v ys)) a' w' S' γ'∧j2s (j0J E.np (E.keep bl) (j47 s em v ys)))
  q1 q2 q3 p1 p2 p3 n1 n2 hgr (jz clock) (fun q hq=> ?_) E.N.n l2 l3 J (fun es' seen a' w' hJ=> ?_) ?_ ?_ hat0 hJ0) ?_)
 ·obtain ⟨e,he,rfl⟩:=kp.1 hq
  exact hst2.1.1 e he
 ·obtain ⟨zs,S',γ',hR',_⟩:=hJ
  exact hR'.size
 ·-- the end
  rintro es' seen a' w' u u' hA ⟨zs,S',γ',hR',hc',hmix',hst'⟩ hall'
  have hzy:zs=ys:=by
   refine zp fun i=> ?_
   rw [hmix'.get i]
   split
   ·rfl
   ·rename_i hns
    by_cases hi:i<clock
    ·exfalso
     have hlt:i<es'.toList.length:=by rw [jen hst'];exact hi
     have hb:=jrg hst' (jv hlt)
     have:=hall' _ (jx hlt)
     rw [hb] at this
     exact hns this
    ·rw [qk omg_,qk omg_]
  subst hzy
  refine ⟨rfl,S',γ',hR'.frame rfl rfl ?_ ?_ (fun i hi=> ?_) (fun g' o' hg'=> ?_) (fun i u hu=> ?_),hc'⟩
  ·rw [j8G,j8G];exact hR'.size
  ·rw [jac,jac];exact hR'.defers
  ·have z1:i≠p.c2:=fun e=>k3 (e▸hi)
   have z2:i≠p.d1:=fun e=>k2 (e▸hi)
   have z3:a'.tmps.size=E.N.n:=hR'.size
   rw [jcq (by rw [j8G];omega),if_neg z1,jcq omg_,if_neg z2]
  ·refine hR'.kept g' o' ?_
   show (if g'=rr then _ else refs.kw g')=_
   rw [if_neg]
   ·exact hg'
   ·rintro rfl
    rw [hkn] at hg';simp at hg'
  ·have:=(hR.fix i u hu).1
   rw [hpin] at this;simp at this
 ·-- a round
  rintro es' seen a' w' w1' u u' e hA ⟨zs,S',γ',hR',hc',hmix',hst'⟩ he hns hal hA2
  have hsz':a'.tmps.size=E.N.n:=hR'.size
  obtain ⟨es2,clock2,hg2',hh2',hall',hst2'⟩:=hJm (es':=es') hR'
  have:es2=es'∧clock2=clock:=by
   have:=hA.map
   rw [hh2'] at this
   simpa using this
  obtain ⟨rfl,rfl⟩:=this
  obtain ⟨j,hj⟩:=za.1 he
  have hbj:e.born=j:=jrg hst2' hj
  have hjl:j<xs.length:=by
   have:=(kb.1 hj).1
   rw [hxl,←jen hst2'];exact this
  have hzx:zs[j]? = xs[j]? := by
   rw [hmix'.get j,if_neg]
   rw [←hbj,hns];simp
  obtain ⟨x,hx⟩:∃ x,xs[j]? = B x:=⟨_,jv hjl⟩
  obtain ⟨e',he',hkx,hvx⟩:=hall'.get j x (hzx.trans hx)
  obtain rfl:e'=e:=by rw [hj] at he';exact (Option.some.inj he').symm
  obtain ⟨y,hy,hyx,hev'⟩:=hxyg j x hx
  have hnd:(zs.map fun x=>x.1).Nodup:=by
   have h1:=hst2'.1.2.2
   rw [jgJ hall'] at h1
   exact (List.pairwise_map.1 h1).imp fun h e=>h (by rw [e])
  have hRd:Rel N' E.np S0 w0 (refsJ seen) (j0J E.np (E.keep bl) (j47 s em v zs)) a' w1' S' γ':=by
   rcases hal with rfl | rfl
   ·exact hR'
   ·exact hR'.drawn _
  have hvx1:VRep S' w1' ⟨v,x.2⟩ e'.val:=by
   rcases hal with rfl | rfl
   ·exact hvx
   ·exact VRep.keep (S:=S') (w:=w') (S':=S') (w':=w'.drew) (fun g o hs=>⟨hs,rfl⟩) hvx
  have hRp:=hput (seen':=seen.push e'.born) hRd
  obtain ⟨w2,hw2⟩:∃ w2,w1'.putObj rr (.mapIter (B g) clock2 (seen.push e'.born) clock2)=w2:=⟨_,rfl⟩
  have hA2:AtR g rr p.it clock2 clock2 (keyB es) es2 (seen.push e'.born) ((a'.put (B p.d1) u).put (B p.c2) u') w2:=by rw [←hw2];exact hA2
  show (Code.block p.b6 _).wpIn (FR Â) n P _ _ (w1'.putObj rr (.mapIter (B g) clock2 (seen.push e'.born) clock2))
  rw [hw2] at hRp ⊢
  obtain ⟨a3,ha3⟩:∃ a3,(a'.put (B p.d1) u).put (B p.c2) u'=a3:=⟨_,rfl⟩
  rw [ha3] at hA2 ⊢
  have ht3:∀ j,tm a3 j=if j=p.c2 then u' else if j=p.d1 then u else tm a' j:=fun j=>by
   rw [←ha3,jcq (by rw [j8G];omega),jcq omg_]
  have hsz3:a3.tmps.size=E.N.n:=by rw [←ha3,j8G,j8G];exact hsz'
  have hti:tm a' p.it = .pointer (B ⟨rr,0,Â⟩):=hA.ptr
  have htm:tm a' m = .map (B g):=(hR'.fix m (.map (B g)) (by show (if m=p.it then _ else if m=m then _ else _)=_;rw [if_neg n4,if_pos rfl])).2
  have hR3:Rel N' E.np S0 w0 (refsJ (seen.push e'.born)) (j0J E.np (E.keep bl) (j47 s em v zs)) a3 w2 S' γ':=by
   refine hRp.frame rfl rfl hsz3 (by rw [←ha3,jac,jac];exact hR'.defers) (fun i hi=> ?_) (fun g' o' hg'=>hRp.kept g' o' hg') (hfx ?_ ?_)
   ·have z1:i≠p.c2:=fun e=>k3 (e▸hi)
    have z2:i≠p.d1:=fun e=>k2 (e▸hi)
    rw [ht3,if_neg z1,if_neg z2]
   ·rw [ht3,if_neg n2,if_neg n1];exact hti
   ·rw [ht3,if_neg n6,if_neg n5];exact htm
  have hst3:j2O S' w1' S' w2:=fun g' o' hs'=>by
   refine ⟨hs',?_⟩
   have hq:=(hRd.kept rr (.mapIter (B g) clock2 seen clock2) (by show (if rr=rr then _ else _)=_;rw [if_pos rfl])).1
   by_cases hgl:g'=rr
   ·subst hgl
    rw [jj0 hq rfl,←hw2,jj0 (Ú (jn.1 hq).1) rfl]
   ·rw [←hw2]
    exact È (É hgl)
  have hkey:e'.key = .int .i64 x.1:=by
   have:[e'.key]=[Í .i64 x.1]:=hkx
   simpa using this
  have hent:=run_entry_at (P:=P) w2 rr g clock2 seen es2 clock2 e' hA2.iter hA2.map he hst2'.1.2.1
  have hti3:a3.eval (.tmp p.it) = .pointer (B ⟨rr,0,Â⟩):=hA2.ptr
  have hrun3:(execOp a3.eval o3).run P w2 = .ok (.value (.tuple #[e'.key,e'.val])) w2:=by
   simp [execOp,s1,hti3,hent,à]
  obtain ⟨hR4,hc4⟩:=jeY hR3 hc' (dst:=B p.d3) (fun d hd=>by
   simp only [jb] at hd;subst hd
   refine ⟨l4,?_⟩
   show (ß p.d3 p.it||Nat.beq p.d3 m)=U
   rw [vf]
   exact ⟨beqF (Ne.symm n3),beqF (Ne.symm n7)⟩) (s:= .tup [.one (.d (.int .i64) x.1),jbc v x.2]) (v:= .tuple #[e'.key,e'.val]) (by
   refine ⟨#[e'.key,e'.val],rfl,⟨hkx,fun _=>by rw [hkey];rfl⟩,?_,trivial⟩
   exact jd5 (x:=⟨v,x.2⟩) (VRep.keep hst3 hvx1)) rfl
  have hev2:=hev' zs
  unfold jlk at hev2
  have hsz5:p.ops.size=(p.ops.size-1)+1:=by have:=(jn.1 e3).1;omega
  have hw3:Ä o3 (yielded p.ops a3.tmps)=true:=by simp [Ä,s3]
  have hmr0:MrS P (fun _=>Â):=by
   intro E hE _ _ _ _ _ x y _ _ _ _ _ _ _ _ _ _ _ _ _ _ _ _ _ _ hhd _
   unfold jli at hhd
   split at hhd
   ·rw [hE] at hhd;simp at hhd
   ·simp at hhd
  have hrest:=jjJ hmix hmr0 p.rest (E:=E.mrE p.it m) (ro:=Â) hT hC hF rfl hbw (.inl hpr)
  refine wpIn_block (wpIn_seq (wpIn_mono (Q:=fun e4 a4 w4=>e4 = .normal∧p.rest.wpIn (FR Â) n P (Post (E.mrE p.it m) S0 w0 (refsJ (seen.push e'.born)) (j1m p.rest) (fun e σ2=>cond (mrNx p.b6 e) (match j5P E.np (E.keep bl) σ2 with
   | some s'=>B s'
   | none=>Â) Â) (j47 s em v (@j6J _ _ (Ty.int .i64).keq zs x.1 y.2))) a4 w4) (wpIn_region (jim (.inl rfl) (by rintro ⟨a,w,h,_⟩;cases h) _ _ _ ?_)) ?_))
  ·rw [Ï,hsz5,vq]
   simp only [wpOps,e3,hw3,if_true]
   refine .inl ?_
   unfold Î
   rw [hrun3,Ê,s2]
   refine jjz (E:=E.mrE p.it m) hT hC hb3 (fun σ' a' w' S' γ' h1 h2 h3=>⟨rfl,hrest p.b6 n (hmk _) (by rw [j53 _ _ hpr];simp) h1 h2 h3⟩) (p.ops.size-1) 1 _ _ _ _ _ omg_ hR4 hc4 ?_
   rw [List.drop_one]
   exact hev2
  rintro e4 a4 w4 ⟨rfl,h4⟩
  refine wpIn_mono h4 ?_
  rintro e5 a5 w5 ⟨refs5,ex,σ5,S5,γ5,_,hpl5,rfl,hR5,hc5,hk5⟩
  have:=hpl5 hpr
  subst this
  dsimp only at hk5
  cases hnx:mrNx p.b6 ex with
  | false=>rw [hnx] at hk5;simp at hk5
  | true=>
  rw [hnx,jc] at hk5
  split at hk5
  case h_2=>simp at hk5
  rename_i s6 hs6
  simp only [jb] at hk5;subst hk5
  obtain ⟨S6,γ6,hR6,hc6⟩:=j5v hR5 hc5 hs6
  have hib:∀ Q:Ñ→Á→À→Prop,Q .normal a5 w5→æ p.b6 Q (exOf ex) a5 w5:=by
   intro Q hQ
   cases ex with
   | normal=>exact hQ
   | exit i=>
    have:i=p.b6:=zv hnx
    simp only [exOf,æ,this,if_true]
    exact hQ
   | ret=>simp [mrNx] at hnx
  refine hib _ ?_
  obtain ⟨es3,clock3,hg3,hh3,hall3,hst3'⟩:=hJm (es':=es2) hR6
  have hset:@j6J _ _ (Ty.int .i64).keq zs x.1 y.2=zs.set j y:=by
   rw [jo9 hnd (hzx.trans hx) y.2,←hyx]
  have hk3:(@j6J _ _ (Ty.int .i64).keq zs x.1 y.2).map (fun x=>x.1)=zs.map fun x=>x.1:=by
   rw [hset,List.map_set,hyx]
   refine zp fun i=> ?_
   rw [ù]
   split
   ·rename_i hij;subst hij
    rw [qn,hzx.trans hx]
    rw [if_pos (by rw [qa,hmix'.len];exact hjl)]
    rfl
   ·rfl
  have hl3:clock3=clock2:=by
   rw [←jen hst3',←hall3.length,←jen hst2',←hall'.length,hset,zt]
  subst hl3
  refine ⟨es3,⟨hh3,?_,?_,?_⟩,_,S6,γ6,hR6,hc6,⟨?_,fun i=> ?_⟩,hst3'⟩
  ·rw [←hA.ks]
   exact jy4 (by rw [jgJ hall3,jgJ hall',hk3]) (by rw [hst3'.2,hst2'.2])
  ·exact (hR6.kept rr (.mapIter (B g) clock3 (seen.push e'.born) clock3) (by show (if rr=rr then _ else _)=_;rw [if_pos rfl])).1
  ·exact (hR6.fix p.it (.pointer (B ⟨rr,0,Â⟩)) (by show (if p.it=p.it then _ else _)=_;rw [if_pos rfl])).2
  ·rw [hset,zt];exact hmix'.len
  ·rw [hset,ù]
   by_cases hij:j=i
   ·subst hij
    rw [if_pos rfl,if_pos (by rw [hmix'.len];exact hjl),if_pos ((jgK _ _ _).2 (.inr hbj.symm))]
    exact hy.symm
   ·rw [if_neg hij,hmix'.get i]
    by_cases hsn:seen.contains i=X
    ·rw [if_pos hsn,if_pos ((jgK _ _ _).2 (.inl hsn))]
    ·rw [if_neg hsn,if_neg]
     intro hq
     rcases (jgK _ _ _).1 hq with hq | hq
     ·exact hsn hq
     ·exact hij (by rw [hq,hbj])
 ·rintro e a' w' ⟨rfl,S',γ',hR',hc'⟩
  simp only [æ,if_true]
  exact ⟨refs,.normal,_,S',γ',⟨rfl,rfl,rfl,hm,rfl⟩,fun _=>rfl,rfl,hR',hc',hk⟩
theorem jsn {P:Å} (hmix:P.follows .mixedOrders=X) (c:Ó) {E:Env} {ro:O G} (hT:j1Q P E.T) (hC:j7n P E.C) (hF:CFun E.C) (hbw:∀ f t,E.bw f=B t→BwK P f t)
 (hq:j1m c=X∨(ro=Â∧E.N.pin=fun _=>U)):jrd P E ro c:=jjJ hmix (jvZ hmix E.mr) c hT hC hF rfl hbw hq
end
section
variable {N:NT} {np:G} {S0:j0e} {w0:À} {refs:Refs} {σ:St} {a:Á} {w:À} {S:j0e} {γ:G→Y}
def jpP:Arg→Ç
 | .ref _=>X
 | .rl _ _=>X
 | _=>U
def ju3 (args:H Arg) (vals:H Y) (k:G):O Value:=
 if k%64=0 then match args[k/64]? with
  | some x=>if jpP x then vals[k/64]? else Â
  | none=>Â
 else Â
def jct (args:H Arg) (vals:H Y):Refs:={ blks:=j1J args vals,val:=ju3 args vals,mv:=mvOf args vals }
def γ0 (vals:H Y) (k:G):Value:=vals.getD (k/64) undef
theorem jgL:∀ {as:H Arg} {us:H Y} {i:G} {x:Arg} {u:Y} {g:G},as[i]? = B x→us[i]? = B u→j7B x u=B g→g∈j1J as us
 | y::as,v::us,0,x,u,g,h,h',hg=>by
  simp at h h';subst h;subst h'
  simp [j1J,hg]
 | y::as,v::us,i+1,x,u,g,h,h',hg=>by
  have:=jgL (as:=as) (us:=us) (i:=i) (by simpa using h) (by simpa using h') hg
  simp [j1J,this]
 | [],_,_,_,_,_,h,_,_=>by simp at h
 | _::_,[],_,_,_,_,_,h',_=>by simp at h'
theorem jrh:∀ {as:H Arg} {us:H Y} {i j:G} {x y:Arg} {u v:Y} {g:G},(j1J as us).Nodup→as[i]? = B x→us[i]? = B u→as[j]? = B y→us[j]? = B v→
  j7B x u=B g→j7B y v=B g→i=j
 | z::as,t::us,0,0,_,_,_,_,_,_,_,_,_,_,_,_=>rfl
 | z::as,t::us,0,j+1,x,y,u,v,g,hn,hx,hu,hy,hv,h1,h2=>by
  simp at hx hu;subst hx;subst hu
  have:=jgL (as:=as) (us:=us) (i:=j) (by simpa using hy) (by simpa using hv) h2
  simp [j1J,h1] at hn
  exact absurd this hn.1
 | z::as,t::us,i+1,0,x,y,u,v,g,hn,hx,hu,hy,hv,h1,h2=>by
  simp at hy hv;subst hy;subst hv
  have:=jgL (as:=as) (us:=us) (i:=i) (by simpa using hx) (by simpa using hu) h1
  simp [j1J,h2] at hn
  exact absurd this hn.1
 | z::as,t::us,i+1,j+1,x,y,u,v,g,hn,hx,hu,hy,hv,h1,h2=>by
  have hn':(j1J as us).Nodup:=by
   simp only [j1J] at hn
   exact (zq.1 hn).2.1
  rw [jrh hn' (i:=i) (j:=j) (by simpa using hx) (by simpa using hu) (by simpa using hy) (by simpa using hv) h1 h2]
 | [],_,_,_,_,_,_,_,_,_,h,_,_,_,_,_=>by simp at h
 | _::_,[],_,_,_,_,_,_,_,_,_,h,_,_,_,_=>by simp at h
theorem jwT:∀ {as:H Arg} {us:H Y} {i e:G} {x:TV} {u:Y} {g:G},as[i]? = B (.mv e x)→us[i]? = B u→blk u=B g→g∈mvOf as us
 | y::as,v::us,0,e,x,u,g,h,h',hg=>by
  simp at h h';subst h;subst h'
  simp [mvOf,hg]
 | y::as,v::us,i+1,e,x,u,g,h,h',hg=>by
  have:=jwT (as:=as) (us:=us) (i:=i) (by simpa using h) (by simpa using h') hg
  cases y<;>simp [mvOf,this]
 | [],_,_,_,_,_,_,h,_,_=>by simp at h
 | _::_,[],_,_,_,_,_,_,h',_=>by simp at h'
theorem jw0 {args:H Arg} {vals:H Y} (ha:All2 (jbg S w) args vals) (hnd:(j1J args vals).Nodup) (hS:∀ g o,S g o→g<w.heap.size) (hlen:args.length=np) (hN:np≤N.n) :
  Rel N np S w (jct args vals) (St.init args) ⟨vals.toArray++Þ (N.n-vals.toArray.size) undef,[]⟩ w S (γ0 vals)∧j2s (St.init args):=by
 have hvl:vals.length=np:=by rw [←ha.length,hlen]
 have htm:∀ i u,vals[i]? = B u→(vals.toArray++Þ (N.n-vals.toArray.size) undef).getD i undef=u:=by
  intro i u hu
  have hi:i<vals.length:=(kb.1 hu).1
  rw [zr,Array.getElem?_append_left (by simpa using hi)]
  simp [hu]
 have hg0:∀ i u,vals[i]? = B u→γ0 vals (i*64)=u:=by
  intro i u hu
  simp only [γ0]
  rw [ym _ omg_]
  simp [hu]
 have hg63:∀ i u,vals[i]? = B u→γ0 vals (i*64+63)=u:=by
  intro i u hu
  simp only [γ0]
  rw [show (i*64+63)/64=i by omega]
  simp [hu]
 have hbx:∀ k b,(St.init args).bx k = .live b→∃ i x u,args[i]? = B x∧vals[i]? = B u∧jbg S w x u∧((k=i*64∧j9G (B x) = .live b)∨(k=i*64+63∧jm7 (B x) = .live b)):=by
  intro k b hb
  simp only [St.init] at hb
  split at hb
  ·rename_i hk
   cases hx:args[k/64]? with
   | none=>simp [hx,j9G] at hb
   | some x=>
    obtain ⟨u,hu,hxu⟩:=ha.get _ x hx
    exact ⟨k/64,x,u,hx,hu,hxu,.inl ⟨omg_,by rw [hx] at hb;exact hb⟩⟩
  ·split at hb
   ·rename_i hk
    cases hx:args[k/64]? with
    | none=>simp [hx,jm7] at hb
    | some x=>
     obtain ⟨u,hu,hxu⟩:=ha.get _ x hx
     exact ⟨k/64,x,u,hx,hu,hxu,.inr ⟨omg_,by rw [hx] at hb;exact hb⟩⟩
   ·simp at hb
 have hmvx:∀ {x:Arg} {b:Bx},jm7 (B x) = .live b→∃ e t xs,x = .mv e ⟨.list t,xs⟩∧b = .lst e t xs false:=by
  intro x b hb
  cases x with
  | mv e y=>
   obtain ⟨t,v⟩:=y
   cases t<;>simp [jm7] at hb
   exact ⟨_,_,_,rfl,hb.symm⟩
  | _=>simp [jm7] at hb
 have hbx63:∀ i x,args[i]? = B x→(St.init args).bx (i*64+63)=jm7 (B x):=by
  intro i x hx
  simp only [St.init]
  rw [if_neg omg_,if_pos omg_,show (i*64+63)/64=i by omega,hx]
 have hbx':∀ i x,args[i]? = B x→(St.init args).bx (i*64)=j9G (B x):=by
  intro i x hx
  simp only [St.init]
  rw [if_pos omg_,ym _ omg_,hx]
 have hblk:∀ x u b,j9G (B x) = .live b→j7B x u=blk u:=by
  intro x u b hb
  cases x<;>first | rfl | simp [j9G] at hb
 refine ⟨⟨?_,rfl,?_,?_,?_,?_,fun _ _ h=>h,fun _ _ h=> .inl h,hS,fun _ _ _=>rfl,jz _,rfl,rfl,rfl,?_,fun g o h=>by simp [jct] at h,fun i v h=>by simp [jct] at h⟩,?_⟩
 ·simp;omega
 ·intro i
  have hsl:(St.init args).sl i=match args[i]? with
   | some a=> .one (jm6 i a)
   | none=> .one (.one .dead):=rfl
  rw [hsl]
  cases hx:args[i]? with
  | none=>exact ⟨trivial,fun h=>absurd rfl h⟩
  | some x=>
   obtain ⟨u,hu,hxu⟩:=ha.get i x hx
   show j0k S w (γ0 vals) (St.init args).bx (jm6 i x) _
   rw [htm i u hu]
   have hb:=hbx' i x hx
   cases x with
   | v x=>exact jd5 hxu
   | ref ls=>
    obtain ⟨g,cur,e,h1,_⟩:=id hxu
    exact ⟨⟨by rw [hb];simp [j9G],by rw [h1];rfl,fun b _=>⟨g,(hg0 i u hu).trans h1,h1⟩⟩,fun _=>by rw [h1];rfl⟩
   | rl e x=>
    obtain ⟨t,xs,rfl,hrow,_⟩:=id hxu
    have hone:One u:=hrow.one
    exact ⟨⟨by rw [hb];simp [j9G],hone,fun b _=>(hg0 i u hu).symm⟩,fun _=>hone⟩
   | ip ls=>
    obtain ⟨g,o,cs,h1,_⟩:=id hxu
    exact ⟨hxu,fun _=>by rw [h1];rfl⟩
   | clo f caps=>
    obtain ⟨cv,h1,_⟩:=id hxu
    exact ⟨hxu,fun _=>by rw [h1];rfl⟩
   | mv e x=>
    obtain ⟨t,xs,rfl,hrow,_⟩:=id hxu.1
    have hone:One u:=hrow.one
    have hb':=hbx63 i _ hx
    exact ⟨⟨by rw [hb'];simp [jm7],hone,fun b _=>(hg63 i u hu).symm⟩,fun _=>hone⟩
 ·intro k b hb
  obtain ⟨i,x,u,hx,hu,hxu,⟨rfl,hbox⟩ | ⟨rfl,hbox⟩⟩:=hbx k b hb
  ·cases x with
   | ref ls=>simp only [j9G,BS.live.injEq] at hbox;subst hbox;exact jhH (hg0 i u hu) hxu
   | rl e x=>
    obtain ⟨t,xs,rfl,_⟩:=id hxu
    simp only [j9G,BS.live.injEq] at hbox;subst hbox
    exact jab (hg0 i u hu) hxu
   | _=>simp [j9G] at hbox
  ·obtain ⟨e,t,xs,rfl,rfl⟩:=hmvx hbox
   exact jab (hg63 i u hu) hxu.1
 ·intro k b g hb hg
  obtain ⟨i,x,u,hx,hu,hxu,⟨rfl,hbox⟩ | ⟨rfl,hbox⟩⟩:=hbx k b hb
  ·rw [hg0 i u hu,←hblk x u b hbox] at hg
   refine .inr ⟨jgL hx hu hg,?_⟩
   have:i<args.length:=(kb.1 hx).1
   simp [parK];omega
  ·obtain ⟨e,t,xs,rfl,rfl⟩:=hmvx hbox
   rw [hg63 i u hu] at hg
   exact .inl (.inr ⟨jwT hx hu hg,jgL (x:= .mv e ⟨.list t,xs⟩) hx hu hg⟩)
 ·intro k k' b b' g hne hb hb' hg hg'
  have hof:∀ k b g,(St.init args).bx k = .live b→blk (γ0 vals k)=B g→∃ i x u,args[i]? = B x∧vals[i]? = B u∧j7B x u=B g∧((k=i*64∧j9G (B x) = .live b)∨(k=i*64+63∧jm7 (B x) = .live b)):=by
   intro k b g hb hg
   obtain ⟨i,x,u,hx,hu,hxu,⟨rfl,hbox⟩ | ⟨rfl,hbox⟩⟩:=hbx k b hb
   ·rw [hg0 i u hu,←hblk x u b hbox] at hg
    exact ⟨i,x,u,hx,hu,hg,.inl ⟨rfl,hbox⟩⟩
   ·obtain ⟨e,t,xs,rfl,rfl⟩:=hmvx hbox
    rw [hg63 i u hu] at hg
    exact ⟨i,_,u,hx,hu,hg,.inr ⟨rfl,hbox⟩⟩
  obtain ⟨i,x,u,hx,hu,h1,h2⟩:=hof k b g hb hg
  obtain ⟨j,y,v,hy,hv,h3,h4⟩:=hof k' b' g hb' hg'
  have hij:=jrh hnd hx hu hy hv h1 h3
  subst hij
  rw [hx] at hy
  cases hy
  rcases h2 with ⟨rfl,h2⟩ | ⟨rfl,h2⟩<;>rcases h4 with ⟨rfl,h4⟩ | ⟨rfl,h4⟩
  ·exact hne rfl
  ·obtain ⟨e,t,xs,rfl,rfl⟩:=hmvx h4
   simp [j9G] at h2
  ·obtain ⟨e,t,xs,rfl,rfl⟩:=hmvx h2
   simp [j9G] at h4
  ·exact hne rfl
 ·intro k v hv
  simp only [jct,ju3] at hv
  split at hv
  ·rename_i hk
   split at hv
   ·rename_i x hx
    split at hv
    ·rename_i hr
     have hi:k/64<args.length:=(kb.1 hx).1
     have hk':k=(k/64)*64:=omg_
     refine ⟨by simp [parK,hk];omega,?_,?_⟩
     ·rw [hk',hbx' _ x hx]
      cases x with
      | rl e y=>
       obtain ⟨u,hu,hxu⟩:=ha.get _ _ hx
       obtain ⟨t,xs,rfl,_⟩:=hxu
       simp [j9G]
      | ref ls=>simp [j9G]
      | _=>simp [jpP] at hr
     ·rw [hk'];exact hg0 _ v hv
    ·simp at hv
   ·simp at hv
  ·simp at hv
 ·intro i
  show ((match args[i]? with | some a=>Slot.one (jm6 i a) | none=> .one (.one .dead)):Slot).bare=X
  split<;>rfl
theorem jj1 {α β:Type} {P:Å} (f:α→Sem β):∀ {rs:H α} {zs:H β},All2 (fun r z=>(f r).run P w = .ok z w) rs zs→(rs.mapM f).run P w = .ok zs w
 | [],[],_=>smp_
 | r::rs,z::zs,h=>by
  simp only [v6,ç,h.1,Ù,jj1 f h.2,è]
 | [],_::_,h=>h.elim
 | _::_,[],h=>h.elim
def Uns (b:Bx):Prop:=(∃ ls,b = .cell ls U)∨∃ e t xs,b = .lst e t xs U
theorem jms {P:Å} {E:Env} (hT:j1Q P E.T) (hR:Rel N np S0 w0 refs σ a w S γ) {r:Õ} {c:Cel} (h:jji E σ r=B c) :
  ∃ z,((match r with
   | .tmp t=>pure (a.tmps.getD t undef)
   | .cell x t=>do loadVar t (←asAddr (a.tmps.getD x undef)):Sem Y)).run P w = .ok z w∧j0k S w γ σ.bx c z:=by
 cases r with
 | tmp t=>
  simp only [jji] at h
  split at h
  ·rename_i c' hc
   simp only [jb] at h;subst h
   have:=hR.slot t
   rw [hc] at this
   exact ⟨_,smp_,this⟩
  ·simp at h
 | cell x t=>
  simp only [jji] at h
  split at h
  ·rename_i ti y ht hy
   have:=hR.slot x
   rw [hy] at this
   obtain ⟨z,hz,hcz⟩:=jnJ hT hR (RdR.msk fun _=> .inl rfl) ht h this.1
   refine ⟨z,?_,hcz⟩
   show (do loadVar t (←asAddr (a.tmps.getD x undef)):Sem Y).run P w=_
   have hu:∃ ad,a.tmps.getD x undef = .pointer (B ad):=by
    generalize a.tmps.getD x undef=u at hz
    cases u with
    | pointer o=>
     cases o with
     | some ad=>exact ⟨ad,rfl⟩
     | none=>simp [ö,î] at hz
    | _=>simp [ö,î] at hz
   obtain ⟨ad,hu⟩:=hu
   rw [hu] at hz ⊢
   simpa [ö,î,asAddr] using hz
  ·simp at h
theorem jj2 {rd:G→BS} (hR:Rel N np S0 w0 refs σ a w S γ) (hrd:RdF np σ rd):∀ {ks:H SoK} {ls:H Leaf} {r:H RL} {n:H G} {v:Ups} {zs:H Y},soOf rd ks ls=B (r,n,v)→
  All2 (j0b S w γ σ.bx) ls zs→(∀ z∈zs,One z)→FrzL np σ.bx v∧(∀ k∈n,(∃ b,σ.bx k = .live b∧Uns b)∧parK np k=U)∧jbh r zs=(n.filterMap fun k=>blk (γ k))∧
   ∀ S',j2O S w S' w→Froz σ.bx γ S' w v→(∀ k∈n,∀ g,blk (γ k)=B g→∀ o,¬ S' g o)→All2 (jvN S' w) r zs
 | [],[],r,n,v,zs,h,ha,h1=>by
  simp [soOf] at h
  obtain ⟨rfl,rfl,rfl⟩:=h
  cases zs with
  | nil=>exact ⟨.nil,smp_,rfl,fun _ _ _ _=>trivial⟩
  | cons _ _=>exact ha.elim
 | .d t::ks,l::ls,r,n,v,zs,h,ha,h1=>by
  cases zs with
  | nil=>exact ha.elim
  | cons z zs=>
  simp only [soOf] at h
  split at h
  ·rename_i x u r' n' v' hx hr
   cases hlf:t.leafy with
   | false=>rw [hlf] at h;simp at h
   | true=>
   rw [hlf,jc] at h
   simp only [jb,jf] at h
   obtain ⟨rfl,rfl,rfl⟩:=h
   obtain ⟨f1,p1⟩:=j8Z hrd hR.box hx ha.1
   obtain ⟨f2,k2,b2,p2⟩:=jj2 hR hrd hr ha.2 (fun y hy=>h1 y (by simp [hy]))
   refine ⟨FrzL.app.2 ⟨f1,f2⟩,k2,by simp [jbh,b2],fun S' hst hfz hn=> ?_⟩
   obtain ⟨g1,g2⟩:=Froz.app.1 hfz
   exact ⟨⟨h1 z smp_,p1 S' w hst g1⟩,p2 S' hst g2 hn⟩
  ·simp at h
 | .own e t::ks,l::ls,r,n,v,zs,h,ha,h1=>by
  cases zs with
  | nil=>exact ha.elim
  | cons z zs=>
  cases l with
  | nil=>
   simp only [soOf] at h
   split at h
   ·rename_i r' n' v' hr
    cases hm:isM e with
    | true=>rw [hm] at h;simp at h
    | false=>
    rw [hm,jd] at h
    simp only [jb,jf] at h
    obtain ⟨rfl,rfl,rfl⟩:=h
    have hz:z = .slice Â 0 0:=ha.1
    subst hz
    obtain ⟨f2,k2,b2,p2⟩:=jj2 hR hrd hr ha.2 (fun y hy=>h1 y (by simp [hy]))
    refine ⟨f2,k2,by simp [jbh,blk,b2],fun S' hst hfz hn=>⟨⟨t,[],rfl,.inl ⟨hm,[],⟨smp_,.inl ⟨rfl,rfl⟩⟩,trivial⟩,fun g hg=>by simp [blk] at hg⟩,p2 S' hst hfz hn⟩⟩
   ·simp at h
  | ol k=>
   simp only [soOf] at h
   split at h
   ·rename_i e' b xs hk
    cases he:ß e' e with
    | false=>rw [he] at h;simp at h
    | true=>
    rw [he,jc] at h
    split at h
    ·rename_i r' n' v' hr
     simp only [jb,jf] at h
     obtain ⟨rfl,rfl,rfl⟩:=h
     have hp:=hrd.par hk
     have hk:=hrd.ok.live hk
     have hz:=ha.1.2.2 _ hk
     obtain ⟨f2,k2,b2,p2⟩:=jj2 hR hrd hr ha.2 (fun y hy=>h1 y (by simp [hy]))
     refine ⟨f2,fun k' hk'=> ?_,?_,fun S' hst hfz hn=>⟨⟨b,xs,rfl,by rw [hz];exact (hR.box k _ hk).1.keep hst (fun _ _=>rfl),fun g hg=>hn k smp_ g (by rw [←hz];exact hg)⟩,p2 S' hst hfz (fun k' hk'=>hn k' (by simp [hk']))⟩⟩
     ·rcases jl.1 hk' with rfl | hk'
      ·exact ⟨⟨_,hk,.inr ⟨_,_,_,rfl⟩⟩,hp⟩
      ·exact k2 k' hk'
     ·simp only [jbh,hz,vk]
      rw [b2]
      cases blk (γ k)<;>rfl
    ·simp at h
   ·simp at h
  | _=>simp [soOf] at h
 | [],_::_,r,n,v,zs,h,_,_=>by simp [soOf] at h
 | .d _::_,[],r,n,v,zs,h,_,_=>by simp [soOf] at h
 | .own _ _::_,[],r,n,v,zs,h,_,_=>by simp [soOf] at h
theorem jz6 {P:Å} {E:Env} (hT:j1Q P E.T) (hR:Rel N E.np S0 w0 refs σ a w S γ) {rd:G→BS} (hrd:RdF E.np σ rd) {own:Ç} {t:G} {c:Cel} {v:RV} {ks:H G} {u:Ups} {z:Y} (h:rvOf E rd own t c=B (v,ks,u)) (hc:j0k S w γ σ.bx c z) :
  FrzL E.np σ.bx u∧(∀ k∈ks,(∃ b,σ.bx k = .live b∧Uns b)∧parK E.np k=U)∧j7C v z=(ks.filterMap fun k=>blk (γ k))∧
   ∀ S',j2O S w S' w→Froz σ.bx γ S' w u→(∀ k∈ks,∀ g,blk (γ k)=B g→∀ o,¬ S' g o)→jiC S' w v z:=by
 unfold rvOf at h
 split at h
 ·rename_i k
  split at h
  ·rename_i ls hk
   split at h
   ·rename_i xs u1 h1
    simp only [jb,jf] at h
    obtain ⟨rfl,rfl,rfl⟩:=h
    have hp:=hrd.par hk
    have hk:=hrd.ok.live hk
    obtain ⟨g,hg,hz⟩:=hc.1.2.2 _ hk
    obtain ⟨g',cur,e,hg',hh,hcur,_⟩:=hR.box k _ hk
    rw [hg] at hg';simp at hg';subst hg'
    obtain ⟨hf,hpp⟩:=jfL hrd h1 hcur
    refine ⟨hf,fun k' hk'=>by simp at hk';subst hk';exact ⟨⟨_,hk,.inl ⟨_,rfl⟩⟩,hp⟩,?_,fun S' hst hfz hn=>⟨g,cur,e,hz,hh,by rw [jiT hcur (hpp S' w hst hfz)];exact hpp S' w hst hfz,?_⟩⟩
    ·simp [j7C,jfi,hz,hg,blk]
    ·exact hn k smp_ g (by rw [hg];rfl)
   ·simp at h
  ·simp at h
 ·rename_i f caps
  simp only [jb,jf] at h
  obtain ⟨rfl,rfl,rfl⟩:=h
  obtain ⟨⟨cv,hz,hall⟩,_⟩:=hc
  exact ⟨.nil,smp_,by simp [j7C,jfi],fun S' hst _ _=>⟨cv,hz,hall.mono fun _ _ h=>j7x.keep hst h⟩⟩
 ·split at h
  ·rename_i ti ht
   split at h
   ·rename_i ty hty
    split at h
    ·split at h
     ·rename_i ls
      split at h
      ·rename_i r n u1 hso
       simp only [jb,jf] at h
       obtain ⟨rfl,rfl,rfl⟩:=h
       obtain ⟨cs,hz,hall,hone⟩:=hc
       subst hz
       obtain ⟨f1,k1,b1,p1⟩:=jj2 hR hrd hso hall hone
       exact ⟨f1,k1,b1,fun S' hst hfz hn=>⟨cs,rfl,p1 S' hst hfz hn⟩⟩
      ·simp at h
     ·rename_i el hno _
      simp only [jb,jf] at h
      obtain ⟨rfl,rfl,rfl⟩:=h
      have hz:z = .slice Â 0 0:=hc.1
      subst hz
      exact ⟨.nil,smp_,by simp [j7C,jfi,blk],fun S' _ _ _=>⟨el,[],rfl,.inl ⟨jm9 hT ht,[],⟨smp_,.inl ⟨rfl,rfl⟩⟩,trivial⟩,fun g hg=>by simp [blk] at hg⟩⟩
     ·rename_i k hno _
      split at h
      ·rename_i e el xs hk
       simp only [jb,jf] at h
       obtain ⟨rfl,rfl,rfl⟩:=h
       have hp:=hrd.par hk
       have hnm:=hrd.ok.nm hk
       have hk:=hrd.ok.live hk
       have hz:=hc.1.2.2 _ hk
       obtain ⟨css,hown,hall,_⟩:=j5B hnm (hR.box k _ hk)
       refine ⟨.nil,fun k' hk'=>by simp at hk';subst hk';exact ⟨⟨_,hk,.inr ⟨_,_,_,rfl⟩⟩,hp⟩,?_,fun S' hst _ hn=>⟨el,xs,rfl,by rw [hz];exact (hR.box k _ hk).1.keep hst (fun _ _=>rfl),fun g hg=>hn k smp_ g (by rw [←hz];exact hg)⟩⟩
       simp only [j7C,jfi,hz,vk,List.filterMap_nil]
       cases blk (γ k)<;>rfl
      ·simp at h
     ·simp at h
    ·split at h
     ·rename_i x u1 hx
      simp only [jb,jf] at h
      obtain ⟨rfl,rfl,rfl⟩:=h
      obtain ⟨hf,hp,_⟩:=jeV hrd hR.box hx hc
      exact ⟨hf,smp_,by simp [j7C,jfi],fun S' hst hfz _=>hp S' w hst hfz⟩
     ·simp at h
   ·simp at h
  ·simp at h
theorem jjK {P:Å} {E:Env} (hT:j1Q P E.T) (hR:Rel N E.np S0 w0 refs σ a w S γ):∀ {os:H Ç} {rs:H Õ} {ts:H G} {vs:H RV} {ks:H G} {u:Ups},j9r E σ os rs ts=B (vs,ks,u)→
  ∃ zs,All2 (fun (r:Õ) z=>((match r with
   | .tmp t=>pure (a.tmps.getD t undef)
   | .cell x t=>do loadVar t (←asAddr (a.tmps.getD x undef)):Sem Y)).run P w = .ok z w) rs zs∧
  FrzL E.np σ.bx u∧(∀ k∈ks,(∃ b,σ.bx k = .live b∧Uns b)∧parK E.np k=U)∧j7D vs zs=(ks.filterMap fun k=>blk (γ k))∧
   ∀ S',j2O S w S' w→Froz σ.bx γ S' w u→(∀ k∈ks,∀ g,blk (γ k)=B g→∀ o,¬ S' g o)→All2 (jiC S' w) vs zs
 | os,[],ts,vs,ks,u,h=>by
  simp [j9r] at h
  obtain ⟨rfl,rfl,rfl⟩:=h
  exact ⟨[],trivial,.nil,smp_,rfl,fun _ _ _ _=>trivial⟩
 | os,r::rs,ts,vs,ks,u,h=>by
  simp only [j9r] at h
  split at h
  ·rename_i c hc
   split at h
   ·rename_i v k1 u1 hv
    split at h
    ·rename_i vs' k2 u2 hvs
     simp only [jb,jf] at h
     obtain ⟨rfl,rfl,rfl⟩:=h
     obtain ⟨z,hz,hcz⟩:=jms hT hR hc
     obtain ⟨f1,p1,n1,r1⟩:=jz6 hT hR (jjw (RdR.msk fun _=> .inl rfl)) hv hcz
     obtain ⟨zs,hzs,f2,p2,n2,r2⟩:=jjK hT hR hvs
     refine ⟨z::zs,⟨hz,hzs⟩,FrzL.app.2 ⟨f1,f2⟩,fun k hk=> ?_,?_,fun S' hst hfz hn=> ?_⟩
     ·rcases js.1 hk with hk | hk
      ·exact p1 k hk
      ·exact p2 k hk
     ·simp [j7D,n1,n2]
     ·obtain ⟨g1,g2⟩:=Froz.app.1 hfz
      exact ⟨r1 S' hst g1 (fun k hk=>hn k (by simp [hk])),r2 S' hst g2 (fun k hk=>hn k (by simp [hk]))⟩
    ·simp at h
   ·simp at h
  ·simp at h
theorem jmt (hR:Rel N np S0 w0 refs σ a w S γ):∀ {as:H Arg} {us:H Y} {i:G} {os:H Out} {u:Ups},outs np σ i as=B (os,u)→as.length=us.length→
  (∀ (j:G) (x:Arg) (v:Y),as[j]? = B x→us[j]? = B v→jpP x=X→γ ((i+j)*64)=v)→
  FrzL np σ.bx u∧∀ S',j2O S w S' w→Froz σ.bx γ S' w u→(∀ (j:G) (x:Arg) (v:Y) (g:G),as[j]? = B x→us[j]? = B v→jpP x=X→(∃ b,σ.bx ((i+j)*64) = .live b∧Uns b)→blk v=B g→∀ o,¬ S' g o)→j52 S' w as us os
 | [],us,i,os,u,h,hl,_=>by
  simp [outs] at h
  obtain ⟨rfl,rfl⟩:=h
  cases us with
  | nil=>exact ⟨.nil,fun _ _ _ _=>trivial⟩
  | cons _ _=>simp at hl
 | x::as,[],i,os,u,h,hl,_=>by simp at hl
 | x::as,v::us,i,os,u,h,hl,hg=>by
  simp only [outs] at h
  split at h
  ·rename_i os' u' h'
   obtain ⟨f1,r1⟩:=jmt hR (i:=i+1) h' (by simpa using hl) (fun j y z hy hz hr=>by
    have:=hg (j+1) y z (by simpa using hy) (by simpa using hz) hr
    rwa [show i+1+j=i+(j+1) by omega])
   have hrest:∀ S',j2O S w S' w→Froz σ.bx γ S' w u'→(∀ (j:G) (x':Arg) (v':Y) (g:G),(x::as)[j]? = B x'→(v::us)[j]? = B v'→jpP x'=X→(∃ b,σ.bx ((i+j)*64) = .live b∧Uns b)→blk v'=B g→∀ o,¬ S' g o)→j52 S' w as us os':=by
    intro S' hst hfz hn
    refine r1 S' hst hfz (fun j y z g hy hz hr hb hgz=> ?_)
    exact hn (j+1) y z g (by simpa using hy) (by simpa using hz) hr (by rwa [show i+(j+1)=i+1+j by omega]) hgz
   split at h
   ·rename_i ls
    have hgi:γ (i*64)=v:=hg 0 _ v rfl rfl rfl
    split at h
    ·rename_i ls' hb
     split at h
     ·rename_i xs u2 hx
      simp only [jb,jf] at h
      obtain ⟨rfl,rfl⟩:=h
      obtain ⟨g,cur,e,h1,h2,h3,_⟩:=hR.box _ _ hb
      obtain ⟨f2,r2⟩:=jfL (jjw (RdR.msk fun _=> .inl rfl)) hx h3
      refine ⟨FrzL.app.2 ⟨f2,f1⟩,fun S' hst hfz hn=> ?_⟩
      obtain ⟨g1,g2⟩:=Froz.app.1 hfz
      have hvg:v = .pointer (B ⟨g,0,Â⟩):=by rw [←hgi];exact h1
      exact ⟨⟨g,cur,e,hvg,h2,by rw [jiT h3 (r2 S' w hst g1)];exact r2 S' w hst g1,hn 0 _ v g rfl rfl rfl ⟨_,hb,.inl ⟨ls',rfl⟩⟩ (by rw [hvg];rfl)⟩,hrest S' hst g2 hn⟩
     ·simp at h
    ·simp at h
   ·rename_i e y
    have hgi:γ (i*64)=v:=hg 0 _ v rfl rfl rfl
    split at h
    ·rename_i e' t xs hb
     split at h
     ·rename_i hcond
      obtain ⟨rfl,hyt⟩:=hcond
      simp only [jb,jf] at h
      obtain ⟨rfl,rfl⟩:=h
      have hown:=(hR.box _ _ hb).1
      rw [hgi] at hown
      refine ⟨f1,fun S' hst hfz hn=>⟨⟨t,xs,rfl,hown.keep hst (fun _ _=>rfl),fun g hg'=>hn 0 _ v g rfl rfl rfl ⟨_,hb,.inr ⟨_,t,xs,rfl⟩⟩ hg'⟩,hyt.symm,hrest S' hst hfz hn⟩⟩
     ·simp at h
    ·simp at h
   ·rename_i hnr1 hnr2
    simp only [jb,jf] at h
    obtain ⟨rfl,rfl⟩:=h
    refine ⟨f1,fun S' hst hfz hn=> ?_⟩
    have:=hrest S' hst hfz hn
    cases x with
    | ref ls=>exact absurd rfl (hnr1 ls)
    | rl e y=>exact absurd rfl (hnr2 e y)
    | _=>exact this
  ·simp at h
theorem jlG {x:Arg} {u:Y} {g:G} (h:jbg S w x u) (hr:j7B x u=B g):∀ o,¬ S g o:=by
 cases x with
 | ref ls=>
  obtain ⟨g',cur,e,h1,_,_,h4⟩:=h
  have hr':blk u=B g:=hr
  rw [h1] at hr';simp [blk] at hr';subst hr';exact h4
 | rl e y=>
  obtain ⟨t,xs,_,_,h4⟩:=h
  exact h4 g hr
 | mv e y=>
  obtain ⟨⟨t,xs,_,_,h4⟩,_⟩:=h
  exact h4 g hr
 | _=>simp [j7B] at hr
theorem jfS:∀ {as:H Arg} {us:H Y} {g:G},g∈j1J as us→∃ (i:G) (x:Arg) (u:Y),as[i]? = B x∧us[i]? = B u∧j7B x u=B g
 | [],_,_,h=>by simp [j1J] at h
 | _::_,[],_,h=>by simp [j1J] at h
 | x::as,u::us,g,h=>by
  simp only [j1J,js,Option.mem_toList] at h
  rcases h with h | h
  ·exact ⟨0,x,u,rfl,rfl,h⟩
  ·obtain ⟨i,y,v,h1,h2,h3⟩:=jfS h
   exact ⟨i+1,y,v,by simpa using h1,by simpa using h2,h3⟩
theorem jmu (zs:H Y):(if h:zs.toArray.size=1 then zs.toArray[0] else .tuple zs.toArray)=j5Q zs:=by
 match zs with
 | []=>rfl
 | [z]=>rfl
 | z::z'::zs=>simp [j5Q]
theorem jw1 {P:Å} {E:Env} (hT:j1Q P E.T) (hR:Rel N np S0 w0 refs σ a w S γ) {rs:H Õ} {vs vs':H RV} {zs:H Y}
  (hzs:All2 (fun (r:Õ) z=>((match r with
   | .tmp t=>pure (a.tmps.getD t undef)
   | .cell x t=>do loadVar t (←asAddr (a.tmps.getD x undef)):Sem Y)).run P w = .ok z w) rs zs) (h:nilV E σ rs vs=B vs') :
  (∀ S' w',All2 (jiC S' w') vs zs→All2 (jiC S' w') vs' zs)∧j7D vs' zs=j7D vs zs∧(∀ m,vs'=[.hd m]→vs=[.hd m])∧∀ ns s,vs'=[.raw ns s]→vs=[.raw ns s]:=by
 unfold nilV at h
 split at h
 ·simp only [jb] at h;subst h
  exact ⟨fun _ _ h=>h,rfl,fun _ h=>h,fun _ _ h=>h⟩
 ·split at h
  ·rename_i r x
   split at h
   ·rename_i ls hc
    split at h
    ·rename_i hn
     simp only [jb] at h;subst h
     obtain ⟨z,hz,hcz⟩:=jms hT hR hc
     cases zs with
     | nil=>exact hzs.elim
     | cons z' zs=>
      cases zs with
      | cons _ _=>exact hzs.2.elim
      | nil=>
       have hzz:z'=z:=by
        have h1:=hz.symm.trans hzs.1
        simp only [Result.ok.injEq] at h1
        exact h1.1.symm
       subst hzz
       obtain ⟨cs,hu,hall,_⟩:=hcz
       refine ⟨fun S' w' hv=>⟨⟨hv.1,fun cs' hcs' i hi z hzi=> ?_⟩,trivial⟩,rfl,fun m hm=>by simp at hm,fun ns s hm=>by simp at hm⟩
       rw [hu] at hcs'
       simp only [Value.agg.injEq] at hcs'
       subst hcs'
       have hl:=jw.1 hn i hi
       cases hli:ls[i]? with
       | none=>rw [hli] at hl;simp at hl
       | some l=>
        rw [hli] at hl
        obtain ⟨z2,hz2,hlz⟩:=hall.get i l hli
        rw [hzi] at hz2
        simp only [jb] at hz2
        subst hz2
        cases l<;>first | exact hlz | simp at hl
    ·simp at h
   ·simp at h
  ·simp at h
theorem jmv {E:Env} {os:H Ç} {rs:H Õ} {ts:H G} {vs:H RV} {ks:H G} {u:Ups} (h:j9r E σ os rs ts=B (vs,ks,u)) (m:G):vs≠[.hd m]:=by
 cases rs with
 | nil=>simp [j9r] at h;rw [←h.1];simp
 | cons r rs=>
  simp only [j9r] at h
  split at h
  ·split at h
   ·rename_i v k1 u1 hv
    split at h
    ·simp only [jb,jf] at h
     rw [←h.1]
     intro he
     have:v = .hd m:=by simpa using (List.cons.inj he).1
     subst this
     unfold rvOf at hv
     split at hv
     ·split at hv
      ·split at hv<;>simp at hv
      ·simp at hv
     ·simp at hv
     ·split at hv
      ·split at hv
       ·split at hv
        ·split at hv
         ·split at hv<;>simp at hv
         ·simp at hv
         ·split at hv<;>simp at hv
         ·simp at hv
        ·split at hv<;>simp at hv
       ·simp at hv
      ·simp at hv
    ·simp at h
   ·simp at h
  ·simp at h
theorem jkN {E:Env} {os:H Ç} {rs:H Õ} {ts:H G} {vs:H RV} {ks:H G} {u:Ups} (h:j9r E σ os rs ts=B (vs,ks,u)) (ns:H G) (s:Snap):vs≠[.raw ns s]:=by
 cases rs with
 | nil=>simp [j9r] at h;rw [←h.1];simp
 | cons r rs=>
  simp only [j9r] at h
  split at h
  ·split at h
   ·rename_i v k1 u1 hv
    split at h
    ·simp only [jb,jf] at h
     rw [←h.1]
     intro he
     have:v = .raw ns s:=by simpa using (List.cons.inj he).1
     subst this
     unfold rvOf at hv
     split at hv
     ·split at hv
      ·split at hv<;>simp at hv
      ·simp at hv
     ·simp at hv
     ·split at hv
      ·split at hv
       ·split at hv
        ·split at hv
         ·split at hv<;>simp at hv
         ·simp at hv
         ·split at hv<;>simp at hv
         ·simp at hv
        ·split at hv<;>simp at hv
       ·simp at hv
      ·simp at hv
    ·simp at h
   ·simp at h
  ·simp at h
theorem jz7 {P:Å} {E:Env} (hT:j1Q P E.T) {fn:Func} {args:H Arg} {vals:H Y} {σ':St} {a':Á} {w':À} {S':j0e} {γ':G→Y} (hR:Rel N E.np S w (jct args vals) σ' a' w' S' γ')
  (ha:All2 (jbg S w) args vals) (hS:∀ g o,S g o→g<w.heap.size) (hrw:¬ E.rw=X) (hhd:E.hd=X) {ret:Ret} (hret:jm8 E fn args σ'=B ret) {R:Type} {k:Ret→O R} {r:R} (hk:k ret=B r) :
  ∃ v,(results fn a'.tmps).run P w' = .ok v w'∧∃ ret,k ret=B r∧∃ v' S' vs,Ø v = .returned v'∧jvO w S args vals ret v' w' S' vs:=by
 have hval:∀ (j:G) (x:Arg) (v:Y),args[j]? = B x→vals[j]? = B v→jpP x=X→γ' ((0+j)*64)=v:=by
  intro j x v hx hv hr
  refine (hR.par ((0+j)*64) v ?_).2.2
  simp only [jct,ju3]
  rw [if_pos omg_,ym _ omg_,kj,hx]
  simp [hr,hv]
 unfold jm8 at hret
 rw [if_neg hrw,if_pos hhd] at hret
 unfold jyW at hret
 split at hret
 ·rename_i e x as r0 hres
  split at hret
  ·rename_i l os u' hc hos
   split at hret
   ·rename_i m hm
    simp only [jb] at hret
    subst hret
    obtain ⟨z,hz,hcz⟩:=jms (P:=P) hT hR hc
    obtain ⟨f2,r2⟩:=jmt hR hos ha.length hval
    obtain ⟨S2,hR2,hst2,hfz2,hsame⟩:=j2B u' σ' S' hR f2
    cases vals with
    | nil=>exact ha.elim
    | cons v0 vs0=>
    have h0:γ' 0=v0:=by
     have:=hval 0 _ v0 rfl rfl rfl
     simpa using this
    have hpar:∀ k,parK E.np k=X→u'.any (fun y=>y.1==k)=false:=by
     intro k hk
     rw [qr]
     intro y hy he
     simp only [vg] at he
     have:=(f2 y hy).1
     rw [he,hk] at this
     simp at this
    have hnoS:∀ k b,u'.any (fun y=>y.1==k)=U→σ'.bx k = .live b→Uns b→∀ g,blk (γ' k)=B g→∀ o,¬ S2 g o:=by
     intro k b hk hb hkind g hg o
     have hb2:(σ'.upd u').bx k = .live b:=(j1R _ _ hk).trans hb
     have hbox:=hR2.box k b hb2
     rcases hkind with ⟨ls,rfl⟩ | ⟨e,t,xs,rfl⟩
     ·obtain ⟨g',cur,e,hg',_,_,_,hS,_⟩:=hbox
      rw [hg'] at hg;simp [blk] at hg;subst hg
      exact hS rfl o
     ·exact (hbox.2 g hg).1 rfl o
    have houts:=r2 S2 hst2 hfz2 (fun j x v g hx hv hr hbu hg=>by
     obtain ⟨b,hb,hu⟩:=hbu
     have hp:parK E.np ((0+j)*64)=true:=by
      refine (hR.par ((0+j)*64) v ?_).1
      simp only [jct,ju3]
      rw [if_pos omg_,ym _ omg_,kj,hx]
      simp [hr,hv]
     exact hnoS ((0+j)*64) b (hpar _ hp) hb hu g (by rw [hval j x v hx hv hr];exact hg))
    have hone:One z:=hcz.2 (by rintro rfl;simp [hdOf] at hm)
    have hhead:∃ ad len cap,v0 = .slice ad len cap∧m≤len∧z = .slice ad m cap:=by
     unfold hdOf at hm
     split at hm
     ·split at hm
      ·rename_i e1 t1 xs1 hb
       split at hm
       ·simp at hm
       ·rename_i hnm
        simp only [jb] at hm
        subst hm
        obtain ⟨css,hown,_⟩:=j5B (by simpa using hnm) (hR.box 0 _ hb)
        have hzz:=hcz.1.2.2 _ hb
        rcases hown.2 with ⟨hg,hn⟩ | ⟨g,cap,cur,hg,_⟩
        ·exact ⟨Â,0,0,by rw [←h0,hg],omg_,by rw [hzz,hg,hn]⟩
        ·exact ⟨_,_,cap,by rw [←h0,hg],jz _,by rw [hzz,hg]⟩
      ·simp at hm
     ·split at hm
      ·rename_i i e1 t1 xs1 hb
       simp only [jb] at hm
       subst hm
       obtain ⟨_,hi,ad,cap,hg,hzz⟩:=hcz.1.2.2 _ hb
       exact ⟨ad,_,cap,by rw [←h0,hg],hi,hzz⟩
      ·simp at hm
     ·simp at hm
    have hrun:(results fn a'.tmps).run P w' = .ok (j5Q [z]) w':=by
     have hm:=jj1 (P:=P) (w:=w') (rs:=[r0]) (zs:=[z]) (fun r=>((match r with
      | .tmp t=>pure (a'.tmps.getD t undef)
      | .cell x t=>do loadVar t (←asAddr (a'.tmps.getD x undef)):Sem Y))) ⟨hz,trivial⟩
     unfold results
     rw [yb,hres]
     simp only [ç,þ]
     erw [hm]
     simp only [Ù,è]
     exact qb (Result.ok · w') (jmu [z])
    refine ⟨j5Q [z],hrun,⟨[.hd m],os⟩,hk,j5Q [z],S2,[z],rfl,⟨rfl,⟨hone,trivial⟩,fun g hg=>by simp [j7D,jfi,j7C] at hg,by simp [j7D,jfi,j7C],houts,fun g o hs=>⟨hR2.ext g o hs,?_⟩,fun g o h=>(hR2.new g o h).imp id (fun h=>h.imp id And.left),hR2.here,hR2.below,hR2.grow,hR2.os,hR2.tape,hR2.output,fun ns s he=>by simp at he,?_⟩⟩
    ·refine È (hR2.below g (hS g o hs) (fun hm=> ?_))
     obtain ⟨i,x,v,hx,hv,hb⟩:=jfS hm
     obtain ⟨v',hv',hxv⟩:=ha.get i x hx
     rw [hv] at hv';simp at hv';subst hv'
     exact jlG hxv hb o hs
    ·intro m' hm'
     have:m'=m:=by simpa using hm'.symm
     subst this
     obtain ⟨ad,len,cap,h1,h2,h3⟩:=hhead
     exact ⟨ad,len,cap,by rw [h1];rfl,h2,by rw [h3]⟩
   ·simp at hret
  ·simp at hret
 ·simp at hret
theorem jjL {P:Å} {E:Env} (hT:j1Q P E.T) (hR:Rel N np S0 w0 refs σ a w S γ):∀ {rs:H Õ} {cs:H Cel},jjj E σ rs=B cs→
  ∃ zs,All2 (fun (r:Õ) z=>((match r with
   | .tmp t=>pure (a.tmps.getD t undef)
   | .cell x t=>do loadVar t (←asAddr (a.tmps.getD x undef)):Sem Y)).run P w = .ok z w) rs zs∧All2 (j0k S w γ σ.bx) cs zs
 | [],cs,h=>by
  simp only [jjj,jb] at h
  subst h
  exact ⟨[],trivial,trivial⟩
 | r::rs,cs,h=>by
  simp only [jjj] at h
  split at h
  ·rename_i c cs' hc hcs
   simp only [jb] at h
   subst h
   obtain ⟨z,h1,h2⟩:=jms (P:=P) hT hR hc
   obtain ⟨zs,h3,h4⟩:=jjL hT hR hcs
   exact ⟨z::zs,⟨h1,h3⟩,h2,h4⟩
  ·simp at h
theorem jjM {bx bx':G→BS} {ns:H G} (hb:∀ k∈ns,bx' k=bx k) {l:Leaf} {u:Y} (hl:jcZ ns l=X) (h:j0b S w γ bx l u):j0b S w γ bx' l u:=by
 cases l with
 | dead=>trivial
 | nil=>exact h
 | d t v=>exact h
 | ol k=>have hk:=hb k (by simpa [jcZ] using hl);exact ⟨by rw [hk];exact h.1,h.2.1,by rw [hk];exact h.2.2⟩
 | bp k c=>have hk:=hb k (by simpa [jcZ] using hl);exact ⟨by rw [hk];exact h.1,h.2.1,by rw [hk];exact h.2.2⟩
 | _=>simp [jcZ] at hl
theorem jbk {bx bx':G→BS} {ns:H G} (hb:∀ k∈ns,bx' k=bx k):∀ {ls:H Leaf} {us:H Y},ls.all (jcZ ns)=X→All2 (j0b S w γ bx) ls us→All2 (j0b S w γ bx') ls us
 | [],[],_,_=>trivial
 | l::ls,u::us,hl,h=>by
  simp only [zj,ji] at hl
  exact ⟨jjM hb hl.1 h.1,jbk hb hl.2 h.2⟩
 | [],_::_,_,h=>h.elim
 | _::_,[],_,h=>h.elim
theorem jpQ {bx bx':G→BS} {ns:H G} (hb:∀ k∈ns,bx' k=bx k) {c:Cel} {u:Y} (hl:jpt ns c=X) (h:j0k S w γ bx c u):j0k S w γ bx' c u:=by
 cases c with
 | one l=>exact ⟨jjM hb hl h.1,h.2⟩
 | st ls=>
  obtain ⟨cs,hu,ha,h1⟩:=h
  exact ⟨cs,hu,jbk hb hl ha,h1⟩
 | av n b xs=>exact h
theorem jy5 {P:Å} {E:Env} (hT:j1Q P E.T) {fn:Func} {args:H Arg} {vals:H Y} {σ':St} {a':Á} {w':À} {S':j0e} {γ':G→Y} (hR:Rel N E.np S w (jct args vals) σ' a' w' S' γ')
  (ha:All2 (jbg S w) args vals) (hS:∀ g o,S g o→g<w.heap.size) (hrw:E.rw=X) {ret:Ret} (hret:jm8 E fn args σ'=B ret) {R:Type} {k:Ret→O R} {r:R} (hk:k ret=B r) :
  ∃ v,(results fn a'.tmps).run P w' = .ok v w'∧∃ ret,k ret=B r∧∃ v' S' vs,Ø v = .returned v'∧jvO w S args vals ret v' w' S' vs:=by
 unfold jm8 at hret
 rw [if_pos hrw] at hret
 unfold jwL at hret
 split at hret
 case h_2=>simp at hret
 rename_i cs hcs
 split at hret
 case isFalse=>simp at hret
 rename_i hcond
 simp only [ji] at hcond
 obtain ⟨hnd,hns,hcl,hargs⟩:=hcond
 simp only [jb] at hret
 subst hret
 obtain ⟨zs,hzs,hcz⟩:=jjL hT hR hcs
 have hrun:(results fn a'.tmps).run P w' = .ok (j5Q zs) w':=by
  have hm:=jj1 (P:=P) (w:=w') _ hzs
  unfold results
  rw [yb]
  simp only [ç,þ]
  erw [hm]
  simp only [Ù,è]
  exact qb (Result.ok · w') (jmu zs)
 have hlen:(cs.map Item.s++E.rn.map fun k=>Item.b (σ'.bx k)).length-E.rn.length=cs.length:=smp_
 have hC:rawC E.rn (cs.map Item.s++E.rn.map fun k=>Item.b (σ'.bx k))=cs:=by
  unfold rawC
  rw [hlen,yj smp_,yq]
  exact List.map_id' _
 have hU:rawU E.rn (cs.map Item.s++E.rn.map fun k=>Item.b (σ'.bx k))=E.rn.map fun k=>(k,σ'.bx k):=by
  unfold rawU
  rw [hlen,List.drop_left' smp_,yq]
  generalize E.rn=l
  induction l with
  | nil=>rfl
  | cons x l ih=>simp only [qu,á,ih];rfl
 have hbx:∀ k∈E.rn,(emp.upd (E.rn.map fun k=>(k,σ'.bx k))).bx k=σ'.bx k:=fun k hk=>
  jik _ emp (by rw [yq];simpa [Function.comp_def] using j8n hnd) (kp.2 ⟨k,hk,rfl⟩)
 have hbx':∀ k b,(emp.upd (E.rn.map fun k=>(k,σ'.bx k))).bx k = .live b→k∈E.rn∧σ'.bx k = .live b:=by
  intro k b hb
  by_cases hk:k∈E.rn
  ·exact ⟨hk,(hbx k hk).symm.trans hb⟩
  ·rw [j1R] at hb
   ·simp [emp] at hb
   ·rw [qr]
    intro x hx he
    obtain ⟨y,hy,rfl⟩:=kp.1 hx
    simp only [vg] at he
    exact hk (he▸hy)
 have hclB:∀ k b,σ'.bx k = .live b→k∈E.rn→j1X S' w' γ' (emp.upd (E.rn.map fun k=>(k,σ'.bx k))).bx k b:=by
  intro k b hb hk
  have h1:=hR.box k b hb
  have h2:=(Bool.and_eq_true_iff.1 (jw.1 hns k hk)).2
  rw [hb] at h2
  cases b with
  | cell ls f=>
   obtain ⟨g,cur,e,q1,q2,q3,q4⟩:=h1
   exact ⟨g,cur,e,q1,q2,jbk hbx h2 q3,q4⟩
  | lst e t xs f=>exact h1
  | arr n t xs=>exact h1
  | row e t n ls=>
   obtain ⟨q1,⟨cs',q2,q3,q4⟩,q5⟩:=h1
   exact ⟨q1,⟨cs',q2,jbk hbx h2 q3,q4⟩,q5⟩
 have hcels:All2 (j0k S' w' γ' (emp.upd (E.rn.map fun k=>(k,σ'.bx k))).bx) cs zs:=by
  have go:∀ (cs:H Cel) (zs:H Y),cs.all (jpt E.rn)=X→All2 (j0k S' w' γ' σ'.bx) cs zs→All2 (j0k S' w' γ' (emp.upd (E.rn.map fun k=>(k,σ'.bx k))).bx) cs zs:=by
   intro cs
   induction cs with
   | nil=>intro zs _ h;cases zs with | nil=>trivial | cons _ _=>exact h.elim
   | cons c cs ih=>
    intro zs hcl h
    cases zs with
    | nil=>exact h.elim
    | cons z zs=>
     simp only [zj,ji] at hcl
     exact ⟨jpQ hbx hcl.1 h.1,ih zs hcl.2 h.2⟩
  exact go cs zs hcl hcz
 have hnoref:j1J args vals=[]:=by
  clear hrun hcels hR
  induction args generalizing vals with
  | nil=>cases vals<;>rfl
  | cons x xs ih=>
   cases vals with
   | nil=>rfl
   | cons v vs=>
    simp only [zj,ji] at hargs
    have:=ih ha.2 hargs.2
    cases x<;>simp_all [j1J,j7B,jt2]
 have houts:j52 S' w' args vals []:=by
  clear hrun hcels hR hnoref
  induction args generalizing vals with
  | nil=>cases vals with | nil=>trivial | cons _ _=>exact ha.elim
  | cons x xs ih=>
   cases vals with
   | nil=>exact ha.elim
   | cons v vs=>
    simp only [zj,ji] at hargs
    have:=ih ha.2 hargs.2
    cases x<;>first | exact this | (simp [jt2] at hargs)
 refine ⟨j5Q zs,hrun,_,hk,j5Q zs,S',[j5Q zs],rfl,⟨rfl,⟨trivial,trivial⟩,fun g hg=>by simp [j7D,jfi,j7C] at hg,by simp [j7D,jfi,j7C],houts,fun g o hs=>⟨hR.ext g o hs,?_⟩,fun g o h=>(hR.new g o h).imp id (fun h=>h.imp id And.left),hR.here,
  hR.below,hR.grow,hR.os,hR.tape,hR.output,fun ns s he=> ?_,fun m hm=>by simp at hm⟩⟩
 ·refine È (hR.below g (hS g o hs) (fun hm=> ?_))
  have hm:g∈j1J args vals:=hm
  rw [hnoref] at hm;simp at hm
 ·simp only [yl,RV.raw.injEq,and_true] at he
  obtain ⟨rfl,rfl⟩:=he
  refine ⟨γ',zs,rfl,by rw [hC,hU];exact hcels,fun k b hb=> ?_,fun k b g hb hg=> ?_,fun k k' b b' g hne hb hb' hg hg'=> ?_⟩
  ·rw [hU] at hb ⊢
   obtain ⟨h1,h2⟩:=hbx' k b hb
   exact hclB k b h2 h1
  ·rw [hU] at hb
   obtain ⟨h1,h2⟩:=hbx' k b hb
   rcases hR.own k b g h2 hg with h | h
   ·rcases h with h | h
    ·exact h
    ·have hm:g∈j1J args vals:=h.2
     rw [hnoref] at hm;simp at hm
   ·have:=(Bool.and_eq_true_iff.1 (jw.1 hns k h1)).1
    rw [h.2] at this;simp at this
  ·rw [hU] at hb hb'
   exact hR.apart k k' b b' g hne (hbx' k b hb).2 (hbx' k' b' hb').2 hg hg'
theorem jfT {P:Å} {fn:Func} {n:G} {R:Ending→À→Prop}:∀ (ds:H Deferred) {refs:Refs} {σ:St} {a:Á} {w:À} {S:j0e} {γ:G→Y},refs.ds=ds→jfR w0 refs→Rel N np S0 w0 refs σ a w S γ→
  (∀ w2,Rel N np S0 w0 ⟨refs.blks,refs.val,[],fun _=>Â,fun _=>Â,refs.mv⟩ σ { a with defers:=[] } w2 S γ→LeavesIn (FR Â) n P fn a.tmps R [] .returning w2)→LeavesInM (FR Â) n P fn a.tmps R ds .returning w
 | [],refs,σ,a,w,S,γ,hd,hm,hR,h=>h w (hR.swap rfl rfl hR.size rfl hR.slot (fun g o h=>by simp at h) (fun i v h=>by simp at h))
 | d::ds,refs,σ,a,w,S,γ,hd,hm,hR,h=>by
  obtain ⟨hnd,hall⟩:=hm
  rw [hd] at hnd
  obtain ⟨D,rfl,h1,h2⟩:=hall d (by rw [hd];simp)
  refine ⟨smp_,.inl ⟨D,_,rfl,run_takeDeferred (hR.kept D _ h2).1,?_⟩⟩
  have hR1:=hR.putO (o':= .deferred Â) h2 h1 rfl rfl
  have hR2:=hR1.swap (a':={ a with defers:=ds }) (refs':=⟨refs.blks,refs.val,ds,fun g=>if g=D then Â else refs.kw g,refs.fix,refs.mv⟩) rfl rfl hR.size rfl hR1.slot (fun g o hg=>hR1.kept g o (by
   simp only at hg ⊢
   split at hg
   ·simp at hg
   ·rename_i e;rw [if_neg e];exact hg)) hR1.fix
  refine jfT (a:={ a with defers:=ds }) (refs:=⟨refs.blks,refs.val,ds,fun g=>if g=D then Â else refs.kw g,refs.fix,refs.mv⟩) ds rfl ⟨(qx.1 hnd).2,fun d' hd'=> ?_⟩ hR2 (fun w2 hw=>h w2 hw)
  obtain ⟨D',rfl,q1,q2⟩:=hall d' (by rw [hd];simp [hd'])
  refine ⟨D',rfl,q1,?_⟩
  show (if D'=D then Â else refs.kw D')=_
  rw [if_neg,q2]
  rintro rfl
  exact (qx.1 hnd).1 hd'
theorem jri {P:Å} {E:Env} (hT:j1Q P E.T) (hC:j7n P E.C) (hF:CFun E.C) (hmix:P.follows .mixedOrders=X) {f:G} {fn:Func} {c:Ó} (hf:P.funcs[f]? = B fn) (hb:fn.body=B c) (hN:fn.ntmps=E.N.n) (hpin:E.N.pin=fun _=>U) (hbw:∀ f t,E.bw f=B t→BwK P f t) (hnp:E.np≤E.N.n)
  (hnm : (fn.name == "runtime.NumGoroutine") = U) (hL : ∀ x ∈ j1z 0 c, jo3 E x.1 x.2 ∧ MrOK E x.1 x.2) : FnOK P f (fun args _ k => jgy E fn args k) := by
 intro args R k r h
 refine ⟨⟨fn,hf,by rw [hb];rfl,hnm⟩,?_⟩
 intro w S vals ha hnd hS
 by_cases hlen:args.length=E.np
 case neg=>simp [jgy,hlen] at h
 case pos=>
 simp only [jgy,hb,hlen,if_true] at h
 have hvl:vals.length=E.np:=by rw [←ha.length,hlen]
 obtain ⟨hR0,hc0⟩:=jw0 (N:=E.N) ha hnd hS hlen hnp
 refine jy0 (n:=0) (ro:=Â) (callsIn_of_wp_marks hf hb trivial ?_)
 rw [hN]
 refine wpIn_mono (jsn hmix c (ro:=Â) hT hC hF hbw (.inr ⟨rfl,hpin⟩) 0 0 ⟨í,fun d hd=>by simp [jct] at hd⟩ hL hR0 hc0 h) ?_
 rintro e a0 w1 ⟨refs',ex,σ',S',γ',hle,_,rfl,hR1,hcn,hk⟩
 have hend:∀ (hk:(match jm8 E fn args σ' with | some r=>k r | none=>Â)=B r) (w':À),Rel E.N E.np S w ⟨refs'.blks,refs'.val,[],fun _=>Â,fun _=>Â,refs'.mv⟩ σ' { a0 with defers:=[] } w' S' γ'→∃ v,(results fn a0.tmps).run P w' = .ok v w'∧
   ∃ ret,k ret=B r∧∃ v' S' vs,Ø v = .returned v'∧jvO w S args vals ret v' w' S' vs:=by
  intro hk w' hR
  have hR:Rel E.N E.np S w (jct args vals) σ' { a0 with defers:=[] } w' S' γ':=hR.swap hle.blks.symm hle.val.symm hR.size rfl hR.slot (fun g o h=>by simp [jct] at h) (fun i v h=>by simp [jct] at h) hle.mv.symm
  generalize ha0:({ a0 with defers:=[] }:Á)=a' at hR
  have hat:a0.tmps=a'.tmps:=by rw [←ha0]
  rw [hat]
  cases hret:jm8 E fn args σ' with
  | none=>simp [hret] at hk
  | some ret=>
  simp only [hret] at hk
  by_cases hrw:E.rw=X
  ·exact jy5 hT hR ha hS hrw hret hk
  by_cases hhd:E.hd=X
  ·exact jz7 hT hR ha hS hrw hhd hret hk
  have hparts:∃ vs ks u os u',j9r E σ' E.ro fn.results.toList fn.resultTypes.toList=B (vs,ks,u)∧outs E.np σ' 0 args=B (os,u')∧
    jbe ks=X∧(u++u').all (fun e=> !ks.contains e.1)=X∧∃ vs',nilV E σ' fn.results.toList vs=B vs'∧ret=⟨vs',os⟩:=by
   unfold jm8 at hret
   rw [if_neg hrw,if_neg hhd] at hret
   split at hret
   ·rename_i vs ks u os u' hvs hos
    split at hret
    ·rename_i hcond
     split at hret
     ·rename_i vs' hvs'
      simp only [jb] at hret
      simp only [ji] at hcond
      exact ⟨vs,ks,u,os,u',hvs,hos,hcond.1,hcond.2,vs',hvs',hret.symm⟩
     ·simp at hret
    ·simp at hret
   ·simp at hret
  obtain ⟨vs,ks,u,os,u',hvs,hos,hnk,hsep,vs',hvs',rfl⟩:=hparts
  obtain ⟨zs,hzs,f1,p1,n1,r1⟩:=jjK hT hR hvs
  have hnil:(∀ S' w',All2 (jiC S' w') vs zs→All2 (jiC S' w') vs' zs)∧j7D vs' zs=j7D vs zs∧(∀ m,vs'=[.hd m]→vs=[.hd m])∧∀ ns s,vs'=[.raw ns s]→vs=[.raw ns s]:=jw1 hT hR hzs hvs'
  have hval:∀ (j:G) (x:Arg) (v:Y),args[j]? = B x→vals[j]? = B v→jpP x=X→γ' ((0+j)*64)=v:=by
   intro j x v hx hv hr
   refine (hR.par ((0+j)*64) v ?_).2.2
   simp only [jct,ju3]
   rw [if_pos omg_,ym _ omg_,kj,hx]
   simp [hr,hv]
  obtain ⟨f2,r2⟩:=jmt hR hos ha.length hval
  obtain ⟨S2,hR2,hst2,hfz2,hsame⟩:=j2B (u++u') σ' S' hR (FrzL.app.2 ⟨f1,f2⟩)
  obtain ⟨hfz3,hfz4⟩:=Froz.app.1 hfz2
  have hnoS:∀ k b,(u++u').any (fun y=>y.1==k)=U→σ'.bx k = .live b→Uns b→∀ g,blk (γ' k)=B g→∀ o,¬ S2 g o:=by
   intro k b hk hb hkind g hg o
   have hb2:(σ'.upd (u++u')).bx k = .live b:=(j1R _ _ hk).trans hb
   have hbox:=hR2.box k b hb2
   rcases hkind with ⟨ls,rfl⟩ | ⟨e,t,xs,rfl⟩
   ·obtain ⟨g',cur,e,hg',_,_,_,hS,_⟩:=hbox
    rw [hg'] at hg;simp [blk] at hg;subst hg
    exact hS rfl o
   ·exact (hbox.2 g hg).1 rfl o
  have hkeysep:∀ k∈ks,(u++u').any (fun y=>y.1==k)=false:=by
   intro k hk
   rw [qr]
   intro y hy he
   have:=jw.1 hsep y hy
   simp only [vg] at he
   rw [he] at this
   simp [hk] at this
  have hpar:∀ k,parK E.np k=X→(u++u').any (fun y=>y.1==k)=false:=by
   intro k hk
   rw [qr]
   intro y hy he
   simp only [vg] at he
   have:=(FrzL.app.2 ⟨f1,f2⟩ y hy).1
   rw [he,hk] at this
   simp at this
  have hvals:=r1 S2 hst2 hfz3 (fun k hk g hg=>by
   obtain ⟨⟨b,hb,hu⟩,_⟩:=p1 k hk
   exact hnoS k b (hkeysep k hk) hb hu g hg)
  have houts:=r2 S2 hst2 hfz4 (fun j x v g hx hv hr hbu hg=>by
   obtain ⟨b,hb,hu⟩:=hbu
   have hj:j<args.length:=(kb.1 hx).1
   exact hnoS ((0+j)*64) b (hpar _ (by simp [parK];omega)) hb hu g (by rw [hval j x v hx hv hr];exact hg))
  have hrun:(results fn a'.tmps).run P w' = .ok (j5Q zs) w':=by
   have hm:=jj1 (P:=P) (w:=w') _ hzs
   unfold results
   rw [yb]
   simp only [ç,þ]
   erw [hm]
   simp only [Ù,è]
   exact qb (Result.ok · w') (jmu zs)
  have hnh:∀ m,vs'=[.hd m]→∃ ad len cap,jiV args vals=B (.slice ad len cap)∧m≤len∧zs=[.slice ad m cap]:=fun m hm=>by
   exact absurd (hnil.2.2.1 m hm) (jmv hvs m)
  have hnr:∀ ns s,vs'=[.raw ns s]→jxP w.heap.size S2 w' ns s (j5Q zs):=fun ns s hm=>absurd (hnil.2.2.2 ns s hm) (jkN hvs ns s)
  refine ⟨j5Q zs,hrun,⟨vs',os⟩,hk,j5Q zs,S2,zs,rfl,⟨rfl,hnil.1 _ _ hvals,fun g hg=> ?_,?_,houts,fun g o hs=>⟨hR2.ext g o hs,?_⟩,fun g o h=>(hR2.new g o h).imp id (fun h=>h.imp id And.left),hR2.here,hR2.below,hR2.grow,hR2.os,hR2.tape,hR2.output,hnr,hnh⟩⟩
  ·rw [hnil.2.1,n1] at hg
   obtain ⟨k,hk',hkg⟩:=vu.1 hg
   obtain ⟨⟨b,hb,_⟩,hp⟩:=p1 k hk'
   rcases hR.own k b g hb hkg with h | h
   ·exact h.imp id And.left
   ·rw [hp] at h;simp at h
  ·rw [hnil.2.1,n1]
   exact jhG hR (j8n hnk) (fun k hk'=>by obtain ⟨⟨b,hb,_⟩,_⟩:=p1 k hk';exact ⟨b,hb⟩)
  ·refine È (hR2.below g (hS g o hs) (fun hm=> ?_))
   obtain ⟨i,x,v,hx,hv,hb⟩:=jfS hm
   obtain ⟨v',hv',hxv⟩:=ha.get i x hx
   rw [hv] at hv';simp at hv';subst hv'
   exact jlG hxv hb o hs
 cases ex with
 | exit i=>simp at hk
 | normal=>exact jfT a0.defers hR1.defers.symm hle.marks hR1 (fun w2 hw=>hend hk w2 hw)
 | ret=>exact jfT a0.defers hR1.defers.symm hle.marks hR1 (fun w2 hw=>hend hk w2 hw)
end
section
variable {E:Env}
def LFun (L:G→Snap→(R:Type)→(Ex→Snap→O R)→O R):Prop:=
 ∀ b s,∃ o:O (Ex×Snap),∀ (R:Type) (k:Ex→Snap→O R),L b s R k=o.bind fun x=>k x.1 x.2
def MFun (M:G→Snap→(R:Type)→(Snap→O R)→O R):Prop:=∀ b s,∃ o:O Snap,∀ (R:Type) (k:Snap→O R),M b s R k=o.bind k
def Det {α:Type} (f:(R:Type)→(α→O R)→O R):Prop:=∃ o:O α,∀ (R:Type) (k:α→O R),f R k=o.bind k
theorem Det.val {α:Type} (x:α):Det (fun _ k=>k x):=⟨B x,fun _ _=>rfl⟩
theorem Det.no {α:Type}:Det (fun R (_:α→O R)=>Â):=⟨Â,fun _ _=>rfl⟩
theorem Det.cond {α:Type} {f g:(R:Type)→(α→O R)→O R} (b:Ç) (h:Det f) (h':Det g):Det (fun R k=>cond b (f R k) (g R k)):=by
 cases b with
 | true=>exact h
 | false=>exact h'
theorem Det.bind {α β:Type} {f:(R:Type)→(α→O R)→O R} {g:α→(R:Type)→(β→O R)→O R} (h:Det f) (h':∀ a,Det (g a)):Det (fun R k=>f R fun a=>g a R k):=by
 obtain ⟨o,ho⟩:=h
 cases o with
 | none=>exact ⟨Â,fun R k=>ho R _⟩
 | some a=>
  obtain ⟨o',ho'⟩:=h' a
  exact ⟨o',fun R k=>(ho R _).trans (ho' R k)⟩
theorem Det.congr {α:Type} {f g:(R:Type)→(α→O R)→O R} (h:Det f) (e:∀ R k,g R k=f R k):Det g:=by
 obtain ⟨o,ho⟩:=h
 exact ⟨o,fun R k=>(e R k).trans (ho R k)⟩
theorem jj3 (hF:CFun E.C) (hz:E.nz=U) (p:Ç) (σ:St) (act:H (G×Ç)) (o:Æ):Det (fun R (k:St→O R)=>run1 E p σ act o k):=by
 unfold run1
 simp only [hz,jd]
 split
 ·exact .no
 ·exact .cond _ (.val _) .no
 ·rename_i f args mk _
  refine Det.bind (f:=fun R k=>E.C f args R k) (hF f args) fun ret=> ?_
  split
  ·exact .val _
  ·exact .no
theorem jlH:∀ (l:H (G×Ç)) (σ:St),Det (fun R (k:St×Ç→O R)=>jid l σ fun a b=>k (a,b))
 | [],σ=> .val _
 | (s,w)::r,σ=>by
  simp only [jid]
  refine (Det.bind (jlH r σ) (g:=fun x R k=>match x.2 with
   | true=>match jsV r x.1 s with
    | some v=>cond v (k (x.1.setS s (.one (.one (.d .bool X))),w)) (k (x.1.setS s (.one (.one (.d .bool U))), !w))
    | none=>Â
   | false=>k (x.1,U)) fun x=> ?_).congr fun R k=>rfl
  obtain ⟨σ1,a⟩:=x
  cases a with
  | true=>
   dsimp only
   split
   ·exact .cond _ (.val _) (.val _)
   ·exact .no
  | false=>exact .val _
theorem ju4 (hF:CFun E.C) (hz:E.nz=U) (ops:Ã Æ) (σ:St) (o:Æ):Det (fun R (k:St→O R)=>jsW E ops σ o k):=by
 unfold jsW
 split
 ·split
  ·exact jj3 hF hz _ _ _ _
  ·exact .no
 ·rename_i g _
  have slow:Det (fun R (k:St→O R)=>jid (σ.chain 40 g) σ fun σ' a=>match a with
    | true=>run1 E X σ' (σ.chain 40 g) o k
    | false=>k (σ'.put o.dst (.one (.one .dead)))):=by
   refine (Det.bind (jlH (σ.chain 40 g) σ) (g:=fun x R k=>match x.2 with
    | true=>run1 E X x.1 (σ.chain 40 g) o k
    | false=>k (x.1.put o.dst (.one (.one .dead)))) fun x=> ?_).congr fun R k=>rfl
   obtain ⟨σ1,a⟩:=x
   cases a with
   | true=>exact jj3 hF hz _ _ _ _
   | false=>exact .val _
  dsimp only
  split
  ·split
   ·exact .cond _ (.val _) .no
   ·exact slow
  ·exact slow
theorem jda (hF:CFun E.C) (hz:E.nz=U):∀ (l:H Æ) (σ:St),Det (fun R (k:St→O R)=>jbR E l σ k)
 | [],σ=> .val _
 | o::os,σ=>by
  simp only [jbR]
  split
  ·exact Det.bind (jj3 hF hz U σ [] o) fun σ'=>jda hF hz os σ'
  ·exact .no
theorem jlI (hF:CFun E.C) (hz:E.nz=U) (ops:Ã Æ):∀ (l:H Æ) (σ:St),Det (fun R (k:St→O R)=>jlg E ops l σ k)
 | [],σ=> .val _
 | o::os,σ=>by
  simp only [jlg]
  split
  ·exact Det.bind (ju4 hF hz ops σ o) fun σ'=>jlI hF hz ops os σ'
  ·exact .no
theorem jpR (hF:CFun E.C) (hz:E.nz=U) (ops:Ã Æ) (σ:St):Det (fun R (k:St→O R)=>jjf E ops σ k):=by
 unfold jjf
 split
 ·exact jda hF hz _ _
 ·exact jlI hF hz _ _ _
theorem jrj (hF:CFun E.C) (hz:E.nz=U) (σ:St) (o:Æ):Det (fun R (k:St→O R)=>runK E σ o k):=by
 unfold runK
 split
 ·rename_i c σ' _
  exact .cond c (.val σ') .no
 ·exact jj3 hF hz U σ [] o
theorem jeo (hF:CFun E.C) (hz:E.nz=U):∀ (l:H Æ) (σ:St),Det (fun R (k:St→O R)=>j9M E l σ k)
 | [],σ=> .val σ
 | [o],σ=>by
  simp only [j9M]
  split
  ·exact jrj hF hz σ o
  ·exact .no
 | o::o2::os,σ=>by
  simp only [j9M]
  split
  ·split
   ·split
    ·exact .cond _ (jeo hF hz os _) .no
    ·exact .no
   ·exact Det.bind (jrj hF hz σ o) fun σ'=>jeo hF hz (o2::os) σ'
  ·exact .no
theorem ju5 (hF:CFun E.C) (hz:E.nz=U) (ops:Ã Æ) (σ:St):Det (fun R (k:St→O R)=>jsX E ops σ k):=by
 unfold jsX
 split
 ·exact jeo hF hz _ _
 ·exact .no
theorem jmw (hF:CFun E.C) (hz:E.nz=U) (M Ai:H G) (σ:St) (o:Æ):Det (fun R (k:St→O R)=>runD E M Ai σ o k):=by
 unfold runD
 split
 ·exact .no
 ·split
  ·exact .cond _ (.val _) .no
  ·exact .no
 ·rename_i f args mk _
  refine Det.bind (f:=fun R k=>E.C f args R k) (hF f args) fun ret=> ?_
  split
  ·split
   ·exact .val _
   ·exact .no
  ·exact .no
theorem jso (hF:CFun E.C) (hz:E.nz=U) (ops:Ã Æ) (M Ai:H G) (σ:St) (o:Æ):Det (fun R (k:St→O R)=>jny E ops M Ai σ o k):=by
 unfold jny
 split
 ·exact jmw hF hz _ _ _ _
 ·split
  ·split
   ·exact .cond _ (.cond _ (jmw hF hz _ _ _ _) (.val _)) (.cond _ (.val _) (jmw hF hz _ _ _ _))
   ·exact .val _
   ·exact .no
  ·exact .no
theorem joa (hF:CFun E.C) (hz:E.nz=U) (ops:Ã Æ) (cl:H G) (A:H (H G)):∀ (l:H Æ) (i:G) (σ:St),Det (fun R (k:St→O R)=>jrQ E ops cl A l i σ k)
 | [],_,σ=> .val _
 | o::os,i,σ=>by
  simp only [jrQ]
  split
  ·exact Det.bind (jso hF hz ops _ _ σ o) fun σ'=>joa hF hz ops cl A os (i+1) σ'
  ·exact .no
theorem job (hF:CFun E.C) (hz:E.nz=U) (ops:Ã Æ) (A:H (H G)) (σ:St):Det (fun R (k:St→O R)=>jgx E ops A σ k):=by
 unfold jgx
 split
 ·exact joa hF hz _ _ _ _ _ _
 ·exact .no
theorem jhN (np:G):∀ (gs:H Gh) (σ:St),Det (fun R (k:St→O R)=>jjg np gs σ k)
 | [],σ=> .val _
 | g::gs,σ=>by
  simp only [jjg]
  split
  ·exact .cond _ (jhN np gs _) .no
  ·exact .no
theorem jlJ {f:(R:Type)→St→(Ex→St→O R)→O R} (hf:∀ σ,Det (fun R (k:Ex×St→O R)=>f R σ fun e σ'=>k (e,σ'))):∀ (n:G) (σ:St),
  Det (fun R (k:Ex×St→O R)=>jie (f R) n σ fun e σ'=>k (e,σ'))
 | 0,σ=> .no
 | n+1,σ=>by
  refine (Det.bind (hf σ) (g:=fun z R k=>match z.1 with
   | .normal=>jie (f R) n z.2 fun e σ'=>k (e,σ')
   | e=>k (e,z.2)) fun z=> ?_).congr fun R k=>by
    simp only [jie]
    congr 1
    try (funext e σ';cases e<;>rfl)
  obtain ⟨e,σ'⟩:=z
  cases e with
  | normal=>exact jlJ hf n σ'
  | exit i=>exact .val _
  | ret=>exact .val _
theorem jsp (hF:CFun E.C) (hz:E.nz=U) (hM:MFun E.M) (x y:Ó) (σ:St):Det (fun R (k:Ex×St→O R)=>jnD E x y σ fun e σ'=>k (e,σ')):=by
 unfold jnD
 split
 ·rename_i b _
  split
  ·split
   ·refine .cond _ (Det.bind (jda hF hz _ σ) fun σ1=> ?_) .no
    unfold mrGo
    split
    ·refine .cond _ ?_ .no
     split
     ·rename_i s _
      obtain ⟨o,ho⟩:=hM b s
      exact Det.bind (f:=fun R k=>E.M b s R k) ⟨o,fun R k=>ho R _⟩ (g:=fun s' R k=>k (Ex.normal,j0J E.np (E.keep b) s')) fun z=> .val (Ex.normal,j0J E.np (E.keep b) z)
     ·exact .no
    ·exact .no
   ·exact .no
  ·exact .no
 ·exact .no
theorem j92 (hF:CFun E.C) (hz:E.nz=U) (hL:LFun E.L∧MFun E.M):∀ (c:Ó) (b:G) (σ:St),Det (fun R (k:Ex×St→O R)=>j0S E b c σ fun e σ'=>k (e,σ')):=by
 intro c
 induction c with
 | skip=>intro b σ;exact .val _
 | region id ops draw=>
  intro b σ
  cases draw with
  | true=>exact Det.bind (jhN E.np (E.pre id) σ) fun σ1=>Det.bind (job hF hz ops (E.dw id) σ1) fun σ'=> .val (Ex.normal,σ')
  | false=>exact Det.bind (jhN E.np (E.pre id) σ) fun σ1=> .cond _ (Det.bind (ju5 hF hz ops σ1) fun σ'=> .val (Ex.normal,σ')) (Det.bind (jpR hF hz ops σ1) fun σ'=> .val (Ex.normal,σ'))
 | seq x y ihx ihy=>
  intro b σ
  simp only [j0S]
  refine .cond _ (jsp hF hz hL.2 x y σ) ?_
  refine (Det.bind (ihx b σ) (g:=fun z R k=>match z.1 with
   | .normal=>j0S E b y z.2 fun e σ'=>k (e,σ')
   | e=>k (e,z.2)) fun z=> ?_).congr fun R k=>by
    congr 1
    try (funext e σ';cases e<;>rfl)
  obtain ⟨e,σ'⟩:=z
  cases e with
  | normal=>exact ihy b σ'
  | exit i=>exact .val _
  | ret=>exact .val _
 | cond c x y ihx ihy=>
  intro b σ
  simp only [j0S]
  split
  ·exact .cond _ (ihx b _) (ihy b _)
  ·exact .no
 | block id c ih=>
  intro b σ
  refine (Det.bind (ih id σ) (g:=fun z R k=>match z.1 with
   | .exit i=>if i=id then k (.normal,z.2) else k (.exit i,z.2)
   | e=>k (e,z.2)) fun z=> ?_).congr fun R k=>by
    simp only [j0S]
    congr 1
    try (funext e σ';cases e<;>rfl)
  obtain ⟨e,σ'⟩:=z
  cases e with
  | normal=>exact .val _
  | exit i=>
   dsimp only
   split
   ·exact .val _
   ·exact .val _
  | ret=>exact .val _
 | loop c ih=>
  intro b σ
  simp only [j0S]
  refine .cond _ .no (.cond _ ?_ ?_)
  ·exact jlJ (f:=fun R σ k=>j0S E b c σ k) (fun σ=>ih b σ) (E.un b) σ
  split
  ·rename_i s _
   obtain ⟨o,ho⟩:=hL.1 b s
   exact Det.bind (f:=fun R k=>E.L b s R fun e s'=>k (e,s')) ⟨o,fun R k=>ho R _⟩ (g:=fun z R k=>k (z.1,j0J E.np (E.keepX b z.1) z.2)) fun z=> .val _
  ·exact .no
 | rangeFunc g ps x y _ _=>
  intro b σ
  simp only [j0S]
  split
  ·split
   ·rename_i kd _
    split
    ·rename_i s _
     obtain ⟨o,ho⟩:=hL.1 b (.s (.one (.d (.int .i64) (jm5 kd (â _))))::s)
     exact Det.bind (f:=fun R k=>E.L b _ R fun e s'=>k (e,s')) ⟨o,fun R k=>ho R _⟩ (g:=fun z R k=>k (z.1,j0J E.np (E.keepX b z.1) z.2)) fun z=> .val _
    ·exact .no
   ·exact .no
  ·exact .no
 | scope c ih=>intro b σ;exact ih b σ
 | label l=>intro b σ;exact .val _
 | exit i=>intro b σ;exact .val _
 | ret=>intro b σ;exact .val _
 | _=>intro b σ;exact .no
theorem jpS (hF:CFun E.C) (hz:E.nz=U) (hL:LFun E.L∧MFun E.M) (b:G) (g:Ü) (ps:Ã G) (x y:Ó) (s:Snap) :
  Det (fun R (k:O (H Item)×Ex×St→O R)=>jjh E b g ps x y s fun p e σ'=>k (p,e,σ')):=by
 unfold jjh
 split
 ·rename_i n s0
  split
  ·split
   ·rename_i kd _
    refine .cond _ (.val _) (.cond _ ?_ .no)
    refine (Det.bind (j92 (E:=E.rnd ps x y) hF hz hL x 0 _) (g:=fun z R k=>match z.1 with
     | .normal=>j0S (E.rnd ps x y) 0 y z.2 fun e σ'=>k (B [.s (.one (.d (.int .i64) (jqT kd n)))],e,σ')
     | _=>Â) fun z=> ?_).congr fun R k=>by
      congr 1
      try (funext e σ';cases e<;>rfl)
    obtain ⟨e,σ'⟩:=z
    cases e with
    | normal=>exact Det.bind (j92 (E:=E.rnd ps x y) hF hz hL y 0 σ') fun z=> .val (_,z)
    | exit i=>exact .no
    | ret=>exact .no
   ·exact .no
  ·exact .no
 ·exact .no
theorem jsq (hF:CFun E.C) (hz:E.nz=U) (hL:LFun E.L∧MFun E.M) (b:G) (p:MrP) (m:G) (s:Snap) (v:Ty) (q:ã) (z:v.den):Det (fun R (k:Snap→O R)=>jlk E b p m s v q z k):=by
 unfold jlk
 refine Det.bind (jda (E:=E.mrE p.it m) hF hz _ _) fun σ1=> ?_
 refine (Det.bind (j92 (E:=E.mrE p.it m) hF hz hL p.rest p.b6 σ1) (g:=fun z R k=>cond (mrNx p.b6 z.1) (match j5P E.np (E.keep b) z.2 with
  | some s'=>k s'
  | none=>Â) Â) fun z=> .cond _ ?_ .no).congr fun R k=>rfl
 split
 ·exact .val _
 ·exact .no
theorem jsr (hF:CFun E.C) (hz:E.nz=U) (hL:LFun E.L∧MFun E.M) (fn:Func) (args:H Arg):Det (fun R (k:Ret→O R)=>jgy E fn args k):=by
 unfold jgy
 split
 ·split
  ·rename_i c _
   refine (Det.bind (j92 hF hz hL c 0 (St.init args)) (g:=fun z R k=>match z.1 with
    | .exit _=>Â
    | _=>match jm8 E fn args z.2 with
     | some r=>k r
     | none=>Â) fun z=> ?_).congr fun R k=>rfl
   obtain ⟨e,σ'⟩:=z
   cases e<;>dsimp only<;>(try split)<;>first | exact .no | exact .val _
  ·exact .no
 ·exact .no
end
end Go.Lft
