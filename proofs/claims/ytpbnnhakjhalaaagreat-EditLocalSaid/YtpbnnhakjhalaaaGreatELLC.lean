/- Regions: what they do is what the evaluator says. -/
import Derived.Test.YtpbnnhakjhalaaaGreatELLB
import Derived.Laws.Cover3
import Derived.RangeFuncNested
import Derived.OrdersIn
set_option linter.unusedVariables false
namespace Go.Lft
section
variable {N:NT} {np:Nat} {S0:j0c} {w0:World} {refs:Refs} {σ:St} {a:Go.Act} {w:World} {S:j0c} {γ:Nat→Value}
def j3z (σ:St):Prop:=∀ i,(σ.sl i).bare=true
theorem jkp {d:Nat} (hd:d<a.tmps.size) (v:Value) (j:Nat):tm (a.put (some d) v) j=if j=d then v else tm a j:=by
 unfold tm Go.Act.put
 by_cases h:j=d
 ·subst h
  simp [hd]
 ·have h':d≠j:=fun e=>h e.symm
  simp [h,Array.getElem?_setIfInBounds_ne h']
theorem jmG {bx:Nat→BS} {d:Nat} (hd:d<a.tmps.size) {v u:Value} {x:Slot} (h:j3e S w γ bx (tm a) x u):j3e S w γ bx (tm (a.put (some d) v)) (kill d x) u:=by
 cases x with
 | one c=>exact h
 | tup l=>exact h
 | und=>exact h
 | cnd s b c=>
  simp only [kill]
  split
  ·exact ⟨trivial,fun h=>absurd rfl h⟩
  ·rename_i hne
   simp only [j3e,jkp hd,if_neg hne]
   exact h
theorem jiW (dst:Option Nat) (v:Value):(a.put dst v).tmps.size=a.tmps.size:=by cases dst<;>simp [Go.Act.put]
theorem jfb (dst:Option Nat) (v:Value):(a.put dst v).defers=a.defers:=by cases dst<;>rfl
theorem jgH (hR:Rel N np S0 w0 refs σ a w S γ) {dst:Option Nat} (hd:∀ d,dst=some d→N.ok d) {s:Slot} {v:Value} (hs:j3e S w γ σ.bx (tm a) s v) :
  Rel N np S0 w0 refs (σ.put dst s) (a.put dst v) w S γ:=by
 cases dst with
 | none=>exact hR
 | some d=>
  have hd':d<a.tmps.size:=by rw [hR.size];exact (hd d rfl).1
  refine ⟨(jiW _ _).trans hR.size,(jfb _ _).trans hR.defers,fun i=> ?_,hR.box,hR.own,hR.apart,hR.ext,hR.new,hR.here,hR.below,hR.grow,hR.os,hR.tape,hR.output,hR.par,hR.kept,fun i u h=> ?_⟩
  ·show j3e S w γ σ.bx (tm (a.put (some d) v)) (kill d (if i=d then s else σ.sl i)) (tm (a.put (some d) v) i)
   rw [jkp hd']
   split
   ·exact jmG hd' hs
   ·exact jmG hd' (hR.slot i)
  ·obtain ⟨h1,h2⟩:=hR.fix i u h
   refine ⟨h1,?_⟩
   show tm (a.put (some d) v) i=u
   rw [jkp hd',if_neg]
   ·exact h2
   ·rintro rfl
    have:=(hd i rfl).2
    rw [h1] at this;simp at this
theorem jkq {d:Nat} {x:Slot} (h:x.bare=true):kill d x=x:=by cases x<;>first | rfl | simp [Slot.bare] at h
theorem jmH (hR:Rel N np S0 w0 refs σ a w S γ) (hc:j3z σ) {dst:Option Nat} (hd:∀ d,dst=some d→N.ok d) {s:Slot} {v:Value} (hs:j3e S w γ σ.bx (tm a) s v) (hb:s.bare=true) :
  Rel N np S0 w0 refs (σ.setD dst s) (a.put dst v) w S γ∧j3z (σ.setD dst s):=by
 have he:σ.setD dst s=σ.put dst s:=by
  cases dst with
  | none=>rfl
  | some d=>
   simp only [St.setD,St.setS,St.put]
   congr 1
   funext j
   split
   ·exact (jkq hb).symm
   ·exact (jkq (hc j)).symm
 refine ⟨he▸jgH hR hd hs,fun i=> ?_⟩
 cases dst with
 | none=>exact hc i
 | some d=>
  simp only [St.setD,St.setS]
  split
  ·exact hb
  ·exact hc i
theorem joF {o:Oper} (h:jhI N o=true):∀ d,o.dst=some d→N.ok d:=by
 intro d hd
 simpa [jhI,hd,NT.ok] using h
theorem jkr {u:Ups} (h:j3z σ):j3z (σ.upd u):=by
 intro i;rw [jfD];exact h i
theorem jny {P:Program} {E:Env} (hT:j22 P E.T) (hR:Rel E.N E.np S0 w0 refs σ a w S γ) {o:Oper} {e:Bool} (h:nilT E σ o=some e) :
  ∃ v b,(execOp a.eval o).run P w = .ok (.value v) w∧v = .bool b∧(b=true→e=true):=by
 unfold nilT at h
 split at h
 ·rename_i t x y ty hop
  split at h
  ·rename_i el xs ti hx hy hti
   split at h
   ·rename_i hl
    simp only [j4] at h
    subst h
    have ex:=jc0 hR x
    have ey:=jc0 hR y
    rw [hx] at ex
    rw [hy] at ey
    obtain ⟨ad,cap,hcs,hlen,_,hnone,_⟩:=ex.1
    have hux:a.eval x = .slice ad (List.length xs) cap:=by simpa using hcs
    have huy:a.eval y = .slice none 0 0:=ey.1
    obtain ⟨a',hty⟩:=jcD hl
    obtain ⟨hd,_⟩:=j4A hT hti hty
    refine ⟨.bool ad.isNone,ad.isNone,?_,rfl,fun hb=> ?_⟩
    ·simp only [execOp,hop,hux,huy,eqGuard,binOp]
     simp [run_equal_slice_nil w t ti.elem ad (List.length xs) cap hd]
    ·have:ad=none:=by cases ad<;>simp_all
     have:=hnone this
     have:List.length xs=0:=by omega
     cases xs with
     | nil=>rfl
     | cons=>simp at this
   ·simp at h
  ·simp at h
 ·simp at h
theorem jcH {P:Program} {E:Env} (hT:j22 P E.T) (hC:j8P P E.C) (hR:Rel E.N E.np S0 w0 refs σ a w S γ) {act:List (Nat×Bool)} (hact:jgu (tm a) act) {p:Bool}
  (hc:p=false→j3z σ) {o:Oper} (hd:jhI E.N o=true) {R:Type} {k:St→Option R} {r:R} (h:run1 E p σ act o k=some r) {next:Go.Act→World→Prop} {Q:Exit→Go.Act→World→Prop}
  (hn:∀ σ' a' w' S' γ',Rel E.N E.np S0 w0 refs σ' a' w' S' γ'→(p=false→j3z σ')→k σ'=some r→next a' w'):o.wp P a w next Q:=by
 have hd:=joF hd
 have hfin:∀ (u:Ups) (s:Slot) (v:Value) (w':World) (S':j0c) (γ':Nat→Value),Rel E.N E.np S0 w0 refs (σ.upd u) a w' S' γ'→j3e S' w' γ' (σ.upd u).bx (tm a) s v→s.bare=true→
   k (cond p ((σ.upd u).put o.dst s) ((σ.upd u).setD o.dst s))=some r→next (a.put o.dst v) w':=by
  intro u s v w' S' γ' hR' hs hb hk
  cases p with
  | true=>exact hn _ _ _ _ _ (jgH hR' hd hs) (by simp) hk
  | false=>
   obtain ⟨h1,h2⟩:=jmH hR' (jkr (hc rfl)) hd hs hb
   exact hn _ _ _ _ _ h1 (fun _=>h2) hk
 unfold run1 at h
 split at h
 ·rename_i e he
  have he:nilT E σ o=some e:=by
   cases hz:E.nz with
   | true=>rw [hz] at he;exact he
   | false=>rw [hz] at he;simp at he
  obtain ⟨v,b,hrun,rfl,hb⟩:=jny (P:=P) hT hR he
  obtain ⟨h1,h2⟩:=jlw h
  unfold Oper.wp
  rw [hrun,Oper.upon_value]
  cases b with
  | true=>exact hfin [] (.one (.one (.d .bool true))) (.bool true) w S γ hR ⟨rfl,fun _=>rfl⟩ rfl (h2 (hb rfl))
  | false=>exact hfin [] (.one (.one (.d .bool false))) (.bool false) w S γ hR ⟨rfl,fun _=>rfl⟩ rfl h1
 split at h
 ·simp at h
 ·rename_i chk s u ho
  cases chk with
  | false=>simp at h
  | true=>
   obtain ⟨⟨v,w',S',γ',hrun,hR',hs⟩,hb⟩:=jlI hT hR hact (fun _=> .inl rfl) ho
   unfold Oper.wp
   rcases hrun with hrun | ⟨hrun,rfl⟩
   ·rw [hrun,Oper.upon_value];exact hfin u s v w' S' γ' hR' hs hb h
   ·rw [hrun,Oper.upon_skip];exact hfin u s undef w' S' γ' hR' hs hb h
 ·rename_i f args mk ho
  obtain ⟨hf,hspec⟩:=hC f args R _ r h
  obtain ⟨vals,hrun,hcalls,hb⟩:=jmF hR hact (fun _=> .inl rfl) ho hf hspec
  unfold Oper.wp
  rw [hrun,Oper.upon_enter]
  refine hcalls.mono ?_
  rintro e w' ⟨ret,hk,hall⟩
  split at hk
  ·rename_i s u hmk
   obtain ⟨v,S',γ',rfl,hR',hs⟩:=hall s u hmk
   exact hfin u s v w' S' γ' hR' hs (hb ret s u hmk) hk
  ·simp at hk
theorem jks {P:Program} {E:Env} (hT:j22 P E.T) (hC:j8P P E.C) {ops:Array Oper} (hbare:bare ops=true) {R:Type} {k:St→Option R} {r:R} {Q:Exit→Go.Act→World→Prop}
  (hn:∀ σ' a' w' S' γ',Rel E.N E.np S0 w0 refs σ' a' w' S' γ'→j3z σ'→k σ'=some r→Q .normal a' w') :
  ∀ (n i:Nat) (σ:St) (a:Go.Act) (w:World) (S:j0c) (γ:Nat→Value),i+n=ops.size→Rel E.N E.np S0 w0 refs σ a w S γ→j3z σ→j8q E (ops.toList.drop i) σ k=some r→
   wpOps P ops Q (List.range' i n) a w
 | 0,i,σ,a,w,S,γ,hi,hR,hc,h=>by
  rw [jg (by simp;omega)] at h
  exact hn _ _ _ _ _ hR hc h
 | n+1,i,σ,a,w,S,γ,hi,hR,hc,h=>by
  have hlt:i<ops.size:=by omega
  rw [jq (by simpa using hlt)] at h
  simp only [j8q] at h
  split at h
  ·rename_i hd
   have ho:ops[i]? = some ops[i]:=jr hlt
   simp only [List.range'_succ,wpOps,ho]
   have hg:ops[i].guard=none:=by
    have:=jj.1 hbare ops[i] (by simp)
    simpa using this
   have hw:Region.wanted ops[i] (yielded ops a.tmps)=true:=by simp [Region.wanted,hg]
   simp only [hw,if_true]
   refine .inl (jcH hT hC hR (act:=[]) (fun g hg=>by simp at hg) (p:=false) (fun _=>hc) (by simpa using hd) (by simpa using h) (fun σ' a' w' S' γ' hR' hc' hk=> ?_))
   exact jks hT hC hbare hn n (i+1) σ' a' w' S' γ' (by omega) hR' (hc' rfl) hk
  ·simp at h
theorem jcI {ops:Array Oper} {o:Oper} {g:Nat×Bool} (h:j7x ops o=some g):Region.wanted o (yielded ops a.tmps)=true↔tm a g.1 = .bool g.2:=by
 unfold j7x at h
 split at h
 ·simp at h
 ·rename_i j wn hgu
  split at h
  ·rename_i oj hoj
   split at h
   ·rename_i s hs
    simp only [j4] at h;subst h
    simp only [Region.wanted,hgu,yielded,hoj,j3,hs,tm]
    cases hq:a.tmps[s]? with
    | none=>
     have:a.tmps.getD s undef=undef:=by simp [hq]
     rw [this];simp [undef]
    | some v=>
     have:a.tmps.getD s undef=v:=by simp [hq]
     rw [this]
     cases v<;>simp
   ·simp at h
  ·simp at h
theorem jiX (hR:Rel N np S0 w0 refs σ a w S γ):∀ (n:Nat) (g:Nat×Bool),tm a g.1 = .bool g.2→jgu (tm a) (σ.chain n g)
 | 0,g,h=>by intro x hx;simp only [St.chain,jx] at hx;subst hx;exact h
 | n+1,g,h=>by
  simp only [St.chain]
  have hs:=hR.slot g.1
  split
  ·rename_i s b c hc
   rw [hc] at hs
   have h2:tm a s = .bool b:=by
    rcases hs with hs | hs
    ·exact hs.1
    ·have:tm a g.1=undef:=hs.2
     rw [h] at this;simp [undef] at this
   intro x hx
   rcases je.1 hx with rfl | hx
   ·exact h
   ·exact jiX hR n (s,b) h2 x hx
  ·intro x hx;simp only [jx] at hx;subst hx;exact h
theorem joG:∀ (n:Nat) (g:Nat×Bool),g∈σ.chain n g
 | 0,g=>by simp [St.chain]
 | n+1,g=>by simp only [St.chain];split<;>simp
theorem joH (hR:Rel N np S0 w0 refs σ a w S γ):∀ {l:List (Nat×Bool)} {b:Bool},actB σ l=some b→jgu (tm a) l→b=true
 | [],b,h,_=>by simp [actB] at h;exact h
 | (s,wn)::r,b,h,ha=>by
  have ht:tm a s = .bool wn:=ha (s,wn) (by simp)
  simp only [actB] at h
  split at h
  ·rename_i v hv
   have hvv:v=wn:=by
    have hs:=hR.slot s
    unfold gval at hv
    split at hv
    ·rename_i v' hsl
     simp only [j4] at hv;subst hv
     rw [hsl] at hs
     have:tm a s = .bool v':=j7T hs
     rw [ht] at this;simpa using this.symm
    ·rename_i s' b' v' hsl
     simp only [j4] at hv;subst hv
     rw [hsl] at hs
     rcases hs with hs | hs
     ·have:tm a s = .bool v':=j7T hs.2
      rw [ht] at this;simpa using this.symm
     ·have:tm a s=undef:=hs.2
      rw [ht] at this;simp [undef] at this
    ·simp at hv
   subst hvv
   split at h
   ·simp only [j4] at h;rw [←h];cases v<;>rfl
   ·split at h
    ·rename_i b2 hb2
     simp only [j4] at h
     have:=joH hR hb2 (fun g hg=>ha g (by simp [hg]))
     rw [←h,this];cases v<;>rfl
    ·simp at h
  ·simp at h
theorem jiY (hR:Rel N np S0 w0 refs σ a w S γ) {s:Nat} {x:Slot} (h:j3e S w γ σ.bx (tm a) x (tm a s)):Rel N np S0 w0 refs (σ.setS s x) a w S γ:=by
 refine ⟨hR.size,hR.defers,fun i=> ?_,hR.box,hR.own,hR.apart,hR.ext,hR.new,hR.here,hR.below,hR.grow,hR.os,hR.tape,hR.output,hR.par,hR.kept,hR.fix⟩
 simp only [St.setS]
 split
 ·rename_i hi;subst hi;exact h
 ·exact hR.slot i
theorem jgI {R:Type}:∀ (l:List (Nat×Bool)) {σ:St} {k:St→Bool→Option R} {r:R},Rel N np S0 w0 refs σ a w S γ→jfz l σ k=some r→
  ∃ σ' b,Rel N np S0 w0 refs σ' a w S γ∧k σ' b=some r∧(b=true↔jgu (tm a) l)
 | [],σ,k,r,hR,h=>⟨σ,true,hR,h,by simp [jgu]⟩
 | (s,wn)::l,σ,k,r,hR,h=>by
  simp only [jfz] at h
  obtain ⟨σ1,b1,hR1,hk1,hb1⟩:=jgI l hR h
  cases b1 with
  | false=>
   refine ⟨σ1,false,hR1,hk1,?_⟩
   simp only [jz,false_iff] at hb1 ⊢
   exact fun ha=>hb1 (fun g hg=>ha g (by simp [hg]))
  | true=>
   have hal:=hb1.1 rfl
   simp only at hk1
   split at hk1
   ·rename_i v hv
    have ht:tm a s = .bool v:=by
     have hs:=hR1.slot s
     unfold jo6 at hv
     split at hv
     ·rename_i v' hsl
      simp only [j4] at hv;subst hv
      rw [hsl] at hs
      exact j7T hs
     ·rename_i s' b' v' hsl
      split at hv
      ·rename_i hm
       simp only [j4] at hv;subst hv
       rw [hsl] at hs
       have hm':(s',b')∈l:=by simpa using hm
       have:=hal _ hm'
       rcases hs with hs | hs
       ·exact j7T hs.2
       ·exact absurd this hs.1
      ·simp at hv
     ·simp at hv
    have hrel:∀ b,b=v→Rel N np S0 w0 refs (σ1.setS s (.one (.one (.d .bool b)))) a w S γ:=by
     rintro b rfl
     refine jiY hR1 ⟨?_,fun _=> ?_⟩
     ·show Rep S w .bool b [tm a s];rw [ht];rfl
     ·rw [ht];rfl
    cases v with
    | true=>
     simp only [j5] at hk1
     refine ⟨_,wn,hrel true rfl,hk1,?_⟩
     constructor
     ·rintro rfl g hg
      rcases je.1 hg with rfl | hg
      ·exact ht
      ·exact hal g hg
     ·intro ha
      have:=ha (s,wn) (by simp)
      rw [ht] at this;simpa using this.symm
    | false=>
     simp only [j6] at hk1
     refine ⟨_, !wn,hrel false rfl,hk1,?_⟩
     constructor
     ·intro hw g hg
      have hw':wn=false:=by simpa using hw
      subst hw'
      rcases je.1 hg with rfl | hg
      ·exact ht
      ·exact hal g hg
     ·intro ha
      have:=ha (s,wn) (by simp)
      rw [ht] at this
      have:false=wn:=by simpa using this
      rw [←this];rfl
   ·simp at hk1
theorem jrU {P:Program} {E:Env} (hT:j22 P E.T) (hC:j8P P E.C) (hR:Rel E.N E.np S0 w0 refs σ a w S γ) {ops:Array Oper} {o:Oper} (hd:jhI E.N o=true)
  {R:Type} {k:St→Option R} {r:R} (h:jo7 E ops σ o k=some r) {next:Go.Act→World→Prop} {Q:Exit→Go.Act→World→Prop}
  (hn:∀ σ' a' w' S' γ',Rel E.N E.np S0 w0 refs σ' a' w' S' γ'→k σ'=some r→next a' w') :
  if Region.wanted o (yielded ops a.tmps) then o.wp P a w next Q∨(o.asks P a w∧LetsOut Q) else next (a.put o.dst undef) w:=by
 have hdl:=joF hd
 unfold jo7 at h
 split at h
 ·split at h
  ·rename_i hg
   have hw:Region.wanted o (yielded ops a.tmps)=true:=by simp [Region.wanted,hg]
   simp only [hw,if_true]
   exact .inl (jcH hT hC hR (act:=[]) (fun g hg=>by simp at hg) (p:=true) (by simp) hd h (fun σ' a' w' S' γ' hR' _ hk=>hn σ' a' w' S' γ' hR' hk))
  ·simp at h
 ·rename_i g hg
  dsimp only at h
  have hwi:=jcI (a:=a) hg
  have hslow:jfz (σ.chain 40 g) σ (fun σ' a=>match a with
    | true=>run1 E true σ' (σ.chain 40 g) o k
    | false=>k (σ'.put o.dst (.one (.one .dead))))=some r→
    if Region.wanted o (yielded ops a.tmps) then o.wp P a w next Q∨(o.asks P a w∧LetsOut Q) else next (a.put o.dst undef) w:=by
   intro hs
   obtain ⟨σ',b,hR',hk,hb⟩:=jgI _ hR hs
   cases b with
   | true=>
    have hact:=hb.1 rfl
    have hw:=hwi.2 (hact g (joG 40 g))
    simp only [hw,if_true]
    exact .inl (jcH hT hC hR' hact (p:=true) (by simp) hd hk (fun σ' a' w' S' γ' hR' _ hk=>hn σ' a' w' S' γ' hR' hk))
   | false=>
    have hw:¬ Region.wanted o (yielded ops a.tmps)=true:=fun hw=>by
     have:=hb.2 (jiX hR 40 g (hwi.1 hw));simp at this
    simp only [hw]
    exact hn _ _ _ _ _ (jgH hR' hdl (s:= .one (.one .dead)) (v:=undef) ⟨trivial,fun h=>absurd rfl h⟩) hk
  split at h
  ·rename_i chk c ho
   split at h
   ·rename_i ab hab
    by_cases hw:Region.wanted o (yielded ops a.tmps)=true
    ·have hact:=jiX hR 40 g (hwi.1 hw)
     have:=joH hR hab hact
     subst this
     simp only [hw,if_true]
     cases chk with
     | false=>simp at h
     | true=>
      simp only [jd,Bool.or_false,j5] at h
      obtain ⟨⟨v,w',S',γ',hrun,hR',hs⟩,hb⟩:=jlI hT hR hact (fun _=> .inl rfl) ho
      have hput:=jgH hR' hdl (s:= .cnd g.1 g.2 c) (v:=v) (.inl ⟨hwi.1 hw,hs⟩)
      refine .inl ?_
      unfold Oper.wp
      rcases hrun with hrun | ⟨hrun,rfl⟩
      ·rw [hrun,Oper.upon_value];exact hn _ _ _ _ _ hput h
      ·rw [hrun,Oper.upon_skip];exact hn _ _ _ _ _ hput h
    ·simp only [hw]
     have hk:k (σ.put o.dst (.cnd g.1 g.2 c))=some r:=by
      cases hc:(chk || !ab) with
      | true=>rw [hc] at h;exact h
      | false=>rw [hc] at h;simp at h
     exact hn _ _ _ _ _ (jgH hR hdl (s:= .cnd g.1 g.2 c) (v:=undef) (.inr ⟨fun hh=>hw (hwi.2 hh),rfl⟩)) hk
   ·exact hslow h
  ·exact hslow h
theorem joI (hR:Rel N np S0 w0 refs σ a w S γ):Rel N np S0 w0 refs σ.clear a w S γ∧j3z σ.clear:=by
 refine ⟨⟨hR.size,hR.defers,fun i=> ?_,hR.box,hR.own,hR.apart,hR.ext,hR.new,hR.here,hR.below,hR.grow,hR.os,hR.tape,hR.output,hR.par,hR.kept,hR.fix⟩,fun i=> ?_⟩
 ·have:=hR.slot i
  simp only [St.clear]
  cases hs:σ.sl i with
  | one c=>rw [hs] at this;exact this
  | tup l=>rw [hs] at this;exact this
  | und=>rw [hs] at this;exact this
  | cnd s b c=>exact ⟨trivial,fun h=>absurd rfl h⟩
 ·simp only [St.clear];cases σ.sl i<;>rfl
theorem jmI {P:Program} {E:Env} (hT:j22 P E.T) (hC:j8P P E.C) {ops:Array Oper} {R:Type} {k:St→Option R} {r:R} {Q:Exit→Go.Act→World→Prop}
  (hn:∀ σ' a' w' S' γ',Rel E.N E.np S0 w0 refs σ' a' w' S' γ'→j3z σ'→k σ'=some r→Q .normal a' w') :
  ∀ (n i:Nat) (σ:St) (a:Go.Act) (w:World) (S:j0c) (γ:Nat→Value),i+n=ops.size→Rel E.N E.np S0 w0 refs σ a w S γ→jie E ops (ops.toList.drop i) σ k=some r→
   wpOps P ops Q (List.range' i n) a w
 | 0,i,σ,a,w,S,γ,hi,hR,h=>by
  rw [jg (by simp;omega)] at h
  obtain ⟨h1,h2⟩:=joI hR
  exact hn _ _ _ _ _ h1 h2 h
 | n+1,i,σ,a,w,S,γ,hi,hR,h=>by
  have hlt:i<ops.size:=by omega
  rw [jq (by simpa using hlt)] at h
  simp only [jie] at h
  split at h
  ·rename_i hd
   have ho:ops[i]? = some ops[i]:=jr hlt
   simp only [List.range'_succ,wpOps,ho]
   exact jrU hT hC hR (by simpa using hd) (by simpa using h) (fun σ' a' w' S' γ' hR' hk=>jmI hT hC hn n (i+1) σ' a' w' S' γ' (by omega) hR' hk)
  ·simp at h
theorem jkt {P:Program} {E:Env} (hT:j22 P E.T) (hC:j8P P E.C) (hR:Rel E.N E.np S0 w0 refs σ a w S γ) (hc:j3z σ) {ops:Array Oper} {R:Type} {k:St→Option R} {r:R}
  {Q:Exit→Go.Act→World→Prop} (hn:∀ σ' a' w' S' γ',Rel E.N E.np S0 w0 refs σ' a' w' S' γ'→j3z σ'→k σ'=some r→Q .normal a' w') (h:j8r E ops σ k=some r) :
  wpOps P ops Q (List.range ops.size) a w:=by
 rw [List.range_eq_range']
 unfold j8r at h
 split at h
 ·rename_i hb
  exact jks hT hC hb hn ops.size 0 σ a w S γ (by omega) hR hc (by simpa using h)
 ·exact jmI hT hC hn ops.size 0 σ a w S γ (by omega) hR (by simpa using h)
end
section
variable {N:NT} {np:Nat} {S0:j0c} {w0:World} {refs:Refs} {σ:St} {a:Go.Act} {w:World} {S:j0c} {γ:Nat→Value}
theorem jmJ (hR:Rel N np S0 w0 refs σ a w S γ) {k:Nat} {b b':Bx} (hk:σ.bx k = .live b) (hsh:j1U b b') (hbox:∀ bx',BxLe γ σ.bx γ bx'→j2c S w γ bx' k b') :
  Rel N np S0 w0 refs (σ.setB k (.live b')) a w S γ:=by
 have hle:BxLe γ σ.bx γ (σ.setB k (.live b')).bx:=by
  intro k' hk'
  by_cases h:k'=k
  ·subst h;rw [j0E];exact ⟨by simp,rfl,fun x hx=>by simp at hx;subst hx;exact ⟨b,hk,hsh⟩⟩
  ·rw [j05 σ _ h];exact ⟨hk',rfl,fun x hx=>⟨x,hx,.refl x⟩⟩
 have live':∀ k' x,(σ.setB k (.live b')).bx k' = .live x→∃ x',σ.bx k' = .live x':=by
  intro k' x hx
  by_cases h:k'=k
  ·subst h;exact ⟨b,hk⟩
  ·rw [j05 σ _ h] at hx;exact ⟨x,hx⟩
 refine Rel.step (bx':=(σ.setB k (.live b')).bx) hR (.refl S w) hle ?_ ?_ ?_ hR.new hR.here hR.below hR.grow hR.os hR.tape hR.output (fun g _ _ h=>⟨rfl,fun k' b' hb'=>by obtain ⟨b2,hb2⟩:=live' k' b' hb';exact h k' b2 hb2⟩)
 ·intro k' x hx
  by_cases h:k'=k
  ·subst h;rw [j0E] at hx;simp at hx;subst hx;exact hbox _ hle
  ·rw [j05 σ _ h] at hx
   exact j2c.keep (.refl S w) hle rfl (fun g hg=>⟨rfl,fun _=>Iff.rfl⟩) (hR.box k' x hx)
 ·intro k' x g hx hg
  obtain ⟨x',hx'⟩:=live' k' x hx
  exact hR.own k' x' g hx' hg
 ·intro k1 k2 x1 x2 g hne h1 h2 hg
  obtain ⟨y1,hy1⟩:=live' k1 x1 h1
  obtain ⟨y2,hy2⟩:=live' k2 x2 h2
  exact hR.apart k1 k2 y1 y2 g hne hy1 hy2 hg
theorem All2.set_left {α β:Type} {R:α→β→Prop}:∀ {as:List α} {bs:List β},All2 R as bs→∀ (i:Nat) (x:α) (b:β),bs[i]? = some b→R x b→All2 R (as.set i x) bs
 | [],[],_,i,x,b,hb,_=>by simp at hb
 | _::_,_::_,h,0,x,b,hb,hr=>by simp at hb;subst hb;exact ⟨hr,h.2⟩
 | _::_,_::_,h,i+1,x,b,hb,hr=>⟨h.1,All2.set_left h.2 i x b (by simpa using hb) hr⟩
 | [],_::_,h,_,_,_,_,_=>h.elim
 | _::_,[],h,_,_,_,_,_=>h.elim
theorem jiZ:∀ (l:List (Loc×Ty)) (σ σ':St) (S:j0c),Rel N np S0 w0 refs σ a w S γ→j3z σ→jcC np l σ=some σ'→∃ S',Rel N np S0 w0 refs σ' a w S' γ∧j3z σ'
 | [],σ,σ',S,hR,hc,h=>by simp [jcC] at h;subst h;exact ⟨S,hR,hc⟩
 | (l,t)::r,σ,σ',S,hR,hc,h=>by
  simp only [jcC] at h
  split at h
  ·rename_i v u hv
   have hrdf:=jir (np:=np) (σ:=σ) (rd:=mskM σ.bx) (RdR.msk fun _=> .inl rfl)
   suffices hs:∃ S',Rel N np S0 w0 refs (jdj (σ.upd u) l (.d t v)) a w S' γ∧j3z (jdj (σ.upd u) l (.d t v)) by
    obtain ⟨S1,hR1,hc1⟩:=hs
    exact jiZ r _ σ' S1 hR1 hc1 h
   cases l with
   | slot i=>
    cases hsl:σ.sl i with
    | tup x=>simp only [j63,hsl] at hv;simp [jab] at hv
    | cnd x y z=>simp only [j63,hsl] at hv;simp [jab] at hv
    | und=>simp only [j63,hsl] at hv;simp [jab] at hv
    | one c=>
     cases c with
     | st ls=>simp only [j63,hsl] at hv;simp [jab] at hv
     | av n b xs=>simp only [j63,hsl] at hv;simp [jab] at hv
     | one x=>
      simp only [j63,hsl] at hv
      have hsr:=hR.slot i
      rw [hsl] at hsr
      obtain ⟨hfl,hp⟩:=j81 hrdf hR.box hv hsr.1
      obtain ⟨S1,hR1,hst1,hfz1,_⟩:=j2Y u σ S hR hfl
      have hrep:=hp S1 w hst1 hfz1
      refine ⟨S1,?_,?_⟩
      ·simp only [jdj,jfD,hsl]
       exact jiY hR1 ⟨hrep,fun _=>Rep.one _ _ _ hrep _ (jx.2 rfl)⟩
      ·intro j
       simp only [jdj,jfD,hsl,St.setS]
       split
       ·rfl
       ·exact hc j
   | cell k c=>
    have hbad:j63 σ (.cell k c) ≠ .dead:=fun hd=>by rw [hd] at hv;simp [jab] at hv
    cases hbx:σ.bx k with
    | free=>simp [j63,hbx] at hbad
    | gone=>simp [j63,hbx] at hbad
    | live b=>
     cases b with
     | lst e b xs f=>simp [j63,hbx] at hbad
     | arr n b xs=>simp [j63,hbx] at hbad
     | cell ls f=>
      cases f with
      | true=>simp [j63,hbx] at hbad
      | false=>
       have hl:j63 σ (.cell k c)=ls.getD c .dead:=by simp [j63,hbx]
       rw [hl] at hv hbad
       obtain ⟨g,cur,e,h1,h2,h3,h4,h5,h6⟩:=hR.box k _ hbx
       cases hg:ls[c]? with
       | none=>simp [hg] at hbad
       | some x=>
        have hgx:ls.getD c .dead=x:=by simp [hg]
        rw [hgx] at hv
        obtain ⟨z,hz,hxz⟩:=h3.get c x hg
        obtain ⟨hfl,hp⟩:=j81 hrdf hR.box hv hxz
        obtain ⟨S1,hR1,hst1,hfz1,hsame⟩:=j2Y u σ S hR hfl
        have hrep:=hp S1 w hst1 hfz1
        have hbx1:=hsame.cell hbx
        refine ⟨S1,?_,?_⟩
        ·simp only [jdj,hbx1]
         refine jmJ hR1 hbx1 trivial (fun bx' hle=> ?_)
         obtain ⟨g',cur',e',h1',h2',h3',h4',h5',h6'⟩:=hR1.box k _ hbx1
         rw [h1] at h1';simp at h1';subst h1'
         rw [h2] at h2';simp at h2';obtain ⟨rfl,rfl⟩:=h2'
         exact ⟨g,cur,e,h1,h2,by rw [qu];exact All2.set_left (h3'.mono (fun x u hx=>j09.keep (.refl S1 w) hle hx)) c (.d t v) z hz hrep,by rw [qu];exact h4',h5',by simp⟩
        ·intro j
         simp only [jdj,hbx1]
         show ((σ.upd u).sl j).bare=true
         rw [jfD];exact hc j
  ·simp at h
theorem jgJ:∀ (l:List jf0) (σ σ':St) (S:j0c),Rel N np S0 w0 refs σ a w S γ→j3z σ→jbY np l σ=some σ'→∃ S',Rel N np S0 w0 refs σ' a w S' γ∧j3z σ'
 | [],σ,σ',S,hR,hc,h=>by simp [jbY] at h;subst h;exact ⟨S,hR,hc⟩
 | x::r,σ,σ',S,hR,hc,h=>by
  simp only [jbY] at h
  split at h
  ·split at h
   ·split at h
    ·split at h
     ·rename_i e b xs f hbx
      split at h
      ·simp at h
      ·rename_i hp
       simp only [qk,not_or,Bool.not_eq_true] at hp
       obtain ⟨S1,hR1,_⟩:=jf5 hR hp.2 hbx hp.1
       exact jgJ r _ σ' S1 hR1 (fun i=>hc i) h
     ·simp at h
    ·exact jgJ r σ σ' S hR hc h
   ·exact jgJ r σ σ' S hR hc h
  ·exact jgJ r σ σ' S hR hc h
theorem j6u:∀ {l:List Nat} {i j:Nat},l.idxOf? i=some j→l[j]? = some i
 | [],i,j,h=>by simp at h
 | x::l,i,j,h=>by
  rw [List.idxOf?_cons] at h
  split at h
  ·rename_i he
   simp at h he;subst h;subst he;rfl
  ·cases hq:l.idxOf? i with
   | none=>simp [hq] at h
   | some j'=>
    simp [hq] at h;subst h
    simpa using j6u hq
theorem jj0:∀ {l:List Nat} {i:Nat},l.idxOf? i=none→i∉l
 | [],i,_=>by simp
 | x::l,i,h=>by
  rw [List.idxOf?_cons] at h
  split at h
  ·simp at h
  ·rename_i he
   have hq:l.idxOf? i=none:=by simpa using h
   have:=jj0 hq
   simp only [je,not_or]
   exact ⟨fun e=>he (by simp [e]),this⟩
theorem jdn {e:Nat} {t:Ty} {l:Loc} {k:Option Nat} {xs:List t.den} {f:Bool} (h:jif σ e t l=some (k,xs,f)) :
  (k=none∧isM e=false∧xs=[]∧j63 σ l = .nil)∨∃ k0,k=some k0∧j63 σ l = .ol k0∧σ.bx k0 = .live (.lst e t xs f):=by
 unfold jif at h
 split at h
 ·rename_i hl
  split at h
  ·simp at h
  ·rename_i hm
   simp only [j4,j8] at h
   exact .inl ⟨h.1.symm,by simpa using hm,h.2.1.symm,hl⟩
 ·rename_i k0 hl
  split at h
  ·rename_i e' t' xs' f' hb
   split at h
   ·rename_i v hto
    split at h
    ·rename_i he
     simp only [j4,j8] at h
     obtain ⟨rfl,rfl,rfl⟩:=h
     have:=jcS hto
     cases this
     subst he
     exact .inr ⟨k0,rfl,hl,hb⟩
    ·simp at h
   ·simp at h
  ·simp at h
 ·simp at h
theorem jbc {e:Nat} {t:Ty}:∀ {ls:List Loc} {k:Option Nat} {xs:List t.den} {f:Bool},jdi σ e t ls=some (k,xs,f)→
  (∃ l∈ls,jif σ e t l=some (k,xs,f))∧∀ l∈ls,∃ xs' f',jif σ e t l=some (k,xs',f')
 | [],_,_,_,h=>by simp [jdi] at h
 | [l],k,xs,f,h=>by
  simp only [jdi] at h
  exact ⟨⟨l,by simp,h⟩,fun l' hl'=>by simp at hl';subst hl';exact ⟨_,_,h⟩⟩
 | l::l2::ls,k,xs,f,h=>by
  simp only [jdi] at h
  split at h
  ·rename_i k1 xs1 f1 k2 xs2 f2 h1 h2
   split at h
   ·rename_i hk
    simp only [j4,j8] at h
    obtain ⟨rfl,rfl,rfl⟩:=h
    subst hk
    obtain ⟨_,hall⟩:=jbc h2
    refine ⟨⟨l,by simp,h1⟩,fun l' hl'=> ?_⟩
    rcases je.1 hl' with rfl | hl'
    ·exact ⟨_,_,h1⟩
    ·exact hall l' hl'
   ·simp at h
  ·simp at h
def jsB (np:Nat) (σ:St) (bs:List Nat) (x:jf0) (it:Item) (src:Option Nat):Prop:=
 ∃ xs f f',jdi σ x.e x.a x.locs=some (src,xs,f)∧it = .b (.live (.lst x.e x.a xs f'))∧∀ k0,src=some k0→f'=f∧k0∉bs∧parK np k0=false
theorem jd6 {bs:List Nat}:∀ {L:List jf0} {is:List Item} {ks:List Nat},jat np σ bs L=some (is,ks)→
  ∃ srcs:List (Option Nat),ks=srcs.filterMap id∧ks.Nodup∧∀ (j:Nat) (x:jf0),L[j]? = some x→∃ it src,is[j]? = some it∧srcs[j]? = some src∧jsB np σ bs x it src
 | [],is,ks,h=>by
  simp [jat] at h
  obtain ⟨rfl,rfl⟩:=h
  exact ⟨[],rfl,ze,fun j x hx=>by simp at hx⟩
 | x::L,is,ks,h=>by
  simp only [jat] at h
  split at h
  ·rename_i k xs f is' ks' h1 h2
   obtain ⟨srcs,e1,e2,e3⟩:=jd6 h2
   split at h
   ·simp only [j4,j8] at h
    obtain ⟨rfl,rfl⟩:=h
    refine ⟨none::srcs,by simp [e1],e2,fun j y hy=> ?_⟩
    cases j with
    | zero=>simp at hy;subst hy;exact ⟨_,none,rfl,rfl,xs,f,x.frz,h1,rfl,by simp⟩
    | succ j=>exact e3 j y (by simpa using hy)
   ·rename_i k0
    split at h
    ·simp at h
    ·rename_i hn
     simp only [qk,not_or,Bool.not_eq_true,kc,jk] at hn
     simp only [j4,j8] at h
     obtain ⟨rfl,rfl⟩:=h
     refine ⟨some k0::srcs,by simp [e1],qd.2 ⟨hn.1.1,e2⟩,fun j y hy=> ?_⟩
     cases j with
     | zero=>simp at hy;subst hy;exact ⟨_,some k0,rfl,rfl,xs,f,f,h1,rfl,fun k1 hk1=>by simp at hk1;subst hk1;exact ⟨rfl,hn.1.2,hn.2⟩⟩
     | succ j=>exact e3 j y (by simpa using hy)
  ·simp at h
theorem jmK:∀ {srcs:List (Option Nat)},(srcs.filterMap id).Nodup→∀ {j j' k:Nat},srcs[j]? = some (some k)→srcs[j']? = some (some k)→j=j'
 | [],_,j,_,_,h,_=>by simp at h
 | s::srcs,hn,j,j',k,h,h'=>by
  have hmem:∀ {i:Nat},srcs[i]? = some (some k)→k∈srcs.filterMap id:=fun hi=>qs.2 ⟨some k,jn hi,rfl⟩
  have hn':(srcs.filterMap id).Nodup:=by
   cases s with
   | none=>simpa using hn
   | some y=>simp at hn;exact hn.2
  cases j with
  | zero=>
   cases j' with
   | zero=>rfl
   | succ j'=>
    simp at h h';subst h
    simp at hn
    exact absurd (by simpa using hmem h') hn.1
  | succ j=>
   cases j' with
   | zero=>
    simp at h h';subst h'
    simp at hn
    exact absurd (by simpa using hmem h) hn.1
   | succ j'=>
    have:=jmK hn' (j:=j) (j':=j') (k:=k) (by simpa using h) (by simpa using h')
    omega
theorem jku:∀ {l:List Nat},l.Nodup→∀ {i j n:Nat},l[i]? = some n→l[j]? = some n→i=j
 | [],_,i,_,_,hi,_=>by simp at hi
 | x::l,h,i,j,n,hi,hj=>by
  obtain ⟨h1,h2⟩:=qd.1 h
  cases i with
  | zero=>
   cases j with
   | zero=>rfl
   | succ j=>simp at hi hj;subst hi;exact absurd (jn hj) h1
  | succ i=>
   cases j with
   | zero=>simp at hi hj;subst hj;exact absurd (jn hi) h1
   | succ j=>rw [jku h2 (i:=i) (j:=j) (n:=n) (by simpa using hi) (by simpa using hj)]
end
section
variable {N:NT} {np:Nat} {S0:j0c} {w0:World} {refs:Refs} {σ:St} {a:Go.Act} {w:World} {S:j0c} {γ:Nat→Value}
theorem jlJ {K:Keep} {l:Loc} {n:Nat} (h:jk5 K l=some n):∃ (j:Nat) (x:jf0),K.lists[j]? = some x∧x.name=n∧l∈x.locs:=by
 unfold jk5 at h
 obtain ⟨x,hq,hn⟩:=Option.map_eq_some_iff.1 h
 have h1:=List.find?_some hq
 obtain ⟨j,hj⟩:=qh.1 (List.mem_of_find?_eq_some hq)
 exact ⟨j,x,hj,hn,by simpa using h1⟩
theorem j7C {K:Keep} {k:Nat} {x:BS} {b:Bx} (h:jk6 K k x = .live b):∃ b0,x = .live b0∧j1U b0 b:=by
 unfold jk6 at h
 split at h
 ·simp only [BS.live.injEq] at h;subst h;exact ⟨_,rfl,trivial⟩
 ·simp only [BS.live.injEq] at h;subst h;exact ⟨_,rfl,.refl _⟩
 ·simp only [BS.live.injEq] at h;subst h;exact ⟨_,rfl,.refl _⟩
 ·simp at h
theorem j7D {K:Keep} {k:Nat} {x:BS}:jk6 K k x ≠ .free:=by
 unfold jk6;split<;>simp
theorem jis {R:Leaf→Value→Prop} {f:Leaf×Nat→Leaf}:∀ {ls:List Leaf} {cs:List Value} (n:Nat),(∀ (j:Nat) (x:Leaf) (u:Value),ls[j]? = some x→cs[j]? = some u→R (f (x,n+j)) u)→ls.length=cs.length→
  All2 R ((ls.zipIdx n).map f) cs
 | [],[],_,_,_=>trivial
 | x::ls,c::cs,n,h,hl=>by
  refine ⟨h 0 x c rfl rfl,jis (n+1) (fun j y u hy hu=> ?_) (by simpa using hl)⟩
  have:=h (j+1) y u (by simpa using hy) (by simpa using hu)
  rwa [show n+1+j=n+(j+1) by omega]
 | [],_::_,_,_,hl=>by simp at hl
 | _::_,[],_,_,hl=>by simp at hl
theorem jqt {K:Keep} {s:Snap} (hR:Rel N np S0 w0 refs σ a w S γ) (hs:jlx np K σ=some s):∃ γ',Rel N np S0 w0 refs (j1y np K s) a w S γ'∧j3z (j1y np K s):=by
 unfold jlx at hs
 cases hL:jat np σ K.boxes K.lists with
 | none=>simp [hL] at hs
 | some p=>
 obtain ⟨is,ks⟩:=p
 simp only [hL] at hs
 cases hok:K.ok np with
 | false=>simp [hok] at hs
 | true=>
 simp only [hok,if_true,j4] at hs
 obtain ⟨srcs,hks,hnd,hinfo⟩:=jd6 hL
 rw [hks] at hnd
 simp only [Keep.ok,ja] at hok
 have hnames:=j94 hok.1
 have hnb:∀ (j:Nat) (x:jf0),K.lists[j]? = some x→x.name∉K.boxes:=by
  intro j x hx
  have:=jj.1 hok.2 x (jn hx)
  simp only [ja] at this
  simpa using this.1
 have hnpar:∀ (j:Nat) (x:jf0),K.lists[j]? = some x→parK np x.name=false:=by
  intro j x hx
  have:=jj.1 hok.2 x (jn hx)
  simp only [ja] at this
  simpa using this.2
 let γ':Nat→Value:=fun n=>match K.boxes.idxOf? n with
  | some _=>γ n
  | none=>match (K.lists.map (·.name)).idxOf? n with
   | some j=>match srcs[j]? with
    | some (some k)=>γ k
    | _=> .slice none 0 0
   | none=>γ n
 have hbx:(j1y np K s).bx=fun n=>match K.boxes.idxOf? n with
  | some j=>jk7 s[K.slots.length+j]?
  | none=>match (K.lists.map (·.name)).idxOf? n with
   | some j=>jk7 s[K.slots.length+K.boxes.length+j]?
   | none=>if parK np n then .gone else .free:=rfl
 have hB:∀ n,n∈K.boxes→(j1y np K s).bx n=jk6 K n (σ.bx n)∧γ' n=γ n:=by
  intro n hn
  rw [hbx]
  cases hq:K.boxes.idxOf? n with
  | none=>exact absurd hn (jj0 hq)
  | some j=>
   have hj:=j6u hq
   refine ⟨?_,by simp only [γ',hq]⟩
   simp only [hq,←hs]
   rw [jt (by simp)]
   simp only [qj,Nat.add_sub_cancel_left]
   rw [List.getElem?_append_left (by simp;exact (jh.1 hj).1)]
   simp [hj,jk7]
 have hNm:∀ (j:Nat) (x:jf0),K.lists[j]? = some x→∃ it src,srcs[j]? = some src∧jsB np σ K.boxes x it src∧(j1y np K s).bx x.name=jk7 (some it)∧
   γ' x.name=(match src with | some k=>γ k | none=> .slice none 0 0):=by
  intro j x hx
  obtain ⟨it,src,h1,h2,h3⟩:=hinfo j x hx
  have hq0:K.boxes.idxOf? x.name=none:=by
   cases hq:K.boxes.idxOf? x.name with
   | none=>rfl
   | some i=>exact absurd (jn (j6u hq)) (hnb j x hx)
  have hjn:(K.lists.map (·.name))[j]? = some x.name:=by simp [hx]
  cases hq:(K.lists.map (·.name)).idxOf? x.name with
  | none=>exact absurd (jn hjn) (jj0 hq)
  | some i=>
   have hi:=jku hnames (j6u hq) hjn
   subst hi
   refine ⟨it,src,h2,h3,?_,?_⟩
   ·rw [hbx]
    simp only [hq0,hq,←hs]
    rw [jt (by simp;omega),jt (by simp;omega)]
    have:K.slots.length+K.boxes.length+i-(K.slots.map fun i=>Item.s (jq5 K i (σ.sl i))).length-(K.boxes.map fun k=>Item.b (jk6 K k (σ.bx k))).length=i:=by simp;omega
    rw [this,h1]
   ·simp only [γ',hq0,hq,h2]
    cases src<;>rfl
 have hF:∀ n b,(j1y np K s).bx n = .live b→n∈K.boxes∨∃ (j:Nat) (x:jf0),K.lists[j]? = some x∧x.name=n:=by
  intro n b hb
  by_cases hn:n∈K.boxes
  ·exact .inl hn
  ·right
   rw [hbx] at hb
   have hq0:K.boxes.idxOf? n=none:=by
    cases hq:K.boxes.idxOf? n with
    | none=>rfl
    | some i=>exact absurd (jn (j6u hq)) hn
   simp only [hq0] at hb
   split at hb
   ·rename_i j hq
    have hj:=j6u hq
    simp only [q9] at hj
    cases hx:K.lists[j]? with
    | none=>simp [hx] at hj
    | some x=>simp [hx] at hj;exact ⟨j,x,hx,hj⟩
   ·split at hb<;>simp at hb
 have hleaf:∀ (loc:Option Loc) (x:Leaf) (u:Value),j09 S w γ σ.bx x u→(x ≠ .dead→One u)→(∀ l,loc=some l→j63 σ l=x)→
   j09 S w γ' (j1y np K s).bx (jei K loc x) u∧(jei K loc x ≠ .dead→One u):=by
  intro loc x u hl h1 hloc
  have hdead:j09 S w γ' (j1y np K s).bx .dead u∧(Leaf.dead ≠ .dead→One u):=⟨trivial,fun h=>absurd rfl h⟩
  have hname:∀ n,loc.bind (jk5 K)=some n→∀ (hu:(x = .nil)∨∃ k,x = .ol k),j09 S w γ' (j1y np K s).bx (.ol n) u∧(Leaf.ol n ≠ .dead→One u):=by
   intro n hn hu
   cases loc with
   | none=>simp at hn
   | some l=>
    simp only [j3] at hn
    have hat:=hloc l rfl
    obtain ⟨j,y,hy,hyn,hly⟩:=jlJ hn
    obtain ⟨it,src,_,⟨xs,f,f',hlists,hit,hsrc⟩,hbn,hgn⟩:=hNm j y hy
    obtain ⟨_,hall⟩:=jbc hlists
    obtain ⟨xs',f1,hla⟩:=hall l hly
    have hone:One u:=h1 (by rcases hu with rfl | ⟨k,rfl⟩<;>simp)
    rw [hyn] at hbn hgn
    refine ⟨⟨by rw [hbn,hit];simp [jk7],hone,fun b _=> ?_⟩,fun _=>hone⟩
    rw [hgn]
    rcases jdn hla with ⟨rfl,_,_,hnil⟩ | ⟨k0,rfl,hol,hbk⟩
    ·rw [hat] at hnil
     subst hnil
     exact hl
    ·rw [hat] at hol
     subst hol
     exact hl.2.2 _ hbk
  cases x with
  | dead=>exact hdead
  | nil=>
   simp only [jei]
   split
   ·rename_i n hn;exact hname n hn (.inl rfl)
   ·exact ⟨hl,h1⟩
  | d t v=>exact ⟨hl,h1⟩
  | ip ls=>exact ⟨hl,h1⟩
  | clo f caps=>exact ⟨hl,h1⟩
  | clr f ks=>
   simp only [jei]
   split
   ·rename_i hks
    obtain ⟨cv,hu,ha⟩:=hl
    refine ⟨⟨cv,hu,?_⟩,fun _=>h1 (by simp)⟩
    have go:∀ (ks:List Nat) (zs:List Value),ks.all (fun k=>K.boxes.contains k)=true→All2 (joc γ σ.bx) ks zs→All2 (joc γ' (j1y np K s).bx) ks zs:=by
     intro ks
     induction ks with
     | nil=>intro zs _ h;cases zs with | nil=>trivial | cons _ _=>exact h.elim
     | cons k ks ih=>
      intro zs hc h
      cases zs with
      | nil=>exact h.elim
      | cons z zs=>
       simp only [qm,ja] at hc
       obtain ⟨hb1,hb2⟩:=hB k (by simpa using hc.1)
       refine ⟨⟨by rw [hb1];exact j7D,h.1.2.1,fun b hb=> ?_⟩,ih zs hc.2 h.2⟩
       rw [hb1] at hb
       obtain ⟨b0,hb0,_⟩:=j7C hb
       rw [hb2];exact h.1.2.2 b0 hb0
    exact go ks cv.toList hks ha
   ·exact hdead
  | ep k i c=>exact hdead
  | s1 k=>
   simp only [jei]
   split
   ·rename_i hk
    obtain ⟨hb1,hb2⟩:=hB k (by simpa using hk)
    refine ⟨⟨by rw [hb1];exact j7D,hl.2.1,fun b hb=> ?_⟩,fun _=>hl.2.1⟩
    rw [hb1] at hb
    obtain ⟨b0,hb0,hs0⟩:=j7C hb
    have h3:=hl.2.2 b0 hb0
    rw [hb2]
    cases b0<;>cases b<;>simp only [j1U] at hs0<;>first
     | exact hs0.elim
     | exact h3.elim
     | exact h3
   ·exact hdead
  | tl k i=>
   simp only [jei]
   split
   ·rename_i hk
    obtain ⟨hb1,hb2⟩:=hB k (by simpa using hk)
    refine ⟨⟨by rw [hb1];exact j7D,hl.2.1,fun b hb=> ?_⟩,fun _=>hl.2.1⟩
    rw [hb1] at hb
    obtain ⟨b0,hb0,hs0⟩:=j7C hb
    have h3:=hl.2.2 b0 hb0
    rw [hb2]
    cases b0<;>cases b<;>simp only [j1U] at hs0<;>first
     | exact hs0.elim
     | exact h3.elim
     | (obtain ⟨rfl,rfl,hl'⟩:=hs0;simp only at h3 ⊢;obtain ⟨hm,h3⟩:=h3;rw [←hl' hm];exact ⟨hm,h3⟩)
   ·exact hdead
  | hd k i=>
   simp only [jei]
   split
   ·rename_i hk
    obtain ⟨hb1,hb2⟩:=hB k (by simpa using hk)
    refine ⟨⟨by rw [hb1];exact j7D,hl.2.1,fun b hb=> ?_⟩,fun _=>hl.2.1⟩
    rw [hb1] at hb
    obtain ⟨b0,hb0,hs0⟩:=j7C hb
    have h3:=hl.2.2 b0 hb0
    rw [hb2]
    cases b0<;>cases b<;>simp only [j1U] at hs0<;>first
     | exact hs0.elim
     | exact h3.elim
     | (obtain ⟨rfl,rfl,hl'⟩:=hs0;simp only at h3 ⊢;obtain ⟨hm,h3⟩:=h3;rw [←hl' hm];exact ⟨hm,h3⟩)
   ·exact hdead
  | ol k=>
   simp only [jei]
   split
   ·rename_i hk
    obtain ⟨hb1,hb2⟩:=hB k (by simpa using hk)
    refine ⟨⟨by rw [hb1];exact j7D,hl.2.1,fun b hb=> ?_⟩,fun _=>hl.2.1⟩
    rw [hb1] at hb
    obtain ⟨b0,hb0,_⟩:=j7C hb
    rw [hb2];exact hl.2.2 b0 hb0
   ·split
    ·rename_i n hn;exact hname n hn (.inr ⟨k,rfl⟩)
    ·exact hdead
  | bp k c=>
   simp only [jei]
   split
   ·rename_i hk
    obtain ⟨hb1,hb2⟩:=hB k (by simpa using hk)
    refine ⟨⟨by rw [hb1];exact j7D,hl.2.1,fun b hb=> ?_⟩,fun _=>hl.2.1⟩
    rw [hb1] at hb
    obtain ⟨b0,hb0,_⟩:=j7C hb
    rw [hb2];exact hl.2.2 b0 hb0
   ·exact hdead
 have hsrcbox:∀ n b,(j1y np K s).bx n = .live b→(n∈K.boxes∧γ' n=γ n∧∃ b0,σ.bx n = .live b0)∨(blk (γ' n)=none)∨
   ∃ (j:Nat) (x:jf0) (k:Nat) (b0:Bx),K.lists[j]? = some x∧x.name=n∧srcs[j]? = some (some k)∧γ' n=γ k∧σ.bx k = .live b0∧k∉K.boxes∧parK np k=false:=by
  intro n b hb
  rcases hF n b hb with hn | ⟨j,x,hx,rfl⟩
  ·obtain ⟨h1,h2⟩:=hB n hn
   rw [h1] at hb
   obtain ⟨b0,hb0,_⟩:=j7C hb
   exact .inl ⟨hn,h2,b0,hb0⟩
  ·obtain ⟨it,src,hsrc,⟨xs,f,f',hlists,hit,hk0⟩,hbn,hgn⟩:=hNm j x hx
   obtain ⟨⟨l,_,hla⟩,_⟩:=jbc hlists
   rcases jdn hla with ⟨rfl,_,_,_⟩ | ⟨k,rfl,_,hbk⟩
   ·exact .inr (.inl (by rw [hgn];rfl))
   ·obtain ⟨_,h2,h3⟩:=hk0 k rfl
    exact .inr (.inr ⟨j,x,k,_,hx,rfl,hsrc,hgn,hbk,h2,h3⟩)
 refine ⟨γ',⟨hR.size,hR.defers,?_,?_,?_,?_,hR.ext,hR.new,hR.here,hR.below,hR.grow,hR.os,hR.tape,hR.output,?_,fun g o h=>⟨(hR.kept g o h).1,fun n b hb hbk=>by
  have hno:=(hR.kept g o h).2
  rcases hsrcbox n b hb with ⟨_,e,b0,hb0⟩ | e | ⟨j,x,k,b0,_,_,_,e,hb0,_⟩
  ·rw [e] at hbk;exact hno n b0 hb0 hbk
  ·rw [e] at hbk;simp at hbk
  ·rw [e] at hbk;exact hno k b0 hb0 hbk⟩,hR.fix⟩,?_⟩
 ·-- slots
  intro i
  have hsl:(j1y np K s).sl i=match K.slots.idxOf? i with
   | some j=>jly s[j]?
   | none=> .one (.one .dead):=rfl
  rw [hsl]
  cases hq:K.slots.idxOf? i with
  | none=>exact ⟨trivial,fun h=>absurd rfl h⟩
  | some j=>
   have hj:=j6u hq
   have hitem:s[j]? = some (.s (jq5 K i (σ.sl i))):=by
    rw [←hs,List.getElem?_append_left (by simp;exact (jh.1 hj).1)]
    simp [hj]
   simp only [hitem,jly]
   have hsr:=hR.slot i
   show j0o S w γ' (j1y np K s).bx (jq5 K i (σ.sl i)) _
   cases hs1:σ.sl i with
   | tup l=>exact ⟨trivial,fun h=>absurd rfl h⟩
   | cnd x y z=>exact ⟨trivial,fun h=>absurd rfl h⟩
   | und=>exact ⟨trivial,fun h=>absurd rfl h⟩
   | one c=>
    rw [hs1] at hsr
    cases c with
    | one x=>
     exact hleaf (some (.slot i)) x _ hsr.1 hsr.2 (fun l hl=>by simp at hl;subst hl;simp [j63,hs1])
    | st ls=>
     obtain ⟨cs,hu,hall,h1⟩:=hsr
     refine ⟨cs,hu,?_,h1⟩
     refine All2.map_left.2 ?_
     have:∀ {ls:List Leaf} {cs:List Value},All2 (j09 S w γ σ.bx) ls cs→(∀ u∈cs,One u)→All2 (fun x u=>j09 S w γ' (j1y np K s).bx (jei K none x) u) ls cs:=by
      intro ls
      induction ls with
      | nil=>intro cs h _;cases cs with | nil=>trivial | cons _ _=>exact h.elim
      | cons x ls ih=>
       intro cs h h1
       cases cs with
       | nil=>exact h.elim
       | cons u cs=>exact ⟨(hleaf none x u h.1 (fun _=>h1 u (by simp)) (by simp)).1,ih h.2 (fun v hv=>h1 v (by simp [hv]))⟩
     exact this hall h1
    | av n b xs=>
     obtain ⟨cs,hu,hrep⟩:=hsr
     exact ⟨cs,hu,hrep⟩
 ·-- boxes
  intro n b hb
  rcases hF n b hb with hn | ⟨j,x,hx,rfl⟩
  ·obtain ⟨h1,h2⟩:=hB n hn
   rw [h1] at hb
   unfold jk6 at hb
   split at hb
   ·rename_i ls frz hbx0
    simp only [BS.live.injEq] at hb;subst hb
    obtain ⟨g,cur,e,q1,q2,q3,q4,q5,q6⟩:=hR.box n _ hbx0
    have hlz:(ls.zipIdx.map fun x=>jei K (if frz=true then none else some (Loc.cell n x.2)) x.1).length=ls.length:=by simp
    refine ⟨g,cur,e,h2.trans q1,q2,?_,by rw [hlz];exact q4,q5,q6⟩
    rw [hlz]
    refine jis 0 (fun j x u hx hu=> ?_) q3.length
    obtain ⟨u',hu',hxu⟩:=q3.get j x hx
    rw [hu] at hu';simp at hu';subst hu'
    refine (hleaf _ x u hxu (fun _=>q4 u (jn hu)) (fun l hl=> ?_)).1
    cases frz with
    | true=>simp at hl
    | false=>
     simp at hl;subst hl
     simp [j63,hbx0,hx]
   ·rename_i m t xs hbx0
    simp only [BS.live.injEq] at hb;subst hb
    obtain ⟨g,cur,e,q1,q2,q3,q4⟩:=hR.box n _ hbx0
    exact ⟨g,cur,e,h2.trans q1,q2,q3,q4⟩
   ·rename_i e t xs frz hbx0
    simp only [BS.live.injEq] at hb;subst hb
    obtain ⟨q1,q3⟩:=hR.box n _ hbx0
    exact ⟨by rw [h2];exact q1,by rw [h2];exact q3⟩
   ·simp at hb
  ·obtain ⟨it,src,hsrc,⟨xs,f,f',hlists,hit,hk0⟩,hbn,hgn⟩:=hNm j x hx
   obtain ⟨⟨l,_,hla⟩,_⟩:=jbc hlists
   rw [hbn,hit] at hb
   simp only [jk7,BS.live.injEq] at hb;subst hb
   rcases jdn hla with ⟨rfl,hnm,rfl,_⟩ | ⟨k,rfl,_,hbk⟩
   ·refine jgt hnm ⟨[],?_,trivial,fun g hg=> ?_⟩
    ·rw [hgn];exact ⟨by simp,.inl ⟨rfl,rfl⟩⟩
    ·rw [hgn] at hg;simp [blk] at hg
   ·obtain ⟨rfl,_,_⟩:=hk0 k rfl
    obtain ⟨q1,q3⟩:=hR.box k _ hbk
    exact ⟨by rw [hgn];exact q1,by rw [hgn];exact q3⟩
 ·-- own
  intro n b g hb hg
  rcases hsrcbox n b hb with ⟨_,h2,b0,h3⟩ | h | ⟨j,x,k,b0,_,_,_,h2,h3,_,h5⟩
  ·rw [h2] at hg;exact hR.own n b0 g h3 hg
  ·rw [h] at hg;simp at hg
  ·rw [h2] at hg
   rcases hR.own k b0 g h3 hg with h | h
   ·exact .inl h
   ·rw [h5] at h;simp at h
 ·-- apart
  intro n n' b b' g hne hb hb' hg hg'
  rcases hsrcbox n b hb with ⟨m1,h2,b0,h3⟩ | h | ⟨j,x,k,b0,hx,hxn,hj,h2,h3,h4,_⟩
  ·rw [h2] at hg
   rcases hsrcbox n' b' hb' with ⟨_,i2,b1,i3⟩ | i | ⟨j',x',k',b1,_,_,_,i2,i3,i4,_⟩
   ·rw [i2] at hg';exact hR.apart n n' b0 b1 g hne h3 i3 hg hg'
   ·rw [i] at hg';simp at hg'
   ·rw [i2] at hg';exact hR.apart n k' b0 b1 g (by rintro rfl;exact i4 m1) h3 i3 hg hg'
  ·rw [h] at hg;simp at hg
  ·rw [h2] at hg
   rcases hsrcbox n' b' hb' with ⟨m1,i2,b1,i3⟩ | i | ⟨j',x',k',b1,hx',hxn',hj',i2,i3,i4,_⟩
   ·rw [i2] at hg';exact hR.apart k n' b0 b1 g (by rintro rfl;exact h4 m1) h3 i3 hg hg'
   ·rw [i] at hg';simp at hg'
   ·rw [i2] at hg'
    by_cases hkk:k=k'
    ·subst hkk
     have:=jmK hnd hj hj'
     subst this
     rw [hx] at hx';simp at hx';subst hx'
     exact hne (hxn.symm.trans hxn')
    ·exact hR.apart k k' b0 b1 g hkk h3 i3 hg hg'
 ·-- parameters
  intro k v hv
  obtain ⟨p1,p2,p3⟩:=hR.par k v hv
  refine ⟨p1,?_,?_⟩
  ·by_cases hk:k∈K.boxes
   ·rw [(hB k hk).1];exact j7D
   ·rw [hbx]
    have hq0:K.boxes.idxOf? k=none:=by
     cases hq:K.boxes.idxOf? k with
     | none=>rfl
     | some i=>exact absurd (jn (j6u hq)) hk
    simp only [hq0]
    split
    ·rename_i j hq
     have hj:=j6u hq
     simp only [q9] at hj
     cases hx:K.lists[j]? with
     | none=>simp [hx] at hj
     | some x=>
      simp [hx] at hj
      have:=hnpar j x hx
      rw [hj,p1] at this;simp at this
    ·simp [p1]
  ·by_cases hk:k∈K.boxes
   ·rw [(hB k hk).2];exact p3
   ·have hq0:K.boxes.idxOf? k=none:=by
     cases hq:K.boxes.idxOf? k with
     | none=>rfl
     | some i=>exact absurd (jn (j6u hq)) hk
    simp only [γ',hq0]
    split
    ·rename_i j hq
     have hj:=j6u hq
     simp only [q9] at hj
     cases hx:K.lists[j]? with
     | none=>simp [hx] at hj
     | some x=>
      simp [hx] at hj
      have:=hnpar j x hx
      rw [hj,p1] at this;simp at this
    ·exact p3
 ·intro i
  show ((match K.slots.idxOf? i with | some j=>jly s[j]? | none=>Slot.one (.one .dead)):Slot).bare=true
  split
  ·unfold jly;split<;>rfl
  ·rfl
theorem j6I {K:Keep} {s:Snap} (hR:Rel N np S0 w0 refs σ a w S γ) (hc:j3z σ) (hs:j6P np K σ=some s):∃ S' γ',Rel N np S0 w0 refs (j1y np K s) a w S' γ'∧j3z (j1y np K s):=by
 unfold j6P at hs
 split at hs
 ·rename_i σ1 h1
  split at hs
  ·rename_i σ2 h2
   obtain ⟨S1,hR1,hc1⟩:=jiZ _ _ _ _ hR hc h1
   obtain ⟨S2,hR2,hc2⟩:=jgJ _ _ _ _ hR1 hc1 h2
   obtain ⟨γ',hR3,hc3⟩:=jqt hR2 hs
   exact ⟨S2,γ',hR3,hc3⟩
  ·simp at hs
 ·simp at hs
end
def RdLe (rd rd':Nat→BS):Prop:=∀ k,rd k=rd' k∨rd k = .gone
theorem RdLe.live {rd rd':Nat→BS} (h:RdLe rd rd') {k:Nat} {b:Bx} (hk:rd k = .live b):rd' k = .live b:=by
 rcases h k with h | h
 ·rw [←h];exact hk
 ·rw [h] at hk;simp at hk
theorem RdLe.free {rd rd':Nat→BS} (h:RdLe rd rd') {k:Nat} (hk:j62 (rd k)=true):j62 (rd' k)=true:=by
 rcases h k with h | h
 ·rw [←h];exact hk
 ·rw [h] at hk;simp [j62] at hk
theorem RdLe.isLive {rd rd':Nat→BS} (h:RdLe rd rd') {k:Nat} (hk:isLive (rd k)=true):isLive (rd' k)=true:=by
 rcases h k with h | h
 ·rw [←h];exact hk
 ·rw [h] at hk;simp [Lft.isLive] at hk
theorem RdLe.rdf {rd rd':Nat→BS} (h:RdLe rd rd') (np:Nat):RdLe (fun k=>if parK np k then .gone else rd k) (fun k=>if parK np k then .gone else rd' k):=by
 intro k
 dsimp only
 split
 ·exact .inl rfl
 ·exact h k
theorem RdLe.msk {rd rd':Nat→BS} (h:RdLe rd rd'):RdLe (mskM rd) (mskM rd'):=by
 intro k
 rcases h k with h | h
 ·left;unfold mskM;rw [h]
 ·right;unfold mskM;rw [h]
theorem jj1 (M:List Nat) (rd:Nat→BS):RdLe (j9O M rd) rd:=by
 intro k
 unfold j9O
 split
 ·exact .inr rfl
 ·exact .inl rfl
section
variable {rd rd':Nat→BS} (hle:RdLe rd rd')
include hle
theorem jit {t:Ty} {l:Leaf} {x} (h:jab rd t l=some x):jab rd' t l=some x:=by
 unfold jab at h ⊢
 split at h
 ·exact h
 ·exact h
 ·split at h
  ·rename_i hk
   rw [hle.live hk];exact h
  ·simp at h
 ·rename_i k
  have hs:∀ v,s1D t (rd k)=some v→s1D t (rd' k)=some v:=by
   intro v hv
   rcases hle k with he | he
   ·rw [←he];exact hv
   ·rw [he] at hv;unfold s1D at hv;split at hv<;>simp_all
  split at h
  ·rename_i hv
   rw [hs _ hv];exact h
  ·simp at h
 ·simp at h
theorem jen:∀ (t:Ty) {ls:List Leaf} {x},gath rd t ls=some x→gath rd' t ls=some x:=by
 intro t
 induction t with
 | unit=>intro ls x h;simpa [gath] using h
 | wrap a ih=>
  intro ls x h
  simp only [gath] at h ⊢
  split at h
  ·rename_i hg;rw [ih hg];exact h
  ·simp at h
 | pair a b iha ihb=>
  intro ls x h
  simp only [gath] at h ⊢
  split at h
  ·rename_i hg
   rw [iha hg]
   dsimp only
   split at h
   ·rename_i hg2;rw [ihb hg2];exact h
   ·simp at h
  ·simp at h
 | arr n a ih=>intro ls x h;simp [gath] at h
 | _=>
  intro ls x h
  cases ls with
  | nil=>simp [gath] at h
  | cons l ls=>
   simp only [gath] at h ⊢
   split at h
   ·rename_i hl;rw [jit hle hl];exact h
   ·simp at h
theorem jdo {t:Ty} {c:Cel} {x} (h:jbB rd t c=some x):jbB rd' t c=some x:=by
 unfold jbB at h ⊢
 split at h
 ·split at h
  ·simp at h
  ·rename_i ha
   simp only [ha,qa,jz]
   split at h
   ·rename_i hg;rw [jen hle _ hg];exact h
   ·simp at h
 ·split at h
  ·rename_i ha
   simp only [ha,if_true]
   split at h
   ·rename_i hg;rw [jen hle _ hg];exact h
   ·simp at h
  ·simp at h
 ·exact h
theorem jnz {ti:TyI} {l:Leaf} {x} (h:jf1 rd ti l=some x):jf1 rd' ti l=some x:=by
 unfold jf1 at h ⊢
 split at h
 ·split at h
  ·rename_i hk;rw [hle.live hk];exact h
  ·rename_i hk;rw [hle.live hk];exact h
  ·simp at h
 ·split at h
  ·rename_i hk;rw [hle.live hk];exact h
  ·rename_i hk;rw [hle.live hk];exact h
  ·simp at h
 ·exact h
 ·simp at h
theorem jlK {ti:TyI} {i:Nat} {l:Leaf} {x} (h:jbD rd ti i l=some x):jbD rd' ti i l=some x:=by
 unfold jbD at h ⊢
 split at h
 ·split at h
  ·split at h
   ·rename_i hl;simp only [hle.isLive hl,if_true];exact h
   ·simp at h
  ·simp at h
 ·split at h
  ·split at h
   ·rename_i hl;simp only [hle.isLive hl,if_true];exact h
   ·simp at h
  ·simp at h
 ·exact h
 ·simp at h
theorem jlL {ti:TyI} {l i:Leaf} {x} (h:jee rd ti l i=some x):jee rd' ti l i=some x:=by
 unfold jee at h ⊢
 split at h
 ·split at h
  ·rename_i hk;rw [hle.live hk];exact h
  ·simp at h
 ·exact h
 ·split at h
  ·rename_i hk;rw [hle.live hk];exact h
  ·rename_i hk;rw [hle.live hk];exact h
  ·simp at h
 ·split at h
  ·rename_i hk;rw [hle.live hk];exact h
  ·simp at h
 ·split at h
  ·rename_i hk;rw [hle.live hk];exact h
  ·simp at h
 ·simp at h
theorem jiu (a:Ty):∀ {ls:List Leaf} {x},jiN rd a ls=some x→jiN rd' a ls=some x
 | [],_,h=>h
 | l::ls,x,h=>by
  simp only [jiN] at h ⊢
  split at h
  ·rename_i h1 h2
   rw [jit hle h1,jiu a h2]
   exact h
  ·simp at h
theorem jlM {t:Option Ty} {l:Leaf} {x} (h:jed rd t l=some x):jed rd' t l=some x:=by
 unfold jed at h ⊢
 split at h
 ·split at h
  ·split at h
   ·rename_i hi
    rw [if_pos hi]
    split at h
    ·rename_i hk;rw [hle.live hk];exact h
    ·simp at h
   ·simp at h
  ·simp at h
 ·simp at h
theorem jlN {ti:TyI} {l:Leaf} {c:Cel} (h:jed rd ti.ty l=none) (hc:jf1 rd ti l=some c):jed rd' ti.ty l=none:=by
 unfold jed at h ⊢
 split at h
 ·rename_i k
  split at h
  ·rename_i m el hty
   split at h
   ·rename_i hi
    rw [if_pos hi]
    simp only [jf1] at hc
    split at hc
    ·rename_i ls frz hk
     rw [hle.live hk]
     cases frz with
     | true=>rfl
     | false=>rw [hk] at h;simp at h
    ·rename_i hk
     rw [hle.live hk]
    ·simp at hc
   ·rename_i hi
    rw [if_neg hi]
  ·rfl
 ·rfl
theorem jdp (a:Ty):∀ (ps:List (Nat×Cel)) {xs:List a.den} {u:Ups} {x},j6H rd a xs u ps=some x→j6H rd' a xs u ps=some x
 | [],_,_,_,h=>h
 | (i,c)::r,xs,u,x,h=>by
  simp only [j6H] at h ⊢
  split at h
  ·rename_i hd
   rw [jdo hle hd]
   dsimp only
   split at h
   ·rename_i hi;simp only [hi,if_true];exact jdp a r h
   ·simp at h
  ·simp at h
theorem joJ {t:Option Ty} {l:Leaf} {x} (h:lenC rd t l=some x):lenC rd' t l=some x:=by
 unfold lenC at h ⊢
 split at h
 ·exact h
 ·split at h
  ·rename_i hk;rw [hle.live hk];exact h
  ·simp at h
 ·exact h
 ·exact h
 ·split at h
  ·rename_i hk;rw [hle.live hk];exact h
  ·simp at h
 ·split at h
  ·rename_i hk;rw [hle.live hk];exact h
  ·simp at h
 ·split at h
  ·rename_i hk;rw [hle.live hk];exact h
  ·simp at h
 ·simp at h
theorem joK {e:Nat} {a:Ty} {s l:Leaf} {x} (h:appH rd e a s l=some x):appH rd' e a s l=some x:=by
 unfold appH at h ⊢
 split at h
 ·split at h
  ·rename_i hkk
   rw [if_pos hkk]
   split at h
   ·rename_i hk;rw [hle.live hk];exact h
   ·simp at h
  ·simp at h
 ·simp at h
omit hle in
theorem joL {e e':Nat} {a a':Ty} {s l:Leaf} {x} (h:appS rd e a s=some x):appH rd' e' a' s l=none:=by
 unfold appS at h
 split at h
 ·rfl
 ·rfl
 ·simp at h
omit hle in
theorem joM {fr fr':Bool} (hf:fr=true→fr'=true) {a:Ty} {n len:Nat} {ps:List (Nat×Cel)} {x} (h:one1 fr a n len ps=some x):one1 fr' a n len ps=some x:=by
 unfold one1 at h ⊢
 split at h
 ·split at h
  ·split at h
   ·rename_i hc
    rw [if_pos ⟨hc.1,hc.2.1,hc.2.2.1,hf hc.2.2.2⟩];exact h
   ·simp at h
  ·simp at h
 ·simp at h
theorem joN {rdf rdf':Nat→BS} (hlf:RdLe rdf rdf') {a:Ty} {n:Nat} {s l:Leaf} {x} (h:appN rd rdf a n s l=some x):appN rd' rdf' a n s l=some x:=by
 unfold appN at h ⊢
 split at h
 ·split at h
  ·rename_i hk
   rw [hlf.live hk]
   dsimp only
   split at h
   ·rename_i hc;rw [if_pos ⟨hc.1,hle.free hc.2⟩];exact h
   ·simp at h
  ·simp at h
 ·simp at h
omit hle in
theorem jnA {rdf:Nat→BS} {e:Nat} {a a':Ty} {n:Nat} {s l:Leaf} {x} (h:appN rd rdf a n s l=some x):appH rd' e a' s l=none:=by
 unfold appN at h
 split at h
 ·rfl
 ·simp at h
omit hle in
theorem joO {rdf rdf':Nat→BS} {a a':Ty} {n:Nat} {s l:Leaf} {x} (h:appX rdf a l=some x):appN rd rdf' a' n s l=none:=by
 unfold appN
 split
 ·unfold appX at h;simp at h
 ·rfl
theorem jlO {ti:TyI} {l m:Leaf} {lo hi:Option Leaf} {x} (h:jic rd ti l lo hi m=some x):jic rd' ti l lo hi m=some x:=by
 unfold jic at h ⊢
 split at h
 ·split at h
  ·rename_i hk;rw [hle.live hk];exact h
  ·simp at h
 ·simp at h
theorem joP {e:Nat} {a:Ty} {l:Leaf} {x} (h:appS rd e a l=some x):appS rd' e a l=some x:=by
 unfold appS at h ⊢
 split at h
 ·split at h
  ·rename_i hk;rw [hle.live hk];exact h
  ·simp at h
 ·exact h
 ·simp at h
theorem jkv {a:Ty} {l:Leaf} {x} (h:appX rd a l=some x):appX rd' a l=some x:=by
 unfold appX at h ⊢
 split at h
 ·split at h
  ·rename_i hk;rw [hle.live hk];exact h
  ·simp at h
 ·exact h
 ·exact h
 ·split at h
  ·rename_i hk;rw [hle.live hk];exact h
  ·simp at h
 ·simp at h
theorem jnB {t:Option Ty} {l m:Leaf} {x} (h:jng rd t l m=some x):jng rd' t l m=some x:=by
 unfold jng at h ⊢
 split at h
 ·split at h
  ·rename_i hk
   rw [hle.live hk]
   dsimp only
   split at h
   ·rename_i ht
    rw [if_pos ht]
    split at h
    ·rename_i hy;rw [jkv hle hy];exact h
    ·simp at h
   ·simp at h
  ·simp at h
 ·simp at h
theorem jlP {t:Option Ty} {l:Leaf} {x} (h:jid rd t l=some x):jid rd' t l=some x:=by
 unfold jid at h ⊢
 split at h
 ·split at h
  ·rename_i hk;rw [hle.live hk];exact h
  ·simp at h
 ·simp at h
theorem jgc:∀ (ls:List Leaf) {x},tvs rd ls=some x→tvs rd' ls=some x
 | [],_,h=>h
 | l::ls,x,h=>by
  simp only [tvs] at h ⊢
  split at h
  ·rename_i hr
   rw [jgc ls hr]
   dsimp only
   split at h
   ·exact h
   ·split at h
    ·rename_i hk;rw [hle.live hk];exact h
    ·simp at h
   ·simp at h
  ·simp at h
theorem jiv:∀ (cs:List Cel) {x},jk2 rd cs=some x→jk2 rd' cs=some x
 | [],_,h=>h
 | c::cs,x,h=>by
  simp only [jk2] at h ⊢
  split at h
  ·rename_i hr
   rw [jiv cs hr]
   dsimp only
   split at h
   ·exact h
   ·split at h
    ·rename_i hk
     rw [hle.live hk]
     dsimp only
     split at h
     ·rename_i ht;rw [jgc hle _ ht];exact h
     ·simp at h
    ·simp at h
   ·simp at h
  ·simp at h
end
theorem jlQ {rd rd' rdf rdf':Nat→BS} (hle:RdLe rd rd') (hlf:RdLe rdf rdf') {n:Nat} {c:Cel} {l:Leaf} {x} (h:jfx rd rdf n c l=some x):jfx rd' rdf' n c l=some x:=by
 unfold jfx at h ⊢
 split at h
 ·split at h
  ·rename_i hk;rw [hle.live hk];exact h
  ·rename_i hk;rw [hle.live hk];exact h
  ·simp at h
 ·split at h
  ·rename_i hk
   rw [hle.live hk]
   dsimp only
   split at h
   ·split at h
    ·rename_i hi
     rw [if_pos hi]
     split at h
     ·rename_i hg;rw [jen hlf _ hg];exact h
     ·simp at h
    ·simp at h
   ·simp at h
  ·rename_i hk
   rw [hle.live hk]
   dsimp only
   split at h
   ·split at h
    ·rename_i hi
     rw [if_pos hi]
     split at h
     ·rename_i hg;rw [jen hlf _ hg];exact h
     ·simp at h
    ·simp at h
   ·simp at h
  ·simp at h
 ·simp at h
theorem jlR {par:Nat→Bool} {rd rd':Nat→BS} (hle:RdLe rd rd') {ti:TyI} {n:Nat} {l:Leaf} {lo hi:Option Leaf} {x} (h:jib par rd ti n l lo hi=some x):jib par rd' ti n l lo hi=some x:=by
 unfold jib at h ⊢
 split at h
 ·exact h
 ·split at h
  ·split at h
   ·rename_i hk;rw [hle.live hk];exact h
   ·simp at h
  ·split at h
   ·rename_i hk
    rw [hle.live hk]
    dsimp only
    split at h
    ·rename_i hty
     rw [if_pos hty]
     split at h
     ·split at h
      ·rename_i hp
       rw [if_pos hp];exact h
      ·rename_i hp
       rw [if_neg hp]
       split at h
       ·rename_i hl
        rw [if_pos hl]
        split at h
        ·rename_i hf;rw [if_pos (hle.free hf)];exact h
        ·simp at h
       ·rename_i hl
        rw [if_neg hl];exact h
     ·simp at h
    ·simp at h
   ·simp at h
 ·split at h
  ·rename_i hk;rw [hle.live hk];exact h
  ·simp at h
 ·simp at h
theorem jnC {rd rd' rdf rdf':Nat→BS} (hle:RdLe rd rd') (hlf:RdLe rdf rdf') {t:Option TyI} {rl:Bool} {c:Cel} {x} (h:jnh rd rdf t rl c=some x):jnh rd' rdf' t rl c=some x:=by
 unfold jnh at h ⊢
 split at h
 ·split at h
  ·rename_i hk
   rw [hle.live hk]
   dsimp only
   split at h
   ·rename_i ht;rw [jgc hlf _ ht];exact h
   ·simp at h
  ·rename_i hk
   rw [hle.live hk]
   dsimp only
   split at h
   ·rename_i ht;rw [jgc hlf _ ht];exact h
   ·simp at h
  ·simp at h
 ·exact h
 ·exact h
 ·split at h
  ·split at h
   ·rename_i hk;rw [hle.live hk];exact h
   ·simp at h
  ·split at h
   ·rename_i hk;rw [hlf.live hk];exact h
   ·simp at h
 ·split at h
  ·split at h
   ·split at h
    ·rename_i hd;rw [jdo hlf hd];exact h
    ·simp at h
   ·simp at h
  ·simp at h
theorem jdq {rd rd' rdf rdf':Nat→BS} (hle:RdLe rd rd') (hlf:RdLe rdf rdf') {T:Nat→Option TyI}:∀ (cs:List Cel) {ts:List Nat} {ms:List Bool} {x},jd3 rd rdf T ts ms cs=some x→jd3 rd' rdf' T ts ms cs=some x
 | [],_,_,_,h=>h
 | c::cs,ts,ms,x,h=>by
  simp only [jd3] at h ⊢
  split at h
  ·rename_i ha
   rw [jnC hle hlf ha]
   dsimp only
   split at h
   ·rename_i hr;rw [jdq hle hlf cs hr];exact h
   ·simp at h
  ·simp at h
theorem joQ {rd rd' rdf rdf':Nat→BS} (hle:RdLe rd rd') (hlf:RdLe rdf rdf') {n m:Nat} {us:Ups} {fs:List Bk} {os:List Out} {x} (h:mkHd rd rdf n us fs m os=some x):mkHd rd' rdf' n us fs m os=some x:=by
 unfold mkHd at h ⊢
 split at h
 ·split at h
  ·split at h
   ·rename_i hf
    simp only [ja] at hf
    rw [if_pos (by simp only [ja];exact ⟨hle.free hf.1,hlf.isLive hf.2⟩)]
    exact h
   ·simp at h
  ·simp at h
 ·simp at h
theorem jiw {rd rd' rdf rdf':Nat→BS} (hle:RdLe rd rd') (hlf:RdLe rdf rdf') {n:Nat} {us:Ups} {fs:List Bk} {r:Ret} {x} (h:jiO rd rdf n us fs r=some x):jiO rd' rdf' n us fs r=some x:=by
 unfold jiO at h ⊢
 split at h
 ·exact joQ hle hlf h
 ·unfold jo5 at h ⊢
  split at h
  ·split at h
   ·rename_i hf
    simp only [ja] at hf
    rw [if_pos (by simp only [ja];exact ⟨hf.1,jj.2 fun e he=>hle.free (jj.1 hf.2 e he)⟩)]
    exact h
   ·simp at h
  ·simp at h
 ·split at h
  ·split at h
   ·split at h
    ·rename_i hf
     rw [if_pos (jj.2 fun e he=>hle.free (jj.1 hf e he))]
     exact h
    ·simp at h
   ·simp at h
  ·simp at h
inductive ActLe:Act→Act→Prop
 | val (chk:Bool) (s:Slot) (u:Ups):ActLe (.val chk s u) (.val chk s u)
 | call (f:Nat) (args:List Arg) (mk mk':Ret→Option (Slot×Ups)):(∀ r x,mk r=some x→mk' r=some x)→ActLe (.call f args mk) (.call f args mk')
theorem ActLe.refl (x:Act):ActLe x x:=by cases x with
 | val chk s u=>exact .val chk s u
 | call f args mk=>exact .call f args mk mk fun _ _ h=>h
theorem jix {x y:Option Leaf} (h:∀ z,x=some z→y=some z) {r:Act} (hr:jdh x=some r):jdh y=some r:=by
 cases x with
 | none=>simp [jdh] at hr
 | some z=>rw [h z rfl];exact hr
theorem joR {x y:Option (Bool×Leaf)} (h:∀ z,x=some z→y=some z) {r:Act} (hr:oChk x=some r):oChk y=some r:=by
 cases x with
 | none=>simp [oChk] at hr
 | some z=>rw [h z rfl];exact hr
theorem jkw {rd rd':Nat→BS} (hle:RdLe rd rd') {t:Nat} {k v:Ty} {x y:Leaf} {z} (h:mapC rd t k v x y=some z):mapC rd' t k v x y=some z:=by
 unfold mapC at h ⊢
 split at h
 ·split at h
  ·rename_i hb
   simp only [hle.live hb]
   exact h
  ·simp at h
 ·simp at h
theorem jiy {E:Env} {ev:Operand→Slot} {rd rd':Nat→BS} (hl0:RdLe rd rd') {act:List (Nat×Bool)} {o:Oper} {A:Act} (h:j3C E ev rd act o=some A):∃ A',j3C E ev rd' act o=some A'∧ActLe A A':=by
 have hle:=hl0.msk
 have hlf:=hle.rdf E.np
 have same:j3C E ev rd' act o=some A→∃ A',j3C E ev rd' act o=some A'∧ActLe A A':=fun h=>⟨A,h,.refl A⟩
 obtain ⟨dst,op,type,pos,after,guard⟩:=o
 cases op
 case alloc t=>
  refine same ?_
  simp only [j3C] at h ⊢
  split at h
  ·split at h
   ·rename_i hf;simp only [hle.free hf,if_true];exact h
   ·simp at h
  ·simp at h
 case box t x=>
  refine same ?_
  simp only [j3C] at h ⊢
  split at h
  ·rename_i hf;simp only [hle.free hf,if_true];exact h
  ·simp at h
 case build t ps=>
  refine same ?_
  simp only [j3C] at h ⊢
  split at h
  ·split at h
   ·split at h
    ·rename_i hi;simp only [hi,if_true];exact h
    rename_i hi
    rw [if_neg hi]
    split at h
    ·rename_i hb;rw [jdp hlf _ _ hb];exact h
    ·simp at h
   ·exact h
   ·simp at h
  ·simp at h
 case buildSlice t n ps=>
  refine same ?_
  simp only [j3C] at h ⊢
  split at h
  ·split at h
   ·split at h
    ·rename_i hb1
     rw [if_pos hb1]
     exact joM hle.free h
    rename_i hb1
    rw [if_neg hb1]
    split at h
    ·simp at h
    ·rename_i hn
     simp only [hn,qa]
     split at h
     ·rename_i hb
      rw [jdp hlf _ _ hb]
      dsimp only
      split at h
      ·rename_i hf;simp only [hle.free hf,if_true];exact h
      ·simp at h
     ·simp at h
   ·simp at h
  ·simp at h
 case load t x=>
  refine same ?_
  simp only [j3C] at h ⊢
  split at h
  ·split at h
   ·rename_i hla
    split at h
    ·rename_i hg
     rw [jlM hle hla]
     dsimp only
     rw [jiu hlf _ hg]
     exact h
    ·simp at h
   ·rename_i hla
    cases hlc:jf1 (mskM rd) _ (lf ((ev x).cel act)) with
    | none=>rw [hlc] at h;simp [oCel] at h
    | some c=>
     rw [jlN hle hla hlc,jnz hle hlc]
     rw [hlc] at h
     exact h
  ·simp at h
 case store t x y=>
  refine same ?_
  simp only [j3C] at h ⊢
  split at h
  ·split at h
   ·rename_i hs;rw [jlQ hle hlf hs];exact h
   ·simp at h
  ·simp at h
 case nilCheck x=>
  refine same ?_
  simp only [j3C] at h ⊢
  split at h
  ·split at h
   ·rename_i hl;simp only [hle.isLive hl,if_true];exact h
   ·simp at h
  ·split at h
   ·rename_i hl;simp only [hle.isLive hl,if_true];exact h
   ·simp at h
  ·exact h
  ·simp at h
 case makeFunc fn first captured=>
  refine same ?_
  cases fn with
  | func f=>
   simp only [j3C] at h ⊢
   split at h
   ·rename_i hf
    simp only [hf,if_true]
    split at h
    ·rename_i hcr
     simp only [hcr,if_true]
     exact h
    ·rename_i hcr
     simp only [hcr]
     split at h
     ·rename_i hc;rw [jiv hlf _ hc];exact h
     ·simp at h
   ·simp at h
  | _=>simp [j3C] at h
 case fieldAddr t x i=>
  refine same ?_
  simp only [j3C] at h ⊢
  split at h
  ·exact jix (fun z hz=>jlK hle hz) h
  ·simp at h
 case indexAddr t x i=>
  refine same ?_
  simp only [j3C] at h ⊢
  split at h
  ·exact joR (fun z hz=>jlL hle hz) h
  ·simp at h
 case call c=>
  simp only [j3C] at h ⊢
  cases hc:c.callee with
  | invoke r m=>simp [hc] at h
  | value f=>
   simp only [hc] at h ⊢
   split at h
   ·split at h
    ·rename_i ha
     rw [jdq hl0 hlf _ ha]
     dsimp only
     split at h
     ·rename_i hb
      simp only [hb,if_true]
      simp only [j4] at h;subst h
      exact ⟨_,rfl,.call _ _ _ _ fun r x hx=>jiw hle hlf hx⟩
     ·simp at h
    ·simp at h
   ·split at h
    ·rename_i ha
     rw [jdq hl0 hlf _ ha]
     dsimp only
     split at h
     ·rename_i hb
      simp only [hb,if_true]
      simp only [j4] at h;subst h
      exact ⟨_,rfl,.call _ _ _ _ fun r x hx=>jiw hle hlf hx⟩
     ·simp at h
    ·simp at h
   ·simp at h
  | builtin b=>
   simp only [hc] at h ⊢
   cases b
   case len=>
    refine ⟨A,?_,.refl A⟩
    dsimp only at h ⊢
    split at h
    ·split at h
     ·exact jix (fun z hz=>joJ hle hz) h
     ·simp at h
    ·simp at h
   case append=>
    refine ⟨A,?_,.refl A⟩
    dsimp only at h ⊢
    split at h
    ·split at h
     ·rename_i ht
      rw [if_pos ht]
      split at h
      ·split at h
       ·rename_i hty
        split at h
        ·rename_i hh
         rw [joK hle hh];exact h
        split at h
        ·rename_i hh
         rw [jnA hh]
         dsimp only
         rw [joN hle hlf hh];exact h
        split at h
        ·rename_i h1 h2
         rw [joL h1]
         dsimp only
         rw [joO h2,joP hlf h1,jkv hle h2]
         dsimp only
         split at h
         ·rename_i hf;simp only [hle.free hf,if_true];exact h
         ·simp at h
        ·simp at h
       ·simp at h
      ·simp at h
     ·simp at h
    ·simp at h
   case copy=>
    refine ⟨A,?_,.refl A⟩
    dsimp only at h ⊢
    split at h
    ·split at h
     ·rename_i ht
      rw [if_pos ht]
      split at h
      ·split at h
       ·rename_i hq;rw [jnB hle hq];exact h
       ·simp at h
      ·simp at h
     ·simp at h
    ·simp at h
   case clear=>
    refine ⟨A,?_,.refl A⟩
    dsimp only at h ⊢
    split at h
    ·split at h
     ·split at h
      ·rename_i hq;rw [jlP hle hq];exact h
      ·simp at h
     ·simp at h
    ·simp at h
   all_goals exact ⟨A,h,.refl A⟩
 case slice t x lo hi mx=>
  refine same ?_
  cases mx with
  | some m=>
   simp only [j3C] at h ⊢
   split at h
   ·split at h
    ·rename_i hq;rw [jlO hle hq];exact h
    ·simp at h
   ·simp at h
  | none=>
   simp only [j3C] at h ⊢
   split at h
   ·split at h
    ·rename_i hq;rw [jlR hle hq];exact h
    ·simp at h
   ·simp at h
 case makeMap t x=>
  refine same ?_
  cases x with
  | some m=>simp [j3C] at h
  | none=>
   simp only [j3C] at h ⊢
   split at h
   ·split at h
    ·rename_i hf;simp only [hle.free hf,if_true];exact h
    ·simp at h
   ·simp at h
 case lookup t x i ok=>
  refine same ?_
  simp only [j3C] at h ⊢
  split at h
  ·split at h
   ·rename_i hq;rw [jkw hl0 hq];exact h
   ·simp at h
  ·simp at h
 case mapUpdate t x i y=>
  refine same ?_
  simp only [j3C] at h ⊢
  split at h
  ·split at h
   ·rename_i hq hd;rw [jkw hl0 hq,jdo hlf hd];exact h
   ·simp at h
  ·simp at h
 all_goals exact ⟨A,h,.refl A⟩
section
variable {N:NT} {np:Nat} {S0:j0c} {w0:World} {refs:Refs} {σ:St} {a:Go.Act} {w:World} {S:j0c} {γ:Nat→Value}
def CFun (C:Nat→List Arg→(R:Type)→(Ret→Option R)→Option R):Prop:=
 ∀ f args,∃ o:Option Ret,∀ (R:Type) (k:Ret→Option R),C f args R k=o.bind k
theorem jgK {E:Env} {ev ev':Operand→Slot} {rd:Nat→BS} {act:List (Nat×Bool)} {o:Oper} (h:∀ x∈o.op.operands,ev x=ev' x):j3C E ev rd act o=j3C E ev' rd act o:=by
 have pairs:∀ ps:Array (Nat×Operand),(∀ x∈ps.toList.map (·.2),ev x=ev' x)→
   (ps.toList.map fun p=>(p.1,(ev p.2).cel act))=(ps.toList.map fun p=>(p.1,(ev' p.2).cel act)):=fun ps hp=>
  List.map_congr_left fun p hm=>by simp only [hp p.2 (kv.2 ⟨p,hm,rfl⟩)]
 have args:∀ ps:Array Operand,(∀ x∈ps,ev x=ev' x)→(ps.toList.map fun p=>(ev p).cel act)=(ps.toList.map fun p=>(ev' p).cel act):=fun ps hp=>
  List.map_congr_left fun p hm=>by rw [hp p (by simpa using hm)]
 obtain ⟨dst,op,type,pos,after,guard⟩:=o
 cases op<;>simp only [Op.operands] at h<;>simp only [j3C]
 case build t ps=>rw [pairs ps fun x hx=>h x (by simpa using hx)]
 case buildSlice t n ps=>rw [pairs ps fun x hx=>h x (by simpa using hx)]
 case makeFunc fn first captured=>
  have e:=args captured fun x hx=>h x (by simp [hx])
  cases fn with
  | func f=>simp only [e]
  | _=>rfl
 case call c=>
  have ha:=args c.args (fun x hx=>h x (by simp [Call.operands,hx]))
  have hx1:∀ x∈c.args.toList,ev x=ev' x:=fun x hx=>h x (by simp [Call.operands];right;simpa using hx)
  simp only [ha]
  cases hc:c.callee with
  | value f=>
   have hf:ev f=ev' f:=h f (by simp [Call.operands,hc])
   simp only [hf]
  | invoke r m=>rfl
  | builtin b=>
   cases b<;>simp only
   case len=>
    split
    ·rename_i x t hxs hts
     have:=hx1 x (by rw [hxs];simp)
     simp only [this]
    ·rfl
   case append=>
    split
    ·rename_i t t' s x hts hxs
     have e1:=hx1 s (by rw [hxs];simp)
     have e2:=hx1 x (by rw [hxs];simp)
     simp only [e1,e2]
    ·rfl
   case copy=>
    split
    ·rename_i t t' s x hts hxs
     have e1:=hx1 s (by rw [hxs];simp)
     have e2:=hx1 x (by rw [hxs];simp)
     simp only [e1,e2]
    ·rfl
   case clear=>
    split
    ·rename_i t x hts hxs
     have e1:=hx1 x (by rw [hxs];simp)
     simp only [e1]
    ·rfl
 case slice t x lo hi mx=>
  have e1:=h x (by simp)
  have eo:∀ y:Option Operand,(∀ z,y=some z→ev z=ev' z)→(y.map fun x=>lf ((ev x).cel act))=(y.map fun x=>lf ((ev' x).cel act)):=by
   intro y hy
   cases y with
   | none=>rfl
   | some z=>simp only [ko,hy z rfl]
  have e2:=eo lo (fun z hz=>h z (by simp [hz]))
  have e3:=eo hi (fun z hz=>h z (by simp [hz]))
  cases mx with
  | some m=>
   have e4:=h m (by simp)
   simp only [e1,e2,e3,e4]
  | none=>simp only [e1,e2,e3]
 case makeMap t x=>cases x<;>rfl
 all_goals (first | rfl | (simp_all;done))
def ShEq:BS→BS→Prop
 | .live (.cell _ _),.live (.cell _ _)=>True
 | .live (.lst e a xs _),.live (.lst e' a' xs' _)=>e=e'∧a=a'∧xs.length=xs'.length
 | .live (.arr n a _),.live (.arr n' a' _)=>n=n'∧a=a'
 | .free,.free=>True
 | .gone,.gone=>True
 | _,_=>False
theorem ShEq.refl:∀ b:BS,ShEq b b
 | .live (.cell _ _)=>trivial
 | .live (.lst _ _ _ _)=>⟨rfl,rfl,rfl⟩
 | .live (.arr _ _ _)=>⟨rfl,rfl⟩
 | .free=>trivial
 | .gone=>trivial
theorem ShEq.symm {b c:BS} (h:ShEq b c):ShEq c b:=by
 cases b with
 | free=>cases c<;>simp_all [ShEq]
 | gone=>cases c<;>simp_all [ShEq]
 | live b=>
  cases c with
  | free=>cases b<;>simp [ShEq] at h
  | gone=>cases b<;>simp [ShEq] at h
  | live c=>
   cases b<;>cases c<;>simp only [ShEq] at h ⊢
   ·exact ⟨h.1.symm,h.2.1.symm,h.2.2.symm⟩
   ·exact ⟨h.1.symm,h.2.symm⟩
theorem ShEq.trans {b c d:BS} (h:ShEq b c) (h':ShEq c d):ShEq b d:=by
 cases b with
 | free=>cases c with
  | free=>exact h'
  | gone=>simp [ShEq] at h
  | live c=>cases c<;>simp [ShEq] at h
 | gone=>cases c with
  | gone=>exact h'
  | free=>simp [ShEq] at h
  | live c=>cases c<;>simp [ShEq] at h
 | live b=>cases c with
  | free=>cases b<;>simp [ShEq] at h
  | gone=>cases b<;>simp [ShEq] at h
  | live c=>cases d with
   | free=>cases c<;>simp [ShEq] at h'
   | gone=>cases c<;>simp [ShEq] at h'
   | live d=>
    cases b<;>cases c<;>simp only [ShEq] at h<;>cases d<;>simp only [ShEq] at h' ⊢
    ·exact ⟨h.1.trans h'.1,h.2.1.trans h'.2.1,h.2.2.trans h'.2.2⟩
    ·exact ⟨h.1.trans h'.1,h.2.trans h'.2⟩
theorem ShEq.mask {rd rd':Nat→BS} {M:List Nat} (h:∀ k,M.contains k=false→ShEq (rd k) (rd' k)) (k:Nat):ShEq (j9O M rd k) (j9O M rd' k):=by
 unfold j9O
 split
 ·trivial
 ·rename_i hc;exact h k (by simpa using hc)
theorem jeo {b c:BS} (h:ShEq b c):isLive b=isLive c:=by
 cases b with
 | free=>cases c<;>simp_all [ShEq,isLive]
 | gone=>cases c<;>simp_all [ShEq,isLive]
 | live b=>cases c with
  | free=>cases b<;>simp [ShEq] at h
  | gone=>cases b<;>simp [ShEq] at h
  | live c=>rfl
theorem joS {rd rd':Nat→BS} (h:∀ k,ShEq (rd k) (rd' k)) (ti:TyI) (l i:Leaf):jee rd ti l i=jee rd' ti l i:=by
 unfold jee
 split
 ·rename_i k _ _
  have hk:=h k
  generalize rd k=b at hk
  generalize rd' k=c at hk
  cases b with
  | free=>cases c<;>simp_all [ShEq]
  | gone=>cases c<;>simp_all [ShEq]
  | live b=>cases c with
   | free=>cases b<;>simp [ShEq] at hk
   | gone=>cases b<;>simp [ShEq] at hk
   | live c=>
    cases b with
    | lst e a xs f=>cases c with
     | lst e' a' xs' f'=>
      simp only [ShEq] at hk
      obtain ⟨rfl,rfl,hl⟩:=hk
      dsimp only
      rw [hl]
     | cell _ _=>simp [ShEq] at hk
     | arr _ _ _=>simp [ShEq] at hk
    | cell _ _=>cases c<;>first | rfl | (simp [ShEq] at hk)
    | arr _ _ _=>cases c<;>first | rfl | (simp [ShEq] at hk)
 ·rfl
 ·rename_i k _ _
  have hk:=h k
  generalize rd k=b at hk
  generalize rd' k=c at hk
  cases b with
  | free=>cases c<;>simp_all [ShEq]
  | gone=>cases c<;>simp_all [ShEq]
  | live b=>cases c with
   | free=>cases b<;>simp [ShEq] at hk
   | gone=>cases b<;>simp [ShEq] at hk
   | live c=>
    cases b with
    | arr n a xs=>cases c with
     | arr n' a' xs'=>
      simp only [ShEq] at hk
      obtain ⟨rfl,rfl⟩:=hk
      rfl
     | cell _ _=>simp [ShEq] at hk
     | lst _ _ _ _=>simp [ShEq] at hk
    | cell _ _=>cases c<;>first | rfl | (simp [ShEq] at hk)
    | lst _ _ _ _=>cases c<;>first | rfl | (simp [ShEq] at hk)
 ·rename_i k _ _ _
  have hk:=h k
  generalize rd k=b at hk
  generalize rd' k=c at hk
  cases b with
  | free=>cases c<;>simp_all [ShEq]
  | gone=>cases c<;>simp_all [ShEq]
  | live b=>cases c with
   | free=>cases b<;>simp [ShEq] at hk
   | gone=>cases b<;>simp [ShEq] at hk
   | live c=>
    cases b with
    | lst e a xs f=>cases c with
     | lst e' a' xs' f'=>
      simp only [ShEq] at hk
      obtain ⟨rfl,rfl,hl⟩:=hk
      dsimp only
      rw [hl]
     | cell _ _=>simp [ShEq] at hk
     | arr _ _ _=>simp [ShEq] at hk
    | cell _ _=>cases c<;>first | rfl | (simp [ShEq] at hk)
    | arr _ _ _=>cases c<;>first | rfl | (simp [ShEq] at hk)
 ·rename_i k _ _
  have hk:=h k
  generalize rd k=b at hk
  generalize rd' k=c at hk
  cases b with
  | free=>cases c<;>simp_all [ShEq]
  | gone=>cases c<;>simp_all [ShEq]
  | live b=>cases c with
   | free=>cases b<;>simp [ShEq] at hk
   | gone=>cases b<;>simp [ShEq] at hk
   | live c=>cases b<;>cases c<;>first | rfl | (simp [ShEq] at hk)
 ·rfl
theorem joT {rd rd':Nat→BS} (h:∀ k,ShEq (rd k) (rd' k)) (ti:TyI) (i:Nat) (l:Leaf):jbD rd ti i l=jbD rd' ti i l:=by
 unfold jbD
 split
 ·rw [jeo (h _)]
 ·rw [jeo (h _)]
 ·rfl
 ·rfl
theorem ShEq.msk {rd rd':Nat→BS} {k:Nat} (h:ShEq (rd k) (rd' k)):ShEq (mskM rd k) (mskM rd' k):=by
 unfold mskM
 generalize rd k=a at h
 generalize rd' k=b at h
 cases a with
 | free=>cases b<;>simp_all [ShEq]
 | gone=>cases b<;>simp_all [ShEq]
 | live a=>
  cases b with
  | free=>cases a<;>simp [ShEq] at h
  | gone=>cases a<;>simp [ShEq] at h
  | live b=>
   cases a<;>cases b<;>simp only [ShEq] at h<;>dsimp only
   ·trivial
   ·obtain ⟨rfl,rfl,h3⟩:=h
    rename_i e _ _ _ _ _
    cases isM e
    ·exact ⟨rfl,rfl,h3⟩
    ·trivial
   ·exact h
theorem jqu {E:Env} {ev:Operand→Slot} {rd rd':Nat→BS} {act:List (Nat×Bool)} {o:Oper} (ha:jbX o=true) (h:∀ k,ShEq (rd k) (rd' k)):j3C E ev rd act o=j3C E ev rd' act o:=by
 have h:∀ k,ShEq (mskM rd k) (mskM rd' k):=fun k=>(h k).msk
 obtain ⟨dst,op,type,pos,after,guard⟩:=o
 cases op<;>simp only [jbX,jz] at ha
 ·simp only [j3C]
  split
  ·rw [jeo (h _)]
  ·rw [jeo (h _)]
  ·rfl
  ·rfl
 ·simp only [j3C]
  split
  ·rw [joT h]
  ·rfl
 ·simp only [j3C]
  split
  ·rw [joS h]
  ·rfl
theorem jra:∀ (u:Ups) (σ:St),(∀ e∈u,ShEq (σ.bx e.1) e.2)→∀ k,ShEq (σ.bx k) ((σ.upd u).bx k)
 | [],σ,_,k=>ShEq.refl _
 | e::u,σ,h,k=>by
  have h0:∀ k,ShEq (σ.bx k) ((σ.setB e.1 e.2).bx k):=by
   intro k
   simp only [St.setB]
   split
   ·rename_i hk;rw [hk];exact h e (by simp)
   ·exact ShEq.refl _
  have h1:=jra u (σ.setB e.1 e.2) (fun x hx=>(h0 x.1).symm.trans (h x (by simp [hx]))) k
  exact (h0 k).trans h1
def UpSh (rd:Nat→BS) (u:Ups):Prop:=∀ e∈u,ShEq (rd e.1) e.2∧isLive e.2=true
theorem jqv {rd:Nat→BS} {t:Ty} {l:Leaf} {v:t.den} {u:Ups} (h:jab rd t l=some (v,u)):UpSh rd u:=by
 unfold jab at h
 split at h
 ·split at h
  ·simp only [j4,j8] at h;rw [←h.2];intro e he;simp at he
  ·simp at h
 ·split at h
  ·simp only [j4,j8] at h;rw [←h.2];intro e he;simp at he
  ·simp at h
 ·split at h
  ·rename_i hk
   split at h
   ·simp only [j4,j8] at h
    rw [←h.2]
    intro e he
    simp only [jx] at he
    subst he
    dsimp only
    rw [hk]
    exact ⟨⟨rfl,rfl,rfl⟩,rfl⟩
   ·simp at h
  ·simp at h
 ·split at h
  ·simp only [j4,j8] at h;rw [←h.2];intro e he;simp at he
  ·simp at h
 ·simp at h
theorem UpSh.app {rd:Nat→BS} {u v:Ups} (h:UpSh rd u) (h':UpSh rd v):UpSh rd (u++v):=by
 intro e he
 rcases jp.1 he with he | he
 ·exact h e he
 ·exact h' e he
theorem joU {rd:Nat→BS}:∀ (t:Ty) {ls:List Leaf} {v:t.den} {r:List Leaf} {u:Ups},gath rd t ls=some (v,r,u)→UpSh rd u:=by
 intro t
 induction t with
 | unit=>intro ls v r u h;simp only [gath,j4,j8] at h;rw [←h.2.2];intro e he;simp at he
 | wrap a ih=>
  intro ls v r u h
  simp only [gath] at h
  split at h
  ·rename_i hg
   simp only [j4,j8] at h
   rw [←h.2.2];exact ih hg
  ·simp at h
 | pair a b iha ihb=>
  intro ls v r u h
  simp only [gath] at h
  split at h
  ·rename_i hg
   split at h
   ·rename_i hg2
    simp only [j4,j8] at h
    rw [←h.2.2];exact (iha hg).app (ihb hg2)
   ·simp at h
  ·simp at h
 | arr n a ih=>intro ls v r u h;simp [gath] at h
 | _=>
  intro ls v r u h
  cases ls with
  | nil=>simp [gath] at h
  | cons l ls=>
   simp only [gath] at h
   split at h
   ·rename_i hl
    simp only [j4,j8] at h
    rw [←h.2.2];exact jqv hl
   ·simp at h
theorem joV {rd rdf:Nat→BS} (hrdf:RdLe rdf rd) {n:Nat} {c:Cel} {l:Leaf} {u:Ups} (h:jfx rd rdf n c l=some u):UpSh rd u:=by
 have one:∀ (k:Nat) (b b':Bx),rd k = .live b→ShEq (.live b) (.live b')→UpSh rd [(k,.live b')]:=by
  intro k b b' hk hs e he
  simp only [jx] at he
  subst he
  exact ⟨by rw [hk];exact hs,rfl⟩
 have lift:∀ u,UpSh rdf u→UpSh rd u:=by
  intro u hu e he
  obtain ⟨h1,h2⟩:=hu e he
  rcases hrdf e.1 with hq | hq
  ·rw [hq] at h1;exact ⟨h1,h2⟩
  ·rw [hq] at h1
   cases h3:e.2 with
   | free=>rw [h3] at h2;simp [isLive] at h2
   | gone=>rw [h3] at h2;simp [isLive] at h2
   | live b=>rw [h3] at h1;cases b<;>simp [ShEq] at h1
 unfold jfx at h
 split at h
 ·split at h
  ·rename_i hk
   split at h
   ·split at h
    ·simp only [j4] at h;subst h
     exact one _ _ _ hk trivial
    ·simp at h
   ·simp at h
  ·rename_i hk
   split at h
   ·split at h
    ·split at h
     ·split at h
      ·simp only [j4] at h;subst h
       exact one _ _ _ hk ⟨rfl,rfl⟩
      ·simp at h
     ·simp at h
    ·simp at h
   ·simp at h
  ·simp at h
 ·split at h
  ·rename_i hk
   split at h
   ·split at h
    ·split at h
     ·rename_i hg
      split at h
      ·simp at h
      ·simp only [j4] at h;subst h
       exact (lift _ (joU _ hg)).app (one _ _ _ hk ⟨rfl,rfl,by simp⟩)
     ·simp at h
    ·simp at h
   ·simp at h
  ·rename_i hk
   split at h
   ·split at h
    ·split at h
     ·rename_i hg
      split at h
      ·simp at h
      ·simp only [j4] at h;subst h
       exact (lift _ (joU _ hg)).app (one _ _ _ hk ⟨rfl,rfl⟩)
     ·simp at h
    ·simp at h
   ·simp at h
  ·simp at h
 ·simp at h
theorem jsC (np:Nat) (rd:Nat→BS):RdLe (fun k=>if parK np k then .gone else rd k) rd:=by
 intro k
 dsimp only
 split
 ·exact .inr rfl
 ·exact .inl rfl
theorem UpSh.le {rd rd':Nat→BS} (hle:RdLe rd rd') {u:Ups} (h:UpSh rd u):UpSh rd' u:=by
 intro e he
 obtain ⟨h1,h2⟩:=h e he
 rcases hle e.1 with hq | hq
 ·rw [hq] at h1;exact ⟨h1,h2⟩
 ·rw [hq] at h1
  cases h3:e.2 with
  | free=>rw [h3] at h2;simp [isLive] at h2
  | gone=>rw [h3] at h2;simp [isLive] at h2
  | live b=>rw [h3] at h1;cases b<;>simp [ShEq] at h1
theorem jrV (rd:Nat→BS):RdLe (mskM rd) rd:=fun k=>joj k
theorem jlS {E:Env} {ev:Operand→Slot} {rd:Nat→BS} {act:List (Nat×Bool)} {o:Oper} (ho:jb1 o=true) {chk:Bool} {s:Slot} {u:Ups} (h:j3C E ev rd act o=some (.val chk s u)):UpSh rd u:=by
 obtain ⟨dst,op,type,pos,after,guard⟩:=o
 cases op<;>simp only [jb1,jz] at ho
 simp only [j3C] at h
 split at h
 ·split at h
  ·rename_i hs
   simp only [j4,Act.val.injEq] at h
   rw [←h.2.2]
   exact (joV (jsC E.np (mskM rd)) hs).le (jrV rd)
  ·simp at h
 ·simp at h
theorem jgL {E:Env} {ev:Operand→Slot} {rd:Nat→BS} {act:List (Nat×Bool)} {o:Oper} (ho:jb1 o=true) {f:Nat} {args:List Arg} {mk:Ret→Option (Slot×Ups)}:j3C E ev rd act o≠some (.call f args mk):=by
 obtain ⟨dst,op,type,pos,after,guard⟩:=o
 cases op<;>simp only [jb1,jz] at ho
 intro h
 simp only [j3C] at h
 split at h
 ·split at h
  ·simp at h
  ·simp at h
 ·simp at h
theorem UpSh.unmask {rd:Nat→BS} {M:List Nat} {u:Ups} (h:UpSh (j9O M rd) u):UpSh rd u:=by
 intro e he
 obtain ⟨h1,h2⟩:=h e he
 rcases jj1 M rd e.1 with hq | hq
 ·rw [hq] at h1;exact ⟨h1,h2⟩
 ·rw [hq] at h1
  cases h3:e.2 with
  | free=>rw [h3] at h2;simp [isLive] at h2
  | gone=>rw [h3] at h2;simp [isLive] at h2
  | live b=>rw [h3] at h1;cases b<;>simp [ShEq] at h1
end
section
variable {N:NT} {np:Nat} {S0:j0c} {w0:World} {refs:Refs} {σ:St} {a:Go.Act} {w:World} {S:j0c} {γ:Nat→Value}
inductive Bef (ops:Array Oper):Nat→Nat→Prop
 | dep {i j:Nat} {o:Oper}:ops[i]? = some o→j∈jas o→Bef ops i j
 | trans {i j k:Nat}:Bef ops i j→Bef ops j k→Bef ops i k
structure DOkR (ops:Array Oper) (A:List (List Nat)):Prop where
 lt:∀ i o,ops[i]? = some o→∀ j∈jas o,j<i
 addr:∀ i o,ops[i]? = some o→jbX o=true→∀ k,k∉A.getD i []
 dst:∀ i j oi oj t,ops[i]? = some oi→ops[j]? = some oj→i≠j→oj.dst=some t→oi.dst≠some t∧(t∈oi.looksAt ops→Bef ops i j∨Bef ops j i)
 box:∀ i j oi oj k,ops[i]? = some oi→ops[j]? = some oj→i≠j→k∈A.getD i []→k∈A.getD j []→Bef ops i j∨Bef ops j i
theorem DOkR.bef {ops:Array Oper} {A:List (List Nat)} (h:DOkR ops A) {i j:Nat} (hb:Bef ops i j):j<i:=by
 induction hb with
 | dep ho hj=>exact h.lt _ _ ho _ hj
 | trans _ _ h1 h2=>omega
def ClOk (ops:Array Oper) (cl:List Nat):Prop:=∀ i j,(cl.getD i 0).testBit j=true→Bef ops i j
theorem jkx {ops:Array Oper} {cls:List Nat} (hc:ClOk ops cls) {i:Nat} {o:Oper} (ho:ops[i]? = some o):∀ (l:List Nat) (m:Nat),(∀ j∈l,j∈jas o)→(∀ j,m.testBit j=true→Bef ops i j)→
  ∀ j,(l.foldl (fun m j=>m|||(2^j|||cls.getD j 0)) m).testBit j=true→Bef ops i j
 | [],m,_,hm,j,h=>hm j h
 | x::l,m,hl,hm,j,h=>by
  refine jkx hc ho l _ (fun j hj=>hl j (by simp [hj])) (fun j hj=> ?_) j h
  simp only [Nat.testBit_or,qk,Nat.testBit_two_pow,jk] at hj
  rcases hj with hj | hj | hj
  ·exact hm j hj
  ·subst hj;exact .dep ho (hl x (by simp))
  ·exact .trans (.dep ho (hl x (by simp))) (hc x j hj)
theorem jmL {ops:Array Oper}:∀ (l:List Oper) (cls:List Nat),ClOk ops cls→(∀ k o,l[k]? = some o→ops[cls.length+k]? = some o)→ClOk ops (jo8 l cls)
 | [],cls,hc,_=>hc
 | o::os,cls,hc,hl=>by
  have ho:ops[cls.length]? = some o:=by have:=hl 0 o rfl;simpa using this
  refine jmL os _ ?_ (fun k x hk=>by
   have:=hl (k+1) x (by simpa using hk)
   rw [ji,q8]
   rwa [show cls.length+1+k=cls.length+(k+1) by omega])
  intro i j hij
  rcases zb i cls.length with hi | hi | hi
  ·rw [List.getD_eq_getElem?_getD,List.getElem?_append_left hi,←List.getD_eq_getElem?_getD] at hij
   exact hc i j hij
  ·subst hi
   rw [List.getD_eq_getElem?_getD,jt (ju _),Nat.sub_self] at hij
   simp only [List.getElem?_cons_zero,Option.getD_some] at hij
   exact jkx hc ho (jas o) 0 (fun _ h=>h) (fun j h=>by simp at h) j hij
  ·rw [List.getD_eq_getElem?_getD,List.getElem?_eq_none (by simp;omega)] at hij
   simp at hij
theorem jfc {ops:Array Oper} {cl:List Nat} (hc:ClOk ops cl) {i j:Nat} (h:jk3 cl i j=true):i=j∨Bef ops i j∨Bef ops j i:=by
 simp only [jk3,qk,qf] at h
 rcases h with (h | h) | h
 ·exact .inl h
 ·exact .inr (.inl (hc i j h))
 ·exact .inr (.inr (hc j i h))
theorem jlT {ops:Array Oper} {cl:List Nat} {A:List (List Nat)} (hc:ClOk ops cl) (hok:jr6 ops cl A=true):DOkR ops A:=by
 have hz:∀ {i:Nat} {o:Oper},ops[i]? = some o→(o,i)∈ops.toList.zipIdx:=by
  intro i o ho
  rw [qh]
  exact ⟨i,by rw [List.getElem?_zipIdx];simp [ho]⟩
 have hemp:∀ i k,k∈A.getD i []→A.isEmpty=false:=by
  intro i k hk
  cases A with
  | nil=>simp at hk
  | cons _ _=>rfl
 have hall:∀ {i:Nat} {o:Oper},ops[i]? = some o→(∀ j∈jas o,j<i)∧(A.isEmpty || !jbX o||(A.getD i []).isEmpty)=true∧∀ j oj,ops[j]? = some oj→jms ops cl A i o j oj=true:=by
  intro i o ho
  have:=jj.1 hok (o,i) (hz ho)
  simp only [ja] at this
  exact ⟨fun j hj=>by simpa using jj.1 this.1.1 j hj,this.1.2,fun j oj hoj=>jj.1 this.2 (oj,j) (hz hoj)⟩
 refine ⟨fun i o ho=>(hall ho).1,fun i o ho hadr k hk=> ?_,fun i j oi oj t hi hj hij ht=> ?_,fun i j oi oj k hi hj hij hk hk'=> ?_⟩
 ·have:=(hall ho).2.1
  rw [hemp i k hk,hadr] at this
  simp only [jd,Bool.false_or,List.isEmpty_iff] at this
  rw [this] at hk;simp at hk
 ·have:=(hall hi).2.2 j oj hj
  simp only [jms,ht,ja] at this
  have h1:=this.1
  simp only [qk,qf,hij,false_or,ja,bne_iff_ne,ne_eq,kj,kc,k9] at h1
  refine ⟨h1.1,fun hm=> ?_⟩
  rcases h1.2 with h | h
  ·exact absurd hm h
  ·exact (jfc hc h).resolve_left hij
 ·have:=(hall hi).2.2 j oj hj
  simp only [jms,ja] at this
  have h2:=this.2
  rw [hemp i k hk] at h2
  simp only [Bool.false_or,qk] at h2
  rcases h2 with h | h
  ·exact (jfc hc h).resolve_left hij
  ·have:=jj.1 h k hk
   simp only [kc,kj,k9] at this
   exact absurd hk' this
theorem jmM {ops:Array Oper} {cl:List Nat} {A:List (List Nat)} (hc:ClOk ops cl) {i:Nat} {oi:Oper} {k:Nat} (hm:(jiP ops cl A i oi).contains k=false) {j:Nat} {oj:Oper} (hj:ops[j]? = some oj) (hk:k∈A.getD j []) :
  i=j∨Bef ops i j∨Bef ops j i∨(jbX oi=true∧jb1 oj=true):=by
 have hz:(oj,j)∈ops.toList.zipIdx:=by
  rw [qh]
  exact ⟨j,by rw [List.getElem?_zipIdx];simp [hj]⟩
 have hne:A.isEmpty=false:=by
  cases A with
  | nil=>simp at hk
  | cons _ _=>rfl
 unfold jiP at hm
 rw [hne] at hm
 simp only [jz,qa,kc,k9,List.mem_flatMap,not_exists,not_and] at hm
 have:=hm (oj,j) hz
 dsimp only at this
 split at this
 ·rename_i h
  simp only [qk,ja] at h
  rcases h with h | h
  ·rcases jfc hc h with h | h | h
   ·exact .inl h
   ·exact .inr (.inl h)
   ·exact .inr (.inr (.inl h))
  ·exact .inr (.inr (.inr h))
 ·exact absurd hk this
inductive DStep (P:Program) (E:Env) (ops:Array Oper) (M Ai:List Nat) (o:Oper) (σ:St):St→Prop
 | skip (s:Nat) (wn v:Bool):j7x ops o=some (s,wn)→σ.sl s = .one (.one (.d .bool v))→v≠wn→DStep P E ops M Ai o σ (σ.setD o.dst .und)
 | skipU (s:Nat) (wn:Bool):j7x ops o=some (s,wn)→σ.sl s = .und→DStep P E ops M Ai o σ (σ.setD o.dst .und)
 | val (s:Slot) (u:Ups):(o.guard=none∨∃ s wn,j7x ops o=some (s,wn)∧σ.sl s = .one (.one (.d .bool wn)))→j3C E σ.ev (j9O M σ.bx) [] o=some (.val true s u)→(∀ e∈u,e.1∈Ai)→
  DStep P E ops M Ai o σ ((σ.upd u).setD o.dst s)
 | call (f:Nat) (args:List Arg) (mk:Ret→Option (Slot×Ups)) (ret:Ret) (s:Slot) (u:Ups):(o.guard=none∨∃ s wn,j7x ops o=some (s,wn)∧σ.sl s = .one (.one (.d .bool wn)))→
  j3C E σ.ev (j9O M σ.bx) [] o=some (.call f args mk)→Fun P f→jqm P f args (fun r=>r=ret)→mk ret=some (s,u)→(∀ e∈u,e.1∈Ai)→DStep P E ops M Ai o σ ((σ.upd u).setD o.dst s)
theorem joW {s:Nat} {x:Slot} (h:σ.sl s=x):σ.setS s x=σ:=by
 unfold St.setS
 have:(fun j=>if j=s then x else σ.sl j)=σ.sl:=by
  funext j
  split
  ·rename_i hj;subst hj;exact h.symm
  ·rfl
 rw [this]
theorem joX {u:Ups} {Ai:List Nat} (h:(u.all fun e=>Ai.contains e.1)=true):∀ e∈u,e.1∈Ai:=fun e he=>by simpa using jj.1 h e he
theorem jgM {P:Program} {E:Env} (hC:j8P P E.C) (hF:CFun E.C) {ops:Array Oper} {M Ai:List Nat} {o:Oper} {R:Type} {k:St→Option R} {r:R}
  (hg:o.guard=none∨∃ s wn,j7x ops o=some (s,wn)∧σ.sl s = .one (.one (.d .bool wn))) (h:runD E M Ai σ o k=some r):∃ σ',DStep P E ops M Ai o σ σ'∧k σ'=some r:=by
 unfold runD at h
 split at h
 ·simp at h
 ·rename_i chk s u ho
  split at h
  ·rename_i hb
   cases chk with
   | false=>simp at h
   | true=>exact ⟨_,.val s u hg ho (joX hb),h⟩
  ·simp at h
 ·rename_i f args mk ho
  obtain ⟨x,hx⟩:=hF f args
  rw [hx] at h
  cases x with
  | none=>simp at h
  | some ret=>
   simp only [j3] at h
   obtain ⟨hf,hspec⟩:=hC f args Ret some ret (by rw [hx];rfl)
   split at h
   ·rename_i s u hmk
    split at h
    ·rename_i hb
     exact ⟨_,.call f args mk ret s u hg ho hf (by
      intro w S vals ha hn hS
      refine (hspec w S vals ha hn hS).mono ?_
      rintro e w' ⟨r',hr',rest⟩
      exact ⟨r',by simpa using hr',rest⟩) hmk (joX hb),h⟩
    ·simp at h
   ·simp at h
theorem jrW {P:Program} {E:Env} (hC:j8P P E.C) (hF:CFun E.C) {ops:Array Oper} {M Ai:List Nat} {o:Oper} {R:Type} {k:St→Option R} {r:R}
  (h:jk4 E ops M Ai σ o k=some r):∃ σ',DStep P E ops M Ai o σ σ'∧k σ'=some r:=by
 unfold jk4 at h
 split at h
 ·rename_i hg
  exact jgM hC hF (.inl hg) h
 ·split at h
  ·rename_i s wn hg
   split at h
   ·rename_i v hv
    cases v with
    | true=>
     rw [j5,joW hv] at h
     cases wn with
     | true=>exact jgM hC hF (.inr ⟨s,true,hg,hv⟩) h
     | false=>exact ⟨_,.skip s false true hg hv (by simp),h⟩
    | false=>
     rw [j6,joW hv] at h
     cases wn with
     | false=>exact jgM hC hF (.inr ⟨s,false,hg,hv⟩) h
     | true=>exact ⟨_,.skip s true false hg hv (by simp),h⟩
   ·rename_i hv
    exact ⟨_,.skipU s wn hg hv,h⟩
   ·simp at h
  ·simp at h
theorem joY {P:Program} {E:Env} (hC:j8P P E.C) (hF:CFun E.C) {ops:Array Oper} {cl:List Nat} {A:List (List Nat)} {R:Type} {k:St→Option R} {r:R}:∀ (n i:Nat) (σ:St),i+n=ops.size→jni E ops cl A (ops.toList.drop i) i σ k=some r→
  ∃ τ:Nat→St,τ i=σ∧k (τ ops.size)=some r∧∀ j o,i≤j→ops[j]? = some o→jhI E.N o=true∧DStep P E ops (jiP ops cl A j o) (A.getD j []) o (τ j) (τ (j+1))
 | 0,i,σ,hi,h=>by
  rw [jg (by simp;omega)] at h
  refine ⟨fun _=>σ,rfl,h,fun j o hj ho=> ?_⟩
  have:=(jc.1 ho).1
  omega
 | n+1,i,σ,hi,h=>by
  have hlt:i<ops.size:=by omega
  rw [jq (by simpa using hlt)] at h
  simp only [jni] at h
  split at h
  ·rename_i hd
   obtain ⟨σ1,hs,hk⟩:=jrW (P:=P) hC hF h
   obtain ⟨τ1,h1,h2,h3⟩:=joY hC hF n (i+1) σ1 (by omega) hk
   refine ⟨fun j=>if j=i then σ else τ1 j,by simp,?_,fun j o hj ho=> ?_⟩
   ·simp only [show ops.size≠i by omega,qa];exact h2
   ·by_cases hji:j=i
    ·subst hji
     have ho':ops[j]? = some ops[j]:=jr hlt
     rw [ho'] at ho;simp only [j4] at ho;subst ho
     refine ⟨by simpa using hd,?_⟩
     simp only [if_true,show j+1≠j by omega,qa,h1]
     simpa using hs
    ·simp only [hji,qa,show j+1≠i by omega]
     exact h3 j o (by omega) ho
  ·simp at h
theorem Rel.drawn (hR:Rel N np S0 w0 refs σ a w S γ) (n:Nat):Rel N np S0 w0 refs σ a { w with drawn:=n } S γ:=
 Rel.step (bx':=σ.bx) (γ':=γ) hR (fun _ _ h=>⟨h,rfl⟩) (.refl _ _) (fun k b hb=>j2c.keep (w:=w) (w':={ w with drawn:=n }) (fun _ _ h=>⟨h,rfl⟩) (.refl _ _) rfl (fun _ _=>⟨rfl,fun _=>Iff.rfl⟩) (hR.box k b hb))
  hR.own hR.apart hR.new hR.here hR.below hR.grow hR.os hR.tape hR.output (fun _ _ _ h=>⟨rfl,h⟩)
theorem D_wp {P:Program} {E:Env} (hT:j22 P E.T) (hR:Rel E.N E.np S0 w0 refs σ a w S γ) (hc:j3z σ) {ops:Array Oper} {M Ai:List Nat} {i:Nat} {o:Oper} (ho:ops[i]? = some o) (hd:jhI E.N o=true)
  {τ τ':St} (hs:DStep P E ops M Ai o τ τ') (hbx:(∀ k,j9O M σ.bx k=j9O M τ.bx k)∨(jbX o=true∧∀ k,ShEq (j9O M σ.bx k) (j9O M τ.bx k))) (hlook:∀ t,t∈o.looksAt ops→σ.sl t=τ.sl t) {K:Go.Act→World→Prop} {Q:Exit→Go.Act→World→Prop}
  (hK:∀ (s:Slot) (u:Ups) (a':Go.Act) (w':World) (S':j0c) (γ':Nat→Value),τ'=(τ.upd u).setD o.dst s→(∀ e∈u,e.1∈Ai)→Rel E.N E.np S0 w0 refs ((σ.upd u).setD o.dst s) a' w' S' γ'→j3z ((σ.upd u).setD o.dst s)→K a' w') :
  wpOp P ops Q i K a w:=by
 have hdl:=joF hd
 have hev:∀ x∈o.op.operands,σ.ev x=τ.ev x:=by
  intro x hx
  cases x with
  | tmp t=>exact hlook t (ql _ (qs.2 ⟨.tmp t,by simpa using hx,rfl⟩))
  | _=>rfl
 have hgl:∀ s wn,j7x ops o=some (s,wn)→s∈o.looksAt ops:=by
  intro s wn hg
  refine List.mem_append_right _ ?_
  unfold j7x at hg
  split at hg
  ·simp at hg
  ·rename_i j w' hgu
   split at hg
   ·rename_i oj hoj
    split at hg
    ·rename_i s' hs'
     simp only [j4,j8] at hg
     simp [hgu,hoj,hs',hg.1]
    ·simp at hg
   ·simp at hg
 have htm:∀ s v,j7x ops o≠none→s∈o.looksAt ops→τ.sl s = .one (.one (.d .bool v))→tm a s = .bool v:=by
  intro s v _ hm hv
  have:=hR.slot s
  rw [hlook s hm,hv] at this
  exact j7T this
 have hact:j3C E σ.ev (j9O M σ.bx) [] o=j3C E τ.ev (j9O M τ.bx) [] o:=by
  rcases hbx with hbx | ⟨hadr,hbx⟩
  ·rw [show j9O M σ.bx=j9O M τ.bx from funext hbx];exact jgK hev
  ·rw [jqu hadr hbx];exact jgK hev
 have hfin:∀ (s:Slot) (u:Ups) (v:Value) (w':World) (S':j0c) (γ':Nat→Value),τ'=(τ.upd u).setD o.dst s→(∀ e∈u,e.1∈Ai)→Rel E.N E.np S0 w0 refs (σ.upd u) a w' S' γ'→
   j3e S' w' γ' (σ.upd u).bx (tm a) s v→s.bare=true→K (a.put o.dst v) w':=by
  intro s u v w' S' γ' he hb hR' hs' hbare
  obtain ⟨h1,h2⟩:=jmH hR' (jkr hc) hdl hs' hbare
  exact hK s u _ w' S' γ' he hb h1 h2
 have hwant:(o.guard=none∨∃ s wn,j7x ops o=some (s,wn)∧τ.sl s = .one (.one (.d .bool wn)))→Region.wanted o (yielded ops a.tmps)=true:=by
  rintro (hg | ⟨s,wn,hg,hv⟩)
  ·simp [Region.wanted,hg]
  ·exact (jcI hg).2 (htm s wn (by rw [hg];simp) (hgl s wn hg) hv)
 unfold wpOp
 simp only [ho]
 cases hs with
 | skip s wn v hg hv hne=>
  have hw:¬ Region.wanted o (yielded ops a.tmps)=true:=fun hw=>by
   have h1:=(jcI hg).1 hw
   rw [htm s v (by rw [hg];simp) (hgl s wn hg) hv] at h1
   exact hne (by simpa using h1)
  simp only [hw,qa,jz]
  exact hfin .und [] undef w S γ rfl (by simp) hR rfl rfl
 | skipU s wn hg hv=>
  have hu:tm a s=undef:=by
   have:=hR.slot s
   rw [hlook s (hgl s wn hg),hv] at this
   exact this
  have hw:¬ Region.wanted o (yielded ops a.tmps)=true:=fun hw=>by
   have h1:=(jcI hg).1 hw
   rw [hu] at h1
   simp [undef] at h1
  simp only [hw,qa,jz]
  exact hfin .und [] undef w S γ rfl (by simp) hR rfl rfl
 | val s u hg hop hb=>
  simp only [hwant hg,if_true]
  rw [←hact] at hop
  obtain ⟨A',hop',hle⟩:=jiy (jj1 M σ.bx) hop
  cases hle
  obtain ⟨⟨v,w',S',γ',hrun,hR',hs'⟩,hbare⟩:=jlI hT hR (act:=[]) (fun g hg=>by simp at hg) (fun _=> .inl rfl) hop'
  refine .inl ?_
  unfold Oper.wp
  rcases hrun with hrun | ⟨hrun,rfl⟩
  ·rw [hrun,Oper.upon_value];exact hfin s u v w' S' γ' rfl hb hR' hs' hbare
  ·rw [hrun,Oper.upon_skip];exact hfin s u undef w' S' γ' rfl hb hR' hs' hbare
 | call f args mk ret s u hg hop hf hspec hmk hb=>
  simp only [hwant hg,if_true]
  rw [←hact] at hop
  obtain ⟨A',hop',hle⟩:=jiy (jj1 M σ.bx) hop
  cases hle with
  | call _ _ _ mk' hmono=>
   have hmk':=hmono _ _ hmk
   obtain ⟨vals,hrun,hcalls,hbare⟩:=jmF hR (act:=[]) (fun g hg=>by simp at hg) (fun _=> .inl rfl) hop' hf hspec
   refine .inl ?_
   unfold Oper.wp
   rw [hrun,Oper.upon_enter]
   refine hcalls.mono ?_
   rintro e w' ⟨ret',rfl,hall⟩
   obtain ⟨v,S',γ',rfl,hR',hs'⟩:=hall s u hmk'
   exact hfin s u v w' S' γ' rfl hb hR' hs' (hbare _ s u hmk')
end
section
variable {S0:j0c} {w0:World} {refs:Refs} {σ:St} {a:Go.Act} {w:World} {S:j0c} {γ:Nat→Value}
theorem jj2 {o:Oper} {j:Nat}:j∈jas o↔∃ e∈o.after,Region.binds .any e=true∧e.on=j:=by
 simp only [jas,qs]
 constructor
 ·rintro ⟨e,he,h⟩
  split at h
  ·rename_i hb;simp only [j4] at h;exact ⟨e,by simpa using he,hb,h⟩
  ·simp at h
 ·rintro ⟨e,he,hb,h⟩
  exact ⟨e,by simpa using he,by simp [hb,h]⟩
theorem jnD {ops:Array Oper} {listed:Array Bool} {i:Nat} (h:i∈Region.ready .any ops listed) :
  listed.getD i true=false∧∃ o,ops[i]? = some o∧∀ j∈jas o,listed.getD j false=true:=by
 obtain ⟨h0,o,ho,h1⟩:=mem_ready.1 h
 exact ⟨h0,o,ho,fun j hj=>by obtain ⟨e,he,hb,rfl⟩:=jj2.1 hj;exact h1 e he hb⟩
def jbd (P:Program) (E:Env) (ops:Array Oper) (cl:List Nat) (A:List (List Nat)) (τ:Nat→St):Prop:=
 ∀ j o,ops[j]? = some o→jhI E.N o=true∧DStep P E ops (jiP ops cl A j o) (A.getD j []) o (τ j) (τ (j+1))
theorem jj3:∀ (u:Ups) (σ:St) (t:Nat),(σ.upd u).sl t=σ.sl t
 | [],_,_=>rfl
 | e::u,σ,t=>jj3 u (σ.setB e.1 e.2) t
theorem jdr (σ:St) (d:Option Nat) (s:Slot):(σ.setD d s).bx=σ.bx:=by cases d<;>rfl
theorem jfd {σ:St} {d:Option Nat} {s:Slot} {t:Nat} (h:d≠some t):(σ.setD d s).sl t=σ.sl t:=by
 cases d with
 | none=>rfl
 | some d=>
  have:t≠d:=fun e=>h (by rw [e])
  simp [St.setD,St.setS,this]
theorem jiz {σ:St} {s:Slot} {t:Nat}:(σ.setD (some t) s).sl t=s:=by simp [St.setD,St.setS]
theorem jep:∀ (u:Ups) (σ:St) (k:Nat),(∀ e∈u,e.1≠k)→(σ.upd u).bx k=σ.bx k
 | [],_,_,_=>rfl
 | e::u,σ,k,h=>by
  have h1:=jep u (σ.setB e.1 e.2) k (fun x hx=>h x (by simp [hx]))
  show ((σ.setB e.1 e.2).upd u).bx k=_
  rw [h1]
  have:=h e (by simp)
  have hne:¬ k=e.1:=fun hk=>this hk.symm
  simp [St.setB,hne]
theorem jky:∀ (u:Ups) (σ τ:St) (k:Nat),σ.bx k=τ.bx k→(σ.upd u).bx k=(τ.upd u).bx k
 | [],_,_,_,h=>h
 | e::u,σ,τ,k,h=>by
  refine jky u (σ.setB e.1 e.2) (τ.setB e.1 e.2) k ?_
  simp only [St.setB]
  split
  ·rfl
  ·exact h
section
variable {P:Program} {E:Env} {ops:Array Oper} {cl:List Nat} {A:List (List Nat)} {τ:Nat→St}
theorem jgN (h:jbd P E ops cl A τ) {j:Nat} {o:Oper} (ho:ops[j]? = some o):∃ s u,τ (j+1)=((τ j).upd u).setD o.dst s∧(∀ e∈u,e.1∈A.getD j [])∧(jb1 o=true→∀ k,ShEq ((τ j).bx k) ((τ (j+1)).bx k)):=by
 obtain ⟨_,hs⟩:=h j o ho
 generalize hq:τ (j+1)=σ' at hs
 cases hs with
 | skip s wn v hg hv hne=>exact ⟨.und,[],rfl,by simp,fun _ k=>by rw [jdr];exact ShEq.refl _⟩
 | skipU s wn hg hv=>exact ⟨.und,[],rfl,by simp,fun _ k=>by rw [jdr];exact ShEq.refl _⟩
 | val s u hg hop hb=>exact ⟨s,u,rfl,hb,fun hst k=>by
  rw [jdr]
  exact jra u (τ j) (fun e he=>((jlS hst hop).unmask e he).1) k⟩
 | call f args mk ret s u hg hop hf hspec hmk hb=>exact ⟨s,u,rfl,hb,fun hst=>absurd hop (jgL hst)⟩
theorem jrX (h:jbd P E ops cl A τ) {j:Nat} {o:Oper} (ho:ops[j]? = some o) {t:Nat} (ht:o.dst≠some t):(τ (j+1)).sl t=(τ j).sl t:=by
 obtain ⟨s,u,he,_⟩:=jgN h ho
 rw [he,jfd ht,jj3]
theorem joZ (h:jbd P E ops cl A τ) {j:Nat} {o:Oper} (ho:ops[j]? = some o) {k:Nat} (hk:k∉A.getD j []):(τ (j+1)).bx k=(τ j).bx k:=by
 obtain ⟨s,u,he,hu,_⟩:=jgN h ho
 rw [he,jdr]
 exact jep u _ k (fun e hm hek=>hk (hek▸hu e hm))
theorem jeq (h:jbd P E ops cl A τ) {t j:Nat}:∀ n,j+n≤ops.size→(∀ k o,j≤k→k<j+n→ops[k]? = some o→o.dst≠some t)→(τ (j+n)).sl t=(τ j).sl t
 | 0,_,_=>rfl
 | n+1,hn,hk=>by
  have hlt:j+n<ops.size:=by omega
  have ho:ops[j+n]? = some ops[j+n]:=jr hlt
  rw [←Nat.add_assoc,jrX h ho (hk _ _ (by omega) (by omega) ho)]
  exact jeq h n (by omega) (fun k o h1 h2=>hk k o h1 (by omega))
theorem jer (h:jbd P E ops cl A τ) {k j:Nat}:∀ n,j+n≤ops.size→(∀ i o,j≤i→i<j+n→ops[i]? = some o→k∉A.getD i [])→(τ (j+n)).bx k=(τ j).bx k
 | 0,_,_=>rfl
 | n+1,hn,hk=>by
  have hlt:j+n<ops.size:=by omega
  have ho:ops[j+n]? = some ops[j+n]:=jr hlt
  rw [←Nat.add_assoc,joZ h ho (hk _ _ (by omega) (by omega) ho)]
  exact jer h n (by omega) (fun i o h1 h2=>hk i o h1 (by omega))
theorem jgd (h:jbd P E ops cl A τ) {k j:Nat}:∀ n,j+n≤ops.size→(∀ i o,j≤i→i<j+n→ops[i]? = some o→k∈A.getD i []→jb1 o=true)→ShEq ((τ j).bx k) ((τ (j+n)).bx k)
 | 0,_,_=>ShEq.refl _
 | n+1,hn,hk=>by
  have hlt:j+n<ops.size:=by omega
  have ho:ops[j+n]? = some ops[j+n]:=jr hlt
  have ih:=jgd h n (by omega) (fun i o h1 h2=>hk i o h1 (by omega))
  refine ih.trans ?_
  rw [←Nat.add_assoc]
  by_cases hm:k∈A.getD (j+n) []
  ·obtain ⟨_,_,_,_,hst⟩:=jgN h ho
   exact hst (hk _ _ (by omega) (by omega) ho hm) k
  ·rw [joZ h ho hm];exact ShEq.refl _
structure Ph (ops:Array Oper) (A:List (List Nat)) (τ:Nat→St) (listed:Array Bool) (σ:St):Prop where
 closed:∀ j o,ops[j]? = some o→listed.getD j false=true→∀ d∈jas o,listed.getD d false=true
 done:∀ j o t,ops[j]? = some o→o.dst=some t→listed.getD j false=true→σ.sl t=(τ (j+1)).sl t
 rest:∀ t,(∀ j o,ops[j]? = some o→o.dst=some t→listed.getD j false=false)→σ.sl t=(τ 0).sl t
 bdone:∀ j k,j<ops.size→k∈A.getD j []→listed.getD j false=true→(∀ i,i<ops.size→k∈A.getD i []→listed.getD i false=true→i≤j)→σ.bx k=(τ (j+1)).bx k
 brest:∀ k,(∀ j,j<ops.size→k∈A.getD j []→listed.getD j false=false)→σ.bx k=(τ 0).bx k
theorem Ph.bef {listed:Array Bool} (hp:Ph ops A τ listed σ) {i j:Nat} (hb:Bef ops i j) (hi:listed.getD i false=true):listed.getD j false=true:=by
 induction hb with
 | dep ho hj=>exact hp.closed _ _ ho hi _ hj
 | trans _ _ h1 h2=>exact h2 (h1 hi)
theorem Ph.befd {listed:Array Bool} (hp:Ph ops A τ listed σ) {i j:Nat} {o:Oper} (ho:ops[i]? = some o) (hd:∀ j∈jas o,listed.getD j false=true) (hb:Bef ops i j):listed.getD j false=true:=by
 induction hb with
 | dep ho' hj=>rw [ho] at ho';simp only [j4] at ho';subst ho';exact hd _ hj
 | trans hb1 hb2 h1 h2=>exact hp.bef hb2 (h1 ho)
theorem jcJ (p:Nat→Prop):∀ n,(∃ j,j<n∧p j)→∃ m,m<n∧p m∧∀ j,j<n→p j→j≤m
 | 0,h=>by obtain ⟨j,hj,_⟩:=h;omega
 | n+1,h=>by
  by_cases hn:p n
  ·exact ⟨n,by omega,hn,fun j hj _=>by omega⟩
  ·obtain ⟨j,hj,hp⟩:=h
   have hjn:j<n:=by
    rcases qe j n with h | h
    ·exact h
    ·have:j=n:=by omega
     subst this;exact absurd hp hn
   obtain ⟨m,hm,hpm,hall⟩:=jcJ p n ⟨j,hjn,hp⟩
   refine ⟨m,by omega,hpm,fun i hi hpi=> ?_⟩
   rcases qe i n with h | h
   ·exact hall i h hpi
   ·have:i=n:=by omega
    subst this;exact absurd hpi hn
theorem jfE {l:Array Bool} {i:Nat} (h:l.getD i true=false):l.getD i false=false:=by
 rcases qe i l.size with h' | h'
 ·simp [h'] at h ⊢;exact h
 ·simp [Array.getElem?_eq_none h']
theorem j4i {l:Array Bool} {i j:Nat} (hi:i<l.size):(l.setIfInBounds i true).getD j false=true↔j=i∨l.getD j false=true:=by
 by_cases h:i=j
 ·subst h;simp [hi]
 ·rw [getD_set_ne false h]
  exact ⟨.inr,fun hh=>hh.resolve_left fun e=>h e.symm⟩
theorem jaC {l:Array Bool} {i:Nat} (h:¬ l.getD i false=true):l.getD i false=false:=by
 cases hq:l.getD i false with
 | false=>rfl
 | true=>exact absurd hq h
section
variable (hok:DOkR ops A) (h:jbd P E ops cl A τ) {listed:Array Bool} (hp:Ph ops A τ listed σ) {i:Nat} {o:Oper} (hi:ops[i]? = some o) (hun:listed.getD i false=false) (hdeps:∀ j∈jas o,listed.getD j false=true)
include hok h hp hi hun hdeps
theorem jrY:∀ t,t∈o.looksAt ops→σ.sl t=(τ i).sl t:=by
 intro t htl
 have hisz:i<ops.size:=(jc.1 hi).1
 have hlk:∀ j oj,ops[j]? = some oj→oj.dst=some t→j≠i→Bef ops i j∨Bef ops j i:=fun j oj hj ht hne=>(hok.dst i j o oj t hi hj (fun e=>hne e.symm) ht).2 htl
 by_cases hex:∃ (j:Nat) (oj:Oper),ops[j]? = some oj∧oj.dst=some t∧listed.getD j false=true
 ·obtain ⟨j,oj,hj,ht,hlj⟩:=hex
  have hji:j≠i:=fun e=>by rw [e,hun] at hlj;simp at hlj
  have hdep:Bef ops i j:=by
   rcases hlk j oj hj ht hji with hd | hd
   ·exact hd
   ·have:=hp.bef hd hlj
    rw [hun] at this;simp at this
  have hlt:=hok.bef hdep
  rw [hp.done j oj t hj ht hlj]
  have:=jeq h (t:=t) (j:=j+1) (i-(j+1)) (by omega) (fun k ok h1 h2 hk=>(hok.dst k j ok oj t hk hj (by omega) ht).1)
  rw [show j+1+(i-(j+1))=i by omega] at this
  exact this.symm
 ·rw [hp.rest t (fun j oj hj ht=>jaC fun hq=>hex ⟨j,oj,hj,ht,hq⟩)]
  have:=jeq h (t:=t) (j:=0) i (by omega) (fun k ok _ hk hok' hdk=>by
   have hki:k≠i:=by omega
   rcases hlk k ok hok' hdk hki with hd | hd
   ·exact hex ⟨k,ok,hok',hdk,hp.befd hi hdeps hd⟩
   ·have:=hok.bef hd;omega)
  rw [js] at this
  exact this.symm
theorem jsD {k:Nat} (hk:∀ j oj,ops[j]? = some oj→k∈A.getD j []→i=j∨Bef ops i j∨Bef ops j i):σ.bx k=(τ i).bx k:=by
 have hisz:i<ops.size:=(jc.1 hi).1
 by_cases hex:∃ j,j<ops.size∧(k∈A.getD j []∧listed.getD j false=true)
 ·obtain ⟨m,hm,⟨hkm,hlm⟩,hmax⟩:=jcJ _ _ hex
  have hom:ops[m]? = some ops[m]:=jr hm
  have hmi:i≠m:=fun e=>by rw [←e,hun] at hlm;simp at hlm
  have hdep:Bef ops i m:=by
   rcases hk m _ hom hkm with hd | hd | hd
   ·exact absurd hd hmi
   ·exact hd
   ·have:=hp.bef hd hlm
    rw [hun] at this;simp at this
  have hlt:=hok.bef hdep
  rw [hp.bdone m k hm hkm hlm (fun j hj hkj hlj=>hmax j hj ⟨hkj,hlj⟩)]
  have:=jer h (k:=k) (j:=m+1) (i-(m+1)) (by omega) (fun j oj h1 h2 hj hkj=>by
   rcases hk j oj hj hkj with hd | hd | hd
   ·omega
   ·have:=hmax j (by omega) ⟨hkj,hp.befd hi hdeps hd⟩;omega
   ·have:=hok.bef hd;omega)
  rw [show m+1+(i-(m+1))=i by omega] at this
  exact this.symm
 ·rw [hp.brest k (fun j hj hkj=>jaC fun hq=>hex ⟨j,hj,hkj,hq⟩)]
  have:=jer h (k:=k) (j:=0) i (by omega) (fun j oj h1 h2 hj hkj=>by
   rcases hk j oj hj hkj with hd | hd | hd
   ·omega
   ·exact hex ⟨j,by omega,hkj,hp.befd hi hdeps hd⟩
   ·have:=hok.bef hd;omega)
  rw [js] at this
  exact this.symm
theorem jtA (hadr:jbX o=true) {k:Nat} (hk:∀ j oj,ops[j]? = some oj→k∈A.getD j []→i=j∨Bef ops i j∨Bef ops j i∨jb1 oj=true):ShEq (σ.bx k) ((τ i).bx k):=by
 have hisz:i<ops.size:=(jc.1 hi).1
 by_cases hex:∃ j,j<ops.size∧(k∈A.getD j []∧listed.getD j false=true)
 ·obtain ⟨m,hm,⟨hkm,hlm⟩,hmax⟩:=jcJ _ _ hex
  have hom:ops[m]? = some ops[m]:=jr hm
  rw [hp.bdone m k hm hkm hlm (fun j hj hkj hlj=>hmax j hj ⟨hkj,hlj⟩)]
  rcases qe m i with hmi | hmi
  ·have:=jgd h (k:=k) (j:=m+1) (i-(m+1)) (by omega) (fun j oj h1 h2 hj hkj=>by
    rcases hk j oj hj hkj with hd | hd | hd | hd
    ·omega
    ·have:=hmax j (by omega) ⟨hkj,hp.befd hi hdeps hd⟩;omega
    ·have:=hok.bef hd;omega
    ·exact hd)
   rwa [show m+1+(i-(m+1))=i by omega] at this
  ·have hmi':i≠m:=fun e=>by rw [←e,hun] at hlm;simp at hlm
   have:=jgd h (k:=k) (j:=i) (m+1-i) (by omega) (fun j oj h1 h2 hj hkj=>by
    have hlj:listed.getD j false=true:=by
     by_cases hjm:j=m
     ·rw [hjm];exact hlm
     ·rcases hok.box j m oj ops[m] k hj hom hjm hkj hkm with hd | hd
      ·have:=hok.bef hd;omega
      ·exact hp.bef hd hlm
    rcases hk j oj hj hkj with hd | hd | hd | hd
    ·rw [←hd,hun] at hlj;simp at hlj
    ·have:=hok.bef hd;omega
    ·have:=hp.bef hd hlj
     rw [hun] at this;simp at this
    ·exact hd)
   rw [show i+(m+1-i)=m+1 by omega] at this
   exact this.symm
 ·rw [hp.brest k (fun j hj hkj=>jaC fun hq=>hex ⟨j,hj,hkj,hq⟩)]
  have:=jgd h (k:=k) (j:=0) i (by omega) (fun j oj h1 h2 hj hkj=>by
   rcases hk j oj hj hkj with hd | hd | hd | hd
   ·omega
   ·exact absurd ⟨j,by omega,hkj,hp.befd hi hdeps hd⟩ hex
   ·have:=hok.bef hd;omega
   ·exact hd)
  rwa [js] at this
theorem jrZ (hc:ClOk ops cl):(∀ k,j9O (jiP ops cl A i o) σ.bx k=j9O (jiP ops cl A i o) (τ i).bx k)∨(jbX o=true∧∀ k,ShEq (j9O (jiP ops cl A i o) σ.bx k) (j9O (jiP ops cl A i o) (τ i).bx k)):=by
 by_cases hadr:jbX o=true
 ·refine .inr ⟨hadr,ShEq.mask fun k hk=>jtA hok h hp hi hun hdeps hadr fun j oj hj hkj=> ?_⟩
  rcases jmM hc hk hj hkj with hd | hd | hd | hd
  ·exact .inl hd
  ·exact .inr (.inl hd)
  ·exact .inr (.inr (.inl hd))
  ·exact .inr (.inr (.inr hd.2))
 ·refine .inl fun k=> ?_
  unfold j9O
  split
  ·rfl
  ·rename_i hk
   exact jsD hok h hp hi hun hdeps fun j oj hj hkj=>by
    rcases jmM hc (by simpa using hk) hj hkj with hd | hd | hd | hd
    ·exact .inl hd
    ·exact .inr (.inl hd)
    ·exact .inr (.inr hd)
    ·exact absurd hd.1 hadr
theorem js0 (hsz:ops.size≤listed.size) {s:Slot} {u:Ups} (he:τ (i+1)=((τ i).upd u).setD o.dst s) (hu:∀ e∈u,e.1∈A.getD i []):Ph ops A τ (listed.setIfInBounds i true) ((σ.upd u).setD o.dst s):=by
 have hisz:i<ops.size:=(jc.1 hi).1
 have hlt':i<listed.size:=by omega
 have hbx0:∀ k,k∈A.getD i []→σ.bx k=(τ i).bx k:=fun k hk=>jsD hok h hp hi hun hdeps fun j oj hj hkj=>by
  by_cases hij:i=j
  ·exact .inl hij
  ·exact .inr (hok.box i j o oj k hi hj hij hk hkj)
 refine ⟨?_,?_,?_,?_,?_⟩
 ·intro j oj hoj hj d hdd
  rcases (j4i hlt').1 hj with rfl | hj
  ·rw [hi] at hoj;simp only [j4] at hoj;subst hoj
   exact (j4i hlt').2 (.inr (hdeps d hdd))
  ·exact (j4i hlt').2 (.inr (hp.closed j oj hoj hj d hdd))
 ·intro j oj t hoj ht hj
  by_cases hji:j=i
  ·subst hji
   rw [hi] at hoj;simp only [j4] at hoj;subst hoj
   rw [he,ht,jiz,jiz]
  ·rcases (j4i hlt').1 hj with hj | hj
   ·exact absurd hj hji
   ·rw [jfd (hok.dst i j o oj t hi hoj (fun e=>hji e.symm) ht).1,jj3]
    exact hp.done j oj t hoj ht hj
 ·intro t hall
  have hot:o.dst≠some t:=fun e=>by
   have:=hall i o hi e
   have h2:=(j4i (j:=i) hlt').2 (.inl rfl)
   rw [this] at h2;simp at h2
  rw [jfd hot,jj3]
  exact hp.rest t fun j oj hoj ht=>jaC fun hq=>by
   have:=hall j oj hoj ht
   have h2:=(j4i (i:=i) hlt').2 (.inr hq)
   rw [this] at h2;simp at h2
 ·intro j k hj hkj hlj hmax
  rw [jdr]
  by_cases hji:j=i
  ·subst hji
   rw [he,jdr]
   exact jky u σ (τ j) k (hbx0 k hkj)
  ·have hlj':listed.getD j false=true:=by
    rcases (j4i hlt').1 hlj with e | hh
    ·exact absurd e hji
    ·exact hh
   have hki:k∉A.getD i []:=fun hki=>by
    have hle:=hmax i hisz hki ((j4i hlt').2 (.inl rfl))
    have hoj:ops[j]? = some ops[j]:=jr hj
    rcases hok.box i j o _ k hi hoj (fun e=>hji e.symm) hki hkj with hd | hd
    ·have:=hok.bef hd;omega
    ·have:=hp.bef hd hlj'
     rw [hun] at this;simp at this
   rw [jep u σ k (fun e hm hek=>hki (hek▸hu e hm))]
   exact hp.bdone j k hj hkj hlj' (fun i' hi' hk' hl'=>hmax i' hi' hk' ((j4i hlt').2 (.inr hl')))
 ·intro k hall
  have hki:k∉A.getD i []:=fun hki=>by
   have:=hall i hisz hki
   have h2:=(j4i (j:=i) hlt').2 (.inl rfl)
   rw [this] at h2;simp at h2
  rw [jdr,jep u σ k (fun e hm hek=>hki (hek▸hu e hm))]
  exact hp.brest k fun j hj hkj=>jaC fun hq=>by
   have:=hall j hj hkj
   have h2:=(j4i (i:=i) hlt').2 (.inr hq)
   rw [this] at h2;simp at h2
end
theorem jsE (hok:DOkR ops A) (h:jbd P E ops cl A τ) {listed:Array Bool} (hp:Ph ops A τ listed σ) (hall:∀ j,j<ops.size→listed.getD j false=true):σ=τ ops.size:=by
 have hsl:σ.sl=(τ ops.size).sl:=by
  funext t
  by_cases hex:∃ (j:Nat) (oj:Oper),ops[j]? = some oj∧oj.dst=some t
  ·obtain ⟨j,oj,hj,ht⟩:=hex
   have hlt:j<ops.size:=(jc.1 hj).1
   rw [hp.done j oj t hj ht (hall j hlt)]
   have:=jeq h (t:=t) (j:=j+1) (ops.size-(j+1)) (by omega) (fun k ok h1 h2 hk=>(hok.dst k j ok oj t hk hj (by omega) ht).1)
   rw [show j+1+(ops.size-(j+1))=ops.size by omega] at this
   exact this.symm
  ·rw [hp.rest t (fun j oj hj ht=>absurd ⟨j,oj,hj,ht⟩ hex)]
   have:=jeq h (t:=t) (j:=0) ops.size (by omega) (fun k ok _ hk hok' hdk=>hex ⟨k,ok,hok',hdk⟩)
   rw [js] at this
   exact this.symm
 have hbx:σ.bx=(τ ops.size).bx:=by
  funext k
  by_cases hex:∃ j,j<ops.size∧k∈A.getD j []
  ·obtain ⟨m,hm,hkm,hmax⟩:=jcJ _ _ hex
   rw [hp.bdone m k hm hkm (hall m hm) (fun j hj hkj _=>hmax j hj hkj)]
   have:=jer h (k:=k) (j:=m+1) (ops.size-(m+1)) (by omega) (fun j oj h1 h2 hj hkj=>by have:=hmax j (by omega) hkj;omega)
   rw [show m+1+(ops.size-(m+1))=ops.size by omega] at this
   exact this.symm
  ·rw [hp.brest k (fun j hj hkj=>absurd ⟨j,hj,hkj⟩ hex)]
   have:=jer h (k:=k) (j:=0) ops.size (by omega) (fun j oj h1 h2 hj hkj=>hex ⟨j,by omega,hkj⟩)
   rw [js] at this
   exact this.symm
 cases σ;cases hq:τ ops.size
 rw [hq] at hbx hsl
 simp only at hbx hsl
 rw [hbx,hsl]
end
theorem jkz {l:Array Bool} {i:Nat} (hi:l.getD i true=false):(l.setIfInBounds i true).toList.count false+1=l.toList.count false:=by
 have hlt:i<l.size:=by
  rcases qe i l.size with h | h
  ·exact h
  ·simp [Array.getElem?_eq_none h] at hi
 have hv:l.toList[i]'(by simpa using hlt)=false:=by
  simp [hlt] at hi
  simpa using hi
 have hpos:0<l.toList.count false:=List.count_pos_iff.2 (hv▸jf _)
 have hc:(l.toList.set i true).count false=l.toList.count false-(if l.toList[i]'(by simpa using hlt)==false then 1 else 0)+(if true==false then 1 else 0):=List.count_set (by simpa using hlt)
 rw [hv] at hc
 rw [Array.toList_setIfInBounds]
 simp only [kg,if_true,show (true==false)=false from rfl,jz,qa,Nat.add_zero] at hc
 omega
theorem jnE {l:Array Bool} (h:l.toList.count false=0) {j:Nat} (hj:j<l.size):l.getD j false=true:=by
 have h0:false∉l.toList:=List.count_eq_zero.1 h
 simp only [qc,jr hj,Option.getD_some]
 cases hv:l[j] with
 | true=>rfl
 | false=>exact absurd (hv▸by simp:false∈l.toList) h0
theorem jp0 {ops:Array Oper} {A:List (List Nat)} (hok:DOkR ops A) {listed:Array Bool} (hs:listed.size=ops.size) (h:Region.ready .any ops listed=[]):∀ j,j<ops.size→listed.getD j false=true:=by
 intro j
 induction j using Nat.strongRecOn with
 | _ j ih=>
  intro hj
  cases hq:listed.getD j false with
  | true=>rfl
  | false=>
   have ho:ops[j]? = some ops[j]:=jr hj
   have hm:j∈Region.ready .any ops listed:=mem_ready.2 ⟨by
    have hj':j<listed.size:=by omega
    simp [hj'] at hq ⊢;exact hq,ops[j],ho,fun e he hb=>ih _ (hok.lt j _ ho _ (jj2.2 ⟨e,he,hb,rfl⟩)) (Nat.lt_trans (hok.lt j _ ho _ (jj2.2 ⟨e,he,hb,rfl⟩)) hj)⟩
   rw [h] at hm
   simp at hm
theorem jnF {P:Program} {E:Env} (hT:j22 P E.T) {ops:Array Oper} {cl:List Nat} {A:List (List Nat)} (hcl:ClOk ops cl) (hok:DOkR ops A) {τ:Nat→St} (h:jbd P E ops cl A τ)
  {Q:Exit→Go.Act→World→Prop} (hn:∀ a' w' S' γ',Rel E.N E.np S0 w0 refs (τ ops.size) a' w' S' γ'→j3z (τ ops.size)→Q .normal a' w') :
  ∀ (fuel:Nat) (listed:Array Bool) {σ:St} {a:Go.Act} {w:World} {S:j0c} {γ:Nat→Value},listed.size=ops.size→listed.toList.count false≤fuel→Rel E.N E.np S0 w0 refs σ a w S γ→j3z σ→
   Ph ops A τ listed σ→wpAny P .any ops Q fuel listed a w:=by
 have hend:∀ (listed:Array Bool) {σ:St} {a:Go.Act} {w:World} {S:j0c} {γ:Nat→Value},Rel E.N E.np S0 w0 refs σ a w S γ→j3z σ→Ph ops A τ listed σ→(∀ j,j<ops.size→listed.getD j false=true)→Q .normal a w:=by
  intro listed σ a w S γ hR hc hph hall
  have he:=jsE hok h hph hall
  subst he
  exact hn a w S γ hR hc
 intro fuel
 induction fuel with
 | zero=>
  intro listed σ a w S γ hs hcnt hR hc hph
  have hall:∀ j,j<ops.size→listed.getD j false=true:=fun j hj=>jnE (by omega) (by omega)
  refine ⟨?_,hend listed hR hc hph hall⟩
  refine List.eq_nil_iff_forall_not_mem.2 fun i hi=> ?_
  have h0:=(mem_ready.1 hi).1
  have hlt:i<ops.size:=by
   obtain ⟨_,o,ho,_⟩:=mem_ready.1 hi
   exact (jc.1 ho).1
  have:=hall i hlt
  rw [jfE h0] at this
  simp at this
 | succ fuel ih=>
  intro listed σ a w S γ hs hcnt hR hc hph
  refine ⟨fun hnil=>hend listed hR hc hph (jp0 hok hs hnil),fun i hi=> ?_⟩
  obtain ⟨hun,o,ho,hdeps⟩:=jnD hi
  have hun':=jfE hun
  have hcs:=jkz hun
  have hsz:(listed.setIfInBounds i true).size=ops.size:=by simpa using hs
  obtain ⟨hd,hstep⟩:=h i o ho
  refine D_wp hT hR hc ho hd hstep (jrZ hok h hph ho hun' hdeps hcl) (jrY hok h hph ho hun' hdeps) ?_
  intro s u a' w' S' γ' he hu hR' hc'
  exact ih _ hsz (by omega) hR' hc' (js0 hok h hph ho hun' hdeps (Nat.le_of_eq hs.symm) he hu)
theorem jnG {P:Program} {E:Env} (hT:j22 P E.T) (hC:j8P P E.C) (hF:CFun E.C) (hR:Rel E.N E.np S0 w0 refs σ a w S γ) (hc:j3z σ) {ops:Array Oper} {A:List (List Nat)}
  {R:Type} {k:St→Option R} {r:R} {Q:Exit→Go.Act→World→Prop} (hn:∀ σ' a' w' S' γ',Rel E.N E.np S0 w0 refs σ' a' w' S' γ'→j3z σ'→k σ'=some r→Q .normal a' w') (h:jeh E ops A σ k=some r) :
  wpAny P .any ops Q ops.size (Array.replicate ops.size false) a { w with drawn:=w.drawn+1 }:=by
 unfold jeh at h
 split at h
 ·rename_i hok
  obtain ⟨τ,h1,h2,h3⟩:=joY (P:=P) (ops:=ops) hC hF ops.size 0 σ (js _) (by simpa using h)
  have hfalse:∀ j,(Array.replicate ops.size false).getD j false=false:=by
   intro j
   rcases qe j ops.size with hj | hj
   ·simp [hj]
   ·simp [hj]
  have hcl:ClOk ops (jo8 ops.toList []):=jmL ops.toList [] (fun i j h=>by simp at h) (fun k o hk=>by simpa using hk)
  refine jnF hT hcl (jlT hcl hok) (τ:=τ) (fun j o ho=>h3 j o (k7 _) ho) (fun a' w' S' γ' hR' hc'=>hn _ a' w' S' γ' hR' hc' h2) ops.size _ (by simp) (by simp) (hR.drawn _) hc ?_
  exact ⟨fun j o _ hj=>by rw [hfalse] at hj;simp at hj,fun j o t _ _ hj=>by rw [hfalse] at hj;simp at hj,fun t _=>by rw [h1],
   fun j k _ _ hj=>by rw [hfalse] at hj;simp at hj,fun k _=>by rw [h1]⟩
 ·simp at h
end
def FR (ro:Option Nat):Fence:={ Fence.wide with round:=ro }
theorem jp1 (ro:Option Nat) (n:Nat):(FR ro).room n:=fun d h=>by simp [FR,Fence.wide] at h
section
variable {P:Program} {ro:Option Nat} {n:Nat}
theorem js1 {f:FuncId} {args:Array Value} {w:World} {R:Ending→World→Prop} (h:Calls P f args w R):CallsIn (FR ro) n P f args w R:=(callsIn_wide (n:=n)).2 h
theorem js2 {f:FuncId} {args:Array Value} {w:World} {R:Ending→World→Prop} (h:CallsIn (FR ro) n P f args w R):Calls P f args w R:=(callsIn_wide (n:=n)).1 h
theorem jsF {m:Nat} {c:Code} {Q:Exit→Go.Act→World→Prop} {a:Go.Act} {w:World} (h:c.wpIn (FR ro) n P Q a w):c.wpIn (FR ro) m P Q a w:=
 fun b k cs hro hb hr=>h b k cs hro hb (jp1 _ _)
theorem jsG {row:String} {args:Array Value} {w:World} {R:Value→World→Prop} (h:Rows P row args w R):RowsIn (FR ro) n P row args w R:=
 fun c cs _=>let ⟨v,w',r,s⟩:=h c cs;⟨v,w',r,stepsIn_wide.2 s⟩
theorem jj4 {o:Oper} (hp:ro=none∨∀ c,o.op ≠ .defer c) {a:Go.Act} {w:World} {K K':Go.Act→World→Prop} {Q:Exit→Go.Act→World→Prop} (hK:∀ a w,K a w→K' a w)
  (h:o.wp P a w K Q):o.wpIn (FR ro) n P a w K' Q:=by
 refine ⟨fun _ _=>trivial,?_⟩
 have e:o.semAt (FR ro).round a.eval=execOp a.eval o:=by
  rcases hp with rfl | hp
  ·rfl
  ·exact Oper.semAt_eq _ _ _ hp
 rw [e]
 unfold Oper.wp at h
 revert h
 cases (execOp a.eval o).run P w with
 | ok x w'=>
  cases x with
  | value v=>intro h;exact hK _ _ h
  | skip=>intro h;exact hK _ _ h
  | defer d=>intro h;exact hK _ _ h
  | enter f args=>
   intro h
   refine ⟨fun hd=>by simp [FR,Fence.wide] at hd,js1 (Calls.mono h fun e w'' he=> ?_)⟩
   cases e with
   | returned v=>exact hK _ _ he
   | panicked c=>exact he
   | outgrown=>exact he
  | row r args=>
   intro h
   exact ⟨fun hd=>by simp [FR,Fence.wide] at hd,jsG (Rows.mono h fun v w'' he=>hK _ _ he)⟩
  | round l f tmps x y=>intro h;exact h.elim
  | _=>intro h;exact h.elim
 | halt x w'=>cases x<;>intro h<;>exact h
theorem jkA {ops:Array Oper} {Q:Exit→Go.Act→World→Prop} (hp:ro=none∨∀ o∈ops.toList,∀ c,o.op ≠ .defer c) (hno:¬ LetsOut Q):∀ (l:List Nat) (a:Go.Act) (w:World),wpOps P ops Q l a w→wpOpsIn (FR ro) n P ops Q l a w
 | [],a,w,h=>h
 | i::r,a,w,h=>by
  simp only [wpOps] at h
  simp only [wpOpsIn]
  cases ho:ops[i]? with
  | none=>simp only [ho] at h ⊢;exact jkA hp hno r a w h
  | some o=>
   simp only [ho] at h ⊢
   split
   ·rename_i hw
    simp only [hw,if_true] at h
    rcases h with h | ⟨_,h⟩
    ·refine jj4 (hp.imp id fun hh=>hh o ?_) (fun a w=>jkA hp hno r a w) h
     obtain ⟨hlt,rfl⟩:=jc.1 ho
     exact Array.mem_toList_iff.2 (Array.getElem_mem hlt)
    ·exact absurd h hno
   ·rename_i hw
    simp only [hw] at h
    exact ⟨fun _ _=>trivial,jkA hp hno r _ w h⟩
theorem jmN {md:Region.Mode} {ops:Array Oper} {Q:Exit→Go.Act→World→Prop} (hp:ro=none∨∀ o∈ops.toList,∀ c,o.op ≠ .defer c) (hno:¬ LetsOut Q) :
  ∀ (fuel:Nat) (listed:Array Bool) (a:Go.Act) (w:World),wpAny P md ops Q fuel listed a w→wpAnyIn (FR ro) n P md ops Q fuel listed a w
 | 0,_,_,_,h=>h
 | fuel+1,listed,a,w,h=>by
  refine ⟨h.1,fun i hi=> ?_⟩
  have h2:=h.2 i hi
  unfold wpOp at h2
  unfold wpOpIn
  cases ho:ops[i]? with
  | none=>simp only [ho] at h2 ⊢;exact jmN hp hno fuel _ a w h2
  | some o=>
   simp only [ho] at h2 ⊢
   split
   ·rename_i hw
    simp only [hw,if_true] at h2
    rcases h2 with h2 | ⟨_,h2⟩
    ·refine jj4 (hp.imp id fun hh=>hh o ?_) (fun a w=>jmN hp hno fuel _ a w) h2
     obtain ⟨hlt,rfl⟩:=jc.1 ho
     exact Array.mem_toList_iff.2 (Array.getElem_mem hlt)
    ·exact absurd h2 hno
   ·rename_i hw
    simp only [hw] at h2
    exact ⟨fun _ _=>trivial,jmN hp hno fuel _ _ w h2⟩
end
section
variable {N:NT} {np:Nat} {S0:j0c} {w0:World} {refs:Refs} {σ:St} {a:Go.Act} {w:World} {S:j0c} {γ:Nat→Value}
theorem Rel.allocO (hR:Rel N np S0 w0 refs σ a w S γ) (o:Obj):Rel N np S0 w0 refs σ a (w.alloc o) S γ:=
 Rel.step (bx':=σ.bx) (γ':=γ) hR (j7y hR o) (.refl _ _) (fun k b hb=>j2c.keep (j7y hR o) (.refl _ _) rfl (fun g hg=>⟨heap_alloc_old w o (j4B (hR.box k b hb) hg),fun _=>Iff.rfl⟩) (hR.box k b hb))
  hR.own hR.apart hR.new (fun g i h=>by have:=hR.here g i h;simp;omega) (fun g hg hr=>(heap_alloc_old w o (kq hg hR.grow)).trans (hR.below g hg hr)) (by have:=hR.grow;simp;omega) hR.os hR.tape hR.output
  (fun g hg _ h=>⟨heap_alloc_old w o hg,h⟩)
structure Grew (w w':World):Prop where
 old:∀ g,g<w.heap.size→w'.heap[g]? = w.heap[g]?
 size:w.heap.size≤w'.heap.size
 os:w'.os=w.os
 tape:w'.tape=w.tape
 output:w'.output=w.output
structure jnH (S:j0c) (w:World) (S':j0c) (w':World):Prop where
 sub:∀ g o,S g o→S' g o
 new:∀ g o,S' g o→S g o∨w.heap.size≤g
 here:∀ g o,S' g o→g<w'.heap.size
theorem Rel.grew (hR:Rel N np S0 w0 refs σ a w S γ) {S':j0c} {w':World} (h:Grew w w') (hs:jnH S w S' w'):Rel N np S0 w0 refs σ a w' S' γ:=
 have hst:j3p S w S' w':=fun g o hg=>⟨hs.sub g o hg,World.cell?_of_block (h.old g (hR.here g o hg))⟩
 Rel.step (bx':=σ.bx) (γ':=γ) hR hst (.refl _ _) (fun k b hb=>j2c.keep hst (.refl _ _) rfl (fun g hg=>
   have hl:=j4B (hR.box k b hb) hg
   ⟨h.old g hl,fun o=>⟨fun h1=>(hs.new g o h1).resolve_right (by omega),hs.sub g o⟩⟩) (hR.box k b hb))
  hR.own hR.apart (fun g o h1=>(hs.new g o h1).elim (hR.new g o) fun h2=> .inr (qr hR.grow h2)) hs.here (fun g hg hr=>(h.old g (kq hg hR.grow)).trans (hR.below g hg hr)) (qr hR.grow h.size) (h.os.trans hR.os) (h.tape.trans hR.tape) (h.output.trans hR.output)
  (fun g hg _ hn=>⟨h.old g hg,hn⟩)
theorem Rel.swap (hR:Rel N np S0 w0 refs σ a w S γ) {N':NT} {refs':Refs} {a':Go.Act} (hb:refs'.blks=refs.blks) (hv:refs'.val=refs.val) (hsz:a'.tmps.size=N'.n) (hds:a'.defers=refs'.ds)
  (hslot:∀ i,j3e S w γ σ.bx (tm a') (σ.sl i) (tm a' i)) (hk:∀ g o,refs'.kw g=some o→w.heap[g]? = some o∧∀ k b,σ.bx k = .live b→blk (γ k)≠some g)
  (hf:∀ i v,refs'.fix i=some v→N'.pin i=true∧a'.tmps.getD i undef=v):Rel N' np S0 w0 refs' σ a' w S γ:=
 have hm:∀ g,g∈refs'↔g∈refs:=fun g=>by show g∈refs'.blks↔g∈refs.blks;rw [hb]
 ⟨hsz,hds,hslot,hR.box,fun k b g h h'=>(hR.own k b g h h').imp id fun h=>⟨(hm g).2 h.1,h.2⟩,hR.apart,hR.ext,hR.new,hR.here,fun g h h'=>hR.below g h fun h2=>h' ((hm g).2 h2),
  hR.grow,hR.os,hR.tape,hR.output,fun k v h=>hR.par k v (hv▸h),hk,hf⟩
theorem jmO {g o:Nat} {x:Obj} (h:w.heap[g]? = some x) (hc:x.isCells=false):w.cell? ⟨g,o,none⟩=none:=by
 unfold World.cell?
 simp only [h]
 cases x<;>first | rfl | (simp [Obj.isCells] at hc)
theorem Rel.putO (hR:Rel N np S0 w0 refs σ a w S γ) {l:Nat} {o o':Obj} (hk:refs.kw l=some o) (hl:w0.heap.size≤l) (hc:o.isCells=false) (hc':o'.isCells=false) :
  Rel N np S0 w0 { refs with kw:=fun g=>if g=l then some o' else refs.kw g } σ a (w.putObj l o') S γ:=by
 obtain ⟨hw,hno⟩:=hR.kept l o hk
 have hlt:=(jc.1 hw).1
 have hst:j3p S w S (w.putObj l o'):=fun g i h=>⟨h,by
  by_cases hg:g=l
  ·subst hg
   rw [jmO hw hc,jmO (World.putObj_heap_same hlt) hc']
  ·exact World.cell?_of_block (World.putObj_heap_other hg)⟩
 have hR1:Rel N np S0 w0 { refs with kw:=fun g=>if g=l then none else refs.kw g } σ a w S γ:=
  Rel.swap hR rfl rfl hR.size hR.defers hR.slot (fun g x h=>by
   simp only at h
   split at h
   ·simp at h
   ·exact hR.kept g x h) hR.fix
 have hR2:Rel N np S0 w0 { refs with kw:=fun g=>if g=l then none else refs.kw g } σ a (w.putObj l o') S γ:=
  Rel.step (bx':=σ.bx) (γ':=γ) hR1 hst (.refl _ _) (fun k b hb=>j2c.keep hst (.refl _ _) rfl (fun g hg=>⟨World.putObj_heap_other (fun e=>hno k b hb (e▸hg)),fun _=>Iff.rfl⟩) (hR.box k b hb))
   hR1.own hR1.apart hR1.new (fun g i h=>by simpa using hR.here g i h) (fun g hg hr=>(World.putObj_heap_other (by omega)).trans (hR1.below g hg hr)) (by simpa using hR.grow) hR.os hR.tape hR.output
   (fun g _ hkn h=>⟨World.putObj_heap_other (fun e=>by subst e;simp at hkn),h⟩)
 refine Rel.swap hR2 rfl rfl hR2.size hR2.defers hR2.slot (fun g x h=> ?_) hR2.fix
 simp only at h
 split at h
 ·rename_i e;subst e
  simp only [j4] at h;subst h
  exact ⟨World.putObj_heap_same hlt,hno⟩
 ·rename_i e
  have h1:=hR.kept g x h
  exact ⟨(World.putObj_heap_other e).trans h1.1,h1.2⟩
theorem jp2 (np:Nat) (K:Keep) (s:Snap) (i:Nat):(∃ c,(j1y np K s).sl i = .one c)∧(i∉K.slots→(j1y np K s).sl i = .one (.one .dead)):=by
 have hsl:(j1y np K s).sl i=match K.slots.idxOf? i with
  | some j=>jly s[j]?
  | none=> .one (.one .dead):=rfl
 rw [hsl]
 cases hq:K.slots.idxOf? i with
 | none=>exact ⟨⟨_,rfl⟩,fun _=>rfl⟩
 | some j=>
  refine ⟨?_,fun h=>absurd (jn (j6u hq)) h⟩
  simp only
  unfold jly
  split<;>exact ⟨_,rfl⟩
theorem Rel.frame {K:Keep} {s:Snap} (hR:Rel N np S0 w0 refs (j1y np K s) a w S γ) {N':NT} {refs':Refs} {a':Go.Act} (hb:refs'.blks=refs.blks) (hv:refs'.val=refs.val) (hsz:a'.tmps.size=N'.n) (hds:a'.defers=refs'.ds)
  (hsl:∀ i∈K.slots,tm a' i=tm a i) (hk:∀ g o,refs'.kw g=some o→w.heap[g]? = some o∧∀ k b,(j1y np K s).bx k = .live b→blk (γ k)≠some g)
  (hf:∀ i v,refs'.fix i=some v→N'.pin i=true∧a'.tmps.getD i undef=v):Rel N' np S0 w0 refs' (j1y np K s) a' w S γ:=by
 refine hR.swap hb hv hsz hds (fun i=> ?_) hk hf
 obtain ⟨⟨c,hc⟩,hd⟩:=jp2 np K s i
 by_cases hi:i∈K.slots
 ·have:=hR.slot i
  rw [hc] at this ⊢
  rw [hsl i hi]
  exact this
 ·rw [hd hi];exact ⟨trivial,fun h=>absurd rfl h⟩
end
section
variable {P:Program} {F:Fence} {n:Nat} {b:Frame} {a:Go.Act} {k:List Go.Item} {cs:List Frame} {w:World} {Q:Exit→Go.Act→World→Prop}
theorem j7E {c:Code}:step P (lone (b.atR a (.code (.scope c)::k)) cs w) = .next (lone (b.atR a (.code c :: .inScope c::k)) cs w):=
 step_lone_go (by simp [stepG,stepG.exec,Frame.atR])
theorem jj5 {c:Code}:step P (lone (b.atR a (.inScope c::k)) cs w) = .next (lone (b.atR a k) cs w):=
 step_lone_go (by simp [stepG,stepG.exec,Frame.atR])
theorem jnI {c:Code} (hng:∀ l a w,¬ Q (.goto l) a w) (h:c.wpIn F n P Q a w):(Code.scope c).wpIn F n P Q a w:=by
 intro b k cs hro hb hr
 have h0:(lone (b.atR a (.code (.scope c)::k)) cs w).fenced P F:=fenced_calm hb hr rfl
 obtain ⟨e,a₁,w₁,hq,harr⟩:=h b (.inScope c::k) cs hro hb hr
 cases e with
 | normal=>exact ⟨.normal,a₁,w₁,hq,.head h0 j7E (StepsIn.trans harr (.one (fenced_calm hb hr rfl) jj5))⟩
 | exit id=>
  have hx:exitTo id (.inScope c::k)=exitTo id k:=by simp [exitTo]
  exact ⟨_,a₁,w₁,hq,fun k' hk=> .head h0 j7E (harr.1 k' (by rw [hx];exact hk)),
   fun hr' hk=>let ⟨k₁,h1,h2⟩:=harr.2 hr' (by rw [hx];exact hk);⟨k₁,h1,.head h0 j7E h2⟩⟩
 | goto l=>exact absurd hq (hng l a₁ w₁)
 | ret=>exact ⟨_,a₁,w₁,hq,.of_steps (.one h0 j7E) harr⟩
 | panic ch=>exact ⟨_,a₁,w₁,hq,.of_steps (.one h0 j7E) harr⟩
 | outgrown=>exact ⟨_,a₁,w₁,hq,.of_steps (.one h0 j7E) harr⟩
end
section
variable {N:NT} {np:Nat} {S0:j0c} {w0:World} {refs:Refs} {σ:St} {a:Go.Act} {w:World} {S:j0c} {γ:Nat→Value}
theorem js3 {α:Type} {xs:List α} {d:α} (h:xs.length=1):xs=[xs.getD 0 d]:=by
 match xs,h with
 | [x],_=>rfl
theorem jlU (hR:Rel N np S0 w0 refs σ a w S γ) (hc:j3z σ) {g:Gh} {σ':St} (h:jo9 np σ g=some (true,σ')):∃ S' γ',Rel N np S0 w0 refs σ' a w S' γ'∧j3z σ':=by
 cases g with
 | ex k c n=>
  simp only [jo9] at h
  split at h
  case h_2=>simp at h
  rename_i ls hk
  split at h
  case h_2=>simp at h
  rename_i b hs
  split at h
  case h_2=>simp at h
  rename_i e t xs hb
  split at h
  case isTrue=>simp at h
  rename_i hcond
  simp only [j4,j8] at h
  obtain ⟨h1,rfl⟩:=h
  have h1:xs.length=1:=Nat.eq_of_beq_eq_true h1
  simp only [qk,not_or,Bool.not_eq_true,beq_eq_false_iff_ne,Bool.not_eq_false'] at hcond
  obtain ⟨⟨⟨⟨hm,hp⟩,hbn⟩,hbk⟩,hn⟩:=hcond
  have hn:σ.bx n = .free:=by
   revert hn
   cases σ.bx n<;>simp [j62]
  have hkn:k≠n:=by rintro rfl;rw [hn] at hk;simp at hk
  obtain ⟨gk,curk,ek,hgk,hhk,hlk,hok,hSk,_⟩:=hR.box k _ hk
  have hls:ls[c]? = some (.ol b):=by
   cases hc':ls[c]? with
   | none=>simp [hc'] at hs
   | some x=>simp [hc'] at hs;rw [hs]
  obtain ⟨z,hz,hzl⟩:=hlk.get c _ hls
  have hu:z=γ b:=hzl.2.2 _ hb
  obtain ⟨css,hown,hall,hS⟩:=j5j hm (hR.box b _ hb)
  rcases hown.2 with ⟨_,hz0⟩ | ⟨gb,cap,cur,hg,_,hh,hle,hcm,hcs,htake⟩
  ·omega
  have hlen:=All2.flatten_length (fun x c hx=>Rep.length t x c hx) hall
  rw [h1,Nat.one_mul] at hlen htake
  have hx1:=js3 (d:=t.dflt) h1
  rw [hx1] at hall
  have hR1:=jg6 hR hb
  have hn1:(σ.setB b .gone).bx n = .free:=by rw [j05 σ _ (Ne.symm hbn)];exact hn
  have hrep:Rep S w t (xs.getD 0 t.dflt) css.flatten:=by
   match css,hall with
   | [c],h=>simpa using h.1
  have hscat:=j5Q t _ _ hrep
  have hll:((scat t (xs.getD 0 t.dflt)).map TV.leaf).length=t.size:=by rw [qj,hscat.length,hlen]
  obtain ⟨hR2,hle2⟩:=jgC hR1 hn1 (v':= .pointer (some ⟨gb,0,none⟩)) (b:= .cell ((scat t (xs.getD 0 t.dflt)).map TV.leaf) false) (fun g' hg'=>by
   have hg':gb=g':=by simpa [blk] using hg'
   subst hg'
   have hbg:blk (γ b)=some gb:=by rw [hg];rfl
   refine ⟨⟨?_,hR.kw_live hb hbg⟩,fun k' b' hb' hk'=> ?_⟩
   ·rcases hR.own b _ gb hb hbg with h | h
    ·exact h
    ·rw [hp] at h;simp at h
   ·have hkk:k'≠b:=by rintro rfl;rw [j0E] at hb';simp at hb'
    rw [j05 σ _ hkk] at hb'
    exact hR.apart k' b _ _ gb hkk hb' hb hk' hbg) (by
   refine ⟨gb,cur,_,j0z _ _ _,hh,?_,?_,fun _ o=>(hS gb (by rw [hg];rfl)).1 rfl o,by simp⟩
   ·rw [hll,htake]
    exact j6S hscat
   ·rw [hll,htake]
    exact Rep.one _ _ _ hrep)
  have hk2:((σ.setB b .gone).setB n (.live (.cell ((scat t (xs.getD 0 t.dflt)).map TV.leaf) false))).bx k = .live (.cell ls false):=by
   rw [j05 _ _ hkn,j05 _ _ (fun h=>hbk h.symm)];exact hk
  refine ⟨S,_,jmJ hR2 hk2 (b':= .cell (ls.set c (.s1 n)) false) trivial (fun bx' hle3=> ?_),fun i=>hc i⟩
  obtain ⟨g3,cur3,e3,q1,q2,q3,q4,q5,_⟩:=hR2.box k _ hk2
  rw [j0u γ _ hkn,hgk] at q1
  simp at q1;subst q1
  rw [hhk] at q2;simp at q2;obtain ⟨rfl,rfl⟩:=q2
  refine ⟨gk,curk,ek,by rw [j0u γ _ hkn];exact hgk,hhk,?_,by rw [qu];exact q4,q5,by simp⟩
  rw [qu]
  refine All2.set_left (q3.mono (fun x u hx=>j09.keep (.refl S w) hle3 hx)) c (.s1 n) z hz ?_
  have hnlive:((σ.setB b .gone).setB n (.live (.cell ((scat t (xs.getD 0 t.dflt)).map TV.leaf) false))).bx n = .live (.cell ((scat t (xs.getD 0 t.dflt)).map TV.leaf) false):=j0E _ _ _
  refine j09.keep (.refl S w) hle3 (x:= .s1 n) ⟨by rw [hnlive];simp,hzl.2.1,fun b' hb'=> ?_⟩
  rw [hnlive] at hb';cases hb'
  refine ⟨gb,cap,j0z _ _ _,?_,by omega,hcm⟩
  rw [hu,hg,h1]
 | se k=>
  simp only [jo9] at h
  split at h
  case h_2=>simp at h
  rename_i ls hk
  split at h
  case isTrue=>simp at h
  rename_i hp
  split at h
  case h_2=>simp at h
  rename_i xs u hx
  split at h
  case isTrue=>simp at h
  rename_i hany
  simp only [j4,j8,kf] at h
  subst h
  have hp:parK np k=false:=qb.2 hp
  have hany:u.any (fun y=>y.1==k)=false:=qb.2 hany
  have hrd:RdF np σ (fun j=>if parK np j then .gone else mskM σ.bx j):=jir (RdR.msk fun _=> .inl rfl)
  obtain ⟨g,cur,e,hg,hh,hcur,_⟩:=hR.box k _ hk
  obtain ⟨hf,hpp⟩:=jdl hrd hx hcur
  obtain ⟨S1,hR1,hst1,hfz1,hsame⟩:=j2Y u σ S hR hf
  have hk1:(σ.upd u).bx k = .live (.cell ls false):=(j2s u σ hany).trans hk
  obtain ⟨S2,g2,hR2,_⟩:=jgz hR1 hk1 hp (xs:=xs) (fun g' cur' e' hg' hh' _=>by
   rw [hg] at hg';simp at hg';subst hg'
   rw [hh] at hh';simp at hh';obtain ⟨rfl,_⟩:=hh'
   exact hpp S1 w hst1 hfz1)
  refine ⟨S2,γ,by rw [j4h];exact hR2,fun i=> ?_⟩
  rw [jfD]
  exact hc i
 | da l=>
  simp only [jo9] at h
  split at h
  ·rename_i σ1 hd
   simp only [j4,j8,kf] at h
   subst h
   obtain ⟨S',hR',hc'⟩:=jiZ l σ σ1 S hR hc hd
   exact ⟨S',γ,hR',hc'⟩
  ·simp at h
theorem jca {R:Type} {r:R}:∀ {gs:List Gh} {σ:St} {S:j0c} {γ:Nat→Value} {k:St→Option R},Rel N np S0 w0 refs σ a w S γ→j3z σ→jgo np gs σ k=some r→
  ∃ σ' S' γ',Rel N np S0 w0 refs σ' a w S' γ'∧j3z σ'∧k σ'=some r
 | [],σ,S,γ,k,hR,hc,h=>⟨σ,S,γ,hR,hc,h⟩
 | g::gs,σ,S,γ,k,hR,hc,h=>by
  simp only [jgo] at h
  split at h
  ·rename_i b σ1 hg
   cases b with
   | false=>simp at h
   | true=>
    obtain ⟨S1,γ1,hR1,hc1⟩:=jlU hR hc hg
    exact jca hR1 hc1 h
  ·simp at h
end
section
variable {N:NT} {np:Nat} {S0:j0c} {w0:World} {refs:Refs} {σ:St} {a:Go.Act} {w:World} {S:j0c} {γ:Nat→Value}
def exOf:Ex→Exit
 | .normal=> .normal
 | .exit i=> .exit i
 | .ret=> .ret
def j2n:Nat→Code→List (Nat×Code)
 | b,.seq x y=>j2n b x++j2n b y
 | b,.cond _ x y=>j2n b x++j2n b y
 | _,.block id c=>j2n id c
 | b,.loop c=>(b,c)::j2n b c
 | b,.rangeFunc g ps x y=>[(b,.rangeFunc g ps x y)]
 | b,.scope c=>j2n b c
 | _,_=>[]
def jkB (E:Env) (b:Nat) (c:Code):Prop:=
 ∀ (s:Snap) (R:Type) (k:Ex→Snap→Option R) (r:R),E.L b s R k=some r→∃ n e s',loopN (joa E b c) n s=some (e,s')∧k e s'=some r
theorem jqw (p:Nat→Prop):∀ n,p n→∃ m,p m∧∀ j,p j→m≤j:=by
 intro n
 induction n using Nat.strongRecOn with
 | _ n ih=>
  intro h
  by_cases hj:∃ j,j<n∧p j
  ·obtain ⟨j,hj,hp⟩:=hj
   exact ih j hj hp
  ·exact ⟨n,h,fun j hp=>Nat.le_of_not_lt fun hl=>hj ⟨j,hl,hp⟩⟩
open Classical in
noncomputable def jmP (p:Nat→Prop):Nat:=if h:∃ n,p n then (jqw p h.choose h.choose_spec).choose else 0
theorem jgO {p:Nat→Prop} {n:Nat} (h:p n):p (jmP p)∧jmP p≤n:=by
 unfold jmP
 have hx:∃ n,p n:=⟨n,h⟩
 rw [dif_pos hx]
 exact ⟨(jqw p hx.choose hx.choose_spec).choose_spec.1,(jqw p hx.choose hx.choose_spec).choose_spec.2 n h⟩
theorem jkC {P:Program} {F:Fence} {n0:Nat} {Q:Exit→Go.Act→World→Prop} {c:Code} (I:Nat→Go.Act→World→Prop) {n:Nat} (h₀:I n a w)
  (round:∀ n a w,I n a w→c.wpIn F n0 P (Exit.then (fun a' w'=>∃ m,m<n∧I m a' w') Q) a w):(Code.loop c).wpIn F n0 P Q a w:=by
 refine wpIn_loop (fun a w=>∃ n,I n a w) (fun a w=>jmP fun n=>I n a w) ⟨n,h₀⟩ (fun a w hI=> ?_)
 obtain ⟨m,hm⟩:=hI
 have hl:=(jgO (p:=fun n=>I n a w) hm).1
 refine wpIn_mono (round _ a w hl) (fun e a' w' h=> ?_)
 cases e with
 | normal=>
  obtain ⟨m',hlt,hI'⟩:=h
  exact ⟨⟨m',hI'⟩,Nat.lt_of_le_of_lt (jgO (p:=fun n=>I n a' w') hI').2 hlt⟩
 | _=>exact h
def jgP (w0:World) (refs:Refs):Prop:=
 refs.ds.Nodup∧∀ d∈refs.ds,∃ D,d={ target:= .collected D,args:=#[] }∧w0.heap.size≤D∧refs.kw D=some (.deferred (some []))
structure jfF (w0:World) (refs refs':Refs):Prop where
 blks:refs'.blks=refs.blks
 val:refs'.val=refs.val
 fix:refs'.fix=refs.fix
 marks:jgP w0 refs'
theorem jfF.trans {r r' r'':Refs} (h:jfF w0 r r') (h':jfF w0 r' r''):jfF w0 r r'':=⟨h'.blks.trans h.blks,h'.val.trans h.val,h'.fix.trans h.fix,h'.marks⟩
def Post (E:Env) (S0:j0c) (w0:World) (refs:Refs) (pl:Bool) {R:Type} (k:Ex→St→Option R) (r:R):Exit→Go.Act→World→Prop:=
 fun e a' w'=>∃ refs' ex σ' S' γ',jfF w0 refs refs'∧(pl=true→refs'=refs)∧exOf ex=e∧Rel E.N E.np S0 w0 refs' σ' a' w' S' γ'∧j3z σ'∧k ex σ'=some r
theorem jmQ {E:Env} {pl:Bool} {R:Type} {k:Ex→St→Option R} {r:R}:¬ LetsOut (Post E S0 w0 refs pl k r):=by
 rintro ⟨a,w,refs',ex,_,_,_,_,_,he,_⟩
 cases ex<;>simp [exOf] at he
def BwOK (P:Program) (f:Nat) (t:Ty):Prop:=
 Fun P f∧∀ (cv:Array Value) (m l:Nat) (J:Nat→j0c→World→Prop) (Jx:World→Prop) (W:World) (S:j0c),
  (∀ j S W S' W',Grew W W'→jnH S W S' W'→J j S W→J j S' W')→(∀ W W',Grew W W'→Jx W→Jx W')→(∀ j S W,J j S W→∀ g o,S g o→g<W.heap.size)→
  (∀ j S W,j<m→J j S W→∃ xs:List t.den,All2 (j6o S W) [.p [⟨.list t,xs⟩]] cv.toList∧m-1-j<xs.length∧∀ S' W' x v,Grew W W'→jnH S W S' W'→xs[m-1-j]? = some x→VRep S' W' ⟨t,x⟩ v→
   YieldAt (FR none) 0 P l #[.int .i64 ((m-1-j:Nat):Int),v] W' fun e W'=>(e = .returned (.bool true)∧∃ S',J (j+1) S' W')∨(e = .returned (.bool false)∧Jx W'))→
  (∃ (S':j0c) (xs:List t.den),xs.length=m∧(∀ g o,S' g o→g<W.heap.size)∧All2 (j6o S' W) [.p [⟨.list t,xs⟩]] cv.toList)→J 0 S W→
  CallsIn (FR none) 0 P f (#[.func (.yield l) #[] #[]]++cv) W fun e W'=>(∃ v,e = .returned v)∧((∃ S',J m S' W')∨Jx W')
def ItOK (P:Program) (f:Nat) (kd:Bool) (t:Ty):Prop:=
 Fun P f∧∀ (cv:Array Value) (l:Nat) (J:Int→j0c→World→Prop) (Je Jx:World→Prop) (W:World) (S:j0c) (xs0:List t.den),
  (∀ c S W S' W',Grew W W'→jnH S W S' W'→J c S W→J c S' W')→(∀ W W',Grew W W'→Je W→Je W')→(∀ W W',Grew W W'→Jx W→Jx W')→(∀ c S W,J c S W→∀ g o,S g o→g<W.heap.size)→
  (∀ c S W,J c S W→∃ xs:List t.den,All2 (j6o S W) [.p [⟨.list t,xs⟩]] cv.toList∧(jrF kd xs.length c=true→Je W)∧
   (jrF kd xs.length c=false→itOk kd xs.length c=true∧∀ S' W' vs,Grew W W'→jnH S W S' W'→All2 (VRep S' W') (jk9 kd t xs c) vs→
    YieldAt (FR none) 0 P l vs.toArray W' fun e W'=>(e = .returned (.bool true)∧∃ S',J (jk8 kd c) S' W')∨(e = .returned (.bool false)∧Jx W')))→
  (∃ S',(∀ g o,S' g o→g<W.heap.size)∧All2 (j6o S' W) [.p [⟨.list t,xs0⟩]] cv.toList)→J (jgp kd xs0.length) S W→
  CallsIn (FR none) 0 P f (#[.func (.yield l) #[] #[]]++cv) W fun e W'=>(∃ v,e = .returned v)∧(Je W'∨Jx W')
theorem jtB {P:Program} {f:Nat} {t:Ty} (h:BwOK P f t):ItOK P f false t:=by
 refine ⟨h.1,fun cv l J Je Jx W S xs0 hst hse hsx hh hY hcap hJ0=> ?_⟩
 obtain ⟨S',hS',hc'⟩:=hcap
 refine CallsIn.mono (h.2 cv xs0.length l (fun j S W=>j≤xs0.length∧J ((xs0.length:Int)-j) S W) Jx W S (fun j S W S' W' hg hs hj=>⟨hj.1,hst _ _ _ _ _ hg hs hj.2⟩) hsx (fun j S W hj=>hh _ _ _ hj.2) ?_ ⟨S',xs0,rfl,hS',hc'⟩ ⟨k7 _,?_⟩) ?_
 ·rintro j S W hj ⟨_,hJ⟩
  obtain ⟨xs,h1,_,h3⟩:=hY _ _ _ hJ
  obtain ⟨h4,h5⟩:=h3 (by show decide _=false;exact decide_eq_false (by omega))
  have h4:(xs0.length:Int)-j≤Int.ofNat xs.length:=ky h4
  have h4:(xs0.length:Int)-j≤(xs.length:Int):=h4
  refine ⟨xs,h1,by omega,fun S' W' x v hg hs hx hv=> ?_⟩
  have hv2:All2 (VRep S' W') (jk9 false t xs ((xs0.length:Int)-j)) [.int .i64 ((xs0.length-1-j:Nat):Int),v]:=by
   refine ⟨⟨?_,fun hm=>absurd hm (show ¬ j96 (.int .i64)=true by decide),fun _=>rfl⟩,?_,trivial⟩
   ·show [Value.int .i64 ((xs0.length-1-j:Nat):Int)]=[Value.int .i64 ((xs0.length:Int)-j-1)]
    rw [show ((xs0.length-1-j:Nat):Int)=(xs0.length:Int)-j-1 by omega]
   ·have e:List.getD xs ((xs0.length:Int)-j-1).toNat t.dflt=x:=by
     rw [show ((xs0.length:Int)-j-1).toNat=xs0.length-1-j by omega]
     simp [List.getD,hx]
    rw [e];exact hv
  obtain ⟨fn,tmps,as,bo,hy,hR⟩:=h5 S' W' _ hg hs hv2
  refine ⟨fn,tmps,as,bo,hy,hR.mono fun e W' he=> ?_⟩
  rcases he with ⟨h6,S6,h7⟩ | h6
  ·refine .inl ⟨h6,S6,by omega,?_⟩
   have e2:jk8 false ((xs0.length:Int)-j)=(xs0.length:Int)-((j+1:Nat):Int):=by show (xs0.length:Int)-j-1=_;omega
   rw [←e2];exact h7
  ·exact .inr h6
 ·have:((xs0.length:Int)-((0:Nat):Int))=jgp false xs0.length:=by show _=Int.ofNat xs0.length;simp
  rw [this];exact hJ0
 ·rintro e W' ⟨hv,⟨S',_,hJ⟩ | hx⟩
  ·obtain ⟨xs,_,h2,_⟩:=hY _ _ _ hJ
   exact ⟨hv,.inl (h2 (by show decide _=true;exact zf (by omega)))⟩
  ·exact ⟨hv,.inr hx⟩
def jp3 (P:Program) (E:Env) (ro:Option Nat) (c:Code):Prop:=
 ∀ (b n:Nat) {S0:j0c} {w0:World} {refs:Refs} {σ:St} {a:Go.Act} {w:World} {S:j0c} {γ:Nat→Value} {R:Type} {k:Ex→St→Option R} {r:R},jgP w0 refs→
  (∀ x∈j2n b c,jkB E x.1 x.2)→Rel E.N E.np S0 w0 refs σ a w S γ→j3z σ→j10 E b c σ k=some r→c.wpIn (FR ro) n P (Post E S0 w0 refs (j1N c) k r) a w
theorem j5m:∀ (c:Code) (b:Nat),j1N c=true→j2n b c=[]
 | .seq x y,b,h=>by simp only [j1N,ja] at h;simp [j2n,j5m x b h.1,j5m y b h.2]
 | .cond _ x y,b,h=>by simp only [j1N,ja] at h;simp [j2n,j5m x b h.1,j5m y b h.2]
 | .block id c,b,h=>by simp only [j1N] at h;simp [j2n,j5m c id h]
 | .loop c,b,h=>by simp [j1N] at h
 | .rangeFunc _ _ _ _,b,h=>by simp [j1N] at h
 | .skip,_,_=>rfl
 | .region _ _ _,_,_=>rfl
 | .exit _,_,_=>rfl
 | .goto _,_,_=>rfl
 | .label _,_,_=>rfl
 | .ret,_,_=>rfl
 | .scope c,b,h=>by simp only [j1N] at h;simp [j2n,j5m c b h]
theorem jp4:∀ (L:List (Nat×Value)) (T:Array Value),jbE (L.map (·.1))=true→(∀ q∈L,q.1<T.size)→
  (∀ q∈L,(L.foldl (fun t (q:Nat×Value)=>t.setIfInBounds q.1 q.2) T).getD q.1 undef=q.2)∧(∀ i,i∉L.map (·.1)→(L.foldl (fun t (q:Nat×Value)=>t.setIfInBounds q.1 q.2) T).getD i undef=T.getD i undef)∧
  (L.foldl (fun t (q:Nat×Value)=>t.setIfInBounds q.1 q.2) T).size=T.size
 | [],T,_,_=>⟨fun q h=>by simp at h,fun _ _=>rfl,rfl⟩
 | q::r,T,hn,hb=>by
  simp only [ku,jbE,ja,kj,kc,k9] at hn
  obtain ⟨h1,h2,h3⟩:=jp4 r (T.setIfInBounds q.1 q.2) hn.2 (fun p hp=>by simpa using hb p (by simp [hp]))
  have hq:=hb q (by simp)
  refine ⟨fun p hp=> ?_,fun i hi=> ?_,by simpa using h3⟩
  ·rcases je.1 hp with rfl | hp
   ·show (List.foldl (fun t (q:Nat×Value)=>t.setIfInBounds q.1 q.2) (T.setIfInBounds p.1 p.2) r).getD p.1 undef=_
    rw [h2 p.1 hn.1]
    simp [Array.getD,hq]
   ·exact h1 p hp
  ·simp only [ku,je,not_or] at hi
   show (List.foldl (fun t (q:Nat×Value)=>t.setIfInBounds q.1 q.2) (T.setIfInBounds q.1 q.2) r).getD i undef=_
   rw [h2 i hi.2]
   rw [qc,Array.getElem?_setIfInBounds,if_neg (fun h=>hi.1 h.symm),←qc]
theorem jmR {N:NT} {np:Nat}:∀ (L:List (Nat×TV)) {σ:St},Rel N np S0 w0 refs σ a w S γ→j3z σ→(∀ q∈L,VRep S w q.2 (tm a q.1))→Rel N np S0 w0 refs (setL L σ) a w S γ∧j3z (setL L σ)
 | [],_,hR,hc,_=>⟨hR,hc⟩
 | q::r,σ,hR,hc,hv=>by
  have h1:=jiY hR (s:=q.1) (x:= .one (jbC q.2.t q.2.v)) (jcF (hv q (by simp)))
  refine jmR r h1 (fun i=> ?_) (fun p hp=>hv p (by simp [hp]))
  simp only [St.setS]
  split
  ·rfl
  ·exact hc i
theorem jkD {S:j0c} {w:World}:∀ {ps:List Nat} {xs:List TV} {vs:List Value},All2 (VRep S w) xs vs→∀ q∈ps.zip xs,∃ v,(q.1,v)∈ps.zip vs∧VRep S w q.2 v
 | [],_,_,_,q,h=>by simp at h
 | p::ps,[],vs,_,q,h=>by simp at h
 | p::ps,x::xs,[],h2,q,h=>h2.elim
 | p::ps,x::xs,v::vs,h2,q,h=>by
  simp only [List.zip_cons_cons,je] at h
  rcases h with rfl | h
  ·exact ⟨v,by simp,h2.1⟩
  ·obtain ⟨u,h3,h4⟩:=jkD h2.2 q h
   exact ⟨u,by simp [h3],h4⟩
theorem jkE:∀ (ps:List Nat) (vs:List Value),jbE ps=true→jbE ((ps.zip vs).map (·.1))=true
 | [],_,_=>by simp [jbE]
 | p::ps,[],_=>by simp [jbE]
 | p::ps,v::vs,h=>by
  simp only [jbE,ja,kj,kc,k9,List.zip_cons_cons,ku] at h ⊢
  refine ⟨fun hm=>h.1 ?_,jkE ps vs h.2⟩
  obtain ⟨q,hq,he⟩:=kv.1 hm
  rw [←he];exact (List.of_mem_zip hq).1
theorem js4 {kd:Bool} {t:Ty} {xs:List t.den} {c:Int} (h:kd=true→t=segT):(jk9 kd t xs c).length=cond kd 1 2:=by
 cases kd with
 | false=>rfl
 | true=>have:=h rfl;subst this;rfl
theorem jqx {P:Program} {E:Env} (hbw:∀ f t,E.bw f=some t→ItOK P f t.1 t.2) (hpin:E.N.pin=fun _=>false) {b n:Nat} {g:Operand} {ps:Array Nat} {x y:Code}
  (ihx:∀ l,j1N x=true→jp3 P (E.rnd ps x y) (some l) x) (ihy:∀ l,j1N y=true→jp3 P (E.rnd ps x y) (some l) y)
  (hLO:jkB E b (.rangeFunc g ps x y)) {R:Type} {k:Ex→St→Option R} {r:R} (hm:jgP w0 refs) (hR:Rel E.N E.np S0 w0 refs σ a w S γ) (hc:j3z σ)
  (h:j10 E b (.rangeFunc g ps x y) σ k=some r) :
  (Code.rangeFunc g ps x y).wpIn (FR none) n P (Post E S0 w0 refs (j1N (.rangeFunc g ps x y)) k r) a w:=by
 refine jsF (n:=1) ?_
 simp only [j10] at h
 split at h
 case h_2=>simp at h
 rename_i f t xs hev
 split at h
 case h_2=>simp at h
 rename_i kd hok
 split at h
 case h_2=>simp at h
 rename_i s hs
 obtain ⟨fu0,e,s',hloop,hk⟩:=hLO _ R _ r h
 have hrep:=jc0 hR g
 rw [hev] at hrep
 obtain ⟨⟨cv,hgv,hcv⟩,_⟩:=hrep
 obtain ⟨S1,γ1,hR1,hc1⟩:=j6I hR hc hs
 have parts:∀ f t kd,rfK E b f t ps x y=some kd→E.bw f=some (kd,t)∧(kd=true→t=segT)∧ps.toList.length=cond kd 1 2∧jbE ps.toList=true∧(∀ p∈ps.toList,p<E.N.n)∧j1N x=true∧j1N y=true∧pinK ps x y (E.keep b)=true:=by
  intro f t kd hok
  unfold rfK at hok
  split at hok
  case h_2=>simp at hok
  rename_i q hq
  cases hcnd:(decide (q.2=t)&&(cond q.1 (decide (t=segT)) true&&(decide (ps.toList.length=cond q.1 1 2)&&(jbE ps.toList&&(ps.toList.all (fun p=>decide (p<E.N.n))&&(j1N x&&(j1N y&&pinK ps x y (E.keep b)))))))) with
  | false=>rw [hcnd] at hok;simp at hok
  | true=>
  rw [hcnd,j5,j4] at hok
  subst hok
  simp only [ja,jk,jj] at hcnd
  obtain ⟨h1,h0,h2,h3,h4,h5,h6,h7⟩:=hcnd
  exact ⟨by rw [hq,←h1],fun hk=>by rw [hk] at h0;exact ky h0,h2,h3,h4,h5,h6,h7⟩
 obtain ⟨hbf,hsg,h2,hnd,hlt,hpx,hpy,hpk⟩:=parts f t kd hok
 obtain ⟨⟨fn',hfn',hbody,hnm⟩,hit⟩:=hbw f _ hbf
 have heg:∀ args w,(callFunc f args).run P w = .ok (.enter f args) w:=fun args w=>by
  have h2':¬ fn'.body=none:=fun hn=>by rw [hn] at hbody;simp at hbody
  have h3' : ¬ fn'.name = "runtime.NumGoroutine" := by simpa using hnm
  simp [callFunc,hfn',h2',h3']
 refine wpIn_rangeFunc fun fn _=> ?_
 obtain ⟨rec,hrec⟩:∃ rec:LoopState→Option Code→Loop,rec=fun st pe=>{ state:=st,pending:=pe,fn,tmps:=a.tmps,params:=ps,assign:=x,body:=y,defers:=w.heap.size }:=⟨_,rfl⟩
 obtain ⟨W1,hW1⟩:∃ W1,(w.alloc (.deferred (some []))).alloc (.loop (rec .ready none))=W1:=⟨_,rfl⟩
 refine ⟨w.heap.size+1,[{ target:= .collected w.heap.size,args:=#[] }],W1,{ target:= .fn (.func f) cv,args:=#[.func (.yield (w.heap.size+1)) #[] #[]] },W1,f,
  #[.func (.yield (w.heap.size+1)) #[] #[]]++cv,W1,?_,?_,fun _ _=>trivial,?_,fun hd=>by simp [FR,Fence.wide] at hd,?_⟩
 ·rw [←hW1,hrec];exact run_enterLoop_outer _ _ _ _ _
 ·simp only [resolve,hgv]
  simp [go_sem]
 ·simp [invoke,go_sem,heg]
 obtain ⟨l,hl⟩:∃ l,l=w.heap.size+1:=⟨_,rfl⟩
 rw [←hl]
 let refsK:(Nat→Option Value)→Obj→Refs:=fun fx o=>{ blks:=refs.blks,val:=refs.val,ds:=[],kw:=fun g=>if g=l then some o else if g=w.heap.size then some (.deferred (some [])) else refs.kw g,fix:=fx }
 let fx:Nat→Option Value:=fun i=>if jnj ps x y i then some (a.tmps.getD i undef) else none
 let aI:Go.Act:={ tmps:=a.tmps,defers:=[] }
 have hkl:∀ fx o,(refsK fx o).kw l=some o:=fun fx o=>by simp [refsK]
 have hwl:w0.heap.size≤l:=by have:=hR.grow;omega
 have hmk:∀ fx o,jgP w0 (refsK fx o):=fun fx o=>⟨ze,fun d hd=>by simp [refsK] at hd⟩
 have hput:∀ {N:NT} {fx:Nat→Option Value} {o o':Obj} {σ:St} {a:Go.Act} {W:World} {S:j0c} {γ:Nat→Value},o.isCells=false→o'.isCells=false→Rel N E.np S0 w0 (refsK fx o) σ a W S γ→
   Rel N E.np S0 w0 (refsK fx o') σ a (W.putObj l o') S γ:=by
  intro N fx o o' σ a W S γ h1 h2 hR
  have:=hR.putO (hkl fx o) hwl h1 h2
  refine this.swap rfl rfl this.size this.defers this.slot (fun g u hg=>this.kept g u ?_) this.fix
  simp only [refsK] at hg ⊢
  split
  ·rename_i e;subst e;simpa using hg
  ·rename_i e;simpa [e] using hg
 have hframe:∀ {N N':NT} {fx fx':Nat→Option Value} {o:Obj} {K:Keep} {s:Snap} {a a':Go.Act} {W:World} {S:j0c} {γ:Nat→Value},Rel N E.np S0 w0 (refsK fx o) (j1y E.np K s) a W S γ→a'.tmps.size=N'.n→a'.defers=[]→
   (∀ i∈K.slots,tm a' i=tm a i)→(∀ i v,fx' i=some v→N'.pin i=true∧a'.tmps.getD i undef=v)→Rel N' E.np S0 w0 (refsK fx' o) (j1y E.np K s) a' W S γ:=by
  intro N N' fx fx' o K s a a' W S γ hR h1 h2 h3 h4
  exact hR.frame rfl rfl h1 h2 h3 (fun g u hg=>hR.kept g u hg) h4
 have hnofix:∀ i v,(fun _=>none:Nat→Option Value) i=some v→E.N.pin i=true∧aI.tmps.getD i undef=v:=fun i v h=>by simp at h
 let J:Int→j0c→World→Prop:=fun c S W=>∃ s γ fu,Rel E.N E.np S0 w0 (refsK (fun _=>none) (.loop (rec .ready none))) (j1y E.np (E.keep b) s) aI W S γ∧j3z (j1y E.np (E.keep b) s)∧
  loopN (jig E b g ps x y) fu (.s (.one (.d (.int .i64) c))::s)=some (e,s')
 let Je:World→Prop:=fun W=>∃ S γ,Rel E.N E.np S0 w0 (refsK (fun _=>none) (.loop (rec .ready none))) (j1y E.np (E.keepX b e) s') aI W S γ∧j3z (j1y E.np (E.keepX b e) s')∧e = .normal
 let Jx:World→Prop:=fun W=>∃ S γ c,Rel E.N E.np S0 w0 (refsK (fun _=>none) (.loop (rec .done (some c)))) (j1y E.np (E.keepX b e) s') aI W S γ∧j3z (j1y E.np (E.keepX b e) s')∧
  ((e = .ret∧c = .ret)∨∃ i,e = .exit i∧c = .exit i)
 have hpin1:∀ K:Keep,pinK ps x y K=true→∀ i∈K.slots,jnj ps x y i=true:=fun K hK i hi=>jj.1 hK i hi
 have hpnot:∀ i,jnj ps x y i=true→i∉ps.toList:=by
  intro i hi
  simp only [jnj,ja,kj,kc,k9] at hi
  exact hi.1
 have hJ0:J (jgp kd xs.length) S1 W1:=by
  refine ⟨s,γ1,fu0,?_,hc1,hloop⟩
  have hA:=(hR1.allocO (.deferred (some []))).allocO (.loop (rec .ready none))
  rw [hW1] at hA
  refine hA.frame rfl rfl hR.size rfl (fun i _=>rfl) (fun g' u hg'=> ?_) hnofix
  simp only [refsK] at hg'
  split at hg'
  ·rename_i e';simp only [j4] at hg';subst hg'
   rw [e',hl]
   refine ⟨?_,fun k' b' hb' hbk=> ?_⟩
   ·rw [←hW1];have:=World.alloc_heap_new (w.alloc (.deferred (some []))) (.loop (rec .ready none));rwa [World.size_alloc] at this
   ·have:=j4B (hR1.box k' b' hb') hbk;omega
  ·split at hg'
   ·rename_i _ e';simp only [j4] at hg';subst hg'
    rw [e']
    refine ⟨?_,fun k' b' hb' hbk=> ?_⟩
    ·rw [←hW1];exact (heap_alloc_old _ _ (by simp)).trans (World.alloc_heap_new w _)
    ·have:=j4B (hR1.box k' b' hb') hbk;omega
   ·exact hA.kept g' u hg'
 have haI:aI.eval g=a.eval g:=by cases g<;>rfl
 have hsz0:aI.tmps.size=E.N.n:=hR.size
 have hgrx:∀ {K:Keep} {s:Snap} {o:Obj} {W W':World} {S:j0c} {γ:Nat→Value},Grew W W'→Rel E.N E.np S0 w0 (refsK (fun _=>none) o) (j1y E.np K s) aI W S γ→Rel E.N E.np S0 w0 (refsK (fun _=>none) o) (j1y E.np K s) aI W' S γ:=
  fun hg h1=>h1.grew hg ⟨fun _ _ h=>h,fun _ _ h=> .inl h,fun g o h=>kq (h1.here g o h) hg.size⟩
 refine CallsIn.mono (hit cv l J Je Jx W1 S1 xs (fun c S W S' W' hg hs ⟨s,γ,fu,h1,h2,h3⟩=>⟨s,γ,fu,h1.grew hg hs,h2,h3⟩) (fun W W' hg ⟨S,γ,h1,h2⟩=>⟨S,γ,hgrx hg h1,h2⟩) (fun W W' hg ⟨S,γ,c,h1,h2⟩=>⟨S,γ,c,hgrx hg h1,h2⟩)
  (fun c S W ⟨s,γ,fu,h1,_⟩=>h1.here) ?_ ?_ hJ0) ?_
 ·-- a round
  rintro cn S W ⟨s,γ,fu,hRj,hcj,hlp⟩
  cases fu with
  | zero=>simp [loopN] at hlp
  | succ fu=>
  simp only [loopN] at hlp
  cases hst:jig E b g ps x y (.s (.one (.d (.int .i64) cn))::s) with
  | none=>rw [hst] at hlp;simp at hlp
  | some r0=>
  rw [hst] at hlp
  unfold jig jgq at hst
  dsimp only at hst
  split at hst
  case h_2=>simp at hst
  rename_i f' t' xs' hev'
  split at hst
  case h_2=>simp at hst
  rename_i kd' hok'
  have hrep':=jc0 hRj g
  rw [hev',haI,hgv] at hrep'
  obtain ⟨⟨cv',hgv',hcap⟩,_⟩:=hrep'
  simp only [Value.func.injEq,Fn.func.injEq,kf] at hgv'
  obtain ⟨rfl,rfl⟩:=hgv'
  have ht:=(parts f t' kd' hok').1
  rw [hbf] at ht
  simp only [j4,j8] at ht
  obtain ⟨rfl,rfl⟩:=ht
  refine ⟨xs',hcap,fun hfi=> ?_,fun hfi=> ?_⟩
  ·rw [hfi,j5] at hst
   cases hpx':pinK ps x y (E.keepX b .normal) with
   | false=>rw [hpx'] at hst;simp at hst
   | true=>
   rw [hpx',j5] at hst
   split at hst
   case h_2=>simp at hst
   rename_i s3 hs3
   simp only [j4] at hst;subst hst
   simp only [j4,j8] at hlp
   obtain ⟨rfl,rfl⟩:=hlp
   obtain ⟨S5,γ5,hR5,hc5⟩:=j6I hRj hcj hs3
   exact ⟨S5,γ5,hR5,hc5,rfl⟩
  rw [hfi,j6] at hst
  cases hle:itOk kd xs'.length cn with
  | false=>rw [hle] at hst;simp at hst
  | true=>
  rw [hle,j5] at hst
  refine ⟨rfl,fun Sg Wg vs hgw hgs hvs=> ?_⟩
  have hRj:=hRj.grew hgw hgs
  have hvl:vs.toArray.size=ps.size:=by
   have e1:=hvs.length
   rw [js4 hsg] at e1
   simp only [za]
   rw [←e1,←h2,kz]
  refine ⟨fn,_,x,y,by have:=run_yield (P:=P) (args:=vs.toArray) (hRj.kept l _ (hkl _ _)).1 (by rw [hrec];exact hvl);rw [hrec] at this;exact this,roundIn_of_wpIn trivial ?_⟩
  let a1:Go.Act:={ tmps:=(ps.zip vs.toArray).foldl (fun t (q:Nat×Value)=>t.setIfInBounds q.1 q.2) a.tmps,defers:=[] }
  have hzl:(ps.zip vs.toArray).toList=ps.toList.zip vs:=by simp
  have ha1:a1.tmps=(ps.toList.zip vs).foldl (fun t (q:Nat×Value)=>t.setIfInBounds q.1 q.2) a.tmps:=by
   show (ps.zip vs.toArray).foldl _ _=_
   rw [←Array.foldl_toList,hzl]
  have hsub:∀ i,i∈(ps.toList.zip vs).map (·.1)→i∈ps.toList:=fun i hi=>by
   obtain ⟨q,hq,rfl⟩:=kv.1 hi
   exact (List.of_mem_zip hq).1
  have hndz:jbE ((ps.toList.zip vs).map (·.1))=true:=jkE _ _ hnd
  obtain ⟨htp,hto,htz⟩:=jp4 (ps.toList.zip vs) a.tmps hndz (fun q hq=>by rw [hR.size];exact hlt _ (List.of_mem_zip hq).1)
  rw [←ha1] at htp hto htz
  have hszr:a1.tmps.size=E.N.n:=htz.trans hR.size
  have htm:∀ i,i∉ps.toList→tm a1 i=tm aI i:=fun i hi=>hto i (fun h=>hi (hsub i h))
  have hRa:Rel (E.rnd ps x y).N E.np S0 w0 (refsK fx (.loop (rec .ready none))) (j1y E.np (E.keep b) s) a1 Wg Sg γ:=hframe hRj hszr rfl (fun i hi=>htm i (hpnot i (hpin1 _ hpk i hi))) (fun i u hu=>by
   simp only [fx] at hu
   split at hu
   ·rename_i hp
    simp only [j4] at hu
    refine ⟨hp,?_⟩
    show tm a1 i=u
    rw [htm i (hpnot i hp)];exact hu
   ·simp at hu)
  obtain ⟨hRc,hcr⟩:=jmR (ps.toList.zip (jk9 kd t xs' cn)) hRa hcj (fun q hq=>by
   obtain ⟨v,h3,h4⟩:=jkD hvs q hq
   have:=htp _ h3
   show VRep Sg Wg q.2 (a1.tmps.getD q.1 undef)
   rw [this];exact h4)
  refine wpIn_mono (ihx l hpx 0 0 (hmk _ _) (by rw [j5m x 0 hpx];simp) hRc hcr hst) ?_
  rintro e1 a2 w2 ⟨refs2,ex,σ2,S2,γ2,_,hpl,rfl,hR2,hc2,hk2⟩
  have:=hpl hpx
  subst this
  cases ex with
  | exit i=>simp at hk2
  | ret=>simp at hk2
  | normal=>
  refine ⟨_,run_beginRound (hR2.kept l _ (hkl _ _)).1 (by rw [hrec]),?_⟩
  have hR3:Rel (E.rnd ps x y).N E.np S0 w0 (refsK fx (.loop (rec .busy none))) σ2 a2 (w2.putObj l (.loop { rec .ready none with state:= .busy })) S2 γ2:=by
   have:=hput (o':= .loop (rec .busy none)) rfl rfl hR2
   rw [hrec] at this ⊢
   exact this
  refine wpIn_mono (ihy l hpy 0 0 (hmk _ _) (by rw [j5m y 0 hpy];simp) hR3 hc2 hk2) ?_
  rintro e1 a3 w3 ⟨refs3,ex,σ3,S3,γ3,_,hpl,rfl,hR4,hc4,hk4⟩
  have:=hpl hpy
  subst this
  have hback:∀ {K:Keep} {s:Snap} {o:Obj} {W:World} {S:j0c} {γ:Nat→Value},pinK ps x y K=true→Rel (E.rnd ps x y).N E.np S0 w0 (refsK fx o) (j1y E.np K s) a3 W S γ→
    Rel E.N E.np S0 w0 (refsK (fun _=>none) o) (j1y E.np K s) aI W S γ:=fun hK hR=>hframe hR hsz0 rfl (fun i hi=>by
   have:=(hR.fix i (a.tmps.getD i undef) (by simp only [refsK,fx];rw [if_pos (hpin1 _ hK i hi)])).2
   exact this.symm) hnofix
  have hleave:∀ (ex:Ex) (c:Code),((ex = .ret∧c = .ret)∨∃ i,ex = .exit i∧c = .exit i)→
    (cond (pinK ps x y (E.keepX b ex)) (match j6P E.np (E.keepX b ex) σ3 with
     | some s'=>some (Sum.inr (ex,s'))
     | none=>none) none:Option (Snap ⊕ Ex×Snap))=some r0→
    ∃ v w',(Instr.endRound l (some c)).run P w3 = .ok v w'∧((Ending.returned v = .returned (.bool true)∧∃ S',J (jk8 kd cn) S' w')∨(Ending.returned v = .returned (.bool false)∧Jx w')):=by
   intro ex c hex hk5
   cases hpx':pinK ps x y (E.keepX b ex) with
   | false=>rw [hpx'] at hk5;simp at hk5
   | true=>
   rw [hpx',j5] at hk5
   split at hk5
   case h_2=>simp at hk5
   rename_i s2 hs2
   simp only [j4] at hk5;subst hk5
   simp only [j4,j8] at hlp
   obtain ⟨rfl,rfl⟩:=hlp
   obtain ⟨S5,γ5,hR5,hc5⟩:=j6I hR4 hc4 hs2
   refine ⟨_,_,run_endRound (some c) (hR5.kept l _ (hkl _ _)).1,.inr ⟨rfl,S5,γ5,c,?_,hc5,hex⟩⟩
   have:=hput (o':= .loop (rec .done (some c))) rfl rfl (hback hpx' hR5)
   rw [hrec] at this ⊢
   exact this
  cases ex with
  | normal=>
   dsimp only at hk4
   split at hk4
   case h_2=>simp at hk4
   rename_i s2 hs2
   simp only [j4] at hk4;subst hk4
   obtain ⟨S5,γ5,hR5,hc5⟩:=j6I hR4 hc4 hs2
   show ∃ v w',(Instr.endRound l none).run P w3 = .ok v w'∧_
   refine ⟨_,_,run_endRound none (hR5.kept l _ (hkl _ _)).1,.inl ⟨rfl,S5,s2,γ5,fu,?_,hc5,?_⟩⟩
   ·have:=hput (o':= .loop (rec .ready none)) rfl rfl (hback hpk hR5)
    rw [hrec] at this ⊢
    exact this
   ·exact hlp
  | exit i=>exact hleave _ _ (.inr ⟨i,rfl,rfl⟩) hk4
  | ret=>exact hleave _ _ (.inl ⟨rfl,rfl⟩) hk4
 ·refine ⟨S,fun g o h=>by rw [←hW1];have:=hR.here g o h;simp;omega,hcv.mono fun x z hx=> ?_⟩
  rw [←hW1]
  exact j6o.keep (fun g o h=>⟨h,by
   have:=hR.here g o h
   rw [World.cell?_alloc_lt _ _ _ (by simp;omega),World.cell?_alloc_lt _ _ _ this]⟩) hx
 ·rintro e2 W2 ⟨⟨v,rfl⟩,hend⟩
  have hback:∀ {K:Keep} {s:Snap} {o:Obj} {W:World} {S:j0c} {γ:Nat→Value},Rel E.N E.np S0 w0 (refsK (fun _=>none) o) (j1y E.np K s) aI W S γ→
    ∃ refs',jfF w0 refs refs'∧Rel E.N E.np S0 w0 refs' (j1y E.np K s) { a with defers:=[{ target:= .collected w.heap.size,args:=#[] }]++a.defers } W S γ:=by
   intro K s o W S γ hRw
   refine ⟨{ blks:=refs.blks,val:=refs.val,ds:={ target:= .collected w.heap.size,args:=#[] }::refs.ds,kw:=fun g=>if g=w.heap.size then some (.deferred (some [])) else refs.kw g,fix:=refs.fix },⟨rfl,rfl,rfl,?_,?_⟩,?_⟩
   ·refine qd.2 ⟨fun hm'=> ?_,hm.1⟩
    obtain ⟨D,hD,_,hkD⟩:=hm.2 _ hm'
    simp only [Deferred.mk.injEq,Target.collected.injEq,and_true] at hD
    rw [←hD,hR.kw_new (ju _)] at hkD
    simp at hkD
   ·intro d hd
    rcases je.1 hd with rfl | hd
    ·exact ⟨w.heap.size,rfl,hR.grow,by simp⟩
    ·obtain ⟨D,rfl,h1,h2⟩:=hm.2 d hd
     refine ⟨D,rfl,h1,?_⟩
     show (if D=w.heap.size then _ else refs.kw D)=_
     rw [if_neg,h2]
     rintro rfl
     rw [hR.kw_new (ju _)] at h2;simp at h2
   ·refine hRw.frame rfl rfl hR.size (by rw [hR.defers];rfl) (fun i _=>rfl) (fun g' u hg'=>hRw.kept g' u ?_) (fun i v hv=> ?_)
    ·simp only [refsK] at hg' ⊢
     by_cases h1:g'=l
     ·exfalso
      subst h1
      rw [if_neg (by omega),hR.kw_new (by omega)] at hg'
      simp at hg'
     ·rw [if_neg h1];exact hg'
    ·have:=(hR.fix i v hv).1
     rw [hpin] at this;simp at this
  rcases hend with ⟨S2,γ2,hRe,hce,rfl⟩ | ⟨S2,γ2,c,hRx,hcx,hex⟩
  ·refine ⟨none,_,by have:=run_endLoop (P:=P) (hRe.kept l _ (hkl _ _)).1 (by rw [hrec];simp);rw [hrec] at this;exact this,?_⟩
   have hR6:=hput (o':= .loop { rec .ready none with state:= .exhausted }) rfl rfl hRe
   obtain ⟨refs',hle,hRe⟩:=hback hR6
   rw [hrec] at hRe
   exact ⟨refs',.normal,_,S2,γ2,hle,fun hf=>by simp [j1N] at hf,rfl,hRe,hce,hk⟩
  ·have hR6:=hput (o':= .loop { rec .done (some c) with state:= .exhausted }) rfl rfl hRx
   obtain ⟨refs',hle,hRe⟩:=hback hR6
   refine ⟨some c,_,by have:=run_endLoop (P:=P) (hRx.kept l _ (hkl _ _)).1 (by rw [hrec];simp);rw [hrec] at this;exact this,?_⟩
   rw [hrec] at hRe
   rcases hex with ⟨rfl,rfl⟩ | ⟨i,rfl,rfl⟩
   ·exact wpIn_ret ⟨refs',.ret,_,S2,γ2,hle,fun hf=>by simp [j1N] at hf,rfl,hRe,hcx,hk⟩
   ·exact wpIn_exit ⟨refs',.exit i,_,S2,γ2,hle,fun hf=>by simp [j1N] at hf,rfl,hRe,hcx,hk⟩
theorem jnJ {P:Program} (hmix:P.follows .mixedOrders=true):∀ (c:Code) {E:Env} {ro:Option Nat},j22 P E.T→j8P P E.C→CFun E.C→
  (ro=none→(∀ f t,E.bw f=some t→ItOK P f t.1 t.2)∧E.N.pin=fun _=>false)→(ro=none∨j1N c=true)→jp3 P E ro c:=by
 intro c
 induction c with
 | skip=>intro E ro hT hC hF hro hp b n S0 w0 refs σ a w S γ R k r hm hL hR hc h;exact wpIn_skip ⟨refs,.normal,σ,S,γ,⟨rfl,rfl,rfl,hm⟩,fun _=>rfl,rfl,hR,hc,h⟩
 | label l=>intro E ro hT hC hF hro hp b n S0 w0 refs σ a w S γ R k r hm hL hR hc h;exact wpIn_label ⟨refs,.normal,σ,S,γ,⟨rfl,rfl,rfl,hm⟩,fun _=>rfl,rfl,hR,hc,h⟩
 | region rid ops draw=>
  intro E ro hT hC hF hro hp b n S0 w0 refs σ a w S γ R k r hm hL hR hc h
  have hpo:ro=none∨∀ o∈ops.toList,∀ c,o.op ≠ .defer c:=hp.imp id fun hp o ho c hd=>by
   have:=jj.1 hp o ho
   simp [jr7,hd] at this
  cases draw with
  | true=>
   simp only [j10] at h
   obtain ⟨σ,S,γ,hR,hc,h⟩:=jca hR hc h
   exact wpIn_region_any hmix (jmN hpo jmQ _ _ _ _ (jnG hT hC hF hR hc (fun σ' a' w' S' γ' hR' hc' hk=>⟨refs,.normal,σ',S',γ',⟨rfl,rfl,rfl,hm⟩,fun _=>rfl,rfl,hR',hc',hk⟩) h))
  | false=>
   simp only [j10] at h
   obtain ⟨σ,S,γ,hR,hc,h⟩:=jca hR hc h
   exact wpIn_region (jkA hpo jmQ _ _ _ (jkt hT hC hR hc (fun σ' a' w' S' γ' hR' hc' hk=>⟨refs,.normal,σ',S',γ',⟨rfl,rfl,rfl,hm⟩,fun _=>rfl,rfl,hR',hc',hk⟩) h))
 | seq x y ihx ihy=>
  intro E ro hT hC hF hro hp b n S0 w0 refs σ a w S γ R k r hm hL hR hc h
  simp only [j10] at h
  have hpx:ro=none∨j1N x=true:=hp.imp id fun h=>by simp only [j1N,ja] at h;exact h.1
  have hpy:ro=none∨j1N y=true:=hp.imp id fun h=>by simp only [j1N,ja] at h;exact h.2
  refine wpIn_seq (wpIn_mono (ihx hT hC hF hro hpx b n hm (fun z hz=>hL z (by simp [j2n,hz])) hR hc h) ?_)
  rintro e a' w' ⟨refs',ex,σ',S',γ',hle,hpl,rfl,hR',hc',hk⟩
  have hx:j1N (.seq x y)=true→refs'=refs:=fun h=>by simp only [j1N,ja] at h;exact hpl h.1
  cases ex with
  | normal=>
   refine wpIn_mono (ihy hT hC hF hro hpy b n hle.marks (fun z hz=>hL z (by simp [j2n,hz])) hR' hc' hk) ?_
   rintro e2 a2 w2 ⟨refs2,ex,σ2,S2,γ2,hle2,hpl2,rfl,hR2,hc2,hk2⟩
   refine ⟨refs2,ex,σ2,S2,γ2,hle.trans hle2,fun h=> ?_,rfl,hR2,hc2,hk2⟩
   have h1:=hx h
   simp only [j1N,ja] at h
   rw [hpl2 h.2,h1]
  | exit i=>exact ⟨refs',.exit i,σ',S',γ',hle,hx,rfl,hR',hc',hk⟩
  | ret=>exact ⟨refs',.ret,σ',S',γ',hle,hx,rfl,hR',hc',hk⟩
 | cond c x y ihx ihy=>
  intro E ro hT hC hF hro hp b n S0 w0 refs σ a w S γ R k r hm hL hR hc h
  simp only [j10] at h
  have hpx:ro=none∨j1N x=true:=hp.imp id fun h=>by simp only [j1N,ja] at h;exact h.1
  have hpy:ro=none∨j1N y=true:=hp.imp id fun h=>by simp only [j1N,ja] at h;exact h.2
  split at h
  ·rename_i v hv
   have hev:=jc0 hR c
   rw [hv] at hev
   have hcb:a.eval c = .bool v:=j7T hev
   refine wpIn_cond hcb ?_
   cases v with
   | true=>
    refine wpIn_mono (ihx hT hC hF hro hpx b n hm (fun z hz=>hL z (by simp [j2n,hz])) hR hc h) ?_
    rintro e a' w' ⟨refs',ex,σ',S',γ',hle,hpl,he,hr⟩
    exact ⟨refs',ex,σ',S',γ',hle,fun h=>by simp only [j1N,ja] at h;exact hpl h.1,he,hr⟩
   | false=>
    refine wpIn_mono (ihy hT hC hF hro hpy b n hm (fun z hz=>hL z (by simp [j2n,hz])) hR hc h) ?_
    rintro e a' w' ⟨refs',ex,σ',S',γ',hle,hpl,he,hr⟩
    exact ⟨refs',ex,σ',S',γ',hle,fun h=>by simp only [j1N,ja] at h;exact hpl h.2,he,hr⟩
  ·simp at h
 | block id c ih=>
  intro E ro hT hC hF hro hp b n S0 w0 refs σ a w S γ R k r hm hL hR hc h
  simp only [j10] at h
  refine wpIn_block (wpIn_mono (ih hT hC hF hro hp id n hm (fun z hz=>hL z (by simpa [j2n] using hz)) hR hc h) ?_)
  rintro e a' w' ⟨refs',ex,σ',S',γ',hle,hpl,rfl,hR',hc',hk⟩
  cases ex with
  | normal=>exact ⟨refs',.normal,σ',S',γ',hle,hpl,rfl,hR',hc',hk⟩
  | exit i=>
   simp only [exOf,Exit.inBlock]
   simp only at hk
   split
   ·rename_i hi
    rw [if_pos hi] at hk
    exact ⟨refs',.normal,σ',S',γ',hle,hpl,rfl,hR',hc',hk⟩
   ·rename_i hi
    rw [if_neg hi] at hk
    exact ⟨refs',.exit i,σ',S',γ',hle,hpl,rfl,hR',hc',hk⟩
  | ret=>exact ⟨refs',.ret,σ',S',γ',hle,hpl,rfl,hR',hc',hk⟩
 | scope c ih=>
  intro E ro hT hC hF hro hp b n S0 w0 refs σ a w S γ R k r hm hL hR hc h
  simp only [j10] at h
  refine jnI (fun l a w hq=> ?_) (ih hT hC hF hro hp b n hm (fun z hz=>hL z (by simpa [j2n] using hz)) hR hc h)
  obtain ⟨_,ex,_,_,_,_,_,he,_⟩:=hq
  cases ex<;>simp [exOf] at he
 | loop c ih=>
  intro E ro hT hC hF hro hp b n S0 w0 refs σ a w S γ R k r hm hL hR hc h
  have hrn:ro=none:=hp.resolve_right (by simp [j1N])
  simp only [j10] at h
  cases hrf:isRf c with
  | true=>rw [hrf] at h;simp at h
  | false=>
  rw [hrf,j6] at h
  cases hun:E.un b with
  | true=>
   rw [hun,j5] at h
   refine jkC (fun n a w=>∃ refs' σ' S γ,jfF w0 refs refs'∧Rel E.N E.np S0 w0 refs' σ' a w S γ∧j3z σ'∧jfA (fun σ k=>j10 E b c σ k) n σ' k=some r) ⟨refs,σ,S,γ,⟨rfl,rfl,rfl,hm⟩,hR,hc,h⟩ ?_
   rintro m a1 w1 ⟨refs1,σ1,S2,γ2,hle1,hR2,hc2,hm'⟩
   cases m with
   | zero=>simp [jfA] at hm'
   | succ m=>
    simp only [jfA] at hm'
    refine wpIn_mono (ih hT hC hF hro (.inl hrn) b n hle1.marks (fun z hz=>hL z (by simp [j2n,hz])) hR2 hc2 hm') ?_
    rintro e2 a2 w2 ⟨refs2,ex,σ2,S3,γ3,hle2,_,rfl,hR3,hc3,hk3⟩
    cases ex with
    | normal=>exact ⟨m,Nat.lt_succ_self m,refs2,σ2,S3,γ3,hle1.trans hle2,hR3,hc3,hk3⟩
    | exit i=>exact ⟨refs2,.exit i,σ2,S3,γ3,hle1.trans hle2,fun hf=>by simp [j1N] at hf,rfl,hR3,hc3,hk3⟩
    | ret=>exact ⟨refs2,.ret,σ2,S3,γ3,hle1.trans hle2,fun hf=>by simp [j1N] at hf,rfl,hR3,hc3,hk3⟩
  | false=>
  rw [hun,j6] at h
  split at h
  ·rename_i s hs
   obtain ⟨n1,e,s',hn,hk⟩:=hL (b,c) (by simp [j2n]) s R _ r h
   have hstep:joa E b c=jb2 E b c:=by
    funext s
    cases c<;>first | rfl | simp [isRf] at hrf
   rw [hstep] at hn
   obtain ⟨S1,γ1,hR1,hc1⟩:=j6I hR hc hs
   refine jkC (fun n a w=>∃ refs' s S γ,jfF w0 refs refs'∧Rel E.N E.np S0 w0 refs' (j1y E.np (E.keep b) s) a w S γ∧j3z (j1y E.np (E.keep b) s)∧loopN (jb2 E b c) n s=some (e,s')) ⟨refs,s,S1,γ1,⟨rfl,rfl,rfl,hm⟩,hR1,hc1,hn⟩ ?_
   rintro m a1 w1 ⟨refs1,s1,S2,γ2,hle1,hR2,hc2,hm'⟩
   cases m with
   | zero=>simp [loopN] at hm'
   | succ m=>
    simp only [loopN] at hm'
    cases hst:jb2 E b c s1 with
    | none=>simp [hst] at hm'
    | some out=>
     rw [hst] at hm'
     unfold jb2 at hst
     refine wpIn_mono (ih hT hC hF hro (.inl hrn) b n hle1.marks (fun z hz=>hL z (by simp [j2n,hz])) hR2 hc2 hst) ?_
     rintro e2 a2 w2 ⟨refs2,ex,σ2,S3,γ3,hle2,_,rfl,hR3,hc3,hk3⟩
     cases ex with
     | normal=>
      simp only at hk3
      split at hk3
      ·rename_i s2 hs2
       simp only [j4] at hk3;subst hk3
       obtain ⟨S4,γ4,hR4,hc4⟩:=j6I hR3 hc3 hs2
       exact ⟨m,Nat.lt_succ_self m,refs2,s2,S4,γ4,hle1.trans hle2,hR4,hc4,hm'⟩
      ·simp at hk3
     | exit i=>
      simp only at hk3
      split at hk3
      ·rename_i s2 hs2
       simp only [j4] at hk3;subst hk3
       obtain ⟨S4,γ4,hR4,hc4⟩:=j6I hR3 hc3 hs2
       simp only [j4,j8] at hm'
       obtain ⟨rfl,rfl⟩:=hm'
       exact ⟨refs2,.exit i,_,S4,γ4,hle1.trans hle2,fun hf=>by simp [j1N] at hf,rfl,hR4,hc4,hk⟩
      ·simp at hk3
     | ret=>
      simp only at hk3
      split at hk3
      ·rename_i s2 hs2
       simp only [j4] at hk3;subst hk3
       obtain ⟨S4,γ4,hR4,hc4⟩:=j6I hR3 hc3 hs2
       simp only [j4,j8] at hm'
       obtain ⟨rfl,rfl⟩:=hm'
       exact ⟨refs2,.ret,_,S4,γ4,hle1.trans hle2,fun hf=>by simp [j1N] at hf,rfl,hR4,hc4,hk⟩
      ·simp at hk3
  ·simp at h
 | rangeFunc g ps x y ihx ihy=>
  intro E ro hT hC hF hro hp b n S0 w0 refs σ a w S γ R k r hm hL hR hc h
  have hrn:ro=none:=hp.resolve_right (by simp [j1N])
  subst hrn
  obtain ⟨hbw,hpin⟩:=hro rfl
  exact jqx hbw hpin (fun l hx=>ihx (E:=E.rnd ps x y) hT hC hF (fun h=>by simp at h) (.inr hx)) (fun l hy=>ihy (E:=E.rnd ps x y) hT hC hF (fun h=>by simp at h) (.inr hy))
   (hL (b,.rangeFunc g ps x y) (by simp [j2n])) hm hR hc h
 | exit i=>intro E ro hT hC hF hro hp b n S0 w0 refs σ a w S γ R k r hm hL hR hc h;exact wpIn_exit ⟨refs,.exit i,σ,S,γ,⟨rfl,rfl,rfl,hm⟩,fun _=>rfl,rfl,hR,hc,h⟩
 | ret=>intro E ro hT hC hF hro hp b n S0 w0 refs σ a w S γ R k r hm hL hR hc h;exact wpIn_ret ⟨refs,.ret,σ,S,γ,⟨rfl,rfl,rfl,hm⟩,fun _=>rfl,rfl,hR,hc,h⟩
 | goto l=>intro E ro hT hC hF hro hp b n S0 w0 refs σ a w S γ R k r hm hL hR hc h;simp [j10] at h
 | refuse y=>intro E ro hT hC hF hro hp b n S0 w0 refs σ a w S γ R k r hm hL hR hc h;simp [j10] at h
end
section
variable {N:NT} {np:Nat} {S0:j0c} {w0:World} {refs:Refs} {σ:St} {a:Go.Act} {w:World} {S:j0c} {γ:Nat→Value}
def jlV:Arg→Bool
 | .ref _=>true
 | .rl _ _=>true
 | _=>false
def jp5 (args:List Arg) (vals:List Value) (k:Nat):Option Value:=
 if k%64=0 then match args[k/64]? with
  | some x=>if jlV x then vals[k/64]? else none
  | none=>none
 else none
def jaD (args:List Arg) (vals:List Value):Refs:={ blks:=j2F args vals,val:=jp5 args vals }
def γ0 (vals:List Value) (k:Nat):Value:=vals.getD (k/64) undef
theorem jge:∀ {as:List Arg} {us:List Value} {i:Nat} {x:Arg} {u:Value} {g:Nat},as[i]? = some x→us[i]? = some u→j97 x u=some g→g∈j2F as us
 | y::as,v::us,0,x,u,g,h,h',hg=>by
  simp at h h';subst h;subst h'
  simp [j2F,hg]
 | y::as,v::us,i+1,x,u,g,h,h',hg=>by
  have:=jge (as:=as) (us:=us) (i:=i) (by simpa using h) (by simpa using h') hg
  simp [j2F,this]
 | [],_,_,_,_,_,h,_,_=>by simp at h
 | _::_,[],_,_,_,_,_,h',_=>by simp at h'
theorem jmS:∀ {as:List Arg} {us:List Value} {i j:Nat} {x y:Arg} {u v:Value} {g:Nat},(j2F as us).Nodup→as[i]? = some x→us[i]? = some u→as[j]? = some y→us[j]? = some v→
  j97 x u=some g→j97 y v=some g→i=j
 | z::as,t::us,0,0,_,_,_,_,_,_,_,_,_,_,_,_=>rfl
 | z::as,t::us,0,j+1,x,y,u,v,g,hn,hx,hu,hy,hv,h1,h2=>by
  simp at hx hu;subst hx;subst hu
  have:=jge (as:=as) (us:=us) (i:=j) (by simpa using hy) (by simpa using hv) h2
  simp [j2F,h1] at hn
  exact absurd this hn.1
 | z::as,t::us,i+1,0,x,y,u,v,g,hn,hx,hu,hy,hv,h1,h2=>by
  simp at hy hv;subst hy;subst hv
  have:=jge (as:=as) (us:=us) (i:=i) (by simpa using hx) (by simpa using hu) h1
  simp [j2F,h2] at hn
  exact absurd this hn.1
 | z::as,t::us,i+1,j+1,x,y,u,v,g,hn,hx,hu,hy,hv,h1,h2=>by
  have hn':(j2F as us).Nodup:=by
   simp only [j2F] at hn
   exact (kx.1 hn).2.1
  rw [jmS hn' (i:=i) (j:=j) (by simpa using hx) (by simpa using hu) (by simpa using hy) (by simpa using hv) h1 h2]
 | [],_,_,_,_,_,_,_,_,_,h,_,_,_,_,_=>by simp at h
 | _::_,[],_,_,_,_,_,_,_,_,_,h,_,_,_,_=>by simp at h
theorem jqy {args:List Arg} {vals:List Value} (ha:All2 (jaA S w) args vals) (hnd:(j2F args vals).Nodup) (hS:∀ g o,S g o→g<w.heap.size) (hlen:args.length=np) (hN:np≤N.n) :
  Rel N np S w (jaD args vals) (St.init args) ⟨vals.toArray++Array.replicate (N.n-vals.toArray.size) undef,[]⟩ w S (γ0 vals)∧j3z (St.init args):=by
 have hvl:vals.length=np:=by rw [←ha.length,hlen]
 have htm:∀ i u,vals[i]? = some u→(vals.toArray++Array.replicate (N.n-vals.toArray.size) undef).getD i undef=u:=by
  intro i u hu
  have hi:i<vals.length:=(jh.1 hu).1
  rw [qc,Array.getElem?_append_left (by simpa using hi)]
  simp [hu]
 have hg0:∀ i u,vals[i]? = some u→γ0 vals (i*64)=u:=by
  intro i u hu
  simp only [γ0]
  rw [z9 _ (by omega)]
  simp [hu]
 have hbx:∀ k b,(St.init args).bx k = .live b→∃ i x u,k=i*64∧args[i]? = some x∧vals[i]? = some u∧jaA S w x u∧jau (some x) = .live b:=by
  intro k b hb
  simp only [St.init] at hb
  split at hb
  ·rename_i hk
   cases hx:args[k/64]? with
   | none=>simp [hx,jau] at hb
   | some x=>
    obtain ⟨u,hu,hxu⟩:=ha.get _ x hx
    exact ⟨k/64,x,u,by omega,hx,hu,hxu,by rw [hx] at hb;exact hb⟩
  ·simp at hb
 have hbx':∀ i x,args[i]? = some x→(St.init args).bx (i*64)=jau (some x):=by
  intro i x hx
  simp only [St.init]
  rw [if_pos (by omega),z9 _ (by omega),hx]
 have hblk:∀ x u b,jau (some x) = .live b→j97 x u=blk u:=by
  intro x u b hb
  cases x<;>first | rfl | simp [jau] at hb
 refine ⟨⟨?_,rfl,?_,?_,?_,?_,fun _ _ h=>h,fun _ _ h=> .inl h,hS,fun _ _ _=>rfl,ju _,rfl,rfl,rfl,?_,fun g o h=>by simp [jaD] at h,fun i v h=>by simp [jaD] at h⟩,?_⟩
 ·simp;omega
 ·intro i
  have hsl:(St.init args).sl i=match args[i]? with
   | some a=> .one (jiQ i a)
   | none=> .one (.one .dead):=rfl
  rw [hsl]
  cases hx:args[i]? with
  | none=>exact ⟨trivial,fun h=>absurd rfl h⟩
  | some x=>
   obtain ⟨u,hu,hxu⟩:=ha.get i x hx
   show j0o S w (γ0 vals) (St.init args).bx (jiQ i x) _
   rw [htm i u hu]
   have hb:=hbx' i x hx
   cases x with
   | v x=>exact jcF hxu
   | ref ls=>
    obtain ⟨g,cur,e,h1,_⟩:=id hxu
    exact ⟨⟨by rw [hb];simp [jau],by rw [h1];rfl,fun b _=>⟨g,(hg0 i u hu).trans h1,h1⟩⟩,fun _=>by rw [h1];rfl⟩
   | rl e x=>
    obtain ⟨t,xs,rfl,hrow,_⟩:=id hxu
    have hone:One u:=hrow.one
    exact ⟨⟨by rw [hb];simp [jau],hone,fun b _=>(hg0 i u hu).symm⟩,fun _=>hone⟩
   | ip ls=>
    obtain ⟨g,o,cs,h1,_⟩:=id hxu
    exact ⟨hxu,fun _=>by rw [h1];rfl⟩
   | clo f caps=>
    obtain ⟨cv,h1,_⟩:=id hxu
    exact ⟨hxu,fun _=>by rw [h1];rfl⟩
 ·intro k b hb
  obtain ⟨i,x,u,rfl,hx,hu,hxu,hbox⟩:=hbx k b hb
  cases x with
  | ref ls=>simp only [jau,BS.live.injEq] at hbox;subst hbox;exact jf9 (hg0 i u hu) hxu
  | rl e x=>
   obtain ⟨t,xs,rfl,_⟩:=id hxu
   simp only [jau,BS.live.injEq] at hbox;subst hbox
   exact jaB (hg0 i u hu) hxu
  | _=>simp [jau] at hbox
 ·intro k b g hb hg
  obtain ⟨i,x,u,rfl,hx,hu,hxu,hbox⟩:=hbx k b hb
  rw [hg0 i u hu,←hblk x u b hbox] at hg
  refine .inr ⟨jge hx hu hg,?_⟩
  have:i<args.length:=(jh.1 hx).1
  simp [parK];omega
 ·intro k k' b b' g hne hb hb' hg hg'
  obtain ⟨i,x,u,rfl,hx,hu,hxu,hbox⟩:=hbx k b hb
  obtain ⟨j,y,v,rfl,hy,hv,hyv,hbox'⟩:=hbx k' b' hb'
  rw [hg0 i u hu,←hblk x u b hbox] at hg
  rw [hg0 j v hv,←hblk y v b' hbox'] at hg'
  exact hne (by rw [jmS hnd hx hu hy hv hg hg'])
 ·intro k v hv
  simp only [jaD,jp5] at hv
  split at hv
  ·rename_i hk
   split at hv
   ·rename_i x hx
    split at hv
    ·rename_i hr
     have hi:k/64<args.length:=(jh.1 hx).1
     have hk':k=(k/64)*64:=by omega
     refine ⟨by simp [parK,hk];omega,?_,?_⟩
     ·rw [hk',hbx' _ x hx]
      cases x with
      | rl e y=>
       obtain ⟨u,hu,hxu⟩:=ha.get _ _ hx
       obtain ⟨t,xs,rfl,_⟩:=hxu
       simp [jau]
      | ref ls=>simp [jau]
      | _=>simp [jlV] at hr
     ·rw [hk'];exact hg0 _ v hv
    ·simp at hv
   ·simp at hv
  ·simp at hv
 ·intro i
  show ((match args[i]? with | some a=>Slot.one (jiQ i a) | none=> .one (.one .dead)):Slot).bare=true
  split<;>rfl
theorem jgf {α β:Type} {P:Program} (f:α→Sem β):∀ {rs:List α} {zs:List β},All2 (fun r z=>(f r).run P w = .ok z w) rs zs→(rs.mapM f).run P w = .ok zs w
 | [],[],_=>by simp
 | r::rs,z::zs,h=>by
  simp only [qg,Sem.run_bind,h.1,Result.andThen_ok,jgf f h.2,Sem.run_pure]
 | [],_::_,h=>h.elim
 | _::_,[],h=>h.elim
def Uns (b:Bx):Prop:=(∃ ls,b = .cell ls false)∨∃ e t xs,b = .lst e t xs false
theorem jj6 {P:Program} {E:Env} (hT:j22 P E.T) (hR:Rel N np S0 w0 refs σ a w S γ) {r:ResultVar} {c:Cel} (h:jgr E σ r=some c) :
  ∃ z,((match r with
   | .tmp t=>pure (a.tmps.getD t undef)
   | .cell x t=>do loadVar t (←asAddr (a.tmps.getD x undef)):Sem Value)).run P w = .ok z w∧j0o S w γ σ.bx c z:=by
 cases r with
 | tmp t=>
  simp only [jgr] at h
  split at h
  ·rename_i c' hc
   simp only [j4] at h;subst h
   have:=hR.slot t
   rw [hc] at this
   exact ⟨_,by simp,this⟩
  ·simp at h
 | cell x t=>
  simp only [jgr] at h
  split at h
  ·rename_i ti y ht hy
   have:=hR.slot x
   rw [hy] at this
   obtain ⟨z,hz,hcz⟩:=jke hT hR (RdR.msk fun _=> .inl rfl) ht h this.1
   refine ⟨z,?_,hcz⟩
   show (do loadVar t (←asAddr (a.tmps.getD x undef)):Sem Value).run P w=_
   have hu:∃ ad,a.tmps.getD x undef = .pointer (some ad):=by
    generalize a.tmps.getD x undef=u at hz
    cases u with
    | pointer o=>
     cases o with
     | some ad=>exact ⟨ad,rfl⟩
     | none=>simp [Instr.loadAt,Instr.sureAddr] at hz
    | _=>simp [Instr.loadAt,Instr.sureAddr] at hz
   obtain ⟨ad,hu⟩:=hu
   rw [hu] at hz ⊢
   simpa [Instr.loadAt,Instr.sureAddr,asAddr] using hz
  ·simp at h
theorem jgg {rd:Nat→BS} (hR:Rel N np S0 w0 refs σ a w S γ) (hrd:RdF np σ rd):∀ {ks:List SoK} {ls:List Leaf} {r:List RL} {n:List Nat} {v:Ups} {zs:List Value},soOf rd ks ls=some (r,n,v)→
  All2 (j09 S w γ σ.bx) ls zs→(∀ z∈zs,One z)→FrzL np σ.bx v∧(∀ k∈n,(∃ b,σ.bx k = .live b∧Uns b)∧parK np k=false)∧j9W r zs=(n.filterMap fun k=>blk (γ k))∧
   ∀ S',j3p S w S' w→Froz σ.bx γ S' w v→(∀ k∈n,∀ g,blk (γ k)=some g→∀ o,¬ S' g o)→All2 (jqk S' w) r zs
 | [],[],r,n,v,zs,h,ha,h1=>by
  simp [soOf] at h
  obtain ⟨rfl,rfl,rfl⟩:=h
  cases zs with
  | nil=>exact ⟨.nil,by simp,rfl,fun _ _ _ _=>trivial⟩
  | cons _ _=>exact ha.elim
 | .d t::ks,l::ls,r,n,v,zs,h,ha,h1=>by
  cases zs with
  | nil=>exact ha.elim
  | cons z zs=>
  simp only [soOf] at h
  split at h
  ·rename_i x u r' n' v' hx hr
   cases hlf:t.leafy with
   | false=>rw [hlf] at h;simp at h
   | true=>
   rw [hlf,j5] at h
   simp only [j4,j8] at h
   obtain ⟨rfl,rfl,rfl⟩:=h
   obtain ⟨f1,p1⟩:=j81 hrd hR.box hx ha.1
   obtain ⟨f2,k2,b2,p2⟩:=jgg hR hrd hr ha.2 (fun y hy=>h1 y (by simp [hy]))
   refine ⟨FrzL.app.2 ⟨f1,f2⟩,k2,by simp [j9W,b2],fun S' hst hfz hn=> ?_⟩
   obtain ⟨g1,g2⟩:=Froz.app.1 hfz
   exact ⟨⟨h1 z (by simp),p1 S' w hst g1⟩,p2 S' hst g2 hn⟩
  ·simp at h
 | .own e t::ks,l::ls,r,n,v,zs,h,ha,h1=>by
  cases zs with
  | nil=>exact ha.elim
  | cons z zs=>
  cases l with
  | nil=>
   simp only [soOf] at h
   split at h
   ·rename_i r' n' v' hr
    cases hm:isM e with
    | true=>rw [hm] at h;simp at h
    | false=>
    rw [hm,j6] at h
    simp only [j4,j8] at h
    obtain ⟨rfl,rfl,rfl⟩:=h
    have hz:z = .slice none 0 0:=ha.1
    subst hz
    obtain ⟨f2,k2,b2,p2⟩:=jgg hR hrd hr ha.2 (fun y hy=>h1 y (by simp [hy]))
    refine ⟨f2,k2,by simp [j9W,blk,b2],fun S' hst hfz hn=>⟨⟨t,[],rfl,.inl ⟨hm,[],⟨by simp,.inl ⟨rfl,rfl⟩⟩,trivial⟩,fun g hg=>by simp [blk] at hg⟩,p2 S' hst hfz hn⟩⟩
   ·simp at h
  | ol k=>
   simp only [soOf] at h
   split at h
   ·rename_i e' b xs hk
    cases he:Nat.beq e' e with
    | false=>rw [he] at h;simp at h
    | true=>
    rw [he,j5] at h
    split at h
    ·rename_i r' n' v' hr
     simp only [j4,j8] at h
     obtain ⟨rfl,rfl,rfl⟩:=h
     have hp:=hrd.par hk
     have hk:=hrd.ok.live hk
     have hz:=ha.1.2.2 _ hk
     obtain ⟨f2,k2,b2,p2⟩:=jgg hR hrd hr ha.2 (fun y hy=>h1 y (by simp [hy]))
     refine ⟨f2,fun k' hk'=> ?_,?_,fun S' hst hfz hn=>⟨⟨b,xs,rfl,by rw [hz];exact (hR.box k _ hk).1.keep hst (fun _ _=>rfl),fun g hg=>hn k (by simp) g (by rw [←hz];exact hg)⟩,p2 S' hst hfz (fun k' hk'=>hn k' (by simp [hk']))⟩⟩
     ·rcases je.1 hk' with rfl | hk'
      ·exact ⟨⟨_,hk,.inr ⟨_,_,_,rfl⟩⟩,hp⟩
      ·exact k2 k' hk'
     ·simp only [j9W,hz,z7]
      rw [b2]
      cases blk (γ k)<;>rfl
    ·simp at h
   ·simp at h
  | _=>simp [soOf] at h
 | [],_::_,r,n,v,zs,h,_,_=>by simp [soOf] at h
 | .d _::_,[],r,n,v,zs,h,_,_=>by simp [soOf] at h
 | .own _ _::_,[],r,n,v,zs,h,_,_=>by simp [soOf] at h
theorem jsH {P:Program} {E:Env} (hT:j22 P E.T) (hR:Rel N E.np S0 w0 refs σ a w S γ) {rd:Nat→BS} (hrd:RdF E.np σ rd) {own:Bool} {t:Nat} {c:Cel} {v:RV} {ks:List Nat} {u:Ups} {z:Value} (h:rvOf E rd own t c=some (v,ks,u)) (hc:j0o S w γ σ.bx c z) :
  FrzL E.np σ.bx u∧(∀ k∈ks,(∃ b,σ.bx k = .live b∧Uns b)∧parK E.np k=false)∧j6T v z=(ks.filterMap fun k=>blk (γ k))∧
   ∀ S',j3p S w S' w→Froz σ.bx γ S' w u→(∀ k∈ks,∀ g,blk (γ k)=some g→∀ o,¬ S' g o)→jfM S' w v z:=by
 unfold rvOf at h
 split at h
 ·rename_i k
  split at h
  ·rename_i ls hk
   split at h
   ·rename_i xs u1 h1
    simp only [j4,j8] at h
    obtain ⟨rfl,rfl,rfl⟩:=h
    have hp:=hrd.par hk
    have hk:=hrd.ok.live hk
    obtain ⟨g,hg,hz⟩:=hc.1.2.2 _ hk
    obtain ⟨g',cur,e,hg',hh,hcur,_⟩:=hR.box k _ hk
    rw [hg] at hg';simp at hg';subst hg'
    obtain ⟨hf,hpp⟩:=jdl hrd h1 hcur
    refine ⟨hf,fun k' hk'=>by simp at hk';subst hk';exact ⟨⟨_,hk,.inl ⟨_,rfl⟩⟩,hp⟩,?_,fun S' hst hfz hn=>⟨g,cur,e,hz,hh,by rw [jg4 hcur (hpp S' w hst hfz)];exact hpp S' w hst hfz,?_⟩⟩
    ·simp [j6T,jcT,hz,hg,blk]
    ·exact hn k (by simp) g (by rw [hg];rfl)
   ·simp at h
  ·simp at h
 ·rename_i f caps
  simp only [j4,j8] at h
  obtain ⟨rfl,rfl,rfl⟩:=h
  obtain ⟨⟨cv,hz,hall⟩,_⟩:=hc
  exact ⟨.nil,by simp,by simp [j6T,jcT],fun S' hst _ _=>⟨cv,hz,hall.mono fun _ _ h=>j6o.keep hst h⟩⟩
 ·split at h
  ·rename_i ti ht
   split at h
   ·rename_i ty hty
    split at h
    ·split at h
     ·rename_i ls
      split at h
      ·rename_i r n u1 hso
       simp only [j4,j8] at h
       obtain ⟨rfl,rfl,rfl⟩:=h
       obtain ⟨cs,hz,hall,hone⟩:=hc
       subst hz
       obtain ⟨f1,k1,b1,p1⟩:=jgg hR hrd hso hall hone
       exact ⟨f1,k1,b1,fun S' hst hfz hn=>⟨cs,rfl,p1 S' hst hfz hn⟩⟩
      ·simp at h
     ·rename_i el hno _
      simp only [j4,j8] at h
      obtain ⟨rfl,rfl,rfl⟩:=h
      have hz:z = .slice none 0 0:=hc.1
      subst hz
      exact ⟨.nil,by simp,by simp [j6T,jcT,blk],fun S' _ _ _=>⟨el,[],rfl,.inl ⟨jiS hT ht,[],⟨by simp,.inl ⟨rfl,rfl⟩⟩,trivial⟩,fun g hg=>by simp [blk] at hg⟩⟩
     ·rename_i k hno _
      split at h
      ·rename_i e el xs hk
       simp only [j4,j8] at h
       obtain ⟨rfl,rfl,rfl⟩:=h
       have hp:=hrd.par hk
       have hnm:=hrd.ok.nm hk
       have hk:=hrd.ok.live hk
       have hz:=hc.1.2.2 _ hk
       obtain ⟨css,hown,hall,_⟩:=j5j hnm (hR.box k _ hk)
       refine ⟨.nil,fun k' hk'=>by simp at hk';subst hk';exact ⟨⟨_,hk,.inr ⟨_,_,_,rfl⟩⟩,hp⟩,?_,fun S' hst _ hn=>⟨el,xs,rfl,by rw [hz];exact (hR.box k _ hk).1.keep hst (fun _ _=>rfl),fun g hg=>hn k (by simp) g (by rw [←hz];exact hg)⟩⟩
       simp only [j6T,jcT,hz,z7,List.filterMap_nil]
       cases blk (γ k)<;>rfl
      ·simp at h
     ·simp at h
    ·split at h
     ·rename_i x u1 hx
      simp only [j4,j8] at h
      obtain ⟨rfl,rfl,rfl⟩:=h
      obtain ⟨hf,hp,_⟩:=jaz hrd hR.box hx hc
      exact ⟨hf,by simp,by simp [j6T,jcT],fun S' hst hfz _=>hp S' w hst hfz⟩
     ·simp at h
   ·simp at h
  ·simp at h
theorem jgQ {P:Program} {E:Env} (hT:j22 P E.T) (hR:Rel N E.np S0 w0 refs σ a w S γ):∀ {os:List Bool} {rs:List ResultVar} {ts:List Nat} {vs:List RV} {ks:List Nat} {u:Ups},j8s E σ os rs ts=some (vs,ks,u)→
  ∃ zs,All2 (fun (r:ResultVar) z=>((match r with
   | .tmp t=>pure (a.tmps.getD t undef)
   | .cell x t=>do loadVar t (←asAddr (a.tmps.getD x undef)):Sem Value)).run P w = .ok z w) rs zs∧
  FrzL E.np σ.bx u∧(∀ k∈ks,(∃ b,σ.bx k = .live b∧Uns b)∧parK E.np k=false)∧j8t vs zs=(ks.filterMap fun k=>blk (γ k))∧
   ∀ S',j3p S w S' w→Froz σ.bx γ S' w u→(∀ k∈ks,∀ g,blk (γ k)=some g→∀ o,¬ S' g o)→All2 (jfM S' w) vs zs
 | os,[],ts,vs,ks,u,h=>by
  simp [j8s] at h
  obtain ⟨rfl,rfl,rfl⟩:=h
  exact ⟨[],trivial,.nil,by simp,rfl,fun _ _ _ _=>trivial⟩
 | os,r::rs,ts,vs,ks,u,h=>by
  simp only [j8s] at h
  split at h
  ·rename_i c hc
   split at h
   ·rename_i v k1 u1 hv
    split at h
    ·rename_i vs' k2 u2 hvs
     simp only [j4,j8] at h
     obtain ⟨rfl,rfl,rfl⟩:=h
     obtain ⟨z,hz,hcz⟩:=jj6 hT hR hc
     obtain ⟨f1,p1,n1,r1⟩:=jsH hT hR (jir (RdR.msk fun _=> .inl rfl)) hv hcz
     obtain ⟨zs,hzs,f2,p2,n2,r2⟩:=jgQ hT hR hvs
     refine ⟨z::zs,⟨hz,hzs⟩,FrzL.app.2 ⟨f1,f2⟩,fun k hk=> ?_,?_,fun S' hst hfz hn=> ?_⟩
     ·rcases jp.1 hk with hk | hk
      ·exact p1 k hk
      ·exact p2 k hk
     ·simp [j8t,n1,n2]
     ·obtain ⟨g1,g2⟩:=Froz.app.1 hfz
      exact ⟨r1 S' hst g1 (fun k hk=>hn k (by simp [hk])),r2 S' hst g2 (fun k hk=>hn k (by simp [hk]))⟩
    ·simp at h
   ·simp at h
  ·simp at h
theorem jj7 (hR:Rel N np S0 w0 refs σ a w S γ):∀ {as:List Arg} {us:List Value} {i:Nat} {os:List Out} {u:Ups},outs np σ i as=some (os,u)→as.length=us.length→
  (∀ (j:Nat) (x:Arg) (v:Value),as[j]? = some x→us[j]? = some v→jlV x=true→γ ((i+j)*64)=v)→
  FrzL np σ.bx u∧∀ S',j3p S w S' w→Froz σ.bx γ S' w u→(∀ (j:Nat) (x:Arg) (v:Value) (g:Nat),as[j]? = some x→us[j]? = some v→jlV x=true→(∃ b,σ.bx ((i+j)*64) = .live b∧Uns b)→blk v=some g→∀ o,¬ S' g o)→j5k S' w as us os
 | [],us,i,os,u,h,hl,_=>by
  simp [outs] at h
  obtain ⟨rfl,rfl⟩:=h
  cases us with
  | nil=>exact ⟨.nil,fun _ _ _ _=>trivial⟩
  | cons _ _=>simp at hl
 | x::as,[],i,os,u,h,hl,_=>by simp at hl
 | x::as,v::us,i,os,u,h,hl,hg=>by
  simp only [outs] at h
  split at h
  ·rename_i os' u' h'
   obtain ⟨f1,r1⟩:=jj7 hR (i:=i+1) h' (by simpa using hl) (fun j y z hy hz hr=>by
    have:=hg (j+1) y z (by simpa using hy) (by simpa using hz) hr
    rwa [show i+1+j=i+(j+1) by omega])
   have hrest:∀ S',j3p S w S' w→Froz σ.bx γ S' w u'→(∀ (j:Nat) (x':Arg) (v':Value) (g:Nat),(x::as)[j]? = some x'→(v::us)[j]? = some v'→jlV x'=true→(∃ b,σ.bx ((i+j)*64) = .live b∧Uns b)→blk v'=some g→∀ o,¬ S' g o)→j5k S' w as us os':=by
    intro S' hst hfz hn
    refine r1 S' hst hfz (fun j y z g hy hz hr hb hgz=> ?_)
    exact hn (j+1) y z g (by simpa using hy) (by simpa using hz) hr (by rwa [show i+(j+1)=i+1+j by omega]) hgz
   split at h
   ·rename_i ls
    have hgi:γ (i*64)=v:=hg 0 _ v rfl rfl rfl
    split at h
    ·rename_i ls' hb
     split at h
     ·rename_i xs u2 hx
      simp only [j4,j8] at h
      obtain ⟨rfl,rfl⟩:=h
      obtain ⟨g,cur,e,h1,h2,h3,_⟩:=hR.box _ _ hb
      obtain ⟨f2,r2⟩:=jdl (jir (RdR.msk fun _=> .inl rfl)) hx h3
      refine ⟨FrzL.app.2 ⟨f2,f1⟩,fun S' hst hfz hn=> ?_⟩
      obtain ⟨g1,g2⟩:=Froz.app.1 hfz
      have hvg:v = .pointer (some ⟨g,0,none⟩):=by rw [←hgi];exact h1
      exact ⟨⟨g,cur,e,hvg,h2,by rw [jg4 h3 (r2 S' w hst g1)];exact r2 S' w hst g1,hn 0 _ v g rfl rfl rfl ⟨_,hb,.inl ⟨ls',rfl⟩⟩ (by rw [hvg];rfl)⟩,hrest S' hst g2 hn⟩
     ·simp at h
    ·simp at h
   ·rename_i e y
    have hgi:γ (i*64)=v:=hg 0 _ v rfl rfl rfl
    split at h
    ·rename_i e' t xs hb
     split at h
     ·rename_i hcond
      obtain ⟨rfl,hyt⟩:=hcond
      simp only [j4,j8] at h
      obtain ⟨rfl,rfl⟩:=h
      have hown:=(hR.box _ _ hb).1
      rw [hgi] at hown
      refine ⟨f1,fun S' hst hfz hn=>⟨⟨t,xs,rfl,hown.keep hst (fun _ _=>rfl),fun g hg'=>hn 0 _ v g rfl rfl rfl ⟨_,hb,.inr ⟨_,t,xs,rfl⟩⟩ hg'⟩,hyt.symm,hrest S' hst hfz hn⟩⟩
     ·simp at h
    ·simp at h
   ·rename_i hnr1 hnr2
    simp only [j4,j8] at h
    obtain ⟨rfl,rfl⟩:=h
    refine ⟨f1,fun S' hst hfz hn=> ?_⟩
    have:=hrest S' hst hfz hn
    cases x with
    | ref ls=>exact absurd rfl (hnr1 ls)
    | rl e y=>exact absurd rfl (hnr2 e y)
    | _=>exact this
  ·simp at h
theorem jiA {x:Arg} {u:Value} {g:Nat} (h:jaA S w x u) (hr:j97 x u=some g):∀ o,¬ S g o:=by
 cases x with
 | ref ls=>
  obtain ⟨g',cur,e,h1,_,_,h4⟩:=h
  have hr':blk u=some g:=hr
  rw [h1] at hr';simp [blk] at hr';subst hr';exact h4
 | rl e y=>
  obtain ⟨t,xs,_,_,h4⟩:=h
  exact h4 g hr
 | _=>simp [j97] at hr
theorem jds:∀ {as:List Arg} {us:List Value} {g:Nat},g∈j2F as us→∃ (i:Nat) (x:Arg) (u:Value),as[i]? = some x∧us[i]? = some u∧j97 x u=some g
 | [],_,_,h=>by simp [j2F] at h
 | _::_,[],_,h=>by simp [j2F] at h
 | x::as,u::us,g,h=>by
  simp only [j2F,jp,Option.mem_toList] at h
  rcases h with h | h
  ·exact ⟨0,x,u,rfl,rfl,h⟩
  ·obtain ⟨i,y,v,h1,h2,h3⟩:=jds h
   exact ⟨i+1,y,v,by simpa using h1,by simpa using h2,h3⟩
theorem jj8 (zs:List Value):(if h:zs.toArray.size=1 then zs.toArray[0] else .tuple zs.toArray)=j5l zs:=by
 match zs with
 | []=>rfl
 | [z]=>rfl
 | z::z'::zs=>simp [j5l]
theorem jqz {P:Program} {E:Env} (hT:j22 P E.T) (hR:Rel N np S0 w0 refs σ a w S γ) {rs:List ResultVar} {vs vs':List RV} {zs:List Value}
  (hzs:All2 (fun (r:ResultVar) z=>((match r with
   | .tmp t=>pure (a.tmps.getD t undef)
   | .cell x t=>do loadVar t (←asAddr (a.tmps.getD x undef)):Sem Value)).run P w = .ok z w) rs zs) (h:nilV E σ rs vs=some vs') :
  (∀ S' w',All2 (jfM S' w') vs zs→All2 (jfM S' w') vs' zs)∧j8t vs' zs=j8t vs zs∧(∀ m,vs'=[.hd m]→vs=[.hd m])∧∀ ns s,vs'=[.raw ns s]→vs=[.raw ns s]:=by
 unfold nilV at h
 split at h
 ·simp only [j4] at h;subst h
  exact ⟨fun _ _ h=>h,rfl,fun _ h=>h,fun _ _ h=>h⟩
 ·split at h
  ·rename_i r x
   split at h
   ·rename_i ls hc
    split at h
    ·rename_i hn
     simp only [j4] at h;subst h
     obtain ⟨z,hz,hcz⟩:=jj6 hT hR hc
     cases zs with
     | nil=>exact hzs.elim
     | cons z' zs=>
      cases zs with
      | cons _ _=>exact hzs.2.elim
      | nil=>
       have hzz:z'=z:=by
        have h1:=hz.symm.trans hzs.1
        simp only [Result.ok.injEq] at h1
        exact h1.1.symm
       subst hzz
       obtain ⟨cs,hu,hall,_⟩:=hcz
       refine ⟨fun S' w' hv=>⟨⟨hv.1,fun cs' hcs' i hi z hzi=> ?_⟩,trivial⟩,rfl,fun m hm=>by simp at hm,fun ns s hm=>by simp at hm⟩
       rw [hu] at hcs'
       simp only [Value.agg.injEq] at hcs'
       subst hcs'
       have hl:=jj.1 hn i hi
       cases hli:ls[i]? with
       | none=>rw [hli] at hl;simp at hl
       | some l=>
        rw [hli] at hl
        obtain ⟨z2,hz2,hlz⟩:=hall.get i l hli
        rw [hzi] at hz2
        simp only [j4] at hz2
        subst hz2
        cases l<;>first | exact hlz | simp at hl
    ·simp at h
   ·simp at h
  ·simp at h
theorem jj9 {E:Env} {os:List Bool} {rs:List ResultVar} {ts:List Nat} {vs:List RV} {ks:List Nat} {u:Ups} (h:j8s E σ os rs ts=some (vs,ks,u)) (m:Nat):vs≠[.hd m]:=by
 cases rs with
 | nil=>simp [j8s] at h;rw [←h.1];simp
 | cons r rs=>
  simp only [j8s] at h
  split at h
  ·split at h
   ·rename_i v k1 u1 hv
    split at h
    ·simp only [j4,j8] at h
     rw [←h.1]
     intro he
     have:v = .hd m:=by simpa using (List.cons.inj he).1
     subst this
     unfold rvOf at hv
     split at hv
     ·split at hv
      ·split at hv<;>simp at hv
      ·simp at hv
     ·simp at hv
     ·split at hv
      ·split at hv
       ·split at hv
        ·split at hv
         ·split at hv<;>simp at hv
         ·simp at hv
         ·split at hv<;>simp at hv
         ·simp at hv
        ·split at hv<;>simp at hv
       ·simp at hv
      ·simp at hv
    ·simp at h
   ·simp at h
  ·simp at h
theorem jhL {E:Env} {os:List Bool} {rs:List ResultVar} {ts:List Nat} {vs:List RV} {ks:List Nat} {u:Ups} (h:j8s E σ os rs ts=some (vs,ks,u)) (ns:List Nat) (s:Snap):vs≠[.raw ns s]:=by
 cases rs with
 | nil=>simp [j8s] at h;rw [←h.1];simp
 | cons r rs=>
  simp only [j8s] at h
  split at h
  ·split at h
   ·rename_i v k1 u1 hv
    split at h
    ·simp only [j4,j8] at h
     rw [←h.1]
     intro he
     have:v = .raw ns s:=by simpa using (List.cons.inj he).1
     subst this
     unfold rvOf at hv
     split at hv
     ·split at hv
      ·split at hv<;>simp at hv
      ·simp at hv
     ·simp at hv
     ·split at hv
      ·split at hv
       ·split at hv
        ·split at hv
         ·split at hv<;>simp at hv
         ·simp at hv
         ·split at hv<;>simp at hv
         ·simp at hv
        ·split at hv<;>simp at hv
       ·simp at hv
      ·simp at hv
    ·simp at h
   ·simp at h
  ·simp at h
theorem jsI {P:Program} {E:Env} (hT:j22 P E.T) {fn:Func} {args:List Arg} {vals:List Value} {σ':St} {a':Go.Act} {w':World} {S':j0c} {γ':Nat→Value} (hR:Rel N E.np S w (jaD args vals) σ' a' w' S' γ')
  (ha:All2 (jaA S w) args vals) (hS:∀ g o,S g o→g<w.heap.size) (hrw:¬ E.rw=true) (hhd:E.hd=true) {ret:Ret} (hret:jiR E fn args σ'=some ret) {R:Type} {k:Ret→Option R} {r:R} (hk:k ret=some r) :
  ∃ v,(results fn a'.tmps).run P w' = .ok v w'∧∃ ret,k ret=some r∧∃ v' S' vs,Ending.returned v = .returned v'∧jql w S args vals ret v' w' S' vs:=by
 have hval:∀ (j:Nat) (x:Arg) (v:Value),args[j]? = some x→vals[j]? = some v→jlV x=true→γ' ((0+j)*64)=v:=by
  intro j x v hx hv hr
  refine (hR.par ((0+j)*64) v ?_).2.2
  simp only [jaD,jp5]
  rw [if_pos (by omega),z9 _ (by omega),js,hx]
  simp [hr,hv]
 unfold jiR at hret
 rw [if_neg hrw,if_pos hhd] at hret
 unfold jsy at hret
 split at hret
 ·rename_i e x as r0 hres
  split at hret
  ·rename_i l os u' hc hos
   split at hret
   ·rename_i m hm
    simp only [j4] at hret
    subst hret
    obtain ⟨z,hz,hcz⟩:=jj6 (P:=P) hT hR hc
    obtain ⟨f2,r2⟩:=jj7 hR hos ha.length hval
    obtain ⟨S2,hR2,hst2,hfz2,hsame⟩:=j2Y u' σ' S' hR f2
    cases vals with
    | nil=>exact ha.elim
    | cons v0 vs0=>
    have h0:γ' 0=v0:=by
     have:=hval 0 _ v0 rfl rfl rfl
     simpa using this
    have hpar:∀ k,parK E.np k=true→u'.any (fun y=>y.1==k)=false:=by
     intro k hk
     rw [km]
     intro y hy he
     simp only [qf] at he
     have:=(f2 y hy).1
     rw [he,hk] at this
     simp at this
    have hnoS:∀ k b,u'.any (fun y=>y.1==k)=false→σ'.bx k = .live b→Uns b→∀ g,blk (γ' k)=some g→∀ o,¬ S2 g o:=by
     intro k b hk hb hkind g hg o
     have hb2:(σ'.upd u').bx k = .live b:=(j2s _ _ hk).trans hb
     have hbox:=hR2.box k b hb2
     rcases hkind with ⟨ls,rfl⟩ | ⟨e,t,xs,rfl⟩
     ·obtain ⟨g',cur,e,hg',_,_,_,hS,_⟩:=hbox
      rw [hg'] at hg;simp [blk] at hg;subst hg
      exact hS rfl o
     ·exact (hbox.2 g hg).1 rfl o
    have houts:=r2 S2 hst2 hfz2 (fun j x v g hx hv hr hbu hg=>by
     obtain ⟨b,hb,hu⟩:=hbu
     have hp:parK E.np ((0+j)*64)=true:=by
      refine (hR.par ((0+j)*64) v ?_).1
      simp only [jaD,jp5]
      rw [if_pos (by omega),z9 _ (by omega),js,hx]
      simp [hr,hv]
     exact hnoS ((0+j)*64) b (hpar _ hp) hb hu g (by rw [hval j x v hx hv hr];exact hg))
    have hone:One z:=hcz.2 (by rintro rfl;simp [hdOf] at hm)
    have hhead:∃ ad len cap,v0 = .slice ad len cap∧m≤len∧z = .slice ad m cap:=by
     unfold hdOf at hm
     split at hm
     ·split at hm
      ·rename_i e1 t1 xs1 hb
       split at hm
       ·simp at hm
       ·rename_i hnm
        simp only [j4] at hm
        subst hm
        obtain ⟨css,hown,_⟩:=j5j (by simpa using hnm) (hR.box 0 _ hb)
        have hzz:=hcz.1.2.2 _ hb
        rcases hown.2 with ⟨hg,hn⟩ | ⟨g,cap,cur,hg,_⟩
        ·exact ⟨none,0,0,by rw [←h0,hg],by omega,by rw [hzz,hg,hn]⟩
        ·exact ⟨_,_,cap,by rw [←h0,hg],ju _,by rw [hzz,hg]⟩
      ·simp at hm
     ·split at hm
      ·rename_i i e1 t1 xs1 hb
       simp only [j4] at hm
       subst hm
       obtain ⟨_,hi,ad,cap,hg,hzz⟩:=hcz.1.2.2 _ hb
       exact ⟨ad,_,cap,by rw [←h0,hg],hi,hzz⟩
      ·simp at hm
     ·simp at hm
    have hrun:(results fn a'.tmps).run P w' = .ok (j5l [z]) w':=by
     have hm:=jgf (P:=P) (w:=w') (rs:=[r0]) (zs:=[z]) (fun r=>((match r with
      | .tmp t=>pure (a'.tmps.getD t undef)
      | .cell x t=>do loadVar t (←asAddr (a'.tmps.getD x undef)):Sem Value))) ⟨hz,trivial⟩
     unfold results
     rw [qy,hres]
     simp only [Sem.run_bind,Sem.run_map]
     erw [hm]
     simp only [Result.andThen_ok,Sem.run_pure]
     exact congrArg (Result.ok · w') (jj8 [z])
    refine ⟨j5l [z],hrun,⟨[.hd m],os⟩,hk,j5l [z],S2,[z],rfl,⟨rfl,⟨hone,trivial⟩,fun g hg=>by simp [j8t,jcT,j6T] at hg,by simp [j8t,jcT,j6T],houts,fun g o hs=>⟨hR2.ext g o hs,?_⟩,hR2.new,hR2.here,hR2.below,hR2.grow,hR2.os,hR2.tape,hR2.output,fun ns s he=>by simp at he,?_⟩⟩
    ·refine World.cell?_of_block (hR2.below g (hS g o hs) (fun hm=> ?_))
     obtain ⟨i,x,v,hx,hv,hb⟩:=jds hm
     obtain ⟨v',hv',hxv⟩:=ha.get i x hx
     rw [hv] at hv';simp at hv';subst hv'
     exact jiA hxv hb o hs
    ·intro m' hm'
     have:m'=m:=by simpa using hm'.symm
     subst this
     obtain ⟨ad,len,cap,h1,h2,h3⟩:=hhead
     exact ⟨ad,len,cap,by rw [h1];rfl,h2,by rw [h3]⟩
   ·simp at hret
  ·simp at hret
 ·simp at hret
theorem jgR {P:Program} {E:Env} (hT:j22 P E.T) (hR:Rel N np S0 w0 refs σ a w S γ):∀ {rs:List ResultVar} {cs:List Cel},jgs E σ rs=some cs→
  ∃ zs,All2 (fun (r:ResultVar) z=>((match r with
   | .tmp t=>pure (a.tmps.getD t undef)
   | .cell x t=>do loadVar t (←asAddr (a.tmps.getD x undef)):Sem Value)).run P w = .ok z w) rs zs∧All2 (j0o S w γ σ.bx) cs zs
 | [],cs,h=>by
  simp only [jgs,j4] at h
  subst h
  exact ⟨[],trivial,trivial⟩
 | r::rs,cs,h=>by
  simp only [jgs] at h
  split at h
  ·rename_i c cs' hc hcs
   simp only [j4] at h
   subst h
   obtain ⟨z,h1,h2⟩:=jj6 (P:=P) hT hR hc
   obtain ⟨zs,h3,h4⟩:=jgR hT hR hcs
   exact ⟨z::zs,⟨h1,h3⟩,h2,h4⟩
  ·simp at h
theorem jgS {bx bx':Nat→BS} {ns:List Nat} (hb:∀ k∈ns,bx' k=bx k) {l:Leaf} {u:Value} (hl:jb3 ns l=true) (h:j09 S w γ bx l u):j09 S w γ bx' l u:=by
 cases l with
 | dead=>trivial
 | nil=>exact h
 | d t v=>exact h
 | ol k=>have hk:=hb k (by simpa [jb3] using hl);exact ⟨by rw [hk];exact h.1,h.2.1,by rw [hk];exact h.2.2⟩
 | bp k c=>have hk:=hb k (by simpa [jb3] using hl);exact ⟨by rw [hk];exact h.1,h.2.1,by rw [hk];exact h.2.2⟩
 | s1 k=>have hk:=hb k (by simpa [jb3] using hl);exact ⟨by rw [hk];exact h.1,h.2.1,by rw [hk];exact h.2.2⟩
 | _=>simp [jb3] at hl
theorem jcb {bx bx':Nat→BS} {ns:List Nat} (hb:∀ k∈ns,bx' k=bx k):∀ {ls:List Leaf} {us:List Value},ls.all (jb3 ns)=true→All2 (j09 S w γ bx) ls us→All2 (j09 S w γ bx') ls us
 | [],[],_,_=>trivial
 | l::ls,u::us,hl,h=>by
  simp only [qm,ja] at hl
  exact ⟨jgS hb hl.1 h.1,jcb hb hl.2 h.2⟩
 | [],_::_,_,h=>h.elim
 | _::_,[],_,h=>h.elim
theorem jlW {bx bx':Nat→BS} {ns:List Nat} (hb:∀ k∈ns,bx' k=bx k) {c:Cel} {u:Value} (hl:jlz ns c=true) (h:j0o S w γ bx c u):j0o S w γ bx' c u:=by
 cases c with
 | one l=>exact ⟨jgS hb hl h.1,h.2⟩
 | st ls=>
  obtain ⟨cs,hu,ha,h1⟩:=h
  exact ⟨cs,hu,jcb hb hl ha,h1⟩
 | av n b xs=>exact h
theorem js5 {P:Program} {E:Env} (hT:j22 P E.T) {fn:Func} {args:List Arg} {vals:List Value} {σ':St} {a':Go.Act} {w':World} {S':j0c} {γ':Nat→Value} (hR:Rel N E.np S w (jaD args vals) σ' a' w' S' γ')
  (ha:All2 (jaA S w) args vals) (hS:∀ g o,S g o→g<w.heap.size) (hrw:E.rw=true) {ret:Ret} (hret:jiR E fn args σ'=some ret) {R:Type} {k:Ret→Option R} {r:R} (hk:k ret=some r) :
  ∃ v,(results fn a'.tmps).run P w' = .ok v w'∧∃ ret,k ret=some r∧∃ v' S' vs,Ending.returned v = .returned v'∧jql w S args vals ret v' w' S' vs:=by
 unfold jiR at hret
 rw [if_pos hrw] at hret
 unfold jr8 at hret
 split at hret
 case h_2=>simp at hret
 rename_i cs hcs
 split at hret
 case isFalse=>simp at hret
 rename_i hcond
 simp only [ja] at hcond
 obtain ⟨hnd,hns,hcl,hargs⟩:=hcond
 simp only [j4] at hret
 subst hret
 obtain ⟨zs,hzs,hcz⟩:=jgR hT hR hcs
 have hrun:(results fn a'.tmps).run P w' = .ok (j5l zs) w':=by
  have hm:=jgf (P:=P) (w:=w') _ hzs
  unfold results
  rw [qy]
  simp only [Sem.run_bind,Sem.run_map]
  erw [hm]
  simp only [Result.andThen_ok,Sem.run_pure]
  exact congrArg (Result.ok · w') (jj8 zs)
 have hlen:(cs.map Item.s++E.rn.map fun k=>Item.b (σ'.bx k)).length-E.rn.length=cs.length:=by simp
 have hC:rawC E.rn (cs.map Item.s++E.rn.map fun k=>Item.b (σ'.bx k))=cs:=by
  unfold rawC
  rw [hlen,qt (by simp),List.map_map]
  exact List.map_id' _
 have hU:rawU E.rn (cs.map Item.s++E.rn.map fun k=>Item.b (σ'.bx k))=E.rn.map fun k=>(k,σ'.bx k):=by
  unfold rawU
  rw [hlen,List.drop_left' (by simp),List.map_map]
  generalize E.rn=l
  induction l with
  | nil=>rfl
  | cons x l ih=>simp only [ku,List.zip_cons_cons,ih];rfl
 have hbx:∀ k∈E.rn,(emp.upd (E.rn.map fun k=>(k,σ'.bx k))).bx k=σ'.bx k:=fun k hk=>
  jin _ emp (by rw [List.map_map];simpa [Function.comp_def] using j94 hnd) (kv.2 ⟨k,hk,rfl⟩)
 have hbx':∀ k b,(emp.upd (E.rn.map fun k=>(k,σ'.bx k))).bx k = .live b→k∈E.rn∧σ'.bx k = .live b:=by
  intro k b hb
  by_cases hk:k∈E.rn
  ·exact ⟨hk,(hbx k hk).symm.trans hb⟩
  ·rw [j2s] at hb
   ·simp [emp] at hb
   ·rw [km]
    intro x hx he
    obtain ⟨y,hy,rfl⟩:=kv.1 hx
    simp only [qf] at he
    exact hk (he▸hy)
 have hclB:∀ k b,σ'.bx k = .live b→k∈E.rn→j2c S' w' γ' (emp.upd (E.rn.map fun k=>(k,σ'.bx k))).bx k b:=by
  intro k b hb hk
  have h1:=hR.box k b hb
  have h2:=(Bool.and_eq_true_iff.1 (jj.1 hns k hk)).2
  rw [hb] at h2
  cases b with
  | cell ls f=>
   obtain ⟨g,cur,e,q1,q2,q3,q4⟩:=h1
   exact ⟨g,cur,e,q1,q2,jcb hbx h2 q3,q4⟩
  | lst e t xs f=>exact h1
  | arr n t xs=>exact h1
 have hcels:All2 (j0o S' w' γ' (emp.upd (E.rn.map fun k=>(k,σ'.bx k))).bx) cs zs:=by
  have go:∀ (cs:List Cel) (zs:List Value),cs.all (jlz E.rn)=true→All2 (j0o S' w' γ' σ'.bx) cs zs→All2 (j0o S' w' γ' (emp.upd (E.rn.map fun k=>(k,σ'.bx k))).bx) cs zs:=by
   intro cs
   induction cs with
   | nil=>intro zs _ h;cases zs with | nil=>trivial | cons _ _=>exact h.elim
   | cons c cs ih=>
    intro zs hcl h
    cases zs with
    | nil=>exact h.elim
    | cons z zs=>
     simp only [qm,ja] at hcl
     exact ⟨jlW hbx hcl.1 h.1,ih zs hcl.2 h.2⟩
  exact go cs zs hcl hcz
 have hnoref:j2F args vals=[]:=by
  clear hrun hcels hR
  induction args generalizing vals with
  | nil=>cases vals<;>rfl
  | cons x xs ih=>
   cases vals with
   | nil=>rfl
   | cons v vs=>
    simp only [qm,ja] at hargs
    have:=ih ha.2 hargs.2
    cases x<;>simp_all [j2F,j97,job]
 have houts:j5k S' w' args vals []:=by
  clear hrun hcels hR hnoref
  induction args generalizing vals with
  | nil=>cases vals with | nil=>trivial | cons _ _=>exact ha.elim
  | cons x xs ih=>
   cases vals with
   | nil=>exact ha.elim
   | cons v vs=>
    simp only [qm,ja] at hargs
    have:=ih ha.2 hargs.2
    cases x<;>first | exact this | (simp [job] at hargs)
 refine ⟨j5l zs,hrun,_,hk,j5l zs,S',[j5l zs],rfl,⟨rfl,⟨trivial,trivial⟩,fun g hg=>by simp [j8t,jcT,j6T] at hg,by simp [j8t,jcT,j6T],houts,fun g o hs=>⟨hR.ext g o hs,?_⟩,hR.new,hR.here,
  hR.below,hR.grow,hR.os,hR.tape,hR.output,fun ns s he=> ?_,fun m hm=>by simp at hm⟩⟩
 ·refine World.cell?_of_block (hR.below g (hS g o hs) (fun hm=> ?_))
  have hm:g∈j2F args vals:=hm
  rw [hnoref] at hm;simp at hm
 ·simp only [List.cons.injEq,RV.raw.injEq,and_true] at he
  obtain ⟨rfl,rfl⟩:=he
  refine ⟨γ',zs,rfl,by rw [hC,hU];exact hcels,fun k b hb=> ?_,fun k b g hb hg=> ?_,fun k k' b b' g hne hb hb' hg hg'=> ?_⟩
  ·rw [hU] at hb ⊢
   obtain ⟨h1,h2⟩:=hbx' k b hb
   exact hclB k b h2 h1
  ·rw [hU] at hb
   obtain ⟨h1,h2⟩:=hbx' k b hb
   rcases hR.own k b g h2 hg with h | h
   ·exact h
   ·have:=(Bool.and_eq_true_iff.1 (jj.1 hns k h1)).1
    rw [h.2] at this;simp at this
  ·rw [hU] at hb hb'
   exact hR.apart k k' b b' g hne (hbx' k b hb).2 (hbx' k' b' hb').2 hg hg'
theorem jdt {P:Program} {fn:Func} {n:Nat} {R:Ending→World→Prop}:∀ (ds:List Deferred) {refs:Refs} {σ:St} {a:Go.Act} {w:World} {S:j0c} {γ:Nat→Value},refs.ds=ds→jgP w0 refs→Rel N np S0 w0 refs σ a w S γ→
  (∀ w2,Rel N np S0 w0 ⟨refs.blks,refs.val,[],fun _=>none,fun _=>none⟩ σ { a with defers:=[] } w2 S γ→LeavesIn (FR none) n P fn a.tmps R [] .returning w2)→LeavesInM (FR none) n P fn a.tmps R ds .returning w
 | [],refs,σ,a,w,S,γ,hd,hm,hR,h=>h w (hR.swap rfl rfl hR.size rfl hR.slot (fun g o h=>by simp at h) (fun i v h=>by simp at h))
 | d::ds,refs,σ,a,w,S,γ,hd,hm,hR,h=>by
  obtain ⟨hnd,hall⟩:=hm
  rw [hd] at hnd
  obtain ⟨D,rfl,h1,h2⟩:=hall d (by rw [hd];simp)
  refine ⟨by simp,.inl ⟨D,_,rfl,run_takeDeferred (hR.kept D _ h2).1,?_⟩⟩
  have hR1:=hR.putO (o':= .deferred none) h2 h1 rfl rfl
  have hR2:=hR1.swap (a':={ a with defers:=ds }) (refs':=⟨refs.blks,refs.val,ds,fun g=>if g=D then none else refs.kw g,refs.fix⟩) rfl rfl hR.size rfl hR1.slot (fun g o hg=>hR1.kept g o (by
   simp only at hg ⊢
   split at hg
   ·simp at hg
   ·rename_i e;rw [if_neg e];exact hg)) hR1.fix
  refine jdt (a:={ a with defers:=ds }) (refs:=⟨refs.blks,refs.val,ds,fun g=>if g=D then none else refs.kw g,refs.fix⟩) ds rfl ⟨(qd.1 hnd).2,fun d' hd'=> ?_⟩ hR2 (fun w2 hw=>h w2 hw)
  obtain ⟨D',rfl,q1,q2⟩:=hall d' (by rw [hd];simp [hd'])
  refine ⟨D',rfl,q1,?_⟩
  show (if D'=D then none else refs.kw D')=_
  rw [if_neg,q2]
  rintro rfl
  exact (qd.1 hnd).1 hd'
theorem jmT {P:Program} {E:Env} (hT:j22 P E.T) (hC:j8P P E.C) (hF:CFun E.C) (hmix:P.follows .mixedOrders=true) {f:Nat} {fn:Func} {c:Code} (hf:P.funcs[f]? = some fn) (hb:fn.body=some c) (hN:fn.ntmps=E.N.n) (hpin:E.N.pin=fun _=>false) (hbw:∀ f t,E.bw f=some t→ItOK P f t.1 t.2) (hnp:E.np≤E.N.n)
  (hnm : (fn.name == "runtime.NumGoroutine") = false) (hL : ∀ x ∈ j2n 0 c, jkB E x.1 x.2) : FnOK P f (fun args _ k => jej E fn args k) := by
 intro args R k r h
 refine ⟨⟨fn,hf,by rw [hb];rfl,hnm⟩,?_⟩
 intro w S vals ha hnd hS
 by_cases hlen:args.length=E.np
 case neg=>simp [jej,hlen] at h
 case pos=>
 simp only [jej,hb,hlen,if_true] at h
 have hvl:vals.length=E.np:=by rw [←ha.length,hlen]
 obtain ⟨hR0,hc0⟩:=jqy (N:=E.N) ha hnd hS hlen hnp
 refine js2 (n:=0) (ro:=none) (callsIn_of_wp_marks hf hb trivial ?_)
 rw [hN]
 refine wpIn_mono (jnJ hmix c (ro:=none) hT hC hF (fun _=>⟨hbw,hpin⟩) (.inl rfl) 0 0 ⟨ze,fun d hd=>by simp [jaD] at hd⟩ hL hR0 hc0 h) ?_
 rintro e a0 w1 ⟨refs',ex,σ',S',γ',hle,_,rfl,hR1,hcn,hk⟩
 have hend:∀ (hk:(match jiR E fn args σ' with | some r=>k r | none=>none)=some r) (w':World),Rel E.N E.np S w ⟨refs'.blks,refs'.val,[],fun _=>none,fun _=>none⟩ σ' { a0 with defers:=[] } w' S' γ'→∃ v,(results fn a0.tmps).run P w' = .ok v w'∧
   ∃ ret,k ret=some r∧∃ v' S' vs,Ending.returned v = .returned v'∧jql w S args vals ret v' w' S' vs:=by
  intro hk w' hR
  have hR:Rel E.N E.np S w (jaD args vals) σ' { a0 with defers:=[] } w' S' γ':=hR.swap hle.blks.symm hle.val.symm hR.size rfl hR.slot (fun g o h=>by simp [jaD] at h) (fun i v h=>by simp [jaD] at h)
  generalize ha0:({ a0 with defers:=[] }:Go.Act)=a' at hR
  have hat:a0.tmps=a'.tmps:=by rw [←ha0]
  rw [hat]
  cases hret:jiR E fn args σ' with
  | none=>simp [hret] at hk
  | some ret=>
  simp only [hret] at hk
  by_cases hrw:E.rw=true
  ·exact js5 hT hR ha hS hrw hret hk
  by_cases hhd:E.hd=true
  ·exact jsI hT hR ha hS hrw hhd hret hk
  have hparts:∃ vs ks u os u',j8s E σ' E.ro fn.results.toList fn.resultTypes.toList=some (vs,ks,u)∧outs E.np σ' 0 args=some (os,u')∧
    j9V ks=true∧(u++u').all (fun e=> !ks.contains e.1)=true∧∃ vs',nilV E σ' fn.results.toList vs=some vs'∧ret=⟨vs',os⟩:=by
   unfold jiR at hret
   rw [if_neg hrw,if_neg hhd] at hret
   split at hret
   ·rename_i vs ks u os u' hvs hos
    split at hret
    ·rename_i hcond
     split at hret
     ·rename_i vs' hvs'
      simp only [j4] at hret
      simp only [ja] at hcond
      exact ⟨vs,ks,u,os,u',hvs,hos,hcond.1,hcond.2,vs',hvs',hret.symm⟩
     ·simp at hret
    ·simp at hret
   ·simp at hret
  obtain ⟨vs,ks,u,os,u',hvs,hos,hnk,hsep,vs',hvs',rfl⟩:=hparts
  obtain ⟨zs,hzs,f1,p1,n1,r1⟩:=jgQ hT hR hvs
  have hnil:(∀ S' w',All2 (jfM S' w') vs zs→All2 (jfM S' w') vs' zs)∧j8t vs' zs=j8t vs zs∧(∀ m,vs'=[.hd m]→vs=[.hd m])∧∀ ns s,vs'=[.raw ns s]→vs=[.raw ns s]:=jqz hT hR hzs hvs'
  have hval:∀ (j:Nat) (x:Arg) (v:Value),args[j]? = some x→vals[j]? = some v→jlV x=true→γ' ((0+j)*64)=v:=by
   intro j x v hx hv hr
   refine (hR.par ((0+j)*64) v ?_).2.2
   simp only [jaD,jp5]
   rw [if_pos (by omega),z9 _ (by omega),js,hx]
   simp [hr,hv]
  obtain ⟨f2,r2⟩:=jj7 hR hos ha.length hval
  obtain ⟨S2,hR2,hst2,hfz2,hsame⟩:=j2Y (u++u') σ' S' hR (FrzL.app.2 ⟨f1,f2⟩)
  obtain ⟨hfz3,hfz4⟩:=Froz.app.1 hfz2
  have hnoS:∀ k b,(u++u').any (fun y=>y.1==k)=false→σ'.bx k = .live b→Uns b→∀ g,blk (γ' k)=some g→∀ o,¬ S2 g o:=by
   intro k b hk hb hkind g hg o
   have hb2:(σ'.upd (u++u')).bx k = .live b:=(j2s _ _ hk).trans hb
   have hbox:=hR2.box k b hb2
   rcases hkind with ⟨ls,rfl⟩ | ⟨e,t,xs,rfl⟩
   ·obtain ⟨g',cur,e,hg',_,_,_,hS,_⟩:=hbox
    rw [hg'] at hg;simp [blk] at hg;subst hg
    exact hS rfl o
   ·exact (hbox.2 g hg).1 rfl o
  have hkeysep:∀ k∈ks,(u++u').any (fun y=>y.1==k)=false:=by
   intro k hk
   rw [km]
   intro y hy he
   have:=jj.1 hsep y hy
   simp only [qf] at he
   rw [he] at this
   simp [hk] at this
  have hpar:∀ k,parK E.np k=true→(u++u').any (fun y=>y.1==k)=false:=by
   intro k hk
   rw [km]
   intro y hy he
   simp only [qf] at he
   have:=(FrzL.app.2 ⟨f1,f2⟩ y hy).1
   rw [he,hk] at this
   simp at this
  have hvals:=r1 S2 hst2 hfz3 (fun k hk g hg=>by
   obtain ⟨⟨b,hb,hu⟩,_⟩:=p1 k hk
   exact hnoS k b (hkeysep k hk) hb hu g hg)
  have houts:=r2 S2 hst2 hfz4 (fun j x v g hx hv hr hbu hg=>by
   obtain ⟨b,hb,hu⟩:=hbu
   have hj:j<args.length:=(jh.1 hx).1
   exact hnoS ((0+j)*64) b (hpar _ (by simp [parK];omega)) hb hu g (by rw [hval j x v hx hv hr];exact hg))
  have hrun:(results fn a'.tmps).run P w' = .ok (j5l zs) w':=by
   have hm:=jgf (P:=P) (w:=w') _ hzs
   unfold results
   rw [qy]
   simp only [Sem.run_bind,Sem.run_map]
   erw [hm]
   simp only [Result.andThen_ok,Sem.run_pure]
   exact congrArg (Result.ok · w') (jj8 zs)
  have hnh:∀ m,vs'=[.hd m]→∃ ad len cap,jg9 args vals=some (.slice ad len cap)∧m≤len∧zs=[.slice ad m cap]:=fun m hm=>by
   exact absurd (hnil.2.2.1 m hm) (jj9 hvs m)
  have hnr:∀ ns s,vs'=[.raw ns s]→jrT w.heap.size S2 w' ns s (j5l zs):=fun ns s hm=>absurd (hnil.2.2.2 ns s hm) (jhL hvs ns s)
  refine ⟨j5l zs,hrun,⟨vs',os⟩,hk,j5l zs,S2,zs,rfl,⟨rfl,hnil.1 _ _ hvals,fun g hg=> ?_,?_,houts,fun g o hs=>⟨hR2.ext g o hs,?_⟩,hR2.new,hR2.here,hR2.below,hR2.grow,hR2.os,hR2.tape,hR2.output,hnr,hnh⟩⟩
  ·rw [hnil.2.1,n1] at hg
   obtain ⟨k,hk',hkg⟩:=qs.1 hg
   obtain ⟨⟨b,hb,_⟩,hp⟩:=p1 k hk'
   rcases hR.own k b g hb hkg with h | h
   ·exact h
   ·rw [hp] at h;simp at h
  ·rw [hnil.2.1,n1]
   exact jf8 hR (j94 hnk) (fun k hk'=>by obtain ⟨⟨b,hb,_⟩,_⟩:=p1 k hk';exact ⟨b,hb⟩)
  ·refine World.cell?_of_block (hR2.below g (hS g o hs) (fun hm=> ?_))
   obtain ⟨i,x,v,hx,hv,hb⟩:=jds hm
   obtain ⟨v',hv',hxv⟩:=ha.get i x hx
   rw [hv] at hv';simp at hv';subst hv'
   exact jiA hxv hb o hs
 cases ex with
 | exit i=>simp at hk
 | normal=>exact jdt a0.defers hR1.defers.symm hle.marks hR1 (fun w2 hw=>hend hk w2 hw)
 | ret=>exact jdt a0.defers hR1.defers.symm hle.marks hR1 (fun w2 hw=>hend hk w2 hw)
end
section
variable {E:Env}
def LFun (L:Nat→Snap→(R:Type)→(Ex→Snap→Option R)→Option R):Prop:=
 ∀ b s,∃ o:Option (Ex×Snap),∀ (R:Type) (k:Ex→Snap→Option R),L b s R k=o.bind fun x=>k x.1 x.2
def Det {α:Type} (f:(R:Type)→(α→Option R)→Option R):Prop:=∃ o:Option α,∀ (R:Type) (k:α→Option R),f R k=o.bind k
theorem Det.val {α:Type} (x:α):Det (fun _ k=>k x):=⟨some x,fun _ _=>rfl⟩
theorem Det.no {α:Type}:Det (fun R (_:α→Option R)=>none):=⟨none,fun _ _=>rfl⟩
theorem Det.cond {α:Type} {f g:(R:Type)→(α→Option R)→Option R} (b:Bool) (h:Det f) (h':Det g):Det (fun R k=>cond b (f R k) (g R k)):=by
 cases b with
 | true=>exact h
 | false=>exact h'
theorem Det.bind {α β:Type} {f:(R:Type)→(α→Option R)→Option R} {g:α→(R:Type)→(β→Option R)→Option R} (h:Det f) (h':∀ a,Det (g a)):Det (fun R k=>f R fun a=>g a R k):=by
 obtain ⟨o,ho⟩:=h
 cases o with
 | none=>exact ⟨none,fun R k=>ho R _⟩
 | some a=>
  obtain ⟨o',ho'⟩:=h' a
  exact ⟨o',fun R k=>(ho R _).trans (ho' R k)⟩
theorem Det.congr {α:Type} {f g:(R:Type)→(α→Option R)→Option R} (h:Det f) (e:∀ R k,g R k=f R k):Det g:=by
 obtain ⟨o,ho⟩:=h
 exact ⟨o,fun R k=>(e R k).trans (ho R k)⟩
theorem jja (hF:CFun E.C) (hz:E.nz=false) (p:Bool) (σ:St) (act:List (Nat×Bool)) (o:Oper):Det (fun R (k:St→Option R)=>run1 E p σ act o k):=by
 unfold run1
 simp only [hz,j6]
 split
 ·exact .no
 ·exact .cond _ (.val _) .no
 ·rename_i f args mk _
  refine Det.bind (f:=fun R k=>E.C f args R k) (hF f args) fun ret=> ?_
  split
  ·exact .val _
  ·exact .no
theorem jiB:∀ (l:List (Nat×Bool)) (σ:St),Det (fun R (k:St×Bool→Option R)=>jfz l σ fun a b=>k (a,b))
 | [],σ=> .val _
 | (s,w)::r,σ=>by
  simp only [jfz]
  refine (Det.bind (jiB r σ) (g:=fun x R k=>match x.2 with
   | true=>match jo6 r x.1 s with
    | some v=>cond v (k (x.1.setS s (.one (.one (.d .bool true))),w)) (k (x.1.setS s (.one (.one (.d .bool false))), !w))
    | none=>none
   | false=>k (x.1,false)) fun x=> ?_).congr fun R k=>rfl
  obtain ⟨σ1,a⟩:=x
  cases a with
  | true=>
   dsimp only
   split
   ·exact .cond _ (.val _) (.val _)
   ·exact .no
  | false=>exact .val _
theorem jp6 (hF:CFun E.C) (hz:E.nz=false) (ops:Array Oper) (σ:St) (o:Oper):Det (fun R (k:St→Option R)=>jo7 E ops σ o k):=by
 unfold jo7
 split
 ·split
  ·exact jja hF hz _ _ _ _
  ·exact .no
 ·rename_i g _
  have slow:Det (fun R (k:St→Option R)=>jfz (σ.chain 40 g) σ fun σ' a=>match a with
    | true=>run1 E true σ' (σ.chain 40 g) o k
    | false=>k (σ'.put o.dst (.one (.one .dead)))):=by
   refine (Det.bind (jiB (σ.chain 40 g) σ) (g:=fun x R k=>match x.2 with
    | true=>run1 E true x.1 (σ.chain 40 g) o k
    | false=>k (x.1.put o.dst (.one (.one .dead)))) fun x=> ?_).congr fun R k=>rfl
   obtain ⟨σ1,a⟩:=x
   cases a with
   | true=>exact jja hF hz _ _ _ _
   | false=>exact .val _
  dsimp only
  split
  ·split
   ·exact .cond _ (.val _) .no
   ·exact slow
  ·exact slow
theorem jgT (hF:CFun E.C) (hz:E.nz=false):∀ (l:List Oper) (σ:St),Det (fun R (k:St→Option R)=>j8q E l σ k)
 | [],σ=> .val _
 | o::os,σ=>by
  simp only [j8q]
  split
  ·exact Det.bind (jja hF hz false σ [] o) fun σ'=>jgT hF hz os σ'
  ·exact .no
theorem jiC (hF:CFun E.C) (hz:E.nz=false) (ops:Array Oper):∀ (l:List Oper) (σ:St),Det (fun R (k:St→Option R)=>jie E ops l σ k)
 | [],σ=> .val _
 | o::os,σ=>by
  simp only [jie]
  split
  ·exact Det.bind (jp6 hF hz ops σ o) fun σ'=>jiC hF hz ops os σ'
  ·exact .no
theorem jlX (hF:CFun E.C) (hz:E.nz=false) (ops:Array Oper) (σ:St):Det (fun R (k:St→Option R)=>j8r E ops σ k):=by
 unfold j8r
 split
 ·exact jgT hF hz _ _
 ·exact jiC hF hz _ _ _
theorem jjb (hF:CFun E.C) (hz:E.nz=false) (M Ai:List Nat) (σ:St) (o:Oper):Det (fun R (k:St→Option R)=>runD E M Ai σ o k):=by
 unfold runD
 split
 ·exact .no
 ·split
  ·exact .cond _ (.val _) .no
  ·exact .no
 ·rename_i f args mk _
  refine Det.bind (f:=fun R k=>E.C f args R k) (hF f args) fun ret=> ?_
  split
  ·split
   ·exact .val _
   ·exact .no
  ·exact .no
theorem jnK (hF:CFun E.C) (hz:E.nz=false) (ops:Array Oper) (M Ai:List Nat) (σ:St) (o:Oper):Det (fun R (k:St→Option R)=>jk4 E ops M Ai σ o k):=by
 unfold jk4
 split
 ·exact jjb hF hz _ _ _ _
 ·split
  ·split
   ·exact .cond _ (.cond _ (jjb hF hz _ _ _ _) (.val _)) (.cond _ (.val _) (jjb hF hz _ _ _ _))
   ·exact .val _
   ·exact .no
  ·exact .no
theorem jkF (hF:CFun E.C) (hz:E.nz=false) (ops:Array Oper) (cl:List Nat) (A:List (List Nat)):∀ (l:List Oper) (i:Nat) (σ:St),Det (fun R (k:St→Option R)=>jni E ops cl A l i σ k)
 | [],_,σ=> .val _
 | o::os,i,σ=>by
  simp only [jni]
  split
  ·exact Det.bind (jnK hF hz ops _ _ σ o) fun σ'=>jkF hF hz ops cl A os (i+1) σ'
  ·exact .no
theorem jkG (hF:CFun E.C) (hz:E.nz=false) (ops:Array Oper) (A:List (List Nat)) (σ:St):Det (fun R (k:St→Option R)=>jeh E ops A σ k):=by
 unfold jeh
 split
 ·exact jkF hF hz _ _ _ _ _ _
 ·exact .no
theorem jfe (np:Nat):∀ (gs:List Gh) (σ:St),Det (fun R (k:St→Option R)=>jgo np gs σ k)
 | [],σ=> .val _
 | g::gs,σ=>by
  simp only [jgo]
  split
  ·exact .cond _ (jfe np gs _) .no
  ·exact .no
theorem jiD {f:(R:Type)→St→(Ex→St→Option R)→Option R} (hf:∀ σ,Det (fun R (k:Ex×St→Option R)=>f R σ fun e σ'=>k (e,σ'))):∀ (n:Nat) (σ:St),
  Det (fun R (k:Ex×St→Option R)=>jfA (f R) n σ fun e σ'=>k (e,σ'))
 | 0,σ=> .no
 | n+1,σ=>by
  refine (Det.bind (hf σ) (g:=fun z R k=>match z.1 with
   | .normal=>jfA (f R) n z.2 fun e σ'=>k (e,σ')
   | e=>k (e,z.2)) fun z=> ?_).congr fun R k=>by
    simp only [jfA]
    congr 1
    try (funext e σ';cases e<;>rfl)
  obtain ⟨e,σ'⟩:=z
  cases e with
  | normal=>exact jiD hf n σ'
  | exit i=>exact .val _
  | ret=>exact .val _
theorem j9Z (hF:CFun E.C) (hz:E.nz=false) (hL:LFun E.L):∀ (c:Code) (b:Nat) (σ:St),Det (fun R (k:Ex×St→Option R)=>j10 E b c σ fun e σ'=>k (e,σ')):=by
 intro c
 induction c with
 | skip=>intro b σ;exact .val _
 | region id ops draw=>
  intro b σ
  cases draw with
  | true=>exact Det.bind (jfe E.np (E.pre id) σ) fun σ1=>Det.bind (jkG hF hz ops (E.dw id) σ1) fun σ'=> .val (Ex.normal,σ')
  | false=>exact Det.bind (jfe E.np (E.pre id) σ) fun σ1=>Det.bind (jlX hF hz ops σ1) fun σ'=> .val (Ex.normal,σ')
 | seq x y ihx ihy=>
  intro b σ
  refine (Det.bind (ihx b σ) (g:=fun z R k=>match z.1 with
   | .normal=>j10 E b y z.2 fun e σ'=>k (e,σ')
   | e=>k (e,z.2)) fun z=> ?_).congr fun R k=>by
    simp only [j10]
    congr 1
    try (funext e σ';cases e<;>rfl)
  obtain ⟨e,σ'⟩:=z
  cases e with
  | normal=>exact ihy b σ'
  | exit i=>exact .val _
  | ret=>exact .val _
 | cond c x y ihx ihy=>
  intro b σ
  simp only [j10]
  split
  ·exact .cond _ (ihx b σ) (ihy b σ)
  ·exact .no
 | block id c ih=>
  intro b σ
  refine (Det.bind (ih id σ) (g:=fun z R k=>match z.1 with
   | .exit i=>if i=id then k (.normal,z.2) else k (.exit i,z.2)
   | e=>k (e,z.2)) fun z=> ?_).congr fun R k=>by
    simp only [j10]
    congr 1
    try (funext e σ';cases e<;>rfl)
  obtain ⟨e,σ'⟩:=z
  cases e with
  | normal=>exact .val _
  | exit i=>
   dsimp only
   split
   ·exact .val _
   ·exact .val _
  | ret=>exact .val _
 | loop c ih=>
  intro b σ
  simp only [j10]
  refine .cond _ .no (.cond _ ?_ ?_)
  ·exact jiD (f:=fun R σ k=>j10 E b c σ k) (fun σ=>ih b σ) 2 σ
  split
  ·rename_i s _
   obtain ⟨o,ho⟩:=hL b s
   exact Det.bind (f:=fun R k=>E.L b s R fun e s'=>k (e,s')) ⟨o,fun R k=>ho R _⟩ (g:=fun z R k=>k (z.1,j1y E.np (E.keepX b z.1) z.2)) fun z=> .val _
  ·exact .no
 | rangeFunc g ps x y _ _=>
  intro b σ
  simp only [j10]
  split
  ·split
   ·rename_i kd _
    split
    ·rename_i s _
     obtain ⟨o,ho⟩:=hL b (.s (.one (.d (.int .i64) (jgp kd (List.length _))))::s)
     exact Det.bind (f:=fun R k=>E.L b _ R fun e s'=>k (e,s')) ⟨o,fun R k=>ho R _⟩ (g:=fun z R k=>k (z.1,j1y E.np (E.keepX b z.1) z.2)) fun z=> .val _
    ·exact .no
   ·exact .no
  ·exact .no
 | scope c ih=>intro b σ;exact ih b σ
 | label l=>intro b σ;exact .val _
 | exit i=>intro b σ;exact .val _
 | ret=>intro b σ;exact .val _
 | _=>intro b σ;exact .no
theorem jlY (hF:CFun E.C) (hz:E.nz=false) (hL:LFun E.L) (b:Nat) (g:Operand) (ps:Array Nat) (x y:Code) (s:Snap) :
  Det (fun R (k:Option (List Item)×Ex×St→Option R)=>jgq E b g ps x y s fun p e σ'=>k (p,e,σ')):=by
 unfold jgq
 split
 ·rename_i n s0
  split
  ·split
   ·rename_i kd _
    refine .cond _ (.val _) (.cond _ ?_ .no)
    refine (Det.bind (j9Z (E:=E.rnd ps x y) hF hz hL x 0 _) (g:=fun z R k=>match z.1 with
     | .normal=>j10 (E.rnd ps x y) 0 y z.2 fun e σ'=>k (some [.s (.one (.d (.int .i64) (jk8 kd n)))],e,σ')
     | _=>none) fun z=> ?_).congr fun R k=>by
      congr 1
      try (funext e σ';cases e<;>rfl)
    obtain ⟨e,σ'⟩:=z
    cases e with
    | normal=>exact Det.bind (j9Z (E:=E.rnd ps x y) hF hz hL y 0 σ') fun z=> .val (_,z)
    | exit i=>exact .no
    | ret=>exact .no
   ·exact .no
  ·exact .no
 ·exact .no
theorem jnL (hF:CFun E.C) (hz:E.nz=false) (hL:LFun E.L) (fn:Func) (args:List Arg):Det (fun R (k:Ret→Option R)=>jej E fn args k):=by
 unfold jej
 split
 ·split
  ·rename_i c _
   refine (Det.bind (j9Z hF hz hL c 0 (St.init args)) (g:=fun z R k=>match z.1 with
    | .exit _=>none
    | _=>match jiR E fn args z.2 with
     | some r=>k r
     | none=>none) fun z=> ?_).congr fun R k=>rfl
   obtain ⟨e,σ'⟩:=z
   cases e<;>dsimp only<;>(try split)<;>first | exact .no | exact .val _
  ·exact .no
 ·exact .no
end
end Go.Lft
