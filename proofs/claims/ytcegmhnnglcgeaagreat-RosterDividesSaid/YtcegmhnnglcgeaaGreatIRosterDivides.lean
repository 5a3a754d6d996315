/- RosterDivides: the given function returns true at every input and leaves its arguments alone. -/
import Derived.Test.YtcegmhnnglcgeaaGreatRows
import Derived.Test.YtcegmhnnglcgeaaGreatICon0
import Derived.Test.YtcegmhnnglcgeaaGreatICon1
import Derived.Test.YtcegmhnnglcgeaaGreatICon2
import Derived.Test.YtcegmhnnglcgeaaGreatICon3
import Derived.Test.YtcegmhnnglcgeaaGreatICon4
import Derived.Test.YtcegmhnnglcgeaaGreatICon5
import Derived.Test.YtcegmhnnglcgeaaGreatICon6
import Derived.Test.YtcegmhnnglcgeaaGreatICon7
import Derived.Test.YtcegmhnnglcgeaaGreatIPM
import Derived.WalkKit
import Derived.ProofKit
import Derived.OpenShut
namespace Go.Proofs.YtcegmhnnglcgeaaGreat.rosterDivides
open Go.ChangeShapes Go.WideShapes Go.ChangeAt Go.RowKit Go.Lft
set_option linter.unusedVariables false
theorem own:ownKnob Tryz.prog.godebug=none:=by kernel_rfl
set_option maxRecDepth 100000 in
theorem jyd (os:Os) (started:os.Started) (H:Type) (enc:TypeId×Value→H) :
  ReturnsInHanded {} Tryz.checked os 5 .any (Rows.rosterDividesSpec.pre6 enc Tryz.prog Tryz.f5 Rows.rosterDividesRow.domain false) (Rows.rosterDividesSpec.post enc Tryz.prog Tryz.f5 false true false false):=by
 refine returnsInHanded_of_change (C:=Tryz.checked) own started (by kernel_rfl) Tryz.func5
  (ChangeSpec.witness6 (enc:=enc) (C:=Tryz.checked) false ⟨#[], #[.slice none 0 0,.int .i64 0],[]⟩ 8 (by kernel_rfl) (by kernel_rfl) (by kernel_rfl) (by kernel_rfl)) ?_
 intro W base args ds gs before hval0 hW hcnd _
 have hval:∀ (j:Nat) t v,Tryz.f5.params[j]? = some t→args[j]? = some v→Value.okWide Tryz.prog W .any base t v:=hval0
 have hW':=hW
 obtain ⟨p,q,hA0,hV,rfl,hfz,hnd⟩:=hW
 have hA:DataW.TrodAll enc Tryz.prog W 0 (fun _=>true) true Tryz.f5.params.toList args.toList ds p:=hA0
 rw [Tryz.params5] at hA hval
 obtain ⟨v0,vs0,d0,ds0,p0,q0,hargs,rfl,rfl,h0,r0⟩:=trodAll_cons hA
 obtain ⟨v1,vs1,d1,ds1,p1,q1,rfl,rfl,rfl,h1,r1⟩:=trodAll_cons r0
 obtain ⟨rfl,rfl,rfl⟩:=trodAll_nil r1
 obtain rfl:args = #[v0,v1]:=by cases args;simp_all
 obtain ⟨rfl,rfl⟩:=trodVars_none hV
 obtain ⟨x0,a0,w0,k0⟩:=jqF (n:=9) (ty:=(.list (.int .i64))) (by kernel_rfl) (hval 0 22 v0 rfl rfl) h0
 obtain ⟨x1,a1,w1,k1⟩:=jqF (n:=9) (ty:=(.int .i64)) (by kernel_rfl) (hval 1 3 v1 rfl rfl) h1
 clear hA0 hval0
 refine (jt1 Pk.law14_RosterDivides_ok (x0,x1) (Pw.jhD x0 w0 x1 w1) W (oldS W) [v0,v1] ⟨a0,a1,trivial⟩ rfl (fun _ _ h=>h) rfl).mono fun e W' ⟨he,hg⟩=> ?_
 subst he
 exact ⟨_,rfl,Go.Lft.jmA (pa:=p0++(p1++([]))) (pv:=[]) hW' (fun _ _ _=>(trodAll_cons_mk (shut_bool Tryz.underlying4 _) trodAll_mk0)) (fun sp hsp=>(trodAll_cons_mk (k0 W' sp hg (fun q hq=>hsp q (by refine List.mem_append_left _ ?_;  exact List.mem_append_left _ hq))) (trodAll_cons_mk (k1 W' sp hg (fun q hq=>hsp q (by refine List.mem_append_left _ ?_;refine List.mem_append_right _ ?_;exact List.mem_append_left _ hq))) trodAll_mk0))) (fun _ _=>rfl) rfl
  hg (ok_one (by kernel_rfl) rfl (okWide_bool_mk Tryz.underlying4 _))⟩
set_option maxHeartbeats 4000000 in
theorem closed:joinedFacts Tryz.pinned.checked.prog 5 Tryz.f5 Rows.rosterDividesSpec Rows.rosterDividesRow=true:=by
 unfold joinedFacts
 simp only [Bool.and_eq_true]
 repeat' refine j9 ?_ ?_
 all_goals as_aux_lemma=>kernel_rfl
theorem over:Rows.rosterDividesRow.holds Tryz.pinned (OpenSpec.ofChange Rows.rosterDividesSpec):=
 OpenClaim.holds_of_wide 5 Tryz.f5 rfl rfl rfl rfl rfl rfl rfl ⟨rfl,rfl,rfl,rfl,rfl⟩ rfl rfl rfl rfl rfl (by as_aux_lemma=>kernel_rfl) Tryz.func5 closed
  (of_decide_eq_true (by as_aux_lemma=>kernel_rfl)) (by as_aux_lemma=>unfold Func.isWrapper;first | (rw [if_pos (by decide +kernel)];kernel_rfl) | (rw [if_neg (by decide +kernel)];exact ⟨rfl,rfl⟩))
  (fun os started H enc _=>jyd os started H enc)
theorem proved:Rows.RosterDividesSaid:=
 over
#print axioms proved
end Go.Proofs.YtcegmhnnglcgeaaGreat.rosterDivides
