/- EditLocal: the given function returns true at every input and leaves its arguments alone. -/
import Derived.Test.YtpbnnhakjhalaaaGreatRows
import Derived.Test.YtpbnnhakjhalaaaGreatELCon0
import Derived.Test.YtpbnnhakjhalaaaGreatELCon1
import Derived.Test.YtpbnnhakjhalaaaGreatELCon2
import Derived.Test.YtpbnnhakjhalaaaGreatELCon3
import Derived.Test.YtpbnnhakjhalaaaGreatELCon4
import Derived.Test.YtpbnnhakjhalaaaGreatELCon5
import Derived.Test.YtpbnnhakjhalaaaGreatELCon6
import Derived.Test.YtpbnnhakjhalaaaGreatELPH
import Derived.WalkKit
import Derived.ProofKit
import Derived.OpenShut
namespace Go.Proofs.YtpbnnhakjhalaaaGreat.editLocal
open Go.ChangeShapes Go.WideShapes Go.ChangeAt Go.RowKit Go.Lft
set_option linter.unusedVariables false
theorem own:ownKnob Tryz.prog.godebug=none:=by kernel_rfl
set_option maxRecDepth 100000 in
theorem jtw (os:Os) (started:os.Started) (H:Type) (enc:TypeId×Value→H) :
  ReturnsInHanded {} Tryz.checked os 4 .any (Rows.editLocalSpec.pre6 enc Tryz.prog Tryz.f4 Rows.editLocalRow.domain false) (Rows.editLocalSpec.post enc Tryz.prog Tryz.f4 false true false false):=by
 refine returnsInHanded_of_change (C:=Tryz.checked) own started (by kernel_rfl) Tryz.func4
  (ChangeSpec.witness6 (enc:=enc) (C:=Tryz.checked) false ⟨#[], #[.slice none 0 0],[]⟩ 8 (by kernel_rfl) (by kernel_rfl) (by kernel_rfl) (by kernel_rfl)) ?_
 intro W base args ds gs before hval0 hW hcnd _
 have hval:∀ (j:Nat) t v,Tryz.f4.params[j]? = some t→args[j]? = some v→Value.okWide Tryz.prog W .any base t v:=hval0
 have hW':=hW
 obtain ⟨p,q,hA0,hV,rfl,hfz,hnd⟩:=hW
 have hA:DataW.TrodAll enc Tryz.prog W 0 (fun _=>true) true Tryz.f4.params.toList args.toList ds p:=hA0
 rw [Tryz.params4] at hA hval
 obtain ⟨v0,vs0,d0,ds0,p0,q0,hargs,rfl,rfl,h0,r0⟩:=trodAll_cons hA
 obtain ⟨rfl,rfl,rfl⟩:=trodAll_nil r0
 obtain rfl:args = #[v0]:=by cases args;simp_all
 obtain ⟨rfl,rfl⟩:=trodVars_none hV
 obtain ⟨x0,a0,w0,k0⟩:=jqJ (n:=9) (ty:=(.list (.int .i64))) (by kernel_rfl) (hval 0 22 v0 rfl rfl) h0
 clear hA0 hval0
 refine (jpo Pk.law13_EditLocal_ok x0 (Pw.ji9 x0 w0) W (oldS W) [v0] ⟨a0,trivial⟩ rfl (fun _ _ h=>h) rfl).mono fun e W' ⟨he,hg⟩=> ?_
 subst he
 exact ⟨_,rfl,Go.Lft.jjk (pa:=p0++([])) (pv:=[]) hW' (fun _ _ _=>(trodAll_cons_mk (shut_bool Tryz.underlying4 _) trodAll_mk0)) (fun sp hsp=>(trodAll_cons_mk (k0 W' sp hg (fun q hq=>hsp q (by refine ql _ ?_;  exact ql _ hq))) trodAll_mk0)) (fun _ _=>rfl) rfl
  hg (ok_one (by kernel_rfl) rfl (okWide_bool_mk Tryz.underlying4 _))⟩
set_option maxHeartbeats 4000000 in
theorem closed:joinedFacts Tryz.pinned.checked.prog 4 Tryz.f4 Rows.editLocalSpec Rows.editLocalRow=true:=by
 unfold joinedFacts
 simp only [ja]
 repeat' refine j9 ?_ ?_
 all_goals as_aux_lemma=>kernel_rfl
theorem over:Rows.editLocalRow.holds Tryz.pinned (OpenSpec.ofChange Rows.editLocalSpec):=
 OpenClaim.holds_of_wide 4 Tryz.f4 rfl rfl rfl rfl rfl rfl rfl ⟨rfl,rfl,rfl,rfl,rfl⟩ rfl rfl rfl rfl rfl (by as_aux_lemma=>kernel_rfl) Tryz.func4 closed
  (ky (by as_aux_lemma=>kernel_rfl)) (by as_aux_lemma=>unfold Func.isWrapper;first | (rw [if_pos (by decide +kernel)];kernel_rfl) | (rw [if_neg (by decide +kernel)];exact ⟨rfl,rfl⟩))
  (fun os started H enc _=>jtw os started H enc)
theorem proved:Rows.EditLocalSaid:=
 over
#print axioms proved
end Go.Proofs.YtpbnnhakjhalaaaGreat.editLocal
