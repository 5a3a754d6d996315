/- EditOrder: the given function returns true at every input and leaves its arguments alone. -/
import Derived.Test.YtpbnnhakjhalaaaGreatRows
import Derived.Test.YtpbnnhakjhalaaaGreatEOCon0
import Derived.Test.YtpbnnhakjhalaaaGreatEOCon1
import Derived.Test.YtpbnnhakjhalaaaGreatEOCon2
import Derived.Test.YtpbnnhakjhalaaaGreatEOCon3
import Derived.Test.YtpbnnhakjhalaaaGreatEOCon4
import Derived.Test.YtpbnnhakjhalaaaGreatEOCon5
import Derived.Test.YtpbnnhakjhalaaaGreatEOCon6
import Derived.Test.YtpbnnhakjhalaaaGreatEOCon7
import Derived.Test.YtpbnnhakjhalaaaGreatEOCon8
import Derived.Test.YtpbnnhakjhalaaaGreatEOPJ
import Derived.WalkKit
import Derived.ProofKit
import Derived.OpenShut
namespace Go.Proofs.YtpbnnhakjhalaaaGreat.editOrder
open Go.ChangeShapes Go.WideShapes Go.ChangeAt Go.RowKit Go.Lft
set_option linter.unusedVariables false
theorem own:ownKnob Tryz.prog.godebug=none:=by kernel_rfl
set_option maxRecDepth 100000 in
theorem jwV (os:Os) (started:os.Started) (H:Type) (enc:TypeId×Value→H) :
  ReturnsInHanded {} Tryz.checked os 6 .any (Rows.editOrderSpec.pre6 enc Tryz.prog Tryz.f6 Rows.editOrderRow.domain false) (Rows.editOrderSpec.post enc Tryz.prog Tryz.f6 false true false false):=by
 refine returnsInHanded_of_change (C:=Tryz.checked) own started (by kernel_rfl) Tryz.func6
  (ChangeSpec.witness6 (enc:=enc) (C:=Tryz.checked) false ⟨#[], #[.slice none 0 0],[]⟩ 8 (by kernel_rfl) (by kernel_rfl) (by kernel_rfl) (by kernel_rfl)) ?_
 intro W base args ds gs before hval0 hW hcnd _
 have hval:∀ (j:Nat) t v,Tryz.f6.params[j]? = some t→args[j]? = some v→Value.okWide Tryz.prog W .any base t v:=hval0
 have hW':=hW
 obtain ⟨p,q,hA0,hV,rfl,hfz,hnd⟩:=hW
 have hA:DataW.TrodAll enc Tryz.prog W 0 (fun _=>true) true Tryz.f6.params.toList args.toList ds p:=hA0
 rw [Tryz.params6] at hA hval
 obtain ⟨v0,vs0,d0,ds0,p0,q0,hargs,rfl,rfl,h0,r0⟩:=trodAll_cons hA
 obtain ⟨rfl,rfl,rfl⟩:=trodAll_nil r0
 obtain rfl:args = #[v0]:=by cases args;simp_all
 obtain ⟨rfl,rfl⟩:=trodVars_none hV
 obtain ⟨x0,a0,w0,k0⟩:=jtX (n:=9) (ty:=(.list (.int .i64))) (by kernel_rfl) (hval 0 22 v0 rfl rfl) h0
 clear hA0 hval0
 refine (jsu Pk.law13_EditOrder_ok x0 (Pw.jkb x0 w0) W (oldS W) [v0] ⟨a0,trivial⟩ rfl (fun _ _ h=>h) rfl).mono fun e W' ⟨he,hg⟩=> ?_
 subst he
 exact ⟨_,rfl,Go.Lft.jlo (pa:=p0++([])) (pv:=[]) hW' (fun _ _ _=>(trodAll_cons_mk (shut_bool Tryz.underlying4 _) trodAll_mk0)) (fun sp hsp=>(trodAll_cons_mk (k0 W' sp hg (fun q hq=>hsp q (by refine qe _ ?_;  exact qe _ hq))) trodAll_mk0)) (fun _ _=>rfl) rfl
  hg (ok_one (by kernel_rfl) rfl (okWide_bool_mk Tryz.underlying4 _))⟩
set_option maxHeartbeats 4000000 in
theorem closed:joinedFacts Tryz.pinned.checked.prog 6 Tryz.f6 Rows.editOrderSpec Rows.editOrderRow=true:=by
 unfold joinedFacts
 simp only [ja]
 repeat' refine j9 ?_ ?_
 all_goals as_aux_lemma=>kernel_rfl
theorem over:Rows.editOrderRow.holds Tryz.pinned (OpenSpec.ofChange Rows.editOrderSpec):=
 OpenClaim.holds_of_wide 6 Tryz.f6 rfl rfl rfl rfl rfl rfl rfl ⟨rfl,rfl,rfl,rfl,rfl⟩ rfl rfl rfl rfl rfl (by as_aux_lemma=>kernel_rfl) Tryz.func6 closed
  (kq (by as_aux_lemma=>kernel_rfl)) (by as_aux_lemma=>unfold Func.isWrapper;first | (rw [if_pos (by decide +kernel)];kernel_rfl) | (rw [if_neg (by decide +kernel)];exact ⟨rfl,rfl⟩))
  (fun os started H enc _=>jwV os started H enc)
theorem proved:Rows.EditOrderSaid:=
 over
#print axioms proved
end Go.Proofs.YtpbnnhakjhalaaaGreat.editOrder
