/- LoadSwaps: the given function returns true at every input and leaves its arguments alone. -/
import Derived.Test.YtpbnnhakjhalaaaGreatRows
import Derived.Test.YtpbnnhakjhalaaaGreatLWCon0
import Derived.Test.YtpbnnhakjhalaaaGreatLWCon1
import Derived.Test.YtpbnnhakjhalaaaGreatLWCon2
import Derived.Test.YtpbnnhakjhalaaaGreatLWCon3
import Derived.Test.YtpbnnhakjhalaaaGreatLWCon4
import Derived.Test.YtpbnnhakjhalaaaGreatLWCon5
import Derived.Test.YtpbnnhakjhalaaaGreatLWCon6
import Derived.Test.YtpbnnhakjhalaaaGreatLWCon7
import Derived.Test.YtpbnnhakjhalaaaGreatLWCon8
import Derived.Test.YtpbnnhakjhalaaaGreatLWPN
import Derived.WalkKit
import Derived.ProofKit
import Derived.OpenShut
namespace Go.Proofs.YtpbnnhakjhalaaaGreat.loadSwaps
open Go.ChangeShapes Go.WideShapes Go.ChangeAt Go.RowKit Go.Lft
set_option linter.unusedVariables false
theorem own:ownKnob Tryz.prog.godebug=none:=by kernel_rfl
set_option maxRecDepth 100000 in
theorem jzm(os:Os)(started:os.Started)(H:Type)(enc:TypeId×Value->H) :
  ReturnsInHanded {} Tryz.checked os 11 .any (Rows.loadSwapsSpec.pre6 enc Tryz.prog Tryz.f11 Rows.loadSwapsRow.domain false) (Rows.loadSwapsSpec.post enc Tryz.prog Tryz.f11 false true false false):=by
 refine returnsInHanded_of_change (C:=Tryz.checked) own started (by kernel_rfl) Tryz.func11
  (ChangeSpec.witness6 (enc:=enc) (C:=Tryz.checked) false ⟨#[], #[.slice none 0 0],[]⟩ 8 (by kernel_rfl) (by kernel_rfl) (by kernel_rfl) (by kernel_rfl)) ?_
 intro W base args ds gs before uO hW pK _;have eB:∀(j:Nat) t v,Tryz.f11.params[j]? = some t->args[j]? = some v->Value.okWide Tryz.prog W .any base t v:=uO;have hW':=hW;obtain⟨p,q,Wm,hV,rfl,dN,dy⟩:=hW;have hA:DataW.TrodAll enc Tryz.prog W 0 (λ_=>true) true Tryz.f11.params.toList args.toList ds p:=Wm;rw[Tryz.params11]at hA eB;obtain⟨v0,ZU,d0,ds0,p0,q0,cm,rfl,rfl,h0,r0⟩:=trodAll_cons hA;obtain⟨rfl,rfl,rfl⟩:=trodAll_nil r0;obtain rfl:args = #[v0]:=by cases args;simp_all
 obtain⟨rfl,rfl⟩:=trodVars_none hV;obtain⟨x0,a0,w0,k0⟩:=jvu (n:=9) (ty:=(.list (.int .i64))) (by kernel_rfl) (eB 0 22 v0 rfl rfl) h0;clear Wm uO;refine(jty Pk.law17_LoadSwaps_ok x0 (Pw.jkR x0 w0) W (oldS W) [v0] ⟨a0,trivial⟩ rfl (λ_ _ h=>h) rfl).mono λe W' ⟨he,hg⟩=>?_;subst he
 exact⟨_,rfl,Go.Lft.jmd (pa:=p0++([])) (pv:=[]) hW' (λ_ _ _=>(trodAll_cons_mk (shut_bool Tryz.underlying4 _) trodAll_mk0)) (λsp cP=>(trodAll_cons_mk (k0 W' sp hg (λq hq=>cP q (by refine kj _ ?_;  exact kj _ hq))) trodAll_mk0)) (λ_ _=>rfl) rfl
  hg (ok_one (by kernel_rfl) rfl (okWide_bool_mk Tryz.underlying4 _))⟩
set_option maxHeartbeats 4000000 in
theorem closed:joinedFacts Tryz.pinned.checked.prog 11 Tryz.f11 Rows.loadSwapsSpec Rows.loadSwapsRow=true:=by
 unfold joinedFacts;simp only[ja]
 repeat' refine j9 ?_ ?_
 all_goals as_aux_lemma=>kernel_rfl
theorem over:Rows.loadSwapsRow.holds Tryz.pinned (OpenSpec.ofChange Rows.loadSwapsSpec):=
 OpenClaim.holds_of_wide 11 Tryz.f11 rfl rfl rfl rfl rfl rfl rfl ⟨rfl,rfl,rfl,rfl,rfl⟩ rfl rfl rfl rfl rfl (by as_aux_lemma=>kernel_rfl) Tryz.func11 closed
  (qd (by as_aux_lemma=>kernel_rfl)) (by as_aux_lemma=>unfold Func.isWrapper;first|(rw[if_pos (by decide +kernel)];kernel_rfl)|(rw[if_neg (by decide +kernel)];exact⟨rfl,rfl⟩))
  (λos started H enc _=>jzm os started H enc)
theorem proved:Rows.LoadSwapsSaid:=
 over
#print axioms proved
end Go.Proofs.YtpbnnhakjhalaaaGreat.loadSwaps
