/- LoadSums: the given function returns true at every input and leaves its arguments alone. -/
import Derived.Test.YtjpgjpnfacnmaaaGreatRows
import Derived.Test.YtjpgjpnfacnmaaaGreatLSCon0
import Derived.Test.YtjpgjpnfacnmaaaGreatLSCon1
import Derived.Test.YtjpgjpnfacnmaaaGreatLSCon10
import Derived.Test.YtjpgjpnfacnmaaaGreatLSCon2
import Derived.Test.YtjpgjpnfacnmaaaGreatLSCon3
import Derived.Test.YtjpgjpnfacnmaaaGreatLSCon4
import Derived.Test.YtjpgjpnfacnmaaaGreatLSCon5
import Derived.Test.YtjpgjpnfacnmaaaGreatLSCon6
import Derived.Test.YtjpgjpnfacnmaaaGreatLSCon7
import Derived.Test.YtjpgjpnfacnmaaaGreatLSCon8
import Derived.Test.YtjpgjpnfacnmaaaGreatLSCon9
import Derived.Test.YtjpgjpnfacnmaaaGreatLSPS
import Derived.WalkKit
import Derived.ProofKit
import Derived.OpenShut
namespace Go.Proofs.YtjpgjpnfacnmaaaGreat.loadSums
open Go.ChangeShapes Go.WideShapes Go.ChangeAt Go.RowKit Go.Lft
set_option linter.unusedVariables false
theorem own:ownKnob Tryz.prog.godebug=none:=by kernel_rfl
set_option maxRecDepth 100000 in
theorem jFt(os:Os)(started:os.Started)(H:Type)(enc:TypeId×Value->H) :
  ReturnsInHanded {} Tryz.checked os 6 .any (Rows.loadSumsSpec.pre6 enc Tryz.prog Tryz.f6 Rows.loadSumsRow.domain false) (Rows.loadSumsSpec.post enc Tryz.prog Tryz.f6 false true false false):=by
 refine returnsInHanded_of_change (C:=Tryz.checked) own started (by kernel_rfl) Tryz.func6
  (ChangeSpec.witness6 (enc:=enc) (C:=Tryz.checked) false ⟨#[], #[.slice none 0 0],[]⟩ 8 (by kernel_rfl) (by kernel_rfl) (by kernel_rfl) (by kernel_rfl)) ?_
 intro W base args ds gs before xv hW r7 _;have fm:∀(j:Nat) t v,Tryz.f6.params[j]? = some t->args[j]? = some v->Value.okWide Tryz.prog W .any base t v:=xv;have hW':=hW;obtain⟨p,q,hA0,hV,rfl,fB,fA⟩:=hW;have hA:DataW.TrodAll enc Tryz.prog W 0 (λ_=>true) true Tryz.f6.params.toList args.toList ds p:=hA0;rw[Tryz.params6]at hA fm;obtain⟨v0,vs0,d0,ds0,p0,q0,fi,rfl,rfl,h0,r0⟩:=trodAll_cons hA;obtain⟨rfl,rfl,rfl⟩:=trodAll_nil r0;obtain rfl:args = #[v0]:=by cases args;simp_all
 obtain⟨rfl,rfl⟩:=trodVars_none hV;obtain⟨x0,a0,w0,k0⟩:=jAF (n:=9) (ty:=(.list (.int .i64))) (by kernel_rfl) (fm 0 22 v0 rfl rfl) h0;clear hA0 xv;refine(jyl Pk.law17_LoadSums_ok x0 (Pw.jqE x0 w0) W (oldS W) [v0] ⟨a0,trivial⟩ rfl (λ_ _ h=>h) rfl).mono λe W' ⟨he,hg⟩=>?_;subst he
 exact⟨_,rfl,Go.Lft.jps (pa:=p0++([])) (pv:=[]) hW' (λ_ _ _=>(trodAll_cons_mk (shut_bool Tryz.underlying4 _) trodAll_mk0)) (λsp dQ=>(trodAll_cons_mk (k0 W' sp hg (λq hq=>dQ q (by refine jz _ ?_;  exact jz _ hq))) trodAll_mk0)) (λ_ _=>rfl) rfl
  hg (ok_one (by kernel_rfl) rfl (okWide_bool_mk Tryz.underlying4 _))⟩
set_option maxHeartbeats 4000000 in
theorem closed:joinedFacts Tryz.pinned.checked.prog 6 Tryz.f6 Rows.loadSumsSpec Rows.loadSumsRow=true:=by
 unfold joinedFacts;simp only[jc]
 repeat' refine ja ?_ ?_
 all_goals as_aux_lemma=>kernel_rfl
theorem over:Rows.loadSumsRow.holds Tryz.pinned (OpenSpec.ofChange Rows.loadSumsSpec):=
 OpenClaim.holds_of_wide 6 Tryz.f6 rfl rfl rfl rfl rfl rfl rfl ⟨rfl,rfl,rfl,rfl,rfl⟩ rfl rfl rfl rfl rfl (by as_aux_lemma=>kernel_rfl) Tryz.func6 closed
  (kz (by as_aux_lemma=>kernel_rfl)) (by as_aux_lemma=>unfold Func.isWrapper;first|(rw[if_pos (by decide +kernel)];kernel_rfl)|(rw[if_neg (by decide +kernel)];exact⟨rfl,rfl⟩))
  (λos started H enc _=>jFt os started H enc)
theorem proved:Rows.LoadSumsSaid:=
 over
#print axioms proved
end Go.Proofs.YtjpgjpnfacnmaaaGreat.loadSums
