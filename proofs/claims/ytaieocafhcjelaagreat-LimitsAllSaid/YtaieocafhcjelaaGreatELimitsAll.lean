/- LimitsAll: the given function returns true at every input and leaves its arguments alone. -/
import Derived.Test.YtaieocafhcjelaaGreatRows
import Derived.Test.YtaieocafhcjelaaGreatECon0
import Derived.Test.YtaieocafhcjelaaGreatECon1
import Derived.Test.YtaieocafhcjelaaGreatECon2
import Derived.Test.YtaieocafhcjelaaGreatECon3
import Derived.Test.YtaieocafhcjelaaGreatECon4
import Derived.Test.YtaieocafhcjelaaGreatECon5
import Derived.Test.YtaieocafhcjelaaGreatECon6
import Derived.Test.YtaieocafhcjelaaGreatECon7
import Derived.Test.YtaieocafhcjelaaGreatEPR
import Derived.WalkKit
import Derived.ProofKit
import Derived.OpenShut
namespace Go.Proofs.YtaieocafhcjelaaGreat.limitsAll
open Go.ChangeShapes Go.WideShapes Go.ChangeAt Go.RowKit Go.Lft
set_option linter.unusedVariables false
theorem own:ownKnob Tryz.prog.godebug=none:=by kernel_rfl
set_option maxRecDepth 100000 in
theorem jBc(os:Os)(started:os.Started)(H:Type)(enc:TypeId×Value->H) :
  ReturnsInHanded {} Tryz.checked os 13 .any (Rows.limitsAllSpec.pre6 enc Tryz.prog Tryz.f13 Rows.limitsAllRow.domain false) (Rows.limitsAllSpec.post enc Tryz.prog Tryz.f13 false true false false):=by
 refine returnsInHanded_of_change (C:=Tryz.checked) own started (by kernel_rfl) Tryz.func13
  (ChangeSpec.witness6 (enc:=enc) (C:=Tryz.checked) false ⟨#[], #[.slice none 0 0],[]⟩ 8 (by kernel_rfl) (by kernel_rfl) (by kernel_rfl) (by kernel_rfl)) ?_
 intro W base args ds gs before wh hW pY _;have dW:∀(j:Nat) t v,Tryz.f13.params[j]? = some t->args[j]? = some v->Value.okWide Tryz.prog W .any base t v:=wh;have hW':=hW;obtain⟨p,q,XH,hV,rfl,dI,dy⟩:=hW;have hA:DataW.TrodAll enc Tryz.prog W 0 (λ_=>true) true Tryz.f13.params.toList args.toList ds p:=XH;rw[Tryz.params13]at hA dW;obtain⟨v0,vs0,d0,ds0,p0,q0,dh,rfl,rfl,h0,r0⟩:=trodAll_cons hA;obtain⟨rfl,rfl,rfl⟩:=trodAll_nil r0;obtain rfl:args = #[v0]:=by cases args;simp_all
 obtain⟨rfl,rfl⟩:=trodVars_none hV;obtain⟨x0,a0,w0,k0⟩:=jx0 (n:=9) (ty:=(.list (.int .i64))) (by kernel_rfl) (dW 0 22 v0 rfl rfl) h0;clear XH wh;refine(jv6 Pk.law18_LimitsAll_ok x0 (Pw.jnc x0 w0) W (oldS W) [v0] ⟨a0,trivial⟩ rfl (λ_ _ h=>h) rfl).mono λe W' ⟨he,hg⟩=>?_;subst he
 exact⟨_,rfl,Go.Lft.jos (pa:=p0++([])) (pv:=[]) hW' (λ_ _ _=>(trodAll_cons_mk (shut_bool Tryz.underlying4 _) trodAll_mk0)) (λsp cH=>(trodAll_cons_mk (k0 W' sp hg (λq hq=>cH q (by refine kj _ ?_;  exact kj _ hq))) trodAll_mk0)) (λ_ _=>rfl) rfl
  hg (ok_one (by kernel_rfl) rfl (okWide_bool_mk Tryz.underlying4 _))⟩
set_option maxHeartbeats 4000000 in
theorem closed:joinedFacts Tryz.pinned.checked.prog 13 Tryz.f13 Rows.limitsAllSpec Rows.limitsAllRow=true:=by
 unfold joinedFacts;simp only[jb]
 repeat' refine j9 ?_ ?_
 all_goals as_aux_lemma=>kernel_rfl
theorem over:Rows.limitsAllRow.holds Tryz.pinned (OpenSpec.ofChange Rows.limitsAllSpec):=
 OpenClaim.holds_of_wide 13 Tryz.f13 rfl rfl rfl rfl rfl rfl rfl ⟨rfl,rfl,rfl,rfl,rfl⟩ rfl rfl rfl rfl rfl (by as_aux_lemma=>kernel_rfl) Tryz.func13 closed
  (q8 (by as_aux_lemma=>kernel_rfl)) (by as_aux_lemma=>unfold Func.isWrapper;first|(rw[if_pos (by decide +kernel)];kernel_rfl)|(rw[if_neg (by decide +kernel)];exact⟨rfl,rfl⟩))
  (λos started H enc _=>jBc os started H enc)
theorem proved:Rows.LimitsAllSaid:=
 over
#print axioms proved
end Go.Proofs.YtaieocafhcjelaaGreat.limitsAll
