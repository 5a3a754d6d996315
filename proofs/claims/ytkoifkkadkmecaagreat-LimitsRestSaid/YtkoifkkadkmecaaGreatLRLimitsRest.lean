/- LimitsRest: the given function returns true at every input and leaves its arguments alone. -/
import Derived.Test.YtkoifkkadkmecaaGreatRows
import Derived.Test.YtkoifkkadkmecaaGreatLRCon0
import Derived.Test.YtkoifkkadkmecaaGreatLRCon1
import Derived.Test.YtkoifkkadkmecaaGreatLRCon10
import Derived.Test.YtkoifkkadkmecaaGreatLRCon2
import Derived.Test.YtkoifkkadkmecaaGreatLRCon3
import Derived.Test.YtkoifkkadkmecaaGreatLRCon4
import Derived.Test.YtkoifkkadkmecaaGreatLRCon5
import Derived.Test.YtkoifkkadkmecaaGreatLRCon6
import Derived.Test.YtkoifkkadkmecaaGreatLRCon7
import Derived.Test.YtkoifkkadkmecaaGreatLRCon8
import Derived.Test.YtkoifkkadkmecaaGreatLRCon9
import Derived.Test.YtkoifkkadkmecaaGreatLRPW
import Derived.WalkKit
import Derived.ProofKit
import Derived.OpenShut
namespace Go.Proofs.YtkoifkkadkmecaaGreat.limitsRest
open Go.ChangeShapes Go.WideShapes Go.ChangeAt Go.RowKit Go.Lft
set_option linter.unusedVariables false
theorem own:ownKnob Tryz.prog.godebug=none:=by kernel_rfl
set_option maxRecDepth 100000 in
theorem jHp(os:Os)(started:os.Started)(H:Type)(enc:TypeId×Value->H) :
  ReturnsInHanded {} Tryz.checked os 3 .any (Rows.limitsRestSpec.pre6 enc Tryz.prog Tryz.f3 Rows.limitsRestRow.domain false) (Rows.limitsRestSpec.post enc Tryz.prog Tryz.f3 false true false false):=by
 refine returnsInHanded_of_change (C:=Tryz.checked) own started (by kernel_rfl) Tryz.func3
  (ChangeSpec.witness6 (enc:=enc) (C:=Tryz.checked) false ⟨#[], #[.slice none 0 0],[]⟩ 8 (by kernel_rfl) (by kernel_rfl) (by kernel_rfl) (by kernel_rfl)) ?_
 intro W base args ds gs before zK hW tB _;have fq:∀(j:Nat) t v,Tryz.f3.params[j]? = some t->args[j]? = some v->Value.okWide Tryz.prog W .any base t v:=zK;have hW':=hW;obtain⟨p,q,ŝ,hV,rfl,dY,ew⟩:=hW;have hA:DataW.TrodAll enc Tryz.prog W 0 (λ_=>true) true Tryz.f3.params.toList args.toList ds p:=ŝ;rw[Tryz.params3]at hA fq;obtain⟨v0,vs0,d0,ds0,p0,q0,fo,rfl,rfl,h0,r0⟩:=trodAll_cons hA;obtain⟨rfl,rfl,rfl⟩:=trodAll_nil r0;obtain rfl:args = #[v0]:=by cases args;simp_all
 obtain⟨rfl,rfl⟩:=trodVars_none hV;obtain⟨x0,a0,w0,k0⟩:=jC7 (n:=9) (ty:=(.list (.int .i64))) (by kernel_rfl) (fq 0 22 v0 rfl rfl) h0;clear ŝ zK;refine(jzJ Pk.law18_LimitsRest_ok x0 (Pw.jpf x0 w0) W (oldS W) [v0] ⟨a0,trivial⟩ rfl (λ_ _ h=>h) rfl).mono λe W' ⟨he,hg⟩=>?_;subst he
 exact⟨_,rfl,Go.Lft.jr5 (pa:=p0++([])) (pv:=[]) hW' (λ_ _ _=>(trodAll_cons_mk (shut_bool Tryz.underlying4 _) trodAll_mk0)) (λsp dz=>(trodAll_cons_mk (k0 W' sp hg (λq hq=>dz q (by refine jx _ ?_;  exact jx _ hq))) trodAll_mk0)) (λ_ _=>rfl) rfl
  hg (ok_one (by kernel_rfl) rfl (okWide_bool_mk Tryz.underlying4 _))⟩
set_option maxHeartbeats 4000000 in
theorem closed:joinedFacts Tryz.pinned.checked.prog 3 Tryz.f3 Rows.limitsRestSpec Rows.limitsRestRow=true:=by
 unfold joinedFacts;simp only[jg]
 repeat' refine ja ?_ ?_
 all_goals as_aux_lemma=>kernel_rfl
theorem over:Rows.limitsRestRow.holds Tryz.pinned (OpenSpec.ofChange Rows.limitsRestSpec):=
 OpenClaim.holds_of_wide 3 Tryz.f3 rfl rfl rfl rfl rfl rfl rfl ⟨rfl,rfl,rfl,rfl,rfl⟩ rfl rfl rfl rfl rfl (by as_aux_lemma=>kernel_rfl) Tryz.func3 closed
  (q8 (by as_aux_lemma=>kernel_rfl)) (by as_aux_lemma=>unfold Func.isWrapper;first|(rw[if_pos (by decide +kernel)];kernel_rfl)|(rw[if_neg (by decide +kernel)];exact⟨rfl,rfl⟩))
  (λos started H enc _=>jHp os started H enc)
theorem proved:Rows.LimitsRestSaid:=
 over
#print axioms proved
end Go.Proofs.YtkoifkkadkmecaaGreat.limitsRest
