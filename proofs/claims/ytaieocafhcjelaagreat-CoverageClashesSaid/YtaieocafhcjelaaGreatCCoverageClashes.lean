/- CoverageClashes: the given function returns true at every input and leaves its arguments alone. -/
import Derived.Test.YtaieocafhcjelaaGreatRows
import Derived.Test.YtaieocafhcjelaaGreatCCon0
import Derived.Test.YtaieocafhcjelaaGreatCCon1
import Derived.Test.YtaieocafhcjelaaGreatCCon10
import Derived.Test.YtaieocafhcjelaaGreatCCon2
import Derived.Test.YtaieocafhcjelaaGreatCCon3
import Derived.Test.YtaieocafhcjelaaGreatCCon4
import Derived.Test.YtaieocafhcjelaaGreatCCon5
import Derived.Test.YtaieocafhcjelaaGreatCCon6
import Derived.Test.YtaieocafhcjelaaGreatCCon7
import Derived.Test.YtaieocafhcjelaaGreatCCon8
import Derived.Test.YtaieocafhcjelaaGreatCCon9
import Derived.Test.YtaieocafhcjelaaGreatCPQ
import Derived.WalkKit
import Derived.ProofKit
import Derived.OpenShut
namespace Go.Proofs.YtaieocafhcjelaaGreat.coverageClashes
open Go.ChangeShapes Go.WideShapes Go.ChangeAt Go.RowKit Go.Lft
set_option linter.unusedVariables false
theorem own:ownKnob Tryz.prog.godebug=none:=by kernel_rfl
set_option maxRecDepth 100000 in
theorem jEt(os:Os)(started:os.Started)(H:Type)(enc:TypeId×Value->H) :
  ReturnsInHanded {} Tryz.checked os 5 .any (Rows.coverageClashesSpec.pre6 enc Tryz.prog Tryz.f5 Rows.coverageClashesRow.domain false) (Rows.coverageClashesSpec.post enc Tryz.prog Tryz.f5 false true false false):=by
 refine returnsInHanded_of_change (C:=Tryz.checked) own started (by kernel_rfl) Tryz.func5
  (ChangeSpec.witness6 (enc:=enc) (C:=Tryz.checked) false ⟨#[], #[.slice none 0 0,.int .i64 0],[]⟩ 8 (by kernel_rfl) (by kernel_rfl) (by kernel_rfl) (by kernel_rfl)) ?_
 intro W base args ds gs before vE hW pO _;have dY:∀(j:Nat) t v,Tryz.f5.params[j]? = some t->args[j]? = some v->Value.okWide Tryz.prog W .any base t v:=vE;have hW':=hW;obtain⟨p,q,Yu,hV,rfl,dN,dR⟩:=hW;have hA:DataW.TrodAll enc Tryz.prog W 0 (λ_=>true) true Tryz.f5.params.toList args.toList ds p:=Yu;rw[Tryz.params5]at hA dY;obtain⟨v0,vs0,d0,ds0,p0,q0,dq,rfl,rfl,h0,r0⟩:=trodAll_cons hA;obtain⟨v1,vs1,d1,ds1,p1,q1,rfl,rfl,rfl,h1,r1⟩:=trodAll_cons r0;obtain⟨rfl,rfl,rfl⟩:=trodAll_nil r1;obtain rfl:args = #[v0,v1]:=by cases args;simp_all
 obtain⟨rfl,rfl⟩:=trodVars_none hV;obtain⟨x0,a0,w0,k0⟩:=R6 (n:=9) (ty:=(.list (.int .i64))) (by kernel_rfl) (dY 0 22 v0 rfl rfl) h0;obtain⟨x1,a1,w1,k1⟩:=R6 (n:=9) (ty:=(.int .i64)) (by kernel_rfl) (dY 1 3 v1 rfl rfl) h1;clear Yu vE;refine(jyl Pk.law15_CoverageClashes_ok (x0,x1) (Pw.jiS x0 w0 x1 w1) W (oldS W) [v0,v1] ⟨a0,a1,trivial⟩ rfl (λ_ _ h=>h) rfl).mono λe W' ⟨he,hg⟩=>?_;subst he
 exact⟨_,rfl,Go.Lft.jqH (pa:=p0++(p1++([]))) (pv:=[]) hW' (λ_ _ _=>(trodAll_cons_mk (shut_bool Tryz.underlying4 _) trodAll_mk0)) (λsp cE=>(trodAll_cons_mk (k0 W' sp hg (λq hq=>cE q (by refine k5 _ ?_;  exact k5 _ hq))) (trodAll_cons_mk (k1 W' sp hg (λq hq=>cE q (by refine k5 _ ?_;refine kj _ ?_;exact k5 _ hq))) trodAll_mk0))) (λ_ _=>rfl) rfl
  hg (ok_one (by kernel_rfl) rfl (okWide_bool_mk Tryz.underlying4 _))⟩
set_option maxHeartbeats 4000000 in
theorem closed:joinedFacts Tryz.pinned.checked.prog 5 Tryz.f5 Rows.coverageClashesSpec Rows.coverageClashesRow=true:=by
 unfold joinedFacts;simp only[jb]
 repeat' refine j9 ?_ ?_
 all_goals as_aux_lemma=>kernel_rfl
theorem over:Rows.coverageClashesRow.holds Tryz.pinned (OpenSpec.ofChange Rows.coverageClashesSpec):=
 OpenClaim.holds_of_wide 5 Tryz.f5 rfl rfl rfl rfl rfl rfl rfl ⟨rfl,rfl,rfl,rfl,rfl⟩ rfl rfl rfl rfl rfl (by as_aux_lemma=>kernel_rfl) Tryz.func5 closed
  (q9 (by as_aux_lemma=>kernel_rfl)) (by as_aux_lemma=>unfold Func.isWrapper;first|(rw[if_pos (by decide +kernel)];kernel_rfl)|(rw[if_neg (by decide +kernel)];exact⟨rfl,rfl⟩))
  (λos started H enc _=>jEt os started H enc)
theorem proved:Rows.CoverageClashesSaid:=
 over
#print axioms proved
end Go.Proofs.YtaieocafhcjelaaGreat.coverageClashes
