/- CoverageExact: the given function returns true at every input and leaves its arguments alone. -/
import Derived.Test.YtmccfdihkphfaaaGreatRows
import Derived.Test.YtmccfdihkphfaaaGreatCECon0
import Derived.Test.YtmccfdihkphfaaaGreatCECon1
import Derived.Test.YtmccfdihkphfaaaGreatCECon10
import Derived.Test.YtmccfdihkphfaaaGreatCECon11
import Derived.Test.YtmccfdihkphfaaaGreatCECon2
import Derived.Test.YtmccfdihkphfaaaGreatCECon3
import Derived.Test.YtmccfdihkphfaaaGreatCECon4
import Derived.Test.YtmccfdihkphfaaaGreatCECon5
import Derived.Test.YtmccfdihkphfaaaGreatCECon6
import Derived.Test.YtmccfdihkphfaaaGreatCECon7
import Derived.Test.YtmccfdihkphfaaaGreatCECon8
import Derived.Test.YtmccfdihkphfaaaGreatCECon9
import Derived.Test.YtmccfdihkphfaaaGreatCEPM
import Derived.WalkKit
import Derived.ProofKit
import Derived.OpenShut
namespace Go.Proofs.YtmccfdihkphfaaaGreat.coverageExact
open Go.ChangeShapes Go.WideShapes Go.ChangeAt Go.RowKit Go.Lft
set_option linter.unusedVariables false
theorem own:ownKnob Tryz.prog.godebug=none:=by kernel_rfl
set_option maxRecDepth 100000 in
theorem jJF(os:Os)(started:os.Started)(H:Type)(enc:TypeId×Value->H) :
  ReturnsInHanded {} Tryz.checked os 4 .any (Rows.coverageExactSpec.pre6 enc Tryz.prog Tryz.f4 Rows.coverageExactRow.domain false) (Rows.coverageExactSpec.post enc Tryz.prog Tryz.f4 false true false false):=by
 refine returnsInHanded_of_change (C:=Tryz.checked) own started (by kernel_rfl) Tryz.func4
  (ChangeSpec.witness6 (enc:=enc) (C:=Tryz.checked) false ⟨#[], #[.slice none 0 0,.int .i64 0,.int .i64 0,.int .i64 0,.int .i64 0],[]⟩ 8 (by kernel_rfl) (by kernel_rfl) (by kernel_rfl) (by kernel_rfl)) ?_
 intro W base args ds gs before yU hW hcnd _;have fq:∀(j:Nat) t v,Tryz.f4.params[j]? = some t->args[j]? = some v->Value.okWide Tryz.prog W .any base t v:=yU;have hW':=hW;obtain⟨p,q,hA0,hV,rfl,fv,ew⟩:=hW;have hA:DataW.TrodAll enc Tryz.prog W 0 (λ_=>true) true Tryz.f4.params.toList args.toList ds p:=hA0;rw[Tryz.params4]at hA fq;obtain⟨v0,vs0,d0,ds0,p0,q0,cW,rfl,rfl,h0,r0⟩:=trodAll_cons hA;obtain⟨v1,vs1,d1,ds1,p1,q1,rfl,rfl,rfl,h1,r1⟩:=trodAll_cons r0;obtain⟨v2,vs2,d2,ds2,p2,q2,rfl,rfl,rfl,h2,r2⟩:=trodAll_cons r1;obtain⟨v3,vs3,d3,ds3,p3,q3,rfl,rfl,rfl,h3,r3⟩:=trodAll_cons r2;obtain⟨v4,vs4,d4,ds4,p4,q4,rfl,rfl,rfl,h4,r4⟩:=trodAll_cons r3;obtain⟨rfl,rfl,rfl⟩:=trodAll_nil r4;obtain rfl:args = #[v0,v1,v2,v3,v4]:=by cases args;simp_all
 obtain⟨rfl,rfl⟩:=trodVars_none hV;obtain⟨x0,a0,w0,k0⟩:=FP (n:=9) (ty:=(.list (.int .i64))) (by kernel_rfl) (fq 0 22 v0 rfl rfl) h0;obtain⟨x1,a1,w1,k1⟩:=FP (n:=9) (ty:=(.int .i64)) (by kernel_rfl) (fq 1 3 v1 rfl rfl) h1;obtain⟨x2,a2,w2,k2⟩:=FP (n:=9) (ty:=(.int .i64)) (by kernel_rfl) (fq 2 3 v2 rfl rfl) h2;obtain⟨x3,a3,w3,k3⟩:=FP (n:=9) (ty:=(.int .i64)) (by kernel_rfl) (fq 3 3 v3 rfl rfl) h3;obtain⟨x4,a4,w4,k4⟩:=FP (n:=9) (ty:=(.int .i64)) (by kernel_rfl) (fq 4 3 v4 rfl rfl) h4;clear hA0 yU;refine(jBX Pk.law15_CoverageExact_ok (x0,x1,x2,x3,x4) (Pw.jn3 x0 w0 x1 w1 x2 w2 x3 w3 x4 w4) W (oldS W) [v0,v1,v2,v3,v4] ⟨a0,a1,a2,a3,a4,trivial⟩ rfl (λ_ _ h=>h) rfl).mono λe W' ⟨he,hg⟩=>?_;subst he
 exact⟨_,rfl,Go.Lft.jsS (pa:=p0++(p1++(p2++(p3++(p4++([])))))) (pv:=[]) hW' (λ_ _ _=>(trodAll_cons_mk (shut_bool Tryz.underlying4 _) trodAll_mk0)) (λsp dx=>(trodAll_cons_mk (k0 W' sp hg (λq hq=>dx q (by refine jo _ ?_;  exact jo _ hq))) (trodAll_cons_mk (k1 W' sp hg (λq hq=>dx q (by refine jo _ ?_;refine jm _ ?_;exact jo _ hq))) (trodAll_cons_mk (k2 W' sp hg (λq hq=>dx q (by refine jo _ ?_;refine jm _ ?_;refine jm _ ?_;exact jo _ hq))) (trodAll_cons_mk (k3 W' sp hg (λq hq=>dx q (by refine jo _ ?_;refine jm _ ?_;refine jm _ ?_;refine jm _ ?_;exact jo _ hq))) (trodAll_cons_mk (k4 W' sp hg (λq hq=>dx q (by refine jo _ ?_;refine jm _ ?_;refine jm _ ?_;refine jm _ ?_;refine jm _ ?_;exact jo _ hq))) trodAll_mk0)))))) (λ_ _=>rfl) rfl
  hg (ok_one (by kernel_rfl) rfl (okWide_bool_mk Tryz.underlying4 _))⟩
set_option maxHeartbeats 4000000 in
theorem closed:joinedFacts Tryz.pinned.checked.prog 4 Tryz.f4 Rows.coverageExactSpec Rows.coverageExactRow=true:=by
 unfold joinedFacts;simp only[jc]
 repeat' refine ja ?_ ?_
 all_goals as_aux_lemma=>kernel_rfl
theorem over:Rows.coverageExactRow.holds Tryz.pinned (OpenSpec.ofChange Rows.coverageExactSpec):=
 OpenClaim.holds_of_wide 4 Tryz.f4 rfl rfl rfl rfl rfl rfl rfl ⟨rfl,rfl,rfl,rfl,rfl⟩ rfl rfl rfl rfl rfl (by as_aux_lemma=>kernel_rfl) Tryz.func4 closed
  (kv (by as_aux_lemma=>kernel_rfl)) (by as_aux_lemma=>unfold Func.isWrapper;first|(rw[if_pos (by decide +kernel)];kernel_rfl)|(rw[if_neg (by decide +kernel)];exact⟨rfl,rfl⟩))
  (λos started H enc _=>jJF os started H enc)
theorem proved:Rows.CoverageExactSaid:=
 over
#print axioms proved
end Go.Proofs.YtmccfdihkphfaaaGreat.coverageExact
