/- EditExact: the given function returns true at every input and leaves its arguments alone. -/
import Derived.Test.YtmlokiiopbjgfaaGreatRows
import Derived.Test.YtmlokiiopbjgfaaGreatEECon0
import Derived.Test.YtmlokiiopbjgfaaGreatEECon1
import Derived.Test.YtmlokiiopbjgfaaGreatEECon10
import Derived.Test.YtmlokiiopbjgfaaGreatEECon2
import Derived.Test.YtmlokiiopbjgfaaGreatEECon3
import Derived.Test.YtmlokiiopbjgfaaGreatEECon4
import Derived.Test.YtmlokiiopbjgfaaGreatEECon5
import Derived.Test.YtmlokiiopbjgfaaGreatEECon6
import Derived.Test.YtmlokiiopbjgfaaGreatEECon7
import Derived.Test.YtmlokiiopbjgfaaGreatEECon8
import Derived.Test.YtmlokiiopbjgfaaGreatEECon9
import Derived.Test.YtmlokiiopbjgfaaGreatEEPG
import Derived.WalkKit
import Derived.ProofKit
import Derived.OpenShut
open List renaming mem_append_right->b,mem_append_left->c
namespace Go.Proofs.YtmlokiiopbjgfaaGreat.editExact
open Go.ChangeShapes Go.WideShapes Go.ChangeAt Go.RowKit Go.Lft
set_option linter.unusedVariables false
theorem own:ownKnob Tryz.prog.godebug=none:=by kernel_rfl
set_option maxRecDepth 100000 in
theorem juA(os:Os)(started:os.Started)(H:Type)(enc:TypeId×Value->H) :
  ReturnsInHanded {} Tryz.checked os 3 .any (Rows.editExactSpec.pre6 enc Tryz.prog Tryz.f3 Rows.editExactRow.domain false) (Rows.editExactSpec.post enc Tryz.prog Tryz.f3 false true false false):=by
 refine returnsInHanded_of_change (C:=Tryz.checked) own started (by kernel_rfl) Tryz.func3
  (ChangeSpec.witness6 (enc:=enc) (C:=Tryz.checked) false ⟨#[], #[.slice none 0 0,.agg #[.int .i64 0,.int .i64 0,.int .i64 0,.int .i64 0,.int .i64 0],.slice none 0 0,.int .i64 0,.int .i64 0,.int .i64 0],[]⟩ 8 (by kernel_rfl) (by kernel_rfl) (by kernel_rfl) (by kernel_rfl)) ?_
 intro W base args ds gs before hval0 hW hcnd _;have hval:∀(j:Nat) t v,Tryz.f3.params[j]? = some t->args[j]? = some v->Value.okWide Tryz.prog W .any base t v:=hval0;have hW':=hW;obtain⟨p,q,hA0,hV,rfl,hfz,hnd⟩:=hW;have hA:DataW.TrodAll enc Tryz.prog W 0 (λ_=>true) true Tryz.f3.params.toList args.toList ds p:=hA0;rw[Tryz.params3]at hA hval;obtain⟨v0,vs0,d0,ds0,p0,q0,hargs,rfl,rfl,h0,r0⟩:=trodAll_cons hA;obtain⟨v1,vs1,d1,ds1,p1,q1,rfl,rfl,rfl,h1,r1⟩:=trodAll_cons r0;obtain⟨v2,vs2,d2,ds2,p2,q2,rfl,rfl,rfl,h2,r2⟩:=trodAll_cons r1;obtain⟨v3,vs3,d3,ds3,p3,q3,rfl,rfl,rfl,h3,r3⟩:=trodAll_cons r2;obtain⟨v4,vs4,d4,ds4,p4,q4,rfl,rfl,rfl,h4,r4⟩:=trodAll_cons r3;obtain⟨v5,vs5,d5,ds5,p5,q5,rfl,rfl,rfl,h5,r5⟩:=trodAll_cons r4;obtain⟨rfl,rfl,rfl⟩:=trodAll_nil r5;obtain rfl:args = #[v0,v1,v2,v3,v4,v5]:=by cases args;simp_all
 obtain⟨rfl,rfl⟩:=trodVars_none hV;obtain⟨x0,a0,w0,k0⟩:=jcd (n:=9) (ty:=(.list (.int .i64))) (by kernel_rfl) (hval 0 22 v0 rfl rfl) h0;obtain⟨x1,a1,w1,k1⟩:=jcd (n:=9) (ty:=(.pair (.int .i64) (.pair (.int .i64) (.pair (.int .i64) (.pair (.int .i64) (.int .i64)))))) (by kernel_rfl) (hval 1 24 v1 rfl rfl) h1;obtain⟨x2,a2,w2,k2⟩:=jcd (n:=9) (ty:=(.list (.pair (.int .i64) (.pair (.int .i64) (.pair (.int .i64) (.pair (.int .i64) (.int .i64))))))) (by kernel_rfl) (hval 2 25 v2 rfl rfl) h2;obtain⟨x3,a3,w3,k3⟩:=jcd (n:=9) (ty:=(.int .i64)) (by kernel_rfl) (hval 3 3 v3 rfl rfl) h3;obtain⟨x4,a4,w4,k4⟩:=jcd (n:=9) (ty:=(.int .i64)) (by kernel_rfl) (hval 4 3 v4 rfl rfl) h4;obtain⟨x5,a5,w5,k5⟩:=jcd (n:=9) (ty:=(.int .i64)) (by kernel_rfl) (hval 5 3 v5 rfl rfl) h5;clear hA0 hval0;refine(jp5 Pk.law13_EditExact_k.2 (x0,x1,x2,x3,x4,x5) (Pw.jha x0 w0 x1 w1 x2 w2 x3 w3 x4 w4 x5 w5) W (oldS W) [v0,v1,v2,v3,v4,v5] ⟨a0,a1,a2,a3,a4,a5,trivial⟩ rfl (λ_ _ h=>h) rfl).mono λe W' ⟨he,hg⟩=>?_;subst he
 exact⟨_,rfl,Go.Lft.jiv (pa:=p0++(p1++(p2++(p3++(p4++(p5++([]))))))) (pv:=[]) hW' (λ_ _ _=>(trodAll_cons_mk (shut_bool Tryz.underlying4 _) trodAll_mk0)) (λsp hsp=>(trodAll_cons_mk (k0 W' sp hg (λq hq=>hsp q (by refine c _ ?_;  exact c _ hq))) (trodAll_cons_mk (k1 W' sp hg (λq hq=>hsp q (by refine c _ ?_;refine b _ ?_;exact c _ hq))) (trodAll_cons_mk (k2 W' sp hg (λq hq=>hsp q (by refine c _ ?_;refine b _ ?_;refine b _ ?_;exact c _ hq))) (trodAll_cons_mk (k3 W' sp hg (λq hq=>hsp q (by refine c _ ?_;refine b _ ?_;refine b _ ?_;refine b _ ?_;exact c _ hq))) (trodAll_cons_mk (k4 W' sp hg (λq hq=>hsp q (by refine c _ ?_;refine b _ ?_;refine b _ ?_;refine b _ ?_;refine b _ ?_;exact c _ hq))) (trodAll_cons_mk (k5 W' sp hg (λq hq=>hsp q (by refine c _ ?_;refine b _ ?_;refine b _ ?_;refine b _ ?_;refine b _ ?_;refine b _ ?_;exact c _ hq))) trodAll_mk0))))))) (λ_ _=>rfl) rfl
  hg (ok_one (by kernel_rfl) rfl (okWide_bool_mk Tryz.underlying4 _))⟩
set_option maxHeartbeats 4000000 in
theorem closed:joinedFacts Tryz.pinned.checked.prog 3 Tryz.f3 Rows.editExactSpec Rows.editExactRow=true:=by
 unfold joinedFacts;simp only[Bool.and_eq_true]
 repeat' refine And.intro ?_ ?_
 all_goals as_aux_lemma=>kernel_rfl
theorem over:Rows.editExactRow.holds Tryz.pinned (OpenSpec.ofChange Rows.editExactSpec):=
 OpenClaim.holds_of_wide 3 Tryz.f3 rfl rfl rfl rfl rfl rfl rfl ⟨rfl,rfl,rfl,rfl,rfl⟩ rfl rfl rfl rfl rfl (by as_aux_lemma=>kernel_rfl) Tryz.func3 closed
  (of_decide_eq_true (by as_aux_lemma=>kernel_rfl)) (by as_aux_lemma=>unfold Func.isWrapper;first|(rw[if_pos (by decide +kernel)];kernel_rfl)|(rw[if_neg (by decide +kernel)];exact⟨rfl,rfl⟩))
  (λos started H enc _=>juA os started H enc)
theorem proved:Rows.EditExactSaid:=
 over
#print axioms proved
end Go.Proofs.YtmlokiiopbjgfaaGreat.editExact
