/- ZoneExact: the given function returns true at every input and leaves its arguments alone. -/
import Derived.Test.YtbpjdcbbmibehaaRows
import Derived.Test.YtbpjdcbbmibehaaZECon0
import Derived.Test.YtbpjdcbbmibehaaZECon1
import Derived.Test.YtbpjdcbbmibehaaZECon2
import Derived.Test.YtbpjdcbbmibehaaZECon3
import Derived.Test.YtbpjdcbbmibehaaZEPG
import Derived.WalkKit
import Derived.ProofKit
import Derived.OpenShut
namespace Go.Proofs.Ytbpjdcbbmibehaa.zoneExact
open Go.ChangeShapes Go.WideShapes Go.ChangeAt Go.RowKit Go.Lft
set_option linter.unusedVariables false
theorem own:ownKnob Try.prog.godebug=none:=by kernel_rfl
set_option maxRecDepth 100000 in
theorem Vp(os:Os)(started:os.Started)(H:Type)(enc:TypeId×Value->H) :
  ReturnsInHanded {} Try.checked os 3 .any (Rows.zoneExactSpec.pre6 enc Try.prog Try.f3 Rows.zoneExactRow.domain false) (Rows.zoneExactSpec.post enc Try.prog Try.f3 false true false false):=by
 refine returnsInHanded_of_change (C:=Try.checked) own started (by kernel_rfl) Try.func3
  (ChangeSpec.witness6 (enc:=enc) (C:=Try.checked) false ⟨#[], #[.agg #[.string ByteArray.empty,.int .i64 0,.slice none 0 0],.slice none 0 0,.int .i64 0,.int .i64 0,.int .i64 0],[]⟩ 8 (by kernel_rfl) (by kernel_rfl) (by kernel_rfl) (by kernel_rfl)) ?_
 intro W base args ds gs before ry hW mj _;have cV:∀(j:Nat) t v,Try.f3.params[j]? = some t->args[j]? = some v->Value.okWide Try.prog W .any base t v:=ry;have Vq:=hW;obtain⟨p,q,LF,hV,rfl,cM,ck⟩:=hW;have hA:DataW.TrodAll enc Try.prog W 0 (λ_=>true) true Try.f3.params.toList args.toList ds p:=LF;rw[Try.params3]at hA cV;obtain⟨v0,P1,d0,ds0,p0,q0,bB,rfl,rfl,h0,r0⟩:=trodAll_cons hA;obtain⟨v1,vs1,d1,ds1,p1,q1,rfl,rfl,rfl,h1,r1⟩:=trodAll_cons r0;obtain⟨v2,vs2,d2,ds2,p2,q2,rfl,rfl,rfl,h2,r2⟩:=trodAll_cons r1;obtain⟨v3,vs3,d3,ds3,p3,q3,rfl,rfl,rfl,h3,r3⟩:=trodAll_cons r2;obtain⟨v4,vs4,d4,ds4,p4,q4,rfl,rfl,rfl,h4,r4⟩:=trodAll_cons r3;obtain⟨rfl,rfl,rfl⟩:=trodAll_nil r4;obtain rfl:args = #[v0,v1,v2,v3,v4]:=by cases args;simp_all
 obtain⟨rfl,rfl⟩:=trodVars_none hV;obtain⟨x0,a0,w0,k0⟩:=xw (n:=9) (ty:=(.pair .str (.pair (.int .i64) (.list (.pair (.int .i64) (.pair (.int .i64) (.pair (.int .i64) (.pair (.int .i64) (.pair (.int .i64) (.pair (.int .i64) (.int .i64))))))))))) (by kernel_rfl) (cV 0 24 v0 rfl rfl) h0;obtain⟨x1,a1,w1,k1⟩:=xw (n:=9) (ty:=(.list (.int .i64))) (by kernel_rfl) (cV 1 25 v1 rfl rfl) h1;obtain⟨x2,a2,w2,k2⟩:=xw (n:=9) (ty:=(.int .i64)) (by kernel_rfl) (cV 2 3 v2 rfl rfl) h2;obtain⟨x3,a3,w3,k3⟩:=xw (n:=9) (ty:=(.int .i64)) (by kernel_rfl) (cV 3 3 v3 rfl rfl) h3;obtain⟨x4,a4,w4,k4⟩:=xw (n:=9) (ty:=(.int .i64)) (by kernel_rfl) (cV 4 3 v4 rfl rfl) h4;clear LF ry;refine(QG Pk.law04_ZoneExact_ok (x0,x1,x2,x3,x4) (Pw.jcz x0 w0 x1 w1 x2 w2 x3 w3 x4 w4) W (oldS W) [v0,v1,v2,v3,v4] ⟨a0,a1,a2,a3,a4,trivial⟩ rfl (λ_ _ h=>h) rfl).mono λe W' ⟨he,hg⟩=>?_;subst he
 exact⟨_,rfl,Go.Lft.jdW (pa:=p0++(p1++(p2++(p3++(p4++([])))))) (pv:=[]) Vq (λ_ _ _=>(trodAll_cons_mk (shut_bool Try.underlying4 _) trodAll_mk0)) (λsp bW=>(trodAll_cons_mk (k0 W' sp hg (λq hq=>bW q (by refine k7 _ ?_;  exact k7 _ hq))) (trodAll_cons_mk (k1 W' sp hg (λq hq=>bW q (by refine k7 _ ?_;refine jz _ ?_;exact k7 _ hq))) (trodAll_cons_mk (k2 W' sp hg (λq hq=>bW q (by refine k7 _ ?_;refine jz _ ?_;refine jz _ ?_;exact k7 _ hq))) (trodAll_cons_mk (k3 W' sp hg (λq hq=>bW q (by refine k7 _ ?_;refine jz _ ?_;refine jz _ ?_;refine jz _ ?_;exact k7 _ hq))) (trodAll_cons_mk (k4 W' sp hg (λq hq=>bW q (by refine k7 _ ?_;refine jz _ ?_;refine jz _ ?_;refine jz _ ?_;refine jz _ ?_;exact k7 _ hq))) trodAll_mk0)))))) (λ_ _=>rfl) rfl
  hg (ok_one (by kernel_rfl) rfl (okWide_bool_mk Try.underlying4 _))⟩
set_option maxHeartbeats 4000000 in
theorem closed:joinedFacts Try.pinned.checked.prog 3 Try.f3 Rows.zoneExactSpec Rows.zoneExactRow=true:=by
 unfold joinedFacts;simp only[j9]
 repeat' refine j8 ?_ ?_
 all_goals as_aux_lemma=>kernel_rfl
theorem over:Rows.zoneExactRow.holds Try.pinned (OpenSpec.ofChange Rows.zoneExactSpec):=
 OpenClaim.holds_of_wide 3 Try.f3 rfl rfl rfl rfl rfl rfl rfl ⟨rfl,rfl,rfl,rfl,rfl⟩ rfl rfl rfl rfl rfl (by as_aux_lemma=>kernel_rfl) Try.func3 closed
  (qd (by as_aux_lemma=>kernel_rfl)) (by as_aux_lemma=>unfold Func.isWrapper;first|(rw[if_pos (by decide +kernel)];kernel_rfl)|(rw[if_neg (by decide +kernel)];exact⟨rfl,rfl⟩))
  (λos started H enc _=>Vp os started H enc)
theorem proved:Rows.ZoneExactSaid:=
 over
#print axioms proved
end Go.Proofs.Ytbpjdcbbmibehaa.zoneExact
