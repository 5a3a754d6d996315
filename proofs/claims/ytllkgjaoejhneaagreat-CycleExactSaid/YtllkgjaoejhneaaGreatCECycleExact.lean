/- CycleExact: the given function returns true at every input and leaves its arguments alone. -/
import Derived.Test.YtllkgjaoejhneaaGreatRows
import Derived.Test.YtllkgjaoejhneaaGreatCECon0
import Derived.Test.YtllkgjaoejhneaaGreatCECon1
import Derived.Test.YtllkgjaoejhneaaGreatCECon2
import Derived.Test.YtllkgjaoejhneaaGreatCECon3
import Derived.Test.YtllkgjaoejhneaaGreatCECon4
import Derived.Test.YtllkgjaoejhneaaGreatCECon5
import Derived.Test.YtllkgjaoejhneaaGreatCECon6
import Derived.Test.YtllkgjaoejhneaaGreatCECon7
import Derived.Test.YtllkgjaoejhneaaGreatCECon8
import Derived.Test.YtllkgjaoejhneaaGreatCECon9
import Derived.Test.YtllkgjaoejhneaaGreatCEPL
import Derived.WalkKit
import Derived.ProofKit
import Derived.OpenShut
namespace Go.Proofs.YtllkgjaoejhneaaGreat.cycleExact
open Go.ChangeShapes Go.WideShapes Go.ChangeAt Go.RowKit Go.Lft
set_option linter.unusedVariables false
theorem own:ownKnob Tryz.prog.godebug=none:=by kernel_rfl
set_option maxRecDepth 100000 in
theorem jyj(os:Os)(started:os.Started)(H:Type)(enc:TypeId×Value->H) :
  ReturnsInHanded {} Tryz.checked os 4 .any (Rows.cycleExactSpec.pre6 enc Tryz.prog Tryz.f4 Rows.cycleExactRow.domain false) (Rows.cycleExactSpec.post enc Tryz.prog Tryz.f4 false true false false):=by
 refine returnsInHanded_of_change (C:=Tryz.checked) own started (by kernel_rfl) Tryz.func4
  (ChangeSpec.witness6 (enc:=enc) (C:=Tryz.checked) false ⟨#[], #[.slice none 0 0,.agg #[.string ByteArray.empty,.int .i64 0,.int .i64 0,.int .i64 0,.int .i64 0,.int .i64 0,.slice none 0 0,.slice none 0 0,.int .i64 0,.int .i64 0],.int .i64 0,.int .i64 0],[]⟩ 8 (by kernel_rfl) (by kernel_rfl) (by kernel_rfl) (by kernel_rfl)) ?_
 intro W base args ds gs before uC hW px _;have eE:∀(j:Nat) t v,Tryz.f4.params[j]? = some t->args[j]? = some v->Value.okWide Tryz.prog W .any base t v:=uC;have hW':=hW;obtain⟨p,q,V0,hV,rfl,dN,dA⟩:=hW;have hA:DataW.TrodAll enc Tryz.prog W 0 (λ_=>true) true Tryz.f4.params.toList args.toList ds p:=V0;rw[Tryz.params4]at hA eE;obtain⟨v0,ZV,d0,ds0,p0,q0,cm,rfl,rfl,h0,r0⟩:=trodAll_cons hA;obtain⟨v1,vs1,d1,ds1,p1,q1,rfl,rfl,rfl,h1,r1⟩:=trodAll_cons r0;obtain⟨v2,vs2,d2,ds2,p2,q2,rfl,rfl,rfl,h2,r2⟩:=trodAll_cons r1;obtain⟨v3,vs3,d3,ds3,p3,q3,rfl,rfl,rfl,h3,r3⟩:=trodAll_cons r2;obtain⟨rfl,rfl,rfl⟩:=trodAll_nil r3;obtain rfl:args = #[v0,v1,v2,v3]:=by cases args;simp_all
 obtain⟨rfl,rfl⟩:=trodVars_none hV;obtain⟨x0,a0,w0,k0⟩:=E0 (n:=9) (ty:=(.list (.int .i64))) (by kernel_rfl) (eE 0 22 v0 rfl rfl) h0;obtain⟨x1,a1,w1,k1⟩:=E0 (n:=9) (ty:=(.pair .str (.pair (.int .i64) (.pair (.pair (.int .i64) (.int .i64)) (.pair (.int .i64) (.pair (.int .i64) (.pair (.list (.int .i64)) (.pair (.list (.pair (.int .i64) (.int .i64))) (.pair (.int .i64) (.int .i64)))))))))) (by kernel_rfl) (eE 1 62 v1 rfl rfl) h1;obtain⟨x2,a2,w2,k2⟩:=E0 (n:=9) (ty:=(.int .i64)) (by kernel_rfl) (eE 2 3 v2 rfl rfl) h2;obtain⟨x3,a3,w3,k3⟩:=E0 (n:=9) (ty:=(.int .i64)) (by kernel_rfl) (eE 3 3 v3 rfl rfl) h3;clear V0 uC;refine(_Z Pk.law16_CycleExact_ok (x0,x1,x2,x3) (Pw.jjB x0 w0 x1 w1 x2 w2 x3 w3) W (oldS W) [v0,v1,v2,v3] ⟨a0,a1,a2,a3,trivial⟩ rfl (λ_ _ h=>h) rfl).mono λe W' ⟨he,hg⟩=>?_;subst he
 exact⟨_,rfl,Go.Lft.jlu (pa:=p0++(p1++(p2++(p3++([]))))) (pv:=[]) hW' (λ_ _ _=>(trodAll_cons_mk (shut_bool Tryz.underlying4 _) trodAll_mk0)) (λsp dp=>(trodAll_cons_mk (k0 W' sp hg (λq hq=>dp q (by refine kj _ ?_;  exact kj _ hq))) (trodAll_cons_mk (k1 W' sp hg (λq hq=>dp q (by refine kj _ ?_;refine kq _ ?_;exact kj _ hq))) (trodAll_cons_mk (k2 W' sp hg (λq hq=>dp q (by refine kj _ ?_;refine kq _ ?_;refine kq _ ?_;exact kj _ hq))) (trodAll_cons_mk (k3 W' sp hg (λq hq=>dp q (by refine kj _ ?_;refine kq _ ?_;refine kq _ ?_;refine kq _ ?_;exact kj _ hq))) trodAll_mk0))))) (λ_ _=>rfl) rfl
  hg (ok_one (by kernel_rfl) rfl (okWide_bool_mk Tryz.underlying4 _))⟩
set_option maxHeartbeats 4000000 in
theorem closed:joinedFacts Tryz.pinned.checked.prog 4 Tryz.f4 Rows.cycleExactSpec Rows.cycleExactRow=true:=by
 unfold joinedFacts;simp only[jh]
 repeat' refine jg ?_ ?_
 all_goals as_aux_lemma=>kernel_rfl
theorem over:Rows.cycleExactRow.holds Tryz.pinned (OpenSpec.ofChange Rows.cycleExactSpec):=
 OpenClaim.holds_of_wide 4 Tryz.f4 rfl rfl rfl rfl rfl rfl rfl ⟨rfl,rfl,rfl,rfl,rfl⟩ rfl rfl rfl rfl rfl (by as_aux_lemma=>kernel_rfl) Tryz.func4 closed
  (ky (by as_aux_lemma=>kernel_rfl)) (by as_aux_lemma=>unfold Func.isWrapper;first|(rw[if_pos (by decide +kernel)];kernel_rfl)|(rw[if_neg (by decide +kernel)];exact⟨rfl,rfl⟩))
  (λos started H enc _=>jyj os started H enc)
theorem proved:Rows.CycleExactSaid:=
 over
#print axioms proved
end Go.Proofs.YtllkgjaoejhneaaGreat.cycleExact
