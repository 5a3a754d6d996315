/- LoadJoins: the given function returns true at every input and leaves its arguments alone. -/
import Derived.Test.YtbpjdcbbmibehaaGreatRows
import Derived.Test.YtbpjdcbbmibehaaGreatLJCon0
import Derived.Test.YtbpjdcbbmibehaaGreatLJCon1
import Derived.Test.YtbpjdcbbmibehaaGreatLJCon2
import Derived.Test.YtbpjdcbbmibehaaGreatLJCon3
import Derived.Test.YtbpjdcbbmibehaaGreatLJCon4
import Derived.Test.YtbpjdcbbmibehaaGreatLJCon5
import Derived.Test.YtbpjdcbbmibehaaGreatLJCon6
import Derived.Test.YtbpjdcbbmibehaaGreatLJCon7
import Derived.Test.YtbpjdcbbmibehaaGreatLJCon8
import Derived.Test.YtbpjdcbbmibehaaGreatLJPN
import Derived.WalkKit
import Derived.ProofKit
import Derived.OpenShut
namespace Go.Proofs.YtbpjdcbbmibehaaGreat.loadJoins
open Go.ChangeShapes Go.WideShapes Go.ChangeAt Go.RowKit Go.Lft
set_option linter.unusedVariables false
theorem own:ownKnob Tryz.prog.godebug=none:=by kernel_rfl
set_option maxRecDepth 100000 in
theorem jzo(os:Os)(started:os.Started)(H:Type)(enc:TypeId×Value->H) :
  ReturnsInHanded {} Tryz.checked os 3 .any (Rows.loadJoinsSpec.pre6 enc Tryz.prog Tryz.f3 Rows.loadJoinsRow.domain false) (Rows.loadJoinsSpec.post enc Tryz.prog Tryz.f3 false true false false):=by
 refine returnsInHanded_of_change (C:=Tryz.checked) own started (by kernel_rfl) Tryz.func3
  (ChangeSpec.witness6 (enc:=enc) (C:=Tryz.checked) false ⟨#[], #[.slice none 0 0,.int .i64 0,.int .i64 0],[]⟩ 8 (by kernel_rfl) (by kernel_rfl) (by kernel_rfl) (by kernel_rfl)) ?_
 intro W base args ds gs before wW hW rz _;have eA:∀(j:Nat) t v,Tryz.f3.params[j]? = some t->args[j]? = some v->Value.okWide Tryz.prog W .any base t v:=wW;have hW':=hW;obtain⟨p,q,Y6,hV,rfl,ea,dv⟩:=hW;have hA:DataW.TrodAll enc Tryz.prog W 0 (λ_=>true) true Tryz.f3.params.toList args.toList ds p:=Y6;rw[Tryz.params3]at hA eA;obtain⟨v0,vs0,d0,ds0,p0,q0,cD,rfl,rfl,h0,r0⟩:=trodAll_cons hA;obtain⟨v1,vs1,d1,ds1,p1,q1,rfl,rfl,rfl,h1,r1⟩:=trodAll_cons r0;obtain⟨v2,vs2,d2,ds2,p2,q2,rfl,rfl,rfl,h2,r2⟩:=trodAll_cons r1;obtain⟨rfl,rfl,rfl⟩:=trodAll_nil r2;obtain rfl:args = #[v0,v1,v2]:=by cases args;simp_all
 obtain⟨rfl,rfl⟩:=trodVars_none hV;obtain⟨x0,a0,w0,k0⟩:=Md (n:=9) (ty:=(.list (.int .i64))) (by kernel_rfl) (eA 0 22 v0 rfl rfl) h0;obtain⟨x1,a1,w1,k1⟩:=Md (n:=9) (ty:=(.int .i64)) (by kernel_rfl) (eA 1 3 v1 rfl rfl) h1;obtain⟨x2,a2,w2,k2⟩:=Md (n:=9) (ty:=(.int .i64)) (by kernel_rfl) (eA 2 3 v2 rfl rfl) h2;clear Y6 wW;refine(jtv Pk.law17_LoadJoins_ok (x0,x1,x2) (Pw.jkz x0 w0 x1 w1 x2 w2) W (oldS W) [v0,v1,v2] ⟨a0,a1,a2,trivial⟩ rfl (λ_ _ h=>h) rfl).mono λe W' ⟨he,hg⟩=>?_;subst he
 exact⟨_,rfl,Go.Lft.jm4 (pa:=p0++(p1++(p2++([])))) (pv:=[]) hW' (λ_ _ _=>(trodAll_cons_mk (shut_bool Tryz.underlying4 _) trodAll_mk0)) (λsp cY=>(trodAll_cons_mk (k0 W' sp hg (λq hq=>cY q (by refine kb _ ?_;  exact kb _ hq))) (trodAll_cons_mk (k1 W' sp hg (λq hq=>cY q (by refine kb _ ?_;refine kg _ ?_;exact kb _ hq))) (trodAll_cons_mk (k2 W' sp hg (λq hq=>cY q (by refine kb _ ?_;refine kg _ ?_;refine kg _ ?_;exact kb _ hq))) trodAll_mk0)))) (λ_ _=>rfl) rfl
  hg (ok_one (by kernel_rfl) rfl (okWide_bool_mk Tryz.underlying4 _))⟩
set_option maxHeartbeats 4000000 in
theorem closed:joinedFacts Tryz.pinned.checked.prog 3 Tryz.f3 Rows.loadJoinsSpec Rows.loadJoinsRow=true:=by
 unfold joinedFacts;simp only[ja]
 repeat' refine j9 ?_ ?_
 all_goals as_aux_lemma=>kernel_rfl
theorem over:Rows.loadJoinsRow.holds Tryz.pinned (OpenSpec.ofChange Rows.loadJoinsSpec):=
 OpenClaim.holds_of_wide 3 Tryz.f3 rfl rfl rfl rfl rfl rfl rfl ⟨rfl,rfl,rfl,rfl,rfl⟩ rfl rfl rfl rfl rfl (by as_aux_lemma=>kernel_rfl) Tryz.func3 closed
  (qg (by as_aux_lemma=>kernel_rfl)) (by as_aux_lemma=>unfold Func.isWrapper;first|(rw[if_pos (by decide +kernel)];kernel_rfl)|(rw[if_neg (by decide +kernel)];exact⟨rfl,rfl⟩))
  (λos started H enc _=>jzo os started H enc)
theorem proved:Rows.LoadJoinsSaid:=
 over
#print axioms proved
end Go.Proofs.YtbpjdcbbmibehaaGreat.loadJoins
