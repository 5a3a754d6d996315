/- LimitsWeeks: the given function returns true at every input and leaves its arguments alone. -/
import Derived.Test.YtaieocafhcjelaaGreatRows
import Derived.Test.YtaieocafhcjelaaGreatDCon0
import Derived.Test.YtaieocafhcjelaaGreatDCon1
import Derived.Test.YtaieocafhcjelaaGreatDCon2
import Derived.Test.YtaieocafhcjelaaGreatDCon3
import Derived.Test.YtaieocafhcjelaaGreatDCon4
import Derived.Test.YtaieocafhcjelaaGreatDCon5
import Derived.Test.YtaieocafhcjelaaGreatDCon6
import Derived.Test.YtaieocafhcjelaaGreatDCon7
import Derived.Test.YtaieocafhcjelaaGreatDPQ
import Derived.WalkKit
import Derived.ProofKit
import Derived.OpenShut
namespace Go.Proofs.YtaieocafhcjelaaGreat.limitsWeeks
open Go.ChangeShapes Go.WideShapes Go.ChangeAt Go.RowKit Go.Lft
set_option linter.unusedVariables false
theorem own:ownKnob Tryz.prog.godebug=none:=by kernel_rfl
set_option maxRecDepth 100000 in
theorem jAU(os:Os)(started:os.Started)(H:Type)(enc:TypeId×Value->H) :
  ReturnsInHanded {} Tryz.checked os 12 .any (Rows.limitsWeeksSpec.pre6 enc Tryz.prog Tryz.f12 Rows.limitsWeeksRow.domain false) (Rows.limitsWeeksSpec.post enc Tryz.prog Tryz.f12 false true false false):=by
 refine returnsInHanded_of_change (C:=Tryz.checked) own started (by kernel_rfl) Tryz.func12
  (ChangeSpec.witness6 (enc:=enc) (C:=Tryz.checked) false ⟨#[], #[.slice none 0 0,.int .i64 0],[]⟩ 8 (by kernel_rfl) (by kernel_rfl) (by kernel_rfl) (by kernel_rfl)) ?_
 intro W base args ds gs before vW hW pW _;have dQ:∀(j:Nat) t v,Tryz.f12.params[j]? = some t->args[j]? = some v->Value.okWide Tryz.prog W .any base t v:=vW;have hW':=hW;obtain⟨p,q,Xp,hV,rfl,dE,dJ⟩:=hW;have hA:DataW.TrodAll enc Tryz.prog W 0 (λ_=>true) true Tryz.f12.params.toList args.toList ds p:=Xp;rw[Tryz.params12]at hA dQ;obtain⟨v0,vs0,d0,ds0,p0,q0,dh,rfl,rfl,h0,r0⟩:=trodAll_cons hA;obtain⟨v1,vs1,d1,ds1,p1,q1,rfl,rfl,rfl,h1,r1⟩:=trodAll_cons r0;obtain⟨rfl,rfl,rfl⟩:=trodAll_nil r1;obtain rfl:args = #[v0,v1]:=by cases args;simp_all
 obtain⟨rfl,rfl⟩:=trodVars_none hV;obtain⟨x0,a0,w0,k0⟩:=Rs (n:=9) (ty:=(.list (.int .i64))) (by kernel_rfl) (dQ 0 22 v0 rfl rfl) h0;obtain⟨x1,a1,w1,k1⟩:=Rs (n:=9) (ty:=(.int .i64)) (by kernel_rfl) (dQ 1 3 v1 rfl rfl) h1;clear Xp vW;refine(juX Pk.law18_LimitsWeeks_ok (x0,x1) (Pw.jkP x0 w0 x1 w1) W (oldS W) [v0,v1] ⟨a0,a1,trivial⟩ rfl (λ_ _ h=>h) rfl).mono λe W' ⟨he,hg⟩=>?_;subst he
 exact⟨_,rfl,Go.Lft.jom (pa:=p0++(p1++([]))) (pv:=[]) hW' (λ_ _ _=>(trodAll_cons_mk (shut_bool Tryz.underlying4 _) trodAll_mk0)) (λsp cC=>(trodAll_cons_mk (k0 W' sp hg (λq hq=>cC q (by refine ka _ ?_;  exact ka _ hq))) (trodAll_cons_mk (k1 W' sp hg (λq hq=>cC q (by refine ka _ ?_;refine kq _ ?_;exact ka _ hq))) trodAll_mk0))) (λ_ _=>rfl) rfl
  hg (ok_one (by kernel_rfl) rfl (okWide_bool_mk Tryz.underlying4 _))⟩
set_option maxHeartbeats 4000000 in
theorem closed:joinedFacts Tryz.pinned.checked.prog 12 Tryz.f12 Rows.limitsWeeksSpec Rows.limitsWeeksRow=true:=by
 unfold joinedFacts;simp only[jb]
 repeat' refine j9 ?_ ?_
 all_goals as_aux_lemma=>kernel_rfl
theorem over:Rows.limitsWeeksRow.holds Tryz.pinned (OpenSpec.ofChange Rows.limitsWeeksSpec):=
 OpenClaim.holds_of_wide 12 Tryz.f12 rfl rfl rfl rfl rfl rfl rfl ⟨rfl,rfl,rfl,rfl,rfl⟩ rfl rfl rfl rfl rfl (by as_aux_lemma=>kernel_rfl) Tryz.func12 closed
  (kz (by as_aux_lemma=>kernel_rfl)) (by as_aux_lemma=>unfold Func.isWrapper;first|(rw[if_pos (by decide +kernel)];kernel_rfl)|(rw[if_neg (by decide +kernel)];exact⟨rfl,rfl⟩))
  (λos started H enc _=>jAU os started H enc)
theorem proved:Rows.LimitsWeeksSaid:=
 over
#print axioms proved
end Go.Proofs.YtaieocafhcjelaaGreat.limitsWeeks
