/- DutyExact: the given function returns true at every input and leaves its arguments alone. -/
import Derived.Test.YtllkgjaoejhneaaGreatRows
import Derived.Test.YtllkgjaoejhneaaGreatDECon0
import Derived.Test.YtllkgjaoejhneaaGreatDECon1
import Derived.Test.YtllkgjaoejhneaaGreatDECon2
import Derived.Test.YtllkgjaoejhneaaGreatDECon3
import Derived.Test.YtllkgjaoejhneaaGreatDECon4
import Derived.Test.YtllkgjaoejhneaaGreatDECon5
import Derived.Test.YtllkgjaoejhneaaGreatDECon6
import Derived.Test.YtllkgjaoejhneaaGreatDECon7
import Derived.Test.YtllkgjaoejhneaaGreatDECon8
import Derived.Test.YtllkgjaoejhneaaGreatDEPQ
import Derived.WalkKit
import Derived.ProofKit
import Derived.OpenShut
namespace Go.Proofs.YtllkgjaoejhneaaGreat.dutyExact
open Go.ChangeShapes Go.WideShapes Go.ChangeAt Go.RowKit Go.Lft
set_option linter.unusedVariables false
theorem own:ownKnob Tryz.prog.godebug=none:=by kernel_rfl
set_option maxRecDepth 100000 in
theorem jA5 (os:Os) (started:os.Started) (H:Type) (enc:TypeId×Value→H) :
  ReturnsInHanded {} Tryz.checked os 5 .any (Rows.dutyExactSpec.pre6 enc Tryz.prog Tryz.f5 Rows.dutyExactRow.domain false) (Rows.dutyExactSpec.post enc Tryz.prog Tryz.f5 false true false false):=by
 refine returnsInHanded_of_change (C:=Tryz.checked) own started (by kernel_rfl) Tryz.func5
  (ChangeSpec.witness6 (enc:=enc) (C:=Tryz.checked) false ⟨#[], #[.slice none 0 0,.slice none 0 0,.int .i64 0,.int .i64 0,.int .i64 0],[]⟩ 8 (by kernel_rfl) (by kernel_rfl) (by kernel_rfl) (by kernel_rfl)) ?_
 intro W base args ds gs before hval0 hW hcnd _
 have hval:∀ (j:Nat) t v,Tryz.f5.params[j]? = some t→args[j]? = some v→Value.okWide Tryz.prog W .any base t v:=hval0
 have hW':=hW
 obtain ⟨p,q,hA0,hV,rfl,hfz,hnd⟩:=hW
 have hA:DataW.TrodAll enc Tryz.prog W 0 (fun _=>true) true Tryz.f5.params.toList args.toList ds p:=hA0
 rw [Tryz.params5] at hA hval
 obtain ⟨v0,vs0,d0,ds0,p0,q0,hargs,rfl,rfl,h0,r0⟩:=trodAll_cons hA
 obtain ⟨v1,vs1,d1,ds1,p1,q1,rfl,rfl,rfl,h1,r1⟩:=trodAll_cons r0
 obtain ⟨v2,vs2,d2,ds2,p2,q2,rfl,rfl,rfl,h2,r2⟩:=trodAll_cons r1
 obtain ⟨v3,vs3,d3,ds3,p3,q3,rfl,rfl,rfl,h3,r3⟩:=trodAll_cons r2
 obtain ⟨v4,vs4,d4,ds4,p4,q4,rfl,rfl,rfl,h4,r4⟩:=trodAll_cons r3
 obtain ⟨rfl,rfl,rfl⟩:=trodAll_nil r4
 obtain rfl:args = #[v0,v1,v2,v3,v4]:=by cases args;simp_all
 obtain ⟨rfl,rfl⟩:=trodVars_none hV
 obtain ⟨x0,a0,w0,k0⟩:=jgP (n:=9) (ty:=(.list (.int .i64))) (by kernel_rfl) (hval 0 22 v0 rfl rfl) h0
 obtain ⟨x1,a1,w1,k1⟩:=jgP (n:=9) (ty:=(.list (.pair (.int .i64) (.pair (.int .i64) (.int .i64))))) (by kernel_rfl) (hval 1 71 v1 rfl rfl) h1
 obtain ⟨x2,a2,w2,k2⟩:=jgP (n:=9) (ty:=(.int .i64)) (by kernel_rfl) (hval 2 3 v2 rfl rfl) h2
 obtain ⟨x3,a3,w3,k3⟩:=jgP (n:=9) (ty:=(.int .i64)) (by kernel_rfl) (hval 3 3 v3 rfl rfl) h3
 obtain ⟨x4,a4,w4,k4⟩:=jgP (n:=9) (ty:=(.int .i64)) (by kernel_rfl) (hval 4 3 v4 rfl rfl) h4
 clear hA0 hval0
 refine (jup Pk.law11_DutyExact_ok (x0,x1,x2,x3,x4) (Pw.jlb x0 w0 x1 w1 x2 w2 x3 w3 x4 w4) W (oldS W) [v0,v1,v2,v3,v4] ⟨a0,a1,a2,a3,a4,trivial⟩ rfl (fun _ _ h=>h) rfl).mono fun e W' ⟨he,hg⟩=> ?_
 subst he
 exact ⟨_,rfl,Go.Lft.jmF (pa:=p0++(p1++(p2++(p3++(p4++([])))))) (pv:=[]) hW' (fun _ _ _=>(trodAll_cons_mk (shut_bool Tryz.underlying4 _) trodAll_mk0)) (fun sp hsp=>(trodAll_cons_mk (k0 W' sp hg (fun q hq=>hsp q (by refine ke _ ?_;  exact ke _ hq))) (trodAll_cons_mk (k1 W' sp hg (fun q hq=>hsp q (by refine ke _ ?_;refine kc _ ?_;exact ke _ hq))) (trodAll_cons_mk (k2 W' sp hg (fun q hq=>hsp q (by refine ke _ ?_;refine kc _ ?_;refine kc _ ?_;exact ke _ hq))) (trodAll_cons_mk (k3 W' sp hg (fun q hq=>hsp q (by refine ke _ ?_;refine kc _ ?_;refine kc _ ?_;refine kc _ ?_;exact ke _ hq))) (trodAll_cons_mk (k4 W' sp hg (fun q hq=>hsp q (by refine ke _ ?_;refine kc _ ?_;refine kc _ ?_;refine kc _ ?_;refine kc _ ?_;exact ke _ hq))) trodAll_mk0)))))) (fun _ _=>rfl) rfl
  hg (ok_one (by kernel_rfl) rfl (okWide_bool_mk Tryz.underlying4 _))⟩
set_option maxHeartbeats 4000000 in
theorem closed:joinedFacts Tryz.pinned.checked.prog 5 Tryz.f5 Rows.dutyExactSpec Rows.dutyExactRow=true:=by
 unfold joinedFacts
 simp only [ji]
 repeat' refine jg ?_ ?_
 all_goals as_aux_lemma=>kernel_rfl
theorem over:Rows.dutyExactRow.holds Tryz.pinned (OpenSpec.ofChange Rows.dutyExactSpec):=
 OpenClaim.holds_of_wide 5 Tryz.f5 rfl rfl rfl rfl rfl rfl rfl ⟨rfl,rfl,rfl,rfl,rfl⟩ rfl rfl rfl rfl rfl (by as_aux_lemma=>kernel_rfl) Tryz.func5 closed
  (qe (by as_aux_lemma=>kernel_rfl)) (by as_aux_lemma=>unfold Func.isWrapper;first | (rw [if_pos (by decide +kernel)];kernel_rfl) | (rw [if_neg (by decide +kernel)];exact ⟨rfl,rfl⟩))
  (fun os started H enc _=>jA5 os started H enc)
theorem proved:Rows.DutyExactSaid:=
 over
#print axioms proved
end Go.Proofs.YtllkgjaoejhneaaGreat.dutyExact
