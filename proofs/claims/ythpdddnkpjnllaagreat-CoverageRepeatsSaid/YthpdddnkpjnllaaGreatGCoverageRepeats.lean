/- CoverageRepeats: the given function returns true at every input and leaves its arguments alone. -/
import Derived.Test.YthpdddnkpjnllaaGreatRows
import Derived.Test.YthpdddnkpjnllaaGreatGCon0
import Derived.Test.YthpdddnkpjnllaaGreatGCon1
import Derived.Test.YthpdddnkpjnllaaGreatGCon10
import Derived.Test.YthpdddnkpjnllaaGreatGCon2
import Derived.Test.YthpdddnkpjnllaaGreatGCon3
import Derived.Test.YthpdddnkpjnllaaGreatGCon4
import Derived.Test.YthpdddnkpjnllaaGreatGCon5
import Derived.Test.YthpdddnkpjnllaaGreatGCon6
import Derived.Test.YthpdddnkpjnllaaGreatGCon7
import Derived.Test.YthpdddnkpjnllaaGreatGCon8
import Derived.Test.YthpdddnkpjnllaaGreatGCon9
import Derived.Test.YthpdddnkpjnllaaGreatGPJ
import Derived.WalkKit
import Derived.ProofKit
import Derived.OpenShut
namespace Go.Proofs.YthpdddnkpjnllaaGreat.coverageRepeats
open Go.ChangeShapes Go.WideShapes Go.ChangeAt Go.RowKit Go.Lft
set_option linter.unusedVariables false
theorem own:ownKnob Tryz.prog.godebug=none:=by kernel_rfl
set_option maxRecDepth 100000 in
theorem jAu (os:Os) (started:os.Started) (H:Type) (enc:TypeId×Value→H) :
  ReturnsInHanded {} Tryz.checked os 8 .any (Rows.coverageRepeatsSpec.pre6 enc Tryz.prog Tryz.f8 Rows.coverageRepeatsRow.domain false) (Rows.coverageRepeatsSpec.post enc Tryz.prog Tryz.f8 false true false false):=by
 refine returnsInHanded_of_change (C:=Tryz.checked) own started (by kernel_rfl) Tryz.func8
  (ChangeSpec.witness6 (enc:=enc) (C:=Tryz.checked) false ⟨#[], #[.slice none 0 0,.int .i64 0,.int .i64 0],[]⟩ 8 (by kernel_rfl) (by kernel_rfl) (by kernel_rfl) (by kernel_rfl)) ?_
 intro W base args ds gs before hval0 hW hcnd _
 have hval:∀ (j:Nat) t v,Tryz.f8.params[j]? = some t→args[j]? = some v→Value.okWide Tryz.prog W .any base t v:=hval0
 have hW':=hW
 obtain ⟨p,q,hA0,hV,rfl,hfz,hnd⟩:=hW
 have hA:DataW.TrodAll enc Tryz.prog W 0 (fun _=>true) true Tryz.f8.params.toList args.toList ds p:=hA0
 rw [Tryz.params8] at hA hval
 obtain ⟨v0,vs0,d0,ds0,p0,q0,hargs,rfl,rfl,h0,r0⟩:=trodAll_cons hA
 obtain ⟨v1,vs1,d1,ds1,p1,q1,rfl,rfl,rfl,h1,r1⟩:=trodAll_cons r0
 obtain ⟨v2,vs2,d2,ds2,p2,q2,rfl,rfl,rfl,h2,r2⟩:=trodAll_cons r1
 obtain ⟨rfl,rfl,rfl⟩:=trodAll_nil r2
 obtain rfl:args = #[v0,v1,v2]:=by cases args;simp_all
 obtain ⟨rfl,rfl⟩:=trodVars_none hV
 obtain ⟨x0,a0,w0,k0⟩:=joS (n:=9) (ty:=(.list (.int .i64))) (by kernel_rfl) (hval 0 22 v0 rfl rfl) h0
 obtain ⟨x1,a1,w1,k1⟩:=joS (n:=9) (ty:=(.int .i64)) (by kernel_rfl) (hval 1 3 v1 rfl rfl) h1
 obtain ⟨x2,a2,w2,k2⟩:=joS (n:=9) (ty:=(.int .i64)) (by kernel_rfl) (hval 2 3 v2 rfl rfl) h2
 clear hA0 hval0
 refine (jvW Pk.law15_CoverageRepeats_ok (x0,x1,x2) (Pw.jho x0 w0 x1 w1 x2 w2) W (oldS W) [v0,v1,v2] ⟨a0,a1,a2,trivial⟩ rfl (fun _ _ h=>h) rfl).mono fun e W' ⟨he,hg⟩=> ?_
 subst he
 exact ⟨_,rfl,Go.Lft.joR (pa:=p0++(p1++(p2++([])))) (pv:=[]) hW' (fun _ _ _=>(trodAll_cons_mk (shut_bool Tryz.underlying4 _) trodAll_mk0)) (fun sp hsp=>(trodAll_cons_mk (k0 W' sp hg (fun q hq=>hsp q (by refine List.mem_append_left _ ?_;  exact List.mem_append_left _ hq))) (trodAll_cons_mk (k1 W' sp hg (fun q hq=>hsp q (by refine List.mem_append_left _ ?_;refine List.mem_append_right _ ?_;exact List.mem_append_left _ hq))) (trodAll_cons_mk (k2 W' sp hg (fun q hq=>hsp q (by refine List.mem_append_left _ ?_;refine List.mem_append_right _ ?_;refine List.mem_append_right _ ?_;exact List.mem_append_left _ hq))) trodAll_mk0)))) (fun _ _=>rfl) rfl
  hg (ok_one (by kernel_rfl) rfl (okWide_bool_mk Tryz.underlying4 _))⟩
set_option maxHeartbeats 4000000 in
theorem closed:joinedFacts Tryz.pinned.checked.prog 8 Tryz.f8 Rows.coverageRepeatsSpec Rows.coverageRepeatsRow=true:=by
 unfold joinedFacts
 simp only [Bool.and_eq_true]
 repeat' refine j9 ?_ ?_
 all_goals as_aux_lemma=>kernel_rfl
theorem over:Rows.coverageRepeatsRow.holds Tryz.pinned (OpenSpec.ofChange Rows.coverageRepeatsSpec):=
 OpenClaim.holds_of_wide 8 Tryz.f8 rfl rfl rfl rfl rfl rfl rfl ⟨rfl,rfl,rfl,rfl,rfl⟩ rfl rfl rfl rfl rfl (by as_aux_lemma=>kernel_rfl) Tryz.func8 closed
  (of_decide_eq_true (by as_aux_lemma=>kernel_rfl)) (by as_aux_lemma=>unfold Func.isWrapper;first | (rw [if_pos (by decide +kernel)];kernel_rfl) | (rw [if_neg (by decide +kernel)];exact ⟨rfl,rfl⟩))
  (fun os started H enc _=>jAu os started H enc)
theorem proved:Rows.CoverageRepeatsSaid:=
 over
#print axioms proved
end Go.Proofs.YthpdddnkpjnllaaGreat.coverageRepeats
