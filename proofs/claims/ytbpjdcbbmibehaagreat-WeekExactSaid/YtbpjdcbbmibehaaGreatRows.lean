/-
  No cell of these rows narrows 'for every input' (looked for: loops, veiled, ifaces, maps, wideKeys, modest, calm, conditions, laid).
  DERIVED. THE GIVEN ROWS OF THIS SEAT. 7 by the template 'for every input the law returns true; each argument reads behind the call as it read before'; 0 by the template 'total and deterministic' (their statements: YtbpjdcbbmibehaaGreatTotals.lean).
  GIVEN WITH THE SEED: the statements are not yours to turn. If you find one false, say at which input.
  Laid BY PROGRAM, IN A SANDBOX (cutbox-rows.mjs): the forced cells as the released guide's own fill.sh prints them over the translation c4f9ed276dec6385… (all of the seat's roots in one cut). By AI agents, Wed Nov 11 2026. No macro, syntax, notation, axiom, sorry.
-/
import Derived.Test.YtbpjdcbbmibehaaGreatChecked
import GoSem.Claim
import GoSem.ClaimJoined
import GoSem.ClaimMapViews
import Derived.JoinedTies
import Derived.KernelRfl
namespace Go.Proofs.YtbpjdcbbmibehaaGreat
/- THE CELL 'sum', in the pinned program and in every row, IS THE sha256 OF THE DUMP (.gsa) THAT YtbpjdcbbmibehaaGreatProg.lean LOADS. Nothing in Lean hashes anything: it is a label: what it is worth is what the hold of that sum in a sandbox is worth. -/
noncomputable def Tryz.pinned : Pinned := { name := "ytbpjdcbbmibehaagreat", sum := "c4f9ed276dec6385b379bdce3296bffbae3e988736d807348cac353ce0a20a92", checked := Tryz.checked }
namespace Rows
def none {H : Type} : Left H := { results := [], args := [] }

/-- 'pagewatchlaw17.LoadJoins': WHATEVER THE INPUT: true; the input reads as it did. -/
def loadJoinsSpec : ChangeSpec := { name := "loadJoins", fn := fun _ => fun
  | [d1, d2, d3] => { results := [.lit (.bool true)], args := [d1, d2, d3] }
  | _ => none }
def loadJoinsRow : OpenClaim := { program := "ytbpjdcbbmibehaagreat", sum := "c4f9ed276dec6385b379bdce3296bffbae3e988736d807348cac353ce0a20a92", func := "pagewatch/pagewatchlaw17.LoadJoins", spec := "loadJoins", unfollowed := true, recurses := true, apart := false }
def LoadJoinsSaid : Prop := loadJoinsRow.holds Tryz.pinned (OpenSpec.ofChange loadJoinsSpec)

/-- ITS FALSE NEIGHBOUR: 'it returns false'. Refute it at one input. -/
def loadJoinsWrong : ChangeSpec := { name := "loadJoins", fn := fun _ => fun
  | [d1, d2, d3] => { results := [.lit (.bool false)], args := [d1, d2, d3] }
  | _ => none }
def LoadJoinsWrongFalsely : Prop := loadJoinsRow.holds Tryz.pinned (OpenSpec.ofChange loadJoinsWrong)

/-- 'pagewatchlaw17.LoadSums': WHATEVER THE INPUT: true; the input reads as it did. -/
def loadSumsSpec : ChangeSpec := { name := "loadSums", fn := fun _ => fun
  | [d] => { results := [.lit (.bool true)], args := [d] }
  | _ => none }
def loadSumsRow : OpenClaim := { program := "ytbpjdcbbmibehaagreat", sum := "c4f9ed276dec6385b379bdce3296bffbae3e988736d807348cac353ce0a20a92", func := "pagewatch/pagewatchlaw17.LoadSums", spec := "loadSums", unfollowed := true, recurses := true, apart := false }
def LoadSumsSaid : Prop := loadSumsRow.holds Tryz.pinned (OpenSpec.ofChange loadSumsSpec)

/-- ITS FALSE NEIGHBOUR: 'it returns false'. Refute it at one input. -/
def loadSumsWrong : ChangeSpec := { name := "loadSums", fn := fun _ => fun
  | [d] => { results := [.lit (.bool false)], args := [d] }
  | _ => none }
def LoadSumsWrongFalsely : Prop := loadSumsRow.holds Tryz.pinned (OpenSpec.ofChange loadSumsWrong)

/-- 'pagewatchlaw18.LimitsRest': WHATEVER THE INPUT: true; the input reads as it did. -/
def limitsRestSpec : ChangeSpec := { name := "limitsRest", fn := fun _ => fun
  | [d] => { results := [.lit (.bool true)], args := [d] }
  | _ => none }
def limitsRestRow : OpenClaim := { program := "ytbpjdcbbmibehaagreat", sum := "c4f9ed276dec6385b379bdce3296bffbae3e988736d807348cac353ce0a20a92", func := "pagewatch/pagewatchlaw18.LimitsRest", spec := "limitsRest", unfollowed := true, recurses := true, apart := false }
def LimitsRestSaid : Prop := limitsRestRow.holds Tryz.pinned (OpenSpec.ofChange limitsRestSpec)

/-- ITS FALSE NEIGHBOUR: 'it returns false'. Refute it at one input. -/
def limitsRestWrong : ChangeSpec := { name := "limitsRest", fn := fun _ => fun
  | [d] => { results := [.lit (.bool false)], args := [d] }
  | _ => none }
def LimitsRestWrongFalsely : Prop := limitsRestRow.holds Tryz.pinned (OpenSpec.ofChange limitsRestWrong)

/-- 'pagewatchlaw19.ProposeHarmless': WHATEVER THE INPUT: true; the input reads as it did. -/
def proposeHarmlessSpec : ChangeSpec := { name := "proposeHarmless", fn := fun _ => fun
  | [d] => { results := [.lit (.bool true)], args := [d] }
  | _ => none }
def proposeHarmlessRow : OpenClaim := { program := "ytbpjdcbbmibehaagreat", sum := "c4f9ed276dec6385b379bdce3296bffbae3e988736d807348cac353ce0a20a92", func := "pagewatch/pagewatchlaw19.ProposeHarmless", spec := "proposeHarmless", unfollowed := true, recurses := true, apart := false }
def ProposeHarmlessSaid : Prop := proposeHarmlessRow.holds Tryz.pinned (OpenSpec.ofChange proposeHarmlessSpec)

/-- ITS FALSE NEIGHBOUR: 'it returns false'. Refute it at one input. -/
def proposeHarmlessWrong : ChangeSpec := { name := "proposeHarmless", fn := fun _ => fun
  | [d] => { results := [.lit (.bool false)], args := [d] }
  | _ => none }
def ProposeHarmlessWrongFalsely : Prop := proposeHarmlessRow.holds Tryz.pinned (OpenSpec.ofChange proposeHarmlessWrong)

/-- 'pagewatchlaw19.ProposeOrder': WHATEVER THE INPUT: true; the input reads as it did. -/
def proposeOrderSpec : ChangeSpec := { name := "proposeOrder", fn := fun _ => fun
  | [d] => { results := [.lit (.bool true)], args := [d] }
  | _ => none }
def proposeOrderRow : OpenClaim := { program := "ytbpjdcbbmibehaagreat", sum := "c4f9ed276dec6385b379bdce3296bffbae3e988736d807348cac353ce0a20a92", func := "pagewatch/pagewatchlaw19.ProposeOrder", spec := "proposeOrder", unfollowed := true, recurses := true, apart := false }
def ProposeOrderSaid : Prop := proposeOrderRow.holds Tryz.pinned (OpenSpec.ofChange proposeOrderSpec)

/-- ITS FALSE NEIGHBOUR: 'it returns false'. Refute it at one input. -/
def proposeOrderWrong : ChangeSpec := { name := "proposeOrder", fn := fun _ => fun
  | [d] => { results := [.lit (.bool false)], args := [d] }
  | _ => none }
def ProposeOrderWrongFalsely : Prop := proposeOrderRow.holds Tryz.pinned (OpenSpec.ofChange proposeOrderWrong)

/-- 'pagewatchlaw19.ProposeFills': WHATEVER THE INPUT: true; the input reads as it did. -/
def proposeFillsSpec : ChangeSpec := { name := "proposeFills", fn := fun _ => fun
  | [d1, d2] => { results := [.lit (.bool true)], args := [d1, d2] }
  | _ => none }
def proposeFillsRow : OpenClaim := { program := "ytbpjdcbbmibehaagreat", sum := "c4f9ed276dec6385b379bdce3296bffbae3e988736d807348cac353ce0a20a92", func := "pagewatch/pagewatchlaw19.ProposeFills", spec := "proposeFills", unfollowed := true, recurses := true, apart := false }
def ProposeFillsSaid : Prop := proposeFillsRow.holds Tryz.pinned (OpenSpec.ofChange proposeFillsSpec)

/-- ITS FALSE NEIGHBOUR: 'it returns false'. Refute it at one input. -/
def proposeFillsWrong : ChangeSpec := { name := "proposeFills", fn := fun _ => fun
  | [d1, d2] => { results := [.lit (.bool false)], args := [d1, d2] }
  | _ => none }
def ProposeFillsWrongFalsely : Prop := proposeFillsRow.holds Tryz.pinned (OpenSpec.ofChange proposeFillsWrong)

/-- 'pagewatchlaw05.WeekExact': WHATEVER THE INPUT: true; the input reads as it did. -/
def weekExactSpec : ChangeSpec := { name := "weekExact", fn := fun _ => fun
  | [d1, d2, d3, d4, d5] => { results := [.lit (.bool true)], args := [d1, d2, d3, d4, d5] }
  | _ => none }
def weekExactRow : OpenClaim := { program := "ytbpjdcbbmibehaagreat", sum := "c4f9ed276dec6385b379bdce3296bffbae3e988736d807348cac353ce0a20a92", func := "pagewatch/pagewatchlaw05.WeekExact", spec := "weekExact", unfollowed := true, recurses := true, apart := false }
def WeekExactSaid : Prop := weekExactRow.holds Tryz.pinned (OpenSpec.ofChange weekExactSpec)

/-- ITS FALSE NEIGHBOUR: 'it returns false'. Refute it at one input. -/
def weekExactWrong : ChangeSpec := { name := "weekExact", fn := fun _ => fun
  | [d1, d2, d3, d4, d5] => { results := [.lit (.bool false)], args := [d1, d2, d3, d4, d5] }
  | _ => none }
def WeekExactWrongFalsely : Prop := weekExactRow.holds Tryz.pinned (OpenSpec.ofChange weekExactWrong)

/- THE SECOND FORM. 'bulk': how many values and letters a reading holds, each counted each time it is reached (what is shared counts as often as it is met; a slice's spare places count too). A statement '..UptoSaid' is the law's where the arguments, and the package variables that the reading takes, are together of bulk at most 1048576: NARROWER than '..Said'. Prove '..Said' where nothing that the law and all that it calls make is longer than what came in: it says more and counts as full. Else prove '..UptoSaid'. A law counts once. -/
mutual
def uptoBulk {H : Type} : DataW H → Nat
  | .lit (.string bytes) => bytes.length + 1
  | .lit _ => 1
  | .nil => 1
  | .ptr d => uptoBulk d + 1
  | .slice elems spare => uptoBulkAll elems + uptoBulkAll spare + 1
  | .agg parts => uptoBulkAll parts + 1
  | .iface _ d => uptoBulk d + 1
  | .map entries => uptoBulkEntries entries + 1
  | .held _ => 1
def uptoBulkAll {H : Type} : List (DataW H) → Nat
  | [] => 0
  | d :: r => uptoBulk d + uptoBulkAll r
def uptoBulkEntries {H : Type} : List (Lit × DataW H) → Nat
  | [] => 0
  | x :: r => uptoBulkEntry x + uptoBulkEntries r
def uptoBulkEntry {H : Type} : Lit × DataW H → Nat
  | (.string bytes, d) => bytes.length + uptoBulk d + 1
  | (_, d) => uptoBulk d + 1
 end
def uptoSmall : (H : Type) → List (DataW H) → Bool := fun _ ds => decide (uptoBulkAll ds ≤ 1048576)
def OpenSpec.upto (s : _root_.Go.ChangeSpec) : _root_.Go.OpenSpec := { _root_.Go.OpenSpec.ofChange s with cond := some uptoSmall }

/-- 'pagewatchlaw17.LoadJoins', WHERE WHAT IT READS IS OF BULK AT MOST 1048576: true; the input reads as it did. -/
def loadJoinsUptoRow : OpenClaim := { program := "ytbpjdcbbmibehaagreat", sum := "c4f9ed276dec6385b379bdce3296bffbae3e988736d807348cac353ce0a20a92", func := "pagewatch/pagewatchlaw17.LoadJoins", spec := "loadJoins", unfollowed := true, recurses := true, apart := false, narrowed := true }
def LoadJoinsUptoSaid : Prop := loadJoinsUptoRow.holds Tryz.pinned (OpenSpec.upto loadJoinsSpec)

/-- 'pagewatchlaw17.LoadSums', WHERE WHAT IT READS IS OF BULK AT MOST 1048576: true; the input reads as it did. -/
def loadSumsUptoRow : OpenClaim := { program := "ytbpjdcbbmibehaagreat", sum := "c4f9ed276dec6385b379bdce3296bffbae3e988736d807348cac353ce0a20a92", func := "pagewatch/pagewatchlaw17.LoadSums", spec := "loadSums", unfollowed := true, recurses := true, apart := false, narrowed := true }
def LoadSumsUptoSaid : Prop := loadSumsUptoRow.holds Tryz.pinned (OpenSpec.upto loadSumsSpec)

/-- 'pagewatchlaw18.LimitsRest', WHERE WHAT IT READS IS OF BULK AT MOST 1048576: true; the input reads as it did. -/
def limitsRestUptoRow : OpenClaim := { program := "ytbpjdcbbmibehaagreat", sum := "c4f9ed276dec6385b379bdce3296bffbae3e988736d807348cac353ce0a20a92", func := "pagewatch/pagewatchlaw18.LimitsRest", spec := "limitsRest", unfollowed := true, recurses := true, apart := false, narrowed := true }
def LimitsRestUptoSaid : Prop := limitsRestUptoRow.holds Tryz.pinned (OpenSpec.upto limitsRestSpec)

/-- 'pagewatchlaw19.ProposeHarmless', WHERE WHAT IT READS IS OF BULK AT MOST 1048576: true; the input reads as it did. -/
def proposeHarmlessUptoRow : OpenClaim := { program := "ytbpjdcbbmibehaagreat", sum := "c4f9ed276dec6385b379bdce3296bffbae3e988736d807348cac353ce0a20a92", func := "pagewatch/pagewatchlaw19.ProposeHarmless", spec := "proposeHarmless", unfollowed := true, recurses := true, apart := false, narrowed := true }
def ProposeHarmlessUptoSaid : Prop := proposeHarmlessUptoRow.holds Tryz.pinned (OpenSpec.upto proposeHarmlessSpec)

/-- 'pagewatchlaw19.ProposeOrder', WHERE WHAT IT READS IS OF BULK AT MOST 1048576: true; the input reads as it did. -/
def proposeOrderUptoRow : OpenClaim := { program := "ytbpjdcbbmibehaagreat", sum := "c4f9ed276dec6385b379bdce3296bffbae3e988736d807348cac353ce0a20a92", func := "pagewatch/pagewatchlaw19.ProposeOrder", spec := "proposeOrder", unfollowed := true, recurses := true, apart := false, narrowed := true }
def ProposeOrderUptoSaid : Prop := proposeOrderUptoRow.holds Tryz.pinned (OpenSpec.upto proposeOrderSpec)

/-- 'pagewatchlaw19.ProposeFills', WHERE WHAT IT READS IS OF BULK AT MOST 1048576: true; the input reads as it did. -/
def proposeFillsUptoRow : OpenClaim := { program := "ytbpjdcbbmibehaagreat", sum := "c4f9ed276dec6385b379bdce3296bffbae3e988736d807348cac353ce0a20a92", func := "pagewatch/pagewatchlaw19.ProposeFills", spec := "proposeFills", unfollowed := true, recurses := true, apart := false, narrowed := true }
def ProposeFillsUptoSaid : Prop := proposeFillsUptoRow.holds Tryz.pinned (OpenSpec.upto proposeFillsSpec)

/-- 'pagewatchlaw05.WeekExact', WHERE WHAT IT READS IS OF BULK AT MOST 1048576: true; the input reads as it did. -/
def weekExactUptoRow : OpenClaim := { program := "ytbpjdcbbmibehaagreat", sum := "c4f9ed276dec6385b379bdce3296bffbae3e988736d807348cac353ce0a20a92", func := "pagewatch/pagewatchlaw05.WeekExact", spec := "weekExact", unfollowed := true, recurses := true, apart := false, narrowed := true }
def WeekExactUptoSaid : Prop := weekExactUptoRow.holds Tryz.pinned (OpenSpec.upto weekExactSpec)

end Rows
end Go.Proofs.YtbpjdcbbmibehaaGreat
