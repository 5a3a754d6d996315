/-
  No cell of these rows narrows 'for every input' (looked for: loops, veiled, ifaces, maps, wideKeys, modest, calm, conditions, laid).
  DERIVED. THE GIVEN ROWS OF THIS SEAT. 12 by the template 'for every input the law returns true; each argument reads behind the call as it read before'; 0 by the template 'total and deterministic' (their statements: YtpbnnhakjhalaaaGreatTotals.lean).
  GIVEN WITH THE SEED: the statements are not yours to turn. If you find one false, say at which input.
  Laid BY PROGRAM, IN A SANDBOX (cutbox-rows.mjs): the forced cells as the released guide's own fill.sh prints them over the translation 04371292c3803556… (all of the seat's roots in one cut). By AI agents, Wed Nov 11 2026. No macro, syntax, notation, axiom, sorry.
-/
import Derived.Test.YtpbnnhakjhalaaaGreatChecked
import GoSem.Claim
import GoSem.ClaimJoined
import GoSem.ClaimMapViews
import Derived.JoinedTies
import Derived.KernelRfl
namespace Go.Proofs.YtpbnnhakjhalaaaGreat
/- THE CELL 'sum', in the pinned program and in every row, IS THE sha256 OF THE DUMP (.gsa) THAT YtpbnnhakjhalaaaGreatProg.lean LOADS. Nothing in Lean hashes anything: it is a label: what it is worth is what the hold of that sum in a sandbox is worth. -/
noncomputable def Tryz.pinned : Pinned := { name := "ytpbnnhakjhalaaagreat", sum := "04371292c3803556cceb781e6745e17fb6aa633b6388ec2f46c8d4f671310cea", checked := Tryz.checked }
namespace Rows
def none {H : Type} : Left H := { results := [], args := [] }

/-- 'pagewatchlaw13.EditCancels': WHATEVER THE INPUT: true; the input reads as it did. -/
def editCancelsSpec : ChangeSpec := { name := "editCancels", fn := fun _ => fun
  | [d1, d2] => { results := [.lit (.bool true)], args := [d1, d2] }
  | _ => none }
def editCancelsRow : OpenClaim := { program := "ytpbnnhakjhalaaagreat", sum := "04371292c3803556cceb781e6745e17fb6aa633b6388ec2f46c8d4f671310cea", func := "pagewatch/pagewatchlaw13.EditCancels", spec := "editCancels", unfollowed := true, recurses := true, apart := false }
def EditCancelsSaid : Prop := editCancelsRow.holds Tryz.pinned (OpenSpec.ofChange editCancelsSpec)

/-- ITS FALSE NEIGHBOUR: 'it returns false'. Refute it at one input. -/
def editCancelsWrong : ChangeSpec := { name := "editCancels", fn := fun _ => fun
  | [d1, d2] => { results := [.lit (.bool false)], args := [d1, d2] }
  | _ => none }
def EditCancelsWrongFalsely : Prop := editCancelsRow.holds Tryz.pinned (OpenSpec.ofChange editCancelsWrong)

/-- 'pagewatchlaw13.EditLocal': WHATEVER THE INPUT: true; the input reads as it did. -/
def editLocalSpec : ChangeSpec := { name := "editLocal", fn := fun _ => fun
  | [d] => { results := [.lit (.bool true)], args := [d] }
  | _ => none }
def editLocalRow : OpenClaim := { program := "ytpbnnhakjhalaaagreat", sum := "04371292c3803556cceb781e6745e17fb6aa633b6388ec2f46c8d4f671310cea", func := "pagewatch/pagewatchlaw13.EditLocal", spec := "editLocal", unfollowed := true, recurses := true, apart := false }
def EditLocalSaid : Prop := editLocalRow.holds Tryz.pinned (OpenSpec.ofChange editLocalSpec)

/-- ITS FALSE NEIGHBOUR: 'it returns false'. Refute it at one input. -/
def editLocalWrong : ChangeSpec := { name := "editLocal", fn := fun _ => fun
  | [d] => { results := [.lit (.bool false)], args := [d] }
  | _ => none }
def EditLocalWrongFalsely : Prop := editLocalRow.holds Tryz.pinned (OpenSpec.ofChange editLocalWrong)

/-- 'pagewatchlaw13.EditSwaps': WHATEVER THE INPUT: true; the input reads as it did. -/
def editSwapsSpec : ChangeSpec := { name := "editSwaps", fn := fun _ => fun
  | [d] => { results := [.lit (.bool true)], args := [d] }
  | _ => none }
def editSwapsRow : OpenClaim := { program := "ytpbnnhakjhalaaagreat", sum := "04371292c3803556cceb781e6745e17fb6aa633b6388ec2f46c8d4f671310cea", func := "pagewatch/pagewatchlaw13.EditSwaps", spec := "editSwaps", unfollowed := true, recurses := true, apart := false }
def EditSwapsSaid : Prop := editSwapsRow.holds Tryz.pinned (OpenSpec.ofChange editSwapsSpec)

/-- ITS FALSE NEIGHBOUR: 'it returns false'. Refute it at one input. -/
def editSwapsWrong : ChangeSpec := { name := "editSwaps", fn := fun _ => fun
  | [d] => { results := [.lit (.bool false)], args := [d] }
  | _ => none }
def EditSwapsWrongFalsely : Prop := editSwapsRow.holds Tryz.pinned (OpenSpec.ofChange editSwapsWrong)

/-- 'pagewatchlaw13.EditOrder': WHATEVER THE INPUT: true; the input reads as it did. -/
def editOrderSpec : ChangeSpec := { name := "editOrder", fn := fun _ => fun
  | [d] => { results := [.lit (.bool true)], args := [d] }
  | _ => none }
def editOrderRow : OpenClaim := { program := "ytpbnnhakjhalaaagreat", sum := "04371292c3803556cceb781e6745e17fb6aa633b6388ec2f46c8d4f671310cea", func := "pagewatch/pagewatchlaw13.EditOrder", spec := "editOrder", unfollowed := true, recurses := true, apart := false }
def EditOrderSaid : Prop := editOrderRow.holds Tryz.pinned (OpenSpec.ofChange editOrderSpec)

/-- ITS FALSE NEIGHBOUR: 'it returns false'. Refute it at one input. -/
def editOrderWrong : ChangeSpec := { name := "editOrder", fn := fun _ => fun
  | [d] => { results := [.lit (.bool false)], args := [d] }
  | _ => none }
def EditOrderWrongFalsely : Prop := editOrderRow.holds Tryz.pinned (OpenSpec.ofChange editOrderWrong)

/-- 'pagewatchlaw12.StackLeaves': WHATEVER THE INPUT: true; the input reads as it did. -/
def stackLeavesSpec : ChangeSpec := { name := "stackLeaves", fn := fun _ => fun
  | [d] => { results := [.lit (.bool true)], args := [d] }
  | _ => none }
def stackLeavesRow : OpenClaim := { program := "ytpbnnhakjhalaaagreat", sum := "04371292c3803556cceb781e6745e17fb6aa633b6388ec2f46c8d4f671310cea", func := "pagewatch/pagewatchlaw12.StackLeaves", spec := "stackLeaves", unfollowed := true, recurses := true, apart := false }
def StackLeavesSaid : Prop := stackLeavesRow.holds Tryz.pinned (OpenSpec.ofChange stackLeavesSpec)

/-- ITS FALSE NEIGHBOUR: 'it returns false'. Refute it at one input. -/
def stackLeavesWrong : ChangeSpec := { name := "stackLeaves", fn := fun _ => fun
  | [d] => { results := [.lit (.bool false)], args := [d] }
  | _ => none }
def StackLeavesWrongFalsely : Prop := stackLeavesRow.holds Tryz.pinned (OpenSpec.ofChange stackLeavesWrong)

/-- 'pagewatchlaw18.LimitsRest': WHATEVER THE INPUT: true; the input reads as it did. -/
def limitsRestSpec : ChangeSpec := { name := "limitsRest", fn := fun _ => fun
  | [d] => { results := [.lit (.bool true)], args := [d] }
  | _ => none }
def limitsRestRow : OpenClaim := { program := "ytpbnnhakjhalaaagreat", sum := "04371292c3803556cceb781e6745e17fb6aa633b6388ec2f46c8d4f671310cea", func := "pagewatch/pagewatchlaw18.LimitsRest", spec := "limitsRest", unfollowed := true, recurses := true, apart := false }
def LimitsRestSaid : Prop := limitsRestRow.holds Tryz.pinned (OpenSpec.ofChange limitsRestSpec)

/-- ITS FALSE NEIGHBOUR: 'it returns false'. Refute it at one input. -/
def limitsRestWrong : ChangeSpec := { name := "limitsRest", fn := fun _ => fun
  | [d] => { results := [.lit (.bool false)], args := [d] }
  | _ => none }
def LimitsRestWrongFalsely : Prop := limitsRestRow.holds Tryz.pinned (OpenSpec.ofChange limitsRestWrong)

/-- 'pagewatchlaw17.LoadSums': WHATEVER THE INPUT: true; the input reads as it did. -/
def loadSumsSpec : ChangeSpec := { name := "loadSums", fn := fun _ => fun
  | [d] => { results := [.lit (.bool true)], args := [d] }
  | _ => none }
def loadSumsRow : OpenClaim := { program := "ytpbnnhakjhalaaagreat", sum := "04371292c3803556cceb781e6745e17fb6aa633b6388ec2f46c8d4f671310cea", func := "pagewatch/pagewatchlaw17.LoadSums", spec := "loadSums", unfollowed := true, recurses := true, apart := false }
def LoadSumsSaid : Prop := loadSumsRow.holds Tryz.pinned (OpenSpec.ofChange loadSumsSpec)

/-- ITS FALSE NEIGHBOUR: 'it returns false'. Refute it at one input. -/
def loadSumsWrong : ChangeSpec := { name := "loadSums", fn := fun _ => fun
  | [d] => { results := [.lit (.bool false)], args := [d] }
  | _ => none }
def LoadSumsWrongFalsely : Prop := loadSumsRow.holds Tryz.pinned (OpenSpec.ofChange loadSumsWrong)

/-- 'pagewatchlaw17.LoadJoins': WHATEVER THE INPUT: true; the input reads as it did. -/
def loadJoinsSpec : ChangeSpec := { name := "loadJoins", fn := fun _ => fun
  | [d1, d2, d3] => { results := [.lit (.bool true)], args := [d1, d2, d3] }
  | _ => none }
def loadJoinsRow : OpenClaim := { program := "ytpbnnhakjhalaaagreat", sum := "04371292c3803556cceb781e6745e17fb6aa633b6388ec2f46c8d4f671310cea", func := "pagewatch/pagewatchlaw17.LoadJoins", spec := "loadJoins", unfollowed := true, recurses := true, apart := false }
def LoadJoinsSaid : Prop := loadJoinsRow.holds Tryz.pinned (OpenSpec.ofChange loadJoinsSpec)

/-- ITS FALSE NEIGHBOUR: 'it returns false'. Refute it at one input. -/
def loadJoinsWrong : ChangeSpec := { name := "loadJoins", fn := fun _ => fun
  | [d1, d2, d3] => { results := [.lit (.bool false)], args := [d1, d2, d3] }
  | _ => none }
def LoadJoinsWrongFalsely : Prop := loadJoinsRow.holds Tryz.pinned (OpenSpec.ofChange loadJoinsWrong)

/-- 'pagewatchlaw17.LoadSwaps': WHATEVER THE INPUT: true; the input reads as it did. -/
def loadSwapsSpec : ChangeSpec := { name := "loadSwaps", fn := fun _ => fun
  | [d] => { results := [.lit (.bool true)], args := [d] }
  | _ => none }
def loadSwapsRow : OpenClaim := { program := "ytpbnnhakjhalaaagreat", sum := "04371292c3803556cceb781e6745e17fb6aa633b6388ec2f46c8d4f671310cea", func := "pagewatch/pagewatchlaw17.LoadSwaps", spec := "loadSwaps", unfollowed := true, recurses := true, apart := false }
def LoadSwapsSaid : Prop := loadSwapsRow.holds Tryz.pinned (OpenSpec.ofChange loadSwapsSpec)

/-- ITS FALSE NEIGHBOUR: 'it returns false'. Refute it at one input. -/
def loadSwapsWrong : ChangeSpec := { name := "loadSwaps", fn := fun _ => fun
  | [d] => { results := [.lit (.bool false)], args := [d] }
  | _ => none }
def LoadSwapsWrongFalsely : Prop := loadSwapsRow.holds Tryz.pinned (OpenSpec.ofChange loadSwapsWrong)

/-- 'pagewatchlaw19.ProposeHarmless': WHATEVER THE INPUT: true; the input reads as it did. -/
def proposeHarmlessSpec : ChangeSpec := { name := "proposeHarmless", fn := fun _ => fun
  | [d] => { results := [.lit (.bool true)], args := [d] }
  | _ => none }
def proposeHarmlessRow : OpenClaim := { program := "ytpbnnhakjhalaaagreat", sum := "04371292c3803556cceb781e6745e17fb6aa633b6388ec2f46c8d4f671310cea", func := "pagewatch/pagewatchlaw19.ProposeHarmless", spec := "proposeHarmless", unfollowed := true, recurses := true, apart := false }
def ProposeHarmlessSaid : Prop := proposeHarmlessRow.holds Tryz.pinned (OpenSpec.ofChange proposeHarmlessSpec)

/-- ITS FALSE NEIGHBOUR: 'it returns false'. Refute it at one input. -/
def proposeHarmlessWrong : ChangeSpec := { name := "proposeHarmless", fn := fun _ => fun
  | [d] => { results := [.lit (.bool false)], args := [d] }
  | _ => none }
def ProposeHarmlessWrongFalsely : Prop := proposeHarmlessRow.holds Tryz.pinned (OpenSpec.ofChange proposeHarmlessWrong)

/-- 'pagewatchlaw19.ProposeOrder': WHATEVER THE INPUT: true; the input reads as it did. -/
def proposeOrderSpec : ChangeSpec := { name := "proposeOrder", fn := fun _ => fun
  | [d] => { results := [.lit (.bool true)], args := [d] }
  | _ => none }
def proposeOrderRow : OpenClaim := { program := "ytpbnnhakjhalaaagreat", sum := "04371292c3803556cceb781e6745e17fb6aa633b6388ec2f46c8d4f671310cea", func := "pagewatch/pagewatchlaw19.ProposeOrder", spec := "proposeOrder", unfollowed := true, recurses := true, apart := false }
def ProposeOrderSaid : Prop := proposeOrderRow.holds Tryz.pinned (OpenSpec.ofChange proposeOrderSpec)

/-- ITS FALSE NEIGHBOUR: 'it returns false'. Refute it at one input. -/
def proposeOrderWrong : ChangeSpec := { name := "proposeOrder", fn := fun _ => fun
  | [d] => { results := [.lit (.bool false)], args := [d] }
  | _ => none }
def ProposeOrderWrongFalsely : Prop := proposeOrderRow.holds Tryz.pinned (OpenSpec.ofChange proposeOrderWrong)

/-- 'pagewatchlaw19.ProposeFills': WHATEVER THE INPUT: true; the input reads as it did. -/
def proposeFillsSpec : ChangeSpec := { name := "proposeFills", fn := fun _ => fun
  | [d1, d2] => { results := [.lit (.bool true)], args := [d1, d2] }
  | _ => none }
def proposeFillsRow : OpenClaim := { program := "ytpbnnhakjhalaaagreat", sum := "04371292c3803556cceb781e6745e17fb6aa633b6388ec2f46c8d4f671310cea", func := "pagewatch/pagewatchlaw19.ProposeFills", spec := "proposeFills", unfollowed := true, recurses := true, apart := false }
def ProposeFillsSaid : Prop := proposeFillsRow.holds Tryz.pinned (OpenSpec.ofChange proposeFillsSpec)

/-- ITS FALSE NEIGHBOUR: 'it returns false'. Refute it at one input. -/
def proposeFillsWrong : ChangeSpec := { name := "proposeFills", fn := fun _ => fun
  | [d1, d2] => { results := [.lit (.bool false)], args := [d1, d2] }
  | _ => none }
def ProposeFillsWrongFalsely : Prop := proposeFillsRow.holds Tryz.pinned (OpenSpec.ofChange proposeFillsWrong)

/- THE SECOND FORM. 'bulk': how many values and letters a reading holds, each counted each time it is reached (what is shared counts as often as it is met; a slice's spare places count too). A statement '..UptoSaid' is the law's where the arguments, and the package variables that the reading takes, are together of bulk at most 1048576: NARROWER than '..Said'. Prove '..Said' where nothing that the law and all that it calls make is longer than what came in: it says more and counts as full. Else prove '..UptoSaid'. A law counts once. -/
mutual
def uptoBulk {H : Type} : DataW H → Nat
  | .lit (.string bytes) => bytes.length + 1
  | .lit _ => 1
  | .nil => 1
  | .ptr d => uptoBulk d + 1
  | .slice elems spare => uptoBulkAll elems + uptoBulkAll spare + 1
  | .agg parts => uptoBulkAll parts + 1
  | .iface _ d => uptoBulk d + 1
  | .map entries => uptoBulkEntries entries + 1
  | .held _ => 1
def uptoBulkAll {H : Type} : List (DataW H) → Nat
  | [] => 0
  | d :: r => uptoBulk d + uptoBulkAll r
def uptoBulkEntries {H : Type} : List (Lit × DataW H) → Nat
  | [] => 0
  | x :: r => uptoBulkEntry x + uptoBulkEntries r
def uptoBulkEntry {H : Type} : Lit × DataW H → Nat
  | (.string bytes, d) => bytes.length + uptoBulk d + 1
  | (_, d) => uptoBulk d + 1
 end
def uptoSmall : (H : Type) → List (DataW H) → Bool := fun _ ds => decide (uptoBulkAll ds ≤ 1048576)
def OpenSpec.upto (s : _root_.Go.ChangeSpec) : _root_.Go.OpenSpec := { _root_.Go.OpenSpec.ofChange s with cond := some uptoSmall }

/-- 'pagewatchlaw13.EditCancels', WHERE WHAT IT READS IS OF BULK AT MOST 1048576: true; the input reads as it did. -/
def editCancelsUptoRow : OpenClaim := { program := "ytpbnnhakjhalaaagreat", sum := "04371292c3803556cceb781e6745e17fb6aa633b6388ec2f46c8d4f671310cea", func := "pagewatch/pagewatchlaw13.EditCancels", spec := "editCancels", unfollowed := true, recurses := true, apart := false, narrowed := true }
def EditCancelsUptoSaid : Prop := editCancelsUptoRow.holds Tryz.pinned (OpenSpec.upto editCancelsSpec)

/-- 'pagewatchlaw13.EditLocal', WHERE WHAT IT READS IS OF BULK AT MOST 1048576: true; the input reads as it did. -/
def editLocalUptoRow : OpenClaim := { program := "ytpbnnhakjhalaaagreat", sum := "04371292c3803556cceb781e6745e17fb6aa633b6388ec2f46c8d4f671310cea", func := "pagewatch/pagewatchlaw13.EditLocal", spec := "editLocal", unfollowed := true, recurses := true, apart := false, narrowed := true }
def EditLocalUptoSaid : Prop := editLocalUptoRow.holds Tryz.pinned (OpenSpec.upto editLocalSpec)

/-- 'pagewatchlaw13.EditSwaps', WHERE WHAT IT READS IS OF BULK AT MOST 1048576: true; the input reads as it did. -/
def editSwapsUptoRow : OpenClaim := { program := "ytpbnnhakjhalaaagreat", sum := "04371292c3803556cceb781e6745e17fb6aa633b6388ec2f46c8d4f671310cea", func := "pagewatch/pagewatchlaw13.EditSwaps", spec := "editSwaps", unfollowed := true, recurses := true, apart := false, narrowed := true }
def EditSwapsUptoSaid : Prop := editSwapsUptoRow.holds Tryz.pinned (OpenSpec.upto editSwapsSpec)

/-- 'pagewatchlaw13.EditOrder', WHERE WHAT IT READS IS OF BULK AT MOST 1048576: true; the input reads as it did. -/
def editOrderUptoRow : OpenClaim := { program := "ytpbnnhakjhalaaagreat", sum := "04371292c3803556cceb781e6745e17fb6aa633b6388ec2f46c8d4f671310cea", func := "pagewatch/pagewatchlaw13.EditOrder", spec := "editOrder", unfollowed := true, recurses := true, apart := false, narrowed := true }
def EditOrderUptoSaid : Prop := editOrderUptoRow.holds Tryz.pinned (OpenSpec.upto editOrderSpec)

/-- 'pagewatchlaw12.StackLeaves', WHERE WHAT IT READS IS OF BULK AT MOST 1048576: true; the input reads as it did. -/
def stackLeavesUptoRow : OpenClaim := { program := "ytpbnnhakjhalaaagreat", sum := "04371292c3803556cceb781e6745e17fb6aa633b6388ec2f46c8d4f671310cea", func := "pagewatch/pagewatchlaw12.StackLeaves", spec := "stackLeaves", unfollowed := true, recurses := true, apart := false, narrowed := true }
def StackLeavesUptoSaid : Prop := stackLeavesUptoRow.holds Tryz.pinned (OpenSpec.upto stackLeavesSpec)

/-- 'pagewatchlaw18.LimitsRest', WHERE WHAT IT READS IS OF BULK AT MOST 1048576: true; the input reads as it did. -/
def limitsRestUptoRow : OpenClaim := { program := "ytpbnnhakjhalaaagreat", sum := "04371292c3803556cceb781e6745e17fb6aa633b6388ec2f46c8d4f671310cea", func := "pagewatch/pagewatchlaw18.LimitsRest", spec := "limitsRest", unfollowed := true, recurses := true, apart := false, narrowed := true }
def LimitsRestUptoSaid : Prop := limitsRestUptoRow.holds Tryz.pinned (OpenSpec.upto limitsRestSpec)

/-- 'pagewatchlaw17.LoadSums', WHERE WHAT IT READS IS OF BULK AT MOST 1048576: true; the input reads as it did. -/
def loadSumsUptoRow : OpenClaim := { program := "ytpbnnhakjhalaaagreat", sum := "04371292c3803556cceb781e6745e17fb6aa633b6388ec2f46c8d4f671310cea", func := "pagewatch/pagewatchlaw17.LoadSums", spec := "loadSums", unfollowed := true, recurses := true, apart := false, narrowed := true }
def LoadSumsUptoSaid : Prop := loadSumsUptoRow.holds Tryz.pinned (OpenSpec.upto loadSumsSpec)

/-- 'pagewatchlaw17.LoadJoins', WHERE WHAT IT READS IS OF BULK AT MOST 1048576: true; the input reads as it did. -/
def loadJoinsUptoRow : OpenClaim := { program := "ytpbnnhakjhalaaagreat", sum := "04371292c3803556cceb781e6745e17fb6aa633b6388ec2f46c8d4f671310cea", func := "pagewatch/pagewatchlaw17.LoadJoins", spec := "loadJoins", unfollowed := true, recurses := true, apart := false, narrowed := true }
def LoadJoinsUptoSaid : Prop := loadJoinsUptoRow.holds Tryz.pinned (OpenSpec.upto loadJoinsSpec)

/-- 'pagewatchlaw17.LoadSwaps', WHERE WHAT IT READS IS OF BULK AT MOST 1048576: true; the input reads as it did. -/
def loadSwapsUptoRow : OpenClaim := { program := "ytpbnnhakjhalaaagreat", sum := "04371292c3803556cceb781e6745e17fb6aa633b6388ec2f46c8d4f671310cea", func := "pagewatch/pagewatchlaw17.LoadSwaps", spec := "loadSwaps", unfollowed := true, recurses := true, apart := false, narrowed := true }
def LoadSwapsUptoSaid : Prop := loadSwapsUptoRow.holds Tryz.pinned (OpenSpec.upto loadSwapsSpec)

/-- 'pagewatchlaw19.ProposeHarmless', WHERE WHAT IT READS IS OF BULK AT MOST 1048576: true; the input reads as it did. -/
def proposeHarmlessUptoRow : OpenClaim := { program := "ytpbnnhakjhalaaagreat", sum := "04371292c3803556cceb781e6745e17fb6aa633b6388ec2f46c8d4f671310cea", func := "pagewatch/pagewatchlaw19.ProposeHarmless", spec := "proposeHarmless", unfollowed := true, recurses := true, apart := false, narrowed := true }
def ProposeHarmlessUptoSaid : Prop := proposeHarmlessUptoRow.holds Tryz.pinned (OpenSpec.upto proposeHarmlessSpec)

/-- 'pagewatchlaw19.ProposeOrder', WHERE WHAT IT READS IS OF BULK AT MOST 1048576: true; the input reads as it did. -/
def proposeOrderUptoRow : OpenClaim := { program := "ytpbnnhakjhalaaagreat", sum := "04371292c3803556cceb781e6745e17fb6aa633b6388ec2f46c8d4f671310cea", func := "pagewatch/pagewatchlaw19.ProposeOrder", spec := "proposeOrder", unfollowed := true, recurses := true, apart := false, narrowed := true }
def ProposeOrderUptoSaid : Prop := proposeOrderUptoRow.holds Tryz.pinned (OpenSpec.upto proposeOrderSpec)

/-- 'pagewatchlaw19.ProposeFills', WHERE WHAT IT READS IS OF BULK AT MOST 1048576: true; the input reads as it did. -/
def proposeFillsUptoRow : OpenClaim := { program := "ytpbnnhakjhalaaagreat", sum := "04371292c3803556cceb781e6745e17fb6aa633b6388ec2f46c8d4f671310cea", func := "pagewatch/pagewatchlaw19.ProposeFills", spec := "proposeFills", unfollowed := true, recurses := true, apart := false, narrowed := true }
def ProposeFillsUptoSaid : Prop := proposeFillsUptoRow.holds Tryz.pinned (OpenSpec.upto proposeFillsSpec)

end Rows
end Go.Proofs.YtpbnnhakjhalaaaGreat
