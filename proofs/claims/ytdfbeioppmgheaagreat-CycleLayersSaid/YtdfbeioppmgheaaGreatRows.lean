/-
  No cell of these rows narrows 'for every input' (looked for: loops, veiled, ifaces, maps, wideKeys, modest, calm, conditions, laid).
  DERIVED. THE GIVEN ROWS OF THIS SEAT. 14 by the template 'for every input the law returns true; each argument reads behind the call as it read before'; 0 by the template 'total and deterministic' (their statements: YtdfbeioppmgheaaGreatTotals.lean).
  GIVEN WITH THE SEED: the statements are not yours to turn. If you find one false, say at which input.
  Laid BY PROGRAM, IN A SANDBOX (cutbox-rows.mjs): the forced cells as the released guide's own fill.sh prints them over the translation 866a9a370faab36c… (all of the seat's roots in one cut). By AI agents, Wed Nov 11 2026. No macro, syntax, notation, axiom, sorry.
-/
import Derived.Test.YtdfbeioppmgheaaGreatChecked
import GoSem.Claim
import GoSem.ClaimJoined
import GoSem.ClaimMapViews
import Derived.JoinedTies
import Derived.KernelRfl
namespace Go.Proofs.YtdfbeioppmgheaaGreat
/- THE CELL 'sum', in the pinned program and in every row, IS THE sha256 OF THE DUMP (.gsa) THAT YtdfbeioppmgheaaGreatProg.lean LOADS. Nothing in Lean hashes anything: it is a label: what it is worth is what the hold of that sum in a sandbox is worth. -/
noncomputable def Tryz.pinned : Pinned := { name := "ytdfbeioppmgheaagreat", sum := "866a9a370faab36c10ded67593fa49f03bae2081b050f82ec5c80a1d9c8c3fe5", checked := Tryz.checked }
namespace Rows
def none {H : Type} : Left H := { results := [], args := [] }

/-- 'pagewatchlaw11.DutyPieces': WHATEVER THE INPUT: true; the input reads as it did. -/
def dutyPiecesSpec : ChangeSpec := { name := "dutyPieces", fn := fun _ => fun
  | [d1, d2] => { results := [.lit (.bool true)], args := [d1, d2] }
  | _ => none }
def dutyPiecesRow : OpenClaim := { program := "ytdfbeioppmgheaagreat", sum := "866a9a370faab36c10ded67593fa49f03bae2081b050f82ec5c80a1d9c8c3fe5", func := "pagewatch/pagewatchlaw11.DutyPieces", spec := "dutyPieces", unfollowed := true, recurses := true, apart := false }
def DutyPiecesSaid : Prop := dutyPiecesRow.holds Tryz.pinned (OpenSpec.ofChange dutyPiecesSpec)

/-- ITS FALSE NEIGHBOUR: 'it returns false'. Refute it at one input. -/
def dutyPiecesWrong : ChangeSpec := { name := "dutyPieces", fn := fun _ => fun
  | [d1, d2] => { results := [.lit (.bool false)], args := [d1, d2] }
  | _ => none }
def DutyPiecesWrongFalsely : Prop := dutyPiecesRow.holds Tryz.pinned (OpenSpec.ofChange dutyPiecesWrong)

/-- 'pagewatchlaw11.DutyJoins': WHATEVER THE INPUT: true; the input reads as it did. -/
def dutyJoinsSpec : ChangeSpec := { name := "dutyJoins", fn := fun _ => fun
  | [d1, d2, d3] => { results := [.lit (.bool true)], args := [d1, d2, d3] }
  | _ => none }
def dutyJoinsRow : OpenClaim := { program := "ytdfbeioppmgheaagreat", sum := "866a9a370faab36c10ded67593fa49f03bae2081b050f82ec5c80a1d9c8c3fe5", func := "pagewatch/pagewatchlaw11.DutyJoins", spec := "dutyJoins", unfollowed := true, recurses := true, apart := false }
def DutyJoinsSaid : Prop := dutyJoinsRow.holds Tryz.pinned (OpenSpec.ofChange dutyJoinsSpec)

/-- ITS FALSE NEIGHBOUR: 'it returns false'. Refute it at one input. -/
def dutyJoinsWrong : ChangeSpec := { name := "dutyJoins", fn := fun _ => fun
  | [d1, d2, d3] => { results := [.lit (.bool false)], args := [d1, d2, d3] }
  | _ => none }
def DutyJoinsWrongFalsely : Prop := dutyJoinsRow.holds Tryz.pinned (OpenSpec.ofChange dutyJoinsWrong)

/-- 'pagewatchlaw12.StackTop': WHATEVER THE INPUT: true; the input reads as it did. -/
def stackTopSpec : ChangeSpec := { name := "stackTop", fn := fun _ => fun
  | [d] => { results := [.lit (.bool true)], args := [d] }
  | _ => none }
def stackTopRow : OpenClaim := { program := "ytdfbeioppmgheaagreat", sum := "866a9a370faab36c10ded67593fa49f03bae2081b050f82ec5c80a1d9c8c3fe5", func := "pagewatch/pagewatchlaw12.StackTop", spec := "stackTop", unfollowed := true, recurses := true, apart := false }
def StackTopSaid : Prop := stackTopRow.holds Tryz.pinned (OpenSpec.ofChange stackTopSpec)

/-- ITS FALSE NEIGHBOUR: 'it returns false'. Refute it at one input. -/
def stackTopWrong : ChangeSpec := { name := "stackTop", fn := fun _ => fun
  | [d] => { results := [.lit (.bool false)], args := [d] }
  | _ => none }
def StackTopWrongFalsely : Prop := stackTopRow.holds Tryz.pinned (OpenSpec.ofChange stackTopWrong)

/-- 'pagewatchlaw12.StackHides': WHATEVER THE INPUT: true; the input reads as it did. -/
def stackHidesSpec : ChangeSpec := { name := "stackHides", fn := fun _ => fun
  | [d] => { results := [.lit (.bool true)], args := [d] }
  | _ => none }
def stackHidesRow : OpenClaim := { program := "ytdfbeioppmgheaagreat", sum := "866a9a370faab36c10ded67593fa49f03bae2081b050f82ec5c80a1d9c8c3fe5", func := "pagewatch/pagewatchlaw12.StackHides", spec := "stackHides", unfollowed := true, recurses := true, apart := false }
def StackHidesSaid : Prop := stackHidesRow.holds Tryz.pinned (OpenSpec.ofChange stackHidesSpec)

/-- ITS FALSE NEIGHBOUR: 'it returns false'. Refute it at one input. -/
def stackHidesWrong : ChangeSpec := { name := "stackHides", fn := fun _ => fun
  | [d] => { results := [.lit (.bool false)], args := [d] }
  | _ => none }
def StackHidesWrongFalsely : Prop := stackHidesRow.holds Tryz.pinned (OpenSpec.ofChange stackHidesWrong)

/-- 'pagewatchlaw12.StackLeaves': WHATEVER THE INPUT: true; the input reads as it did. -/
def stackLeavesSpec : ChangeSpec := { name := "stackLeaves", fn := fun _ => fun
  | [d] => { results := [.lit (.bool true)], args := [d] }
  | _ => none }
def stackLeavesRow : OpenClaim := { program := "ytdfbeioppmgheaagreat", sum := "866a9a370faab36c10ded67593fa49f03bae2081b050f82ec5c80a1d9c8c3fe5", func := "pagewatch/pagewatchlaw12.StackLeaves", spec := "stackLeaves", unfollowed := true, recurses := true, apart := false }
def StackLeavesSaid : Prop := stackLeavesRow.holds Tryz.pinned (OpenSpec.ofChange stackLeavesSpec)

/-- ITS FALSE NEIGHBOUR: 'it returns false'. Refute it at one input. -/
def stackLeavesWrong : ChangeSpec := { name := "stackLeaves", fn := fun _ => fun
  | [d] => { results := [.lit (.bool false)], args := [d] }
  | _ => none }
def StackLeavesWrongFalsely : Prop := stackLeavesRow.holds Tryz.pinned (OpenSpec.ofChange stackLeavesWrong)

/-- 'pagewatchlaw12.StackPieces': WHATEVER THE INPUT: true; the input reads as it did. -/
def stackPiecesSpec : ChangeSpec := { name := "stackPieces", fn := fun _ => fun
  | [d1, d2] => { results := [.lit (.bool true)], args := [d1, d2] }
  | _ => none }
def stackPiecesRow : OpenClaim := { program := "ytdfbeioppmgheaagreat", sum := "866a9a370faab36c10ded67593fa49f03bae2081b050f82ec5c80a1d9c8c3fe5", func := "pagewatch/pagewatchlaw12.StackPieces", spec := "stackPieces", unfollowed := true, recurses := true, apart := false }
def StackPiecesSaid : Prop := stackPiecesRow.holds Tryz.pinned (OpenSpec.ofChange stackPiecesSpec)

/-- ITS FALSE NEIGHBOUR: 'it returns false'. Refute it at one input. -/
def stackPiecesWrong : ChangeSpec := { name := "stackPieces", fn := fun _ => fun
  | [d1, d2] => { results := [.lit (.bool false)], args := [d1, d2] }
  | _ => none }
def StackPiecesWrongFalsely : Prop := stackPiecesRow.holds Tryz.pinned (OpenSpec.ofChange stackPiecesWrong)

/-- 'pagewatchlaw13.EditCancels': WHATEVER THE INPUT: true; the input reads as it did. -/
def editCancelsSpec : ChangeSpec := { name := "editCancels", fn := fun _ => fun
  | [d1, d2] => { results := [.lit (.bool true)], args := [d1, d2] }
  | _ => none }
def editCancelsRow : OpenClaim := { program := "ytdfbeioppmgheaagreat", sum := "866a9a370faab36c10ded67593fa49f03bae2081b050f82ec5c80a1d9c8c3fe5", func := "pagewatch/pagewatchlaw13.EditCancels", spec := "editCancels", unfollowed := true, recurses := true, apart := false }
def EditCancelsSaid : Prop := editCancelsRow.holds Tryz.pinned (OpenSpec.ofChange editCancelsSpec)

/-- ITS FALSE NEIGHBOUR: 'it returns false'. Refute it at one input. -/
def editCancelsWrong : ChangeSpec := { name := "editCancels", fn := fun _ => fun
  | [d1, d2] => { results := [.lit (.bool false)], args := [d1, d2] }
  | _ => none }
def EditCancelsWrongFalsely : Prop := editCancelsRow.holds Tryz.pinned (OpenSpec.ofChange editCancelsWrong)

/-- 'pagewatchlaw13.EditLocal': WHATEVER THE INPUT: true; the input reads as it did. -/
def editLocalSpec : ChangeSpec := { name := "editLocal", fn := fun _ => fun
  | [d] => { results := [.lit (.bool true)], args := [d] }
  | _ => none }
def editLocalRow : OpenClaim := { program := "ytdfbeioppmgheaagreat", sum := "866a9a370faab36c10ded67593fa49f03bae2081b050f82ec5c80a1d9c8c3fe5", func := "pagewatch/pagewatchlaw13.EditLocal", spec := "editLocal", unfollowed := true, recurses := true, apart := false }
def EditLocalSaid : Prop := editLocalRow.holds Tryz.pinned (OpenSpec.ofChange editLocalSpec)

/-- ITS FALSE NEIGHBOUR: 'it returns false'. Refute it at one input. -/
def editLocalWrong : ChangeSpec := { name := "editLocal", fn := fun _ => fun
  | [d] => { results := [.lit (.bool false)], args := [d] }
  | _ => none }
def EditLocalWrongFalsely : Prop := editLocalRow.holds Tryz.pinned (OpenSpec.ofChange editLocalWrong)

/-- 'pagewatchlaw13.EditSwaps': WHATEVER THE INPUT: true; the input reads as it did. -/
def editSwapsSpec : ChangeSpec := { name := "editSwaps", fn := fun _ => fun
  | [d] => { results := [.lit (.bool true)], args := [d] }
  | _ => none }
def editSwapsRow : OpenClaim := { program := "ytdfbeioppmgheaagreat", sum := "866a9a370faab36c10ded67593fa49f03bae2081b050f82ec5c80a1d9c8c3fe5", func := "pagewatch/pagewatchlaw13.EditSwaps", spec := "editSwaps", unfollowed := true, recurses := true, apart := false }
def EditSwapsSaid : Prop := editSwapsRow.holds Tryz.pinned (OpenSpec.ofChange editSwapsSpec)

/-- ITS FALSE NEIGHBOUR: 'it returns false'. Refute it at one input. -/
def editSwapsWrong : ChangeSpec := { name := "editSwaps", fn := fun _ => fun
  | [d] => { results := [.lit (.bool false)], args := [d] }
  | _ => none }
def EditSwapsWrongFalsely : Prop := editSwapsRow.holds Tryz.pinned (OpenSpec.ofChange editSwapsWrong)

/-- 'pagewatchlaw13.EditOrder': WHATEVER THE INPUT: true; the input reads as it did. -/
def editOrderSpec : ChangeSpec := { name := "editOrder", fn := fun _ => fun
  | [d] => { results := [.lit (.bool true)], args := [d] }
  | _ => none }
def editOrderRow : OpenClaim := { program := "ytdfbeioppmgheaagreat", sum := "866a9a370faab36c10ded67593fa49f03bae2081b050f82ec5c80a1d9c8c3fe5", func := "pagewatch/pagewatchlaw13.EditOrder", spec := "editOrder", unfollowed := true, recurses := true, apart := false }
def EditOrderSaid : Prop := editOrderRow.holds Tryz.pinned (OpenSpec.ofChange editOrderSpec)

/-- ITS FALSE NEIGHBOUR: 'it returns false'. Refute it at one input. -/
def editOrderWrong : ChangeSpec := { name := "editOrder", fn := fun _ => fun
  | [d] => { results := [.lit (.bool false)], args := [d] }
  | _ => none }
def EditOrderWrongFalsely : Prop := editOrderRow.holds Tryz.pinned (OpenSpec.ofChange editOrderWrong)

/-- 'pagewatchlaw16.CycleLayers': WHATEVER THE INPUT: true; the input reads as it did. -/
def cycleLayersSpec : ChangeSpec := { name := "cycleLayers", fn := fun _ => fun
  | [d] => { results := [.lit (.bool true)], args := [d] }
  | _ => none }
def cycleLayersRow : OpenClaim := { program := "ytdfbeioppmgheaagreat", sum := "866a9a370faab36c10ded67593fa49f03bae2081b050f82ec5c80a1d9c8c3fe5", func := "pagewatch/pagewatchlaw16.CycleLayers", spec := "cycleLayers", unfollowed := true, recurses := true, apart := false }
def CycleLayersSaid : Prop := cycleLayersRow.holds Tryz.pinned (OpenSpec.ofChange cycleLayersSpec)

/-- ITS FALSE NEIGHBOUR: 'it returns false'. Refute it at one input. -/
def cycleLayersWrong : ChangeSpec := { name := "cycleLayers", fn := fun _ => fun
  | [d] => { results := [.lit (.bool false)], args := [d] }
  | _ => none }
def CycleLayersWrongFalsely : Prop := cycleLayersRow.holds Tryz.pinned (OpenSpec.ofChange cycleLayersWrong)

/-- 'pagewatchlaw16.CycleRepeats': WHATEVER THE INPUT: true; the input reads as it did. -/
def cycleRepeatsSpec : ChangeSpec := { name := "cycleRepeats", fn := fun _ => fun
  | [d1, d2, d3] => { results := [.lit (.bool true)], args := [d1, d2, d3] }
  | _ => none }
def cycleRepeatsRow : OpenClaim := { program := "ytdfbeioppmgheaagreat", sum := "866a9a370faab36c10ded67593fa49f03bae2081b050f82ec5c80a1d9c8c3fe5", func := "pagewatch/pagewatchlaw16.CycleRepeats", spec := "cycleRepeats", unfollowed := true, recurses := true, apart := false }
def CycleRepeatsSaid : Prop := cycleRepeatsRow.holds Tryz.pinned (OpenSpec.ofChange cycleRepeatsSpec)

/-- ITS FALSE NEIGHBOUR: 'it returns false'. Refute it at one input. -/
def cycleRepeatsWrong : ChangeSpec := { name := "cycleRepeats", fn := fun _ => fun
  | [d1, d2, d3] => { results := [.lit (.bool false)], args := [d1, d2, d3] }
  | _ => none }
def CycleRepeatsWrongFalsely : Prop := cycleRepeatsRow.holds Tryz.pinned (OpenSpec.ofChange cycleRepeatsWrong)

/-- 'pagewatchlaw16.CycleFar': WHATEVER THE INPUT: true; the input reads as it did. -/
def cycleFarSpec : ChangeSpec := { name := "cycleFar", fn := fun _ => fun
  | [d1, d2] => { results := [.lit (.bool true)], args := [d1, d2] }
  | _ => none }
def cycleFarRow : OpenClaim := { program := "ytdfbeioppmgheaagreat", sum := "866a9a370faab36c10ded67593fa49f03bae2081b050f82ec5c80a1d9c8c3fe5", func := "pagewatch/pagewatchlaw16.CycleFar", spec := "cycleFar", unfollowed := true, recurses := true, apart := false }
def CycleFarSaid : Prop := cycleFarRow.holds Tryz.pinned (OpenSpec.ofChange cycleFarSpec)

/-- ITS FALSE NEIGHBOUR: 'it returns false'. Refute it at one input. -/
def cycleFarWrong : ChangeSpec := { name := "cycleFar", fn := fun _ => fun
  | [d1, d2] => { results := [.lit (.bool false)], args := [d1, d2] }
  | _ => none }
def CycleFarWrongFalsely : Prop := cycleFarRow.holds Tryz.pinned (OpenSpec.ofChange cycleFarWrong)

/-- 'pagewatchlaw18.LimitsReach': WHATEVER THE INPUT: true; the input reads as it did. -/
def limitsReachSpec : ChangeSpec := { name := "limitsReach", fn := fun _ => fun
  | [d1, d2] => { results := [.lit (.bool true)], args := [d1, d2] }
  | _ => none }
def limitsReachRow : OpenClaim := { program := "ytdfbeioppmgheaagreat", sum := "866a9a370faab36c10ded67593fa49f03bae2081b050f82ec5c80a1d9c8c3fe5", func := "pagewatch/pagewatchlaw18.LimitsReach", spec := "limitsReach", unfollowed := true, recurses := true, apart := false }
def LimitsReachSaid : Prop := limitsReachRow.holds Tryz.pinned (OpenSpec.ofChange limitsReachSpec)

/-- ITS FALSE NEIGHBOUR: 'it returns false'. Refute it at one input. -/
def limitsReachWrong : ChangeSpec := { name := "limitsReach", fn := fun _ => fun
  | [d1, d2] => { results := [.lit (.bool false)], args := [d1, d2] }
  | _ => none }
def LimitsReachWrongFalsely : Prop := limitsReachRow.holds Tryz.pinned (OpenSpec.ofChange limitsReachWrong)

/- THE SECOND FORM. 'bulk': how many values and letters a reading holds, each counted each time it is reached (what is shared counts as often as it is met; a slice's spare places count too). A statement '..UptoSaid' is the law's where the arguments, and the package variables that the reading takes, are together of bulk at most 1048576: NARROWER than '..Said'. Prove '..Said' where nothing that the law and all that it calls make is longer than what came in: it says more and counts as full. Else prove '..UptoSaid'. A law counts once. -/
mutual
def uptoBulk {H : Type} : DataW H → Nat
  | .lit (.string bytes) => bytes.length + 1
  | .lit _ => 1
  | .nil => 1
  | .ptr d => uptoBulk d + 1
  | .slice elems spare => uptoBulkAll elems + uptoBulkAll spare + 1
  | .agg parts => uptoBulkAll parts + 1
  | .iface _ d => uptoBulk d + 1
  | .map entries => uptoBulkEntries entries + 1
  | .held _ => 1
def uptoBulkAll {H : Type} : List (DataW H) → Nat
  | [] => 0
  | d :: r => uptoBulk d + uptoBulkAll r
def uptoBulkEntries {H : Type} : List (Lit × DataW H) → Nat
  | [] => 0
  | x :: r => uptoBulkEntry x + uptoBulkEntries r
def uptoBulkEntry {H : Type} : Lit × DataW H → Nat
  | (.string bytes, d) => bytes.length + uptoBulk d + 1
  | (_, d) => uptoBulk d + 1
 end
def uptoSmall : (H : Type) → List (DataW H) → Bool := fun _ ds => decide (uptoBulkAll ds ≤ 1048576)
def OpenSpec.upto (s : _root_.Go.ChangeSpec) : _root_.Go.OpenSpec := { _root_.Go.OpenSpec.ofChange s with cond := some uptoSmall }

/-- 'pagewatchlaw11.DutyPieces', WHERE WHAT IT READS IS OF BULK AT MOST 1048576: true; the input reads as it did. -/
def dutyPiecesUptoRow : OpenClaim := { program := "ytdfbeioppmgheaagreat", sum := "866a9a370faab36c10ded67593fa49f03bae2081b050f82ec5c80a1d9c8c3fe5", func := "pagewatch/pagewatchlaw11.DutyPieces", spec := "dutyPieces", unfollowed := true, recurses := true, apart := false, narrowed := true }
def DutyPiecesUptoSaid : Prop := dutyPiecesUptoRow.holds Tryz.pinned (OpenSpec.upto dutyPiecesSpec)

/-- 'pagewatchlaw11.DutyJoins', WHERE WHAT IT READS IS OF BULK AT MOST 1048576: true; the input reads as it did. -/
def dutyJoinsUptoRow : OpenClaim := { program := "ytdfbeioppmgheaagreat", sum := "866a9a370faab36c10ded67593fa49f03bae2081b050f82ec5c80a1d9c8c3fe5", func := "pagewatch/pagewatchlaw11.DutyJoins", spec := "dutyJoins", unfollowed := true, recurses := true, apart := false, narrowed := true }
def DutyJoinsUptoSaid : Prop := dutyJoinsUptoRow.holds Tryz.pinned (OpenSpec.upto dutyJoinsSpec)

/-- 'pagewatchlaw12.StackTop', WHERE WHAT IT READS IS OF BULK AT MOST 1048576: true; the input reads as it did. -/
def stackTopUptoRow : OpenClaim := { program := "ytdfbeioppmgheaagreat", sum := "866a9a370faab36c10ded67593fa49f03bae2081b050f82ec5c80a1d9c8c3fe5", func := "pagewatch/pagewatchlaw12.StackTop", spec := "stackTop", unfollowed := true, recurses := true, apart := false, narrowed := true }
def StackTopUptoSaid : Prop := stackTopUptoRow.holds Tryz.pinned (OpenSpec.upto stackTopSpec)

/-- 'pagewatchlaw12.StackHides', WHERE WHAT IT READS IS OF BULK AT MOST 1048576: true; the input reads as it did. -/
def stackHidesUptoRow : OpenClaim := { program := "ytdfbeioppmgheaagreat", sum := "866a9a370faab36c10ded67593fa49f03bae2081b050f82ec5c80a1d9c8c3fe5", func := "pagewatch/pagewatchlaw12.StackHides", spec := "stackHides", unfollowed := true, recurses := true, apart := false, narrowed := true }
def StackHidesUptoSaid : Prop := stackHidesUptoRow.holds Tryz.pinned (OpenSpec.upto stackHidesSpec)

/-- 'pagewatchlaw12.StackLeaves', WHERE WHAT IT READS IS OF BULK AT MOST 1048576: true; the input reads as it did. -/
def stackLeavesUptoRow : OpenClaim := { program := "ytdfbeioppmgheaagreat", sum := "866a9a370faab36c10ded67593fa49f03bae2081b050f82ec5c80a1d9c8c3fe5", func := "pagewatch/pagewatchlaw12.StackLeaves", spec := "stackLeaves", unfollowed := true, recurses := true, apart := false, narrowed := true }
def StackLeavesUptoSaid : Prop := stackLeavesUptoRow.holds Tryz.pinned (OpenSpec.upto stackLeavesSpec)

/-- 'pagewatchlaw12.StackPieces', WHERE WHAT IT READS IS OF BULK AT MOST 1048576: true; the input reads as it did. -/
def stackPiecesUptoRow : OpenClaim := { program := "ytdfbeioppmgheaagreat", sum := "866a9a370faab36c10ded67593fa49f03bae2081b050f82ec5c80a1d9c8c3fe5", func := "pagewatch/pagewatchlaw12.StackPieces", spec := "stackPieces", unfollowed := true, recurses := true, apart := false, narrowed := true }
def StackPiecesUptoSaid : Prop := stackPiecesUptoRow.holds Tryz.pinned (OpenSpec.upto stackPiecesSpec)

/-- 'pagewatchlaw13.EditCancels', WHERE WHAT IT READS IS OF BULK AT MOST 1048576: true; the input reads as it did. -/
def editCancelsUptoRow : OpenClaim := { program := "ytdfbeioppmgheaagreat", sum := "866a9a370faab36c10ded67593fa49f03bae2081b050f82ec5c80a1d9c8c3fe5", func := "pagewatch/pagewatchlaw13.EditCancels", spec := "editCancels", unfollowed := true, recurses := true, apart := false, narrowed := true }
def EditCancelsUptoSaid : Prop := editCancelsUptoRow.holds Tryz.pinned (OpenSpec.upto editCancelsSpec)

/-- 'pagewatchlaw13.EditLocal', WHERE WHAT IT READS IS OF BULK AT MOST 1048576: true; the input reads as it did. -/
def editLocalUptoRow : OpenClaim := { program := "ytdfbeioppmgheaagreat", sum := "866a9a370faab36c10ded67593fa49f03bae2081b050f82ec5c80a1d9c8c3fe5", func := "pagewatch/pagewatchlaw13.EditLocal", spec := "editLocal", unfollowed := true, recurses := true, apart := false, narrowed := true }
def EditLocalUptoSaid : Prop := editLocalUptoRow.holds Tryz.pinned (OpenSpec.upto editLocalSpec)

/-- 'pagewatchlaw13.EditSwaps', WHERE WHAT IT READS IS OF BULK AT MOST 1048576: true; the input reads as it did. -/
def editSwapsUptoRow : OpenClaim := { program := "ytdfbeioppmgheaagreat", sum := "866a9a370faab36c10ded67593fa49f03bae2081b050f82ec5c80a1d9c8c3fe5", func := "pagewatch/pagewatchlaw13.EditSwaps", spec := "editSwaps", unfollowed := true, recurses := true, apart := false, narrowed := true }
def EditSwapsUptoSaid : Prop := editSwapsUptoRow.holds Tryz.pinned (OpenSpec.upto editSwapsSpec)

/-- 'pagewatchlaw13.EditOrder', WHERE WHAT IT READS IS OF BULK AT MOST 1048576: true; the input reads as it did. -/
def editOrderUptoRow : OpenClaim := { program := "ytdfbeioppmgheaagreat", sum := "866a9a370faab36c10ded67593fa49f03bae2081b050f82ec5c80a1d9c8c3fe5", func := "pagewatch/pagewatchlaw13.EditOrder", spec := "editOrder", unfollowed := true, recurses := true, apart := false, narrowed := true }
def EditOrderUptoSaid : Prop := editOrderUptoRow.holds Tryz.pinned (OpenSpec.upto editOrderSpec)

/-- 'pagewatchlaw16.CycleLayers', WHERE WHAT IT READS IS OF BULK AT MOST 1048576: true; the input reads as it did. -/
def cycleLayersUptoRow : OpenClaim := { program := "ytdfbeioppmgheaagreat", sum := "866a9a370faab36c10ded67593fa49f03bae2081b050f82ec5c80a1d9c8c3fe5", func := "pagewatch/pagewatchlaw16.CycleLayers", spec := "cycleLayers", unfollowed := true, recurses := true, apart := false, narrowed := true }
def CycleLayersUptoSaid : Prop := cycleLayersUptoRow.holds Tryz.pinned (OpenSpec.upto cycleLayersSpec)

/-- 'pagewatchlaw16.CycleRepeats', WHERE WHAT IT READS IS OF BULK AT MOST 1048576: true; the input reads as it did. -/
def cycleRepeatsUptoRow : OpenClaim := { program := "ytdfbeioppmgheaagreat", sum := "866a9a370faab36c10ded67593fa49f03bae2081b050f82ec5c80a1d9c8c3fe5", func := "pagewatch/pagewatchlaw16.CycleRepeats", spec := "cycleRepeats", unfollowed := true, recurses := true, apart := false, narrowed := true }
def CycleRepeatsUptoSaid : Prop := cycleRepeatsUptoRow.holds Tryz.pinned (OpenSpec.upto cycleRepeatsSpec)

/-- 'pagewatchlaw16.CycleFar', WHERE WHAT IT READS IS OF BULK AT MOST 1048576: true; the input reads as it did. -/
def cycleFarUptoRow : OpenClaim := { program := "ytdfbeioppmgheaagreat", sum := "866a9a370faab36c10ded67593fa49f03bae2081b050f82ec5c80a1d9c8c3fe5", func := "pagewatch/pagewatchlaw16.CycleFar", spec := "cycleFar", unfollowed := true, recurses := true, apart := false, narrowed := true }
def CycleFarUptoSaid : Prop := cycleFarUptoRow.holds Tryz.pinned (OpenSpec.upto cycleFarSpec)

/-- 'pagewatchlaw18.LimitsReach', WHERE WHAT IT READS IS OF BULK AT MOST 1048576: true; the input reads as it did. -/
def limitsReachUptoRow : OpenClaim := { program := "ytdfbeioppmgheaagreat", sum := "866a9a370faab36c10ded67593fa49f03bae2081b050f82ec5c80a1d9c8c3fe5", func := "pagewatch/pagewatchlaw18.LimitsReach", spec := "limitsReach", unfollowed := true, recurses := true, apart := false, narrowed := true }
def LimitsReachUptoSaid : Prop := limitsReachUptoRow.holds Tryz.pinned (OpenSpec.upto limitsReachSpec)

end Rows
end Go.Proofs.YtdfbeioppmgheaaGreat
