/-
  No cell of these rows narrows 'for every input' (looked for: loops, veiled, ifaces, maps, wideKeys, modest, calm, conditions, laid).
  DERIVED. THE GIVEN ROWS OF THIS SEAT. 14 by the template 'for every input the law returns true; each argument reads behind the call as it read before'; 0 by the template 'total and deterministic' (their statements: YtaieocafhcjelaaGreatTotals.lean).
  GIVEN WITH THE SEED: the statements are not yours to turn. If you find one false, say at which input.
  Laid BY PROGRAM, IN A SANDBOX (cutbox-rows.mjs): the forced cells as the released guide's own fill.sh prints them over the translation 910261f6b03cb9f9… (all of the seat's roots in one cut). By AI agents, Wed Nov 11 2026. No macro, syntax, notation, axiom, sorry.
-/
import Derived.Test.YtaieocafhcjelaaGreatChecked
import GoSem.Claim
import GoSem.ClaimJoined
import GoSem.ClaimMapViews
import Derived.JoinedTies
import Derived.KernelRfl
namespace Go.Proofs.YtaieocafhcjelaaGreat
/- THE CELL 'sum', in the pinned program and in every row, IS THE sha256 OF THE DUMP (.gsa) THAT YtaieocafhcjelaaGreatProg.lean LOADS. Nothing in Lean hashes anything: it is a label: what it is worth is what the hold of that sum in a sandbox is worth. -/
noncomputable def Tryz.pinned : Pinned := { name := "ytaieocafhcjelaagreat", sum := "910261f6b03cb9f971c31f431c93c810e0479269c6d2a3b7198228466217e365", checked := Tryz.checked }
namespace Rows
def none {H : Type} : Left H := { results := [], args := [] }

/-- 'pagewatchlaw14.RosterPieces': WHATEVER THE INPUT: true; the input reads as it did. -/
def rosterPiecesSpec : ChangeSpec := { name := "rosterPieces", fn := fun _ => fun
  | [d1, d2] => { results := [.lit (.bool true)], args := [d1, d2] }
  | _ => none }
def rosterPiecesRow : OpenClaim := { program := "ytaieocafhcjelaagreat", sum := "910261f6b03cb9f971c31f431c93c810e0479269c6d2a3b7198228466217e365", func := "pagewatch/pagewatchlaw14.RosterPieces", spec := "rosterPieces", unfollowed := true, recurses := true, apart := false }
def RosterPiecesSaid : Prop := rosterPiecesRow.holds Tryz.pinned (OpenSpec.ofChange rosterPiecesSpec)

/-- ITS FALSE NEIGHBOUR: 'it returns false'. Refute it at one input. -/
def rosterPiecesWrong : ChangeSpec := { name := "rosterPieces", fn := fun _ => fun
  | [d1, d2] => { results := [.lit (.bool false)], args := [d1, d2] }
  | _ => none }
def RosterPiecesWrongFalsely : Prop := rosterPiecesRow.holds Tryz.pinned (OpenSpec.ofChange rosterPiecesWrong)

/-- 'pagewatchlaw14.RosterChanges': WHATEVER THE INPUT: true; the input reads as it did. -/
def rosterChangesSpec : ChangeSpec := { name := "rosterChanges", fn := fun _ => fun
  | [d] => { results := [.lit (.bool true)], args := [d] }
  | _ => none }
def rosterChangesRow : OpenClaim := { program := "ytaieocafhcjelaagreat", sum := "910261f6b03cb9f971c31f431c93c810e0479269c6d2a3b7198228466217e365", func := "pagewatch/pagewatchlaw14.RosterChanges", spec := "rosterChanges", unfollowed := true, recurses := true, apart := false }
def RosterChangesSaid : Prop := rosterChangesRow.holds Tryz.pinned (OpenSpec.ofChange rosterChangesSpec)

/-- ITS FALSE NEIGHBOUR: 'it returns false'. Refute it at one input. -/
def rosterChangesWrong : ChangeSpec := { name := "rosterChanges", fn := fun _ => fun
  | [d] => { results := [.lit (.bool false)], args := [d] }
  | _ => none }
def RosterChangesWrongFalsely : Prop := rosterChangesRow.holds Tryz.pinned (OpenSpec.ofChange rosterChangesWrong)

/-- 'pagewatchlaw15.CoverageClashes': WHATEVER THE INPUT: true; the input reads as it did. -/
def coverageClashesSpec : ChangeSpec := { name := "coverageClashes", fn := fun _ => fun
  | [d1, d2] => { results := [.lit (.bool true)], args := [d1, d2] }
  | _ => none }
def coverageClashesRow : OpenClaim := { program := "ytaieocafhcjelaagreat", sum := "910261f6b03cb9f971c31f431c93c810e0479269c6d2a3b7198228466217e365", func := "pagewatch/pagewatchlaw15.CoverageClashes", spec := "coverageClashes", unfollowed := true, recurses := true, apart := false }
def CoverageClashesSaid : Prop := coverageClashesRow.holds Tryz.pinned (OpenSpec.ofChange coverageClashesSpec)

/-- ITS FALSE NEIGHBOUR: 'it returns false'. Refute it at one input. -/
def coverageClashesWrong : ChangeSpec := { name := "coverageClashes", fn := fun _ => fun
  | [d1, d2] => { results := [.lit (.bool false)], args := [d1, d2] }
  | _ => none }
def CoverageClashesWrongFalsely : Prop := coverageClashesRow.holds Tryz.pinned (OpenSpec.ofChange coverageClashesWrong)

/-- 'pagewatchlaw13.EditCancels': WHATEVER THE INPUT: true; the input reads as it did. -/
def editCancelsSpec : ChangeSpec := { name := "editCancels", fn := fun _ => fun
  | [d1, d2] => { results := [.lit (.bool true)], args := [d1, d2] }
  | _ => none }
def editCancelsRow : OpenClaim := { program := "ytaieocafhcjelaagreat", sum := "910261f6b03cb9f971c31f431c93c810e0479269c6d2a3b7198228466217e365", func := "pagewatch/pagewatchlaw13.EditCancels", spec := "editCancels", unfollowed := true, recurses := true, apart := false }
def EditCancelsSaid : Prop := editCancelsRow.holds Tryz.pinned (OpenSpec.ofChange editCancelsSpec)

/-- ITS FALSE NEIGHBOUR: 'it returns false'. Refute it at one input. -/
def editCancelsWrong : ChangeSpec := { name := "editCancels", fn := fun _ => fun
  | [d1, d2] => { results := [.lit (.bool false)], args := [d1, d2] }
  | _ => none }
def EditCancelsWrongFalsely : Prop := editCancelsRow.holds Tryz.pinned (OpenSpec.ofChange editCancelsWrong)

/-- 'pagewatchlaw13.EditLocal': WHATEVER THE INPUT: true; the input reads as it did. -/
def editLocalSpec : ChangeSpec := { name := "editLocal", fn := fun _ => fun
  | [d] => { results := [.lit (.bool true)], args := [d] }
  | _ => none }
def editLocalRow : OpenClaim := { program := "ytaieocafhcjelaagreat", sum := "910261f6b03cb9f971c31f431c93c810e0479269c6d2a3b7198228466217e365", func := "pagewatch/pagewatchlaw13.EditLocal", spec := "editLocal", unfollowed := true, recurses := true, apart := false }
def EditLocalSaid : Prop := editLocalRow.holds Tryz.pinned (OpenSpec.ofChange editLocalSpec)

/-- ITS FALSE NEIGHBOUR: 'it returns false'. Refute it at one input. -/
def editLocalWrong : ChangeSpec := { name := "editLocal", fn := fun _ => fun
  | [d] => { results := [.lit (.bool false)], args := [d] }
  | _ => none }
def EditLocalWrongFalsely : Prop := editLocalRow.holds Tryz.pinned (OpenSpec.ofChange editLocalWrong)

/-- 'pagewatchlaw13.EditSwaps': WHATEVER THE INPUT: true; the input reads as it did. -/
def editSwapsSpec : ChangeSpec := { name := "editSwaps", fn := fun _ => fun
  | [d] => { results := [.lit (.bool true)], args := [d] }
  | _ => none }
def editSwapsRow : OpenClaim := { program := "ytaieocafhcjelaagreat", sum := "910261f6b03cb9f971c31f431c93c810e0479269c6d2a3b7198228466217e365", func := "pagewatch/pagewatchlaw13.EditSwaps", spec := "editSwaps", unfollowed := true, recurses := true, apart := false }
def EditSwapsSaid : Prop := editSwapsRow.holds Tryz.pinned (OpenSpec.ofChange editSwapsSpec)

/-- ITS FALSE NEIGHBOUR: 'it returns false'. Refute it at one input. -/
def editSwapsWrong : ChangeSpec := { name := "editSwaps", fn := fun _ => fun
  | [d] => { results := [.lit (.bool false)], args := [d] }
  | _ => none }
def EditSwapsWrongFalsely : Prop := editSwapsRow.holds Tryz.pinned (OpenSpec.ofChange editSwapsWrong)

/-- 'pagewatchlaw13.EditOrder': WHATEVER THE INPUT: true; the input reads as it did. -/
def editOrderSpec : ChangeSpec := { name := "editOrder", fn := fun _ => fun
  | [d] => { results := [.lit (.bool true)], args := [d] }
  | _ => none }
def editOrderRow : OpenClaim := { program := "ytaieocafhcjelaagreat", sum := "910261f6b03cb9f971c31f431c93c810e0479269c6d2a3b7198228466217e365", func := "pagewatch/pagewatchlaw13.EditOrder", spec := "editOrder", unfollowed := true, recurses := true, apart := false }
def EditOrderSaid : Prop := editOrderRow.holds Tryz.pinned (OpenSpec.ofChange editOrderSpec)

/-- ITS FALSE NEIGHBOUR: 'it returns false'. Refute it at one input. -/
def editOrderWrong : ChangeSpec := { name := "editOrder", fn := fun _ => fun
  | [d] => { results := [.lit (.bool false)], args := [d] }
  | _ => none }
def EditOrderWrongFalsely : Prop := editOrderRow.holds Tryz.pinned (OpenSpec.ofChange editOrderWrong)

/-- 'pagewatchlaw12.StackLeaves': WHATEVER THE INPUT: true; the input reads as it did. -/
def stackLeavesSpec : ChangeSpec := { name := "stackLeaves", fn := fun _ => fun
  | [d] => { results := [.lit (.bool true)], args := [d] }
  | _ => none }
def stackLeavesRow : OpenClaim := { program := "ytaieocafhcjelaagreat", sum := "910261f6b03cb9f971c31f431c93c810e0479269c6d2a3b7198228466217e365", func := "pagewatch/pagewatchlaw12.StackLeaves", spec := "stackLeaves", unfollowed := true, recurses := true, apart := false }
def StackLeavesSaid : Prop := stackLeavesRow.holds Tryz.pinned (OpenSpec.ofChange stackLeavesSpec)

/-- ITS FALSE NEIGHBOUR: 'it returns false'. Refute it at one input. -/
def stackLeavesWrong : ChangeSpec := { name := "stackLeaves", fn := fun _ => fun
  | [d] => { results := [.lit (.bool false)], args := [d] }
  | _ => none }
def StackLeavesWrongFalsely : Prop := stackLeavesRow.holds Tryz.pinned (OpenSpec.ofChange stackLeavesWrong)

/-- 'pagewatchlaw18.LimitsRest': WHATEVER THE INPUT: true; the input reads as it did. -/
def limitsRestSpec : ChangeSpec := { name := "limitsRest", fn := fun _ => fun
  | [d] => { results := [.lit (.bool true)], args := [d] }
  | _ => none }
def limitsRestRow : OpenClaim := { program := "ytaieocafhcjelaagreat", sum := "910261f6b03cb9f971c31f431c93c810e0479269c6d2a3b7198228466217e365", func := "pagewatch/pagewatchlaw18.LimitsRest", spec := "limitsRest", unfollowed := true, recurses := true, apart := false }
def LimitsRestSaid : Prop := limitsRestRow.holds Tryz.pinned (OpenSpec.ofChange limitsRestSpec)

/-- ITS FALSE NEIGHBOUR: 'it returns false'. Refute it at one input. -/
def limitsRestWrong : ChangeSpec := { name := "limitsRest", fn := fun _ => fun
  | [d] => { results := [.lit (.bool false)], args := [d] }
  | _ => none }
def LimitsRestWrongFalsely : Prop := limitsRestRow.holds Tryz.pinned (OpenSpec.ofChange limitsRestWrong)

/-- 'pagewatchlaw18.LimitsWeeks': WHATEVER THE INPUT: true; the input reads as it did. -/
def limitsWeeksSpec : ChangeSpec := { name := "limitsWeeks", fn := fun _ => fun
  | [d1, d2] => { results := [.lit (.bool true)], args := [d1, d2] }
  | _ => none }
def limitsWeeksRow : OpenClaim := { program := "ytaieocafhcjelaagreat", sum := "910261f6b03cb9f971c31f431c93c810e0479269c6d2a3b7198228466217e365", func := "pagewatch/pagewatchlaw18.LimitsWeeks", spec := "limitsWeeks", unfollowed := true, recurses := true, apart := false }
def LimitsWeeksSaid : Prop := limitsWeeksRow.holds Tryz.pinned (OpenSpec.ofChange limitsWeeksSpec)

/-- ITS FALSE NEIGHBOUR: 'it returns false'. Refute it at one input. -/
def limitsWeeksWrong : ChangeSpec := { name := "limitsWeeks", fn := fun _ => fun
  | [d1, d2] => { results := [.lit (.bool false)], args := [d1, d2] }
  | _ => none }
def LimitsWeeksWrongFalsely : Prop := limitsWeeksRow.holds Tryz.pinned (OpenSpec.ofChange limitsWeeksWrong)

/-- 'pagewatchlaw18.LimitsAll': WHATEVER THE INPUT: true; the input reads as it did. -/
def limitsAllSpec : ChangeSpec := { name := "limitsAll", fn := fun _ => fun
  | [d] => { results := [.lit (.bool true)], args := [d] }
  | _ => none }
def limitsAllRow : OpenClaim := { program := "ytaieocafhcjelaagreat", sum := "910261f6b03cb9f971c31f431c93c810e0479269c6d2a3b7198228466217e365", func := "pagewatch/pagewatchlaw18.LimitsAll", spec := "limitsAll", unfollowed := true, recurses := true, apart := false }
def LimitsAllSaid : Prop := limitsAllRow.holds Tryz.pinned (OpenSpec.ofChange limitsAllSpec)

/-- ITS FALSE NEIGHBOUR: 'it returns false'. Refute it at one input. -/
def limitsAllWrong : ChangeSpec := { name := "limitsAll", fn := fun _ => fun
  | [d] => { results := [.lit (.bool false)], args := [d] }
  | _ => none }
def LimitsAllWrongFalsely : Prop := limitsAllRow.holds Tryz.pinned (OpenSpec.ofChange limitsAllWrong)

/-- 'pagewatchlaw17.LoadSums': WHATEVER THE INPUT: true; the input reads as it did. -/
def loadSumsSpec : ChangeSpec := { name := "loadSums", fn := fun _ => fun
  | [d] => { results := [.lit (.bool true)], args := [d] }
  | _ => none }
def loadSumsRow : OpenClaim := { program := "ytaieocafhcjelaagreat", sum := "910261f6b03cb9f971c31f431c93c810e0479269c6d2a3b7198228466217e365", func := "pagewatch/pagewatchlaw17.LoadSums", spec := "loadSums", unfollowed := true, recurses := true, apart := false }
def LoadSumsSaid : Prop := loadSumsRow.holds Tryz.pinned (OpenSpec.ofChange loadSumsSpec)

/-- ITS FALSE NEIGHBOUR: 'it returns false'. Refute it at one input. -/
def loadSumsWrong : ChangeSpec := { name := "loadSums", fn := fun _ => fun
  | [d] => { results := [.lit (.bool false)], args := [d] }
  | _ => none }
def LoadSumsWrongFalsely : Prop := loadSumsRow.holds Tryz.pinned (OpenSpec.ofChange loadSumsWrong)

/-- 'pagewatchlaw17.LoadJoins': WHATEVER THE INPUT: true; the input reads as it did. -/
def loadJoinsSpec : ChangeSpec := { name := "loadJoins", fn := fun _ => fun
  | [d1, d2, d3] => { results := [.lit (.bool true)], args := [d1, d2, d3] }
  | _ => none }
def loadJoinsRow : OpenClaim := { program := "ytaieocafhcjelaagreat", sum := "910261f6b03cb9f971c31f431c93c810e0479269c6d2a3b7198228466217e365", func := "pagewatch/pagewatchlaw17.LoadJoins", spec := "loadJoins", unfollowed := true, recurses := true, apart := false }
def LoadJoinsSaid : Prop := loadJoinsRow.holds Tryz.pinned (OpenSpec.ofChange loadJoinsSpec)

/-- ITS FALSE NEIGHBOUR: 'it returns false'. Refute it at one input. -/
def loadJoinsWrong : ChangeSpec := { name := "loadJoins", fn := fun _ => fun
  | [d1, d2, d3] => { results := [.lit (.bool false)], args := [d1, d2, d3] }
  | _ => none }
def LoadJoinsWrongFalsely : Prop := loadJoinsRow.holds Tryz.pinned (OpenSpec.ofChange loadJoinsWrong)

/-- 'pagewatchlaw17.LoadSwaps': WHATEVER THE INPUT: true; the input reads as it did. -/
def loadSwapsSpec : ChangeSpec := { name := "loadSwaps", fn := fun _ => fun
  | [d] => { results := [.lit (.bool true)], args := [d] }
  | _ => none }
def loadSwapsRow : OpenClaim := { program := "ytaieocafhcjelaagreat", sum := "910261f6b03cb9f971c31f431c93c810e0479269c6d2a3b7198228466217e365", func := "pagewatch/pagewatchlaw17.LoadSwaps", spec := "loadSwaps", unfollowed := true, recurses := true, apart := false }
def LoadSwapsSaid : Prop := loadSwapsRow.holds Tryz.pinned (OpenSpec.ofChange loadSwapsSpec)

/-- ITS FALSE NEIGHBOUR: 'it returns false'. Refute it at one input. -/
def loadSwapsWrong : ChangeSpec := { name := "loadSwaps", fn := fun _ => fun
  | [d] => { results := [.lit (.bool false)], args := [d] }
  | _ => none }
def LoadSwapsWrongFalsely : Prop := loadSwapsRow.holds Tryz.pinned (OpenSpec.ofChange loadSwapsWrong)

/- THE SECOND FORM. 'bulk': how many values and letters a reading holds, each counted each time it is reached (what is shared counts as often as it is met; a slice's spare places count too). A statement '..UptoSaid' is the law's where the arguments, and the package variables that the reading takes, are together of bulk at most 1048576: NARROWER than '..Said'. Prove '..Said' where nothing that the law and all that it calls make is longer than what came in: it says more and counts as full. Else prove '..UptoSaid'. A law counts once. -/
mutual
def uptoBulk {H : Type} : DataW H → Nat
  | .lit (.string bytes) => bytes.length + 1
  | .lit _ => 1
  | .nil => 1
  | .ptr d => uptoBulk d + 1
  | .slice elems spare => uptoBulkAll elems + uptoBulkAll spare + 1
  | .agg parts => uptoBulkAll parts + 1
  | .iface _ d => uptoBulk d + 1
  | .map entries => uptoBulkEntries entries + 1
  | .held _ => 1
def uptoBulkAll {H : Type} : List (DataW H) → Nat
  | [] => 0
  | d :: r => uptoBulk d + uptoBulkAll r
def uptoBulkEntries {H : Type} : List (Lit × DataW H) → Nat
  | [] => 0
  | x :: r => uptoBulkEntry x + uptoBulkEntries r
def uptoBulkEntry {H : Type} : Lit × DataW H → Nat
  | (.string bytes, d) => bytes.length + uptoBulk d + 1
  | (_, d) => uptoBulk d + 1
 end
def uptoSmall : (H : Type) → List (DataW H) → Bool := fun _ ds => decide (uptoBulkAll ds ≤ 1048576)
def OpenSpec.upto (s : _root_.Go.ChangeSpec) : _root_.Go.OpenSpec := { _root_.Go.OpenSpec.ofChange s with cond := some uptoSmall }

/-- 'pagewatchlaw14.RosterPieces', WHERE WHAT IT READS IS OF BULK AT MOST 1048576: true; the input reads as it did. -/
def rosterPiecesUptoRow : OpenClaim := { program := "ytaieocafhcjelaagreat", sum := "910261f6b03cb9f971c31f431c93c810e0479269c6d2a3b7198228466217e365", func := "pagewatch/pagewatchlaw14.RosterPieces", spec := "rosterPieces", unfollowed := true, recurses := true, apart := false, narrowed := true }
def RosterPiecesUptoSaid : Prop := rosterPiecesUptoRow.holds Tryz.pinned (OpenSpec.upto rosterPiecesSpec)

/-- 'pagewatchlaw14.RosterChanges', WHERE WHAT IT READS IS OF BULK AT MOST 1048576: true; the input reads as it did. -/
def rosterChangesUptoRow : OpenClaim := { program := "ytaieocafhcjelaagreat", sum := "910261f6b03cb9f971c31f431c93c810e0479269c6d2a3b7198228466217e365", func := "pagewatch/pagewatchlaw14.RosterChanges", spec := "rosterChanges", unfollowed := true, recurses := true, apart := false, narrowed := true }
def RosterChangesUptoSaid : Prop := rosterChangesUptoRow.holds Tryz.pinned (OpenSpec.upto rosterChangesSpec)

/-- 'pagewatchlaw15.CoverageClashes', WHERE WHAT IT READS IS OF BULK AT MOST 1048576: true; the input reads as it did. -/
def coverageClashesUptoRow : OpenClaim := { program := "ytaieocafhcjelaagreat", sum := "910261f6b03cb9f971c31f431c93c810e0479269c6d2a3b7198228466217e365", func := "pagewatch/pagewatchlaw15.CoverageClashes", spec := "coverageClashes", unfollowed := true, recurses := true, apart := false, narrowed := true }
def CoverageClashesUptoSaid : Prop := coverageClashesUptoRow.holds Tryz.pinned (OpenSpec.upto coverageClashesSpec)

/-- 'pagewatchlaw13.EditCancels', WHERE WHAT IT READS IS OF BULK AT MOST 1048576: true; the input reads as it did. -/
def editCancelsUptoRow : OpenClaim := { program := "ytaieocafhcjelaagreat", sum := "910261f6b03cb9f971c31f431c93c810e0479269c6d2a3b7198228466217e365", func := "pagewatch/pagewatchlaw13.EditCancels", spec := "editCancels", unfollowed := true, recurses := true, apart := false, narrowed := true }
def EditCancelsUptoSaid : Prop := editCancelsUptoRow.holds Tryz.pinned (OpenSpec.upto editCancelsSpec)

/-- 'pagewatchlaw13.EditLocal', WHERE WHAT IT READS IS OF BULK AT MOST 1048576: true; the input reads as it did. -/
def editLocalUptoRow : OpenClaim := { program := "ytaieocafhcjelaagreat", sum := "910261f6b03cb9f971c31f431c93c810e0479269c6d2a3b7198228466217e365", func := "pagewatch/pagewatchlaw13.EditLocal", spec := "editLocal", unfollowed := true, recurses := true, apart := false, narrowed := true }
def EditLocalUptoSaid : Prop := editLocalUptoRow.holds Tryz.pinned (OpenSpec.upto editLocalSpec)

/-- 'pagewatchlaw13.EditSwaps', WHERE WHAT IT READS IS OF BULK AT MOST 1048576: true; the input reads as it did. -/
def editSwapsUptoRow : OpenClaim := { program := "ytaieocafhcjelaagreat", sum := "910261f6b03cb9f971c31f431c93c810e0479269c6d2a3b7198228466217e365", func := "pagewatch/pagewatchlaw13.EditSwaps", spec := "editSwaps", unfollowed := true, recurses := true, apart := false, narrowed := true }
def EditSwapsUptoSaid : Prop := editSwapsUptoRow.holds Tryz.pinned (OpenSpec.upto editSwapsSpec)

/-- 'pagewatchlaw13.EditOrder', WHERE WHAT IT READS IS OF BULK AT MOST 1048576: true; the input reads as it did. -/
def editOrderUptoRow : OpenClaim := { program := "ytaieocafhcjelaagreat", sum := "910261f6b03cb9f971c31f431c93c810e0479269c6d2a3b7198228466217e365", func := "pagewatch/pagewatchlaw13.EditOrder", spec := "editOrder", unfollowed := true, recurses := true, apart := false, narrowed := true }
def EditOrderUptoSaid : Prop := editOrderUptoRow.holds Tryz.pinned (OpenSpec.upto editOrderSpec)

/-- 'pagewatchlaw12.StackLeaves', WHERE WHAT IT READS IS OF BULK AT MOST 1048576: true; the input reads as it did. -/
def stackLeavesUptoRow : OpenClaim := { program := "ytaieocafhcjelaagreat", sum := "910261f6b03cb9f971c31f431c93c810e0479269c6d2a3b7198228466217e365", func := "pagewatch/pagewatchlaw12.StackLeaves", spec := "stackLeaves", unfollowed := true, recurses := true, apart := false, narrowed := true }
def StackLeavesUptoSaid : Prop := stackLeavesUptoRow.holds Tryz.pinned (OpenSpec.upto stackLeavesSpec)

/-- 'pagewatchlaw18.LimitsRest', WHERE WHAT IT READS IS OF BULK AT MOST 1048576: true; the input reads as it did. -/
def limitsRestUptoRow : OpenClaim := { program := "ytaieocafhcjelaagreat", sum := "910261f6b03cb9f971c31f431c93c810e0479269c6d2a3b7198228466217e365", func := "pagewatch/pagewatchlaw18.LimitsRest", spec := "limitsRest", unfollowed := true, recurses := true, apart := false, narrowed := true }
def LimitsRestUptoSaid : Prop := limitsRestUptoRow.holds Tryz.pinned (OpenSpec.upto limitsRestSpec)

/-- 'pagewatchlaw18.LimitsWeeks', WHERE WHAT IT READS IS OF BULK AT MOST 1048576: true; the input reads as it did. -/
def limitsWeeksUptoRow : OpenClaim := { program := "ytaieocafhcjelaagreat", sum := "910261f6b03cb9f971c31f431c93c810e0479269c6d2a3b7198228466217e365", func := "pagewatch/pagewatchlaw18.LimitsWeeks", spec := "limitsWeeks", unfollowed := true, recurses := true, apart := false, narrowed := true }
def LimitsWeeksUptoSaid : Prop := limitsWeeksUptoRow.holds Tryz.pinned (OpenSpec.upto limitsWeeksSpec)

/-- 'pagewatchlaw18.LimitsAll', WHERE WHAT IT READS IS OF BULK AT MOST 1048576: true; the input reads as it did. -/
def limitsAllUptoRow : OpenClaim := { program := "ytaieocafhcjelaagreat", sum := "910261f6b03cb9f971c31f431c93c810e0479269c6d2a3b7198228466217e365", func := "pagewatch/pagewatchlaw18.LimitsAll", spec := "limitsAll", unfollowed := true, recurses := true, apart := false, narrowed := true }
def LimitsAllUptoSaid : Prop := limitsAllUptoRow.holds Tryz.pinned (OpenSpec.upto limitsAllSpec)

/-- 'pagewatchlaw17.LoadSums', WHERE WHAT IT READS IS OF BULK AT MOST 1048576: true; the input reads as it did. -/
def loadSumsUptoRow : OpenClaim := { program := "ytaieocafhcjelaagreat", sum := "910261f6b03cb9f971c31f431c93c810e0479269c6d2a3b7198228466217e365", func := "pagewatch/pagewatchlaw17.LoadSums", spec := "loadSums", unfollowed := true, recurses := true, apart := false, narrowed := true }
def LoadSumsUptoSaid : Prop := loadSumsUptoRow.holds Tryz.pinned (OpenSpec.upto loadSumsSpec)

/-- 'pagewatchlaw17.LoadJoins', WHERE WHAT IT READS IS OF BULK AT MOST 1048576: true; the input reads as it did. -/
def loadJoinsUptoRow : OpenClaim := { program := "ytaieocafhcjelaagreat", sum := "910261f6b03cb9f971c31f431c93c810e0479269c6d2a3b7198228466217e365", func := "pagewatch/pagewatchlaw17.LoadJoins", spec := "loadJoins", unfollowed := true, recurses := true, apart := false, narrowed := true }
def LoadJoinsUptoSaid : Prop := loadJoinsUptoRow.holds Tryz.pinned (OpenSpec.upto loadJoinsSpec)

/-- 'pagewatchlaw17.LoadSwaps', WHERE WHAT IT READS IS OF BULK AT MOST 1048576: true; the input reads as it did. -/
def loadSwapsUptoRow : OpenClaim := { program := "ytaieocafhcjelaagreat", sum := "910261f6b03cb9f971c31f431c93c810e0479269c6d2a3b7198228466217e365", func := "pagewatch/pagewatchlaw17.LoadSwaps", spec := "loadSwaps", unfollowed := true, recurses := true, apart := false, narrowed := true }
def LoadSwapsUptoSaid : Prop := loadSwapsUptoRow.holds Tryz.pinned (OpenSpec.upto loadSwapsSpec)

end Rows
end Go.Proofs.YtaieocafhcjelaaGreat
