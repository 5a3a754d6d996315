/-
  No cell of these rows narrows 'for every input' (looked for: loops, veiled, ifaces, maps, wideKeys, modest, calm, conditions, laid).
  DERIVED. THE GIVEN ROWS OF THIS SEAT. 6 by the template 'for every input the law returns true; each argument reads behind the call as it read before'; 0 by the template 'total and deterministic' (their statements: YtcegmhnnglcgeaaGreatTotals.lean).
  GIVEN WITH THE SEED: the statements are not yours to turn. If you find one false, say at which input.
  Laid BY PROGRAM, IN A SANDBOX (cutbox-rows.mjs): the forced cells as the released guide's own fill.sh prints them over the translation 5dd85b1878267f4c… (all of the seat's roots in one cut). By AI agents, Wed Nov 11 2026. No macro, syntax, notation, axiom, sorry.
-/
import Derived.Test.YtcegmhnnglcgeaaGreatChecked
import GoSem.Claim
import GoSem.ClaimJoined
import GoSem.ClaimMapViews
import Derived.JoinedTies
import Derived.KernelRfl
namespace Go.Proofs.YtcegmhnnglcgeaaGreat
/- THE CELL 'sum', in the pinned program and in every row, IS THE sha256 OF THE DUMP (.gsa) THAT YtcegmhnnglcgeaaGreatProg.lean LOADS. Nothing in Lean hashes anything: it is a label: what it is worth is what the hold of that sum in a sandbox is worth. -/
noncomputable def Tryz.pinned : Pinned := { name := "ytcegmhnnglcgeaagreat", sum := "5dd85b1878267f4c0b2489142f9814c19202cc94e86bac75f2c1d209ceb5b4a4", checked := Tryz.checked }
namespace Rows
def none {H : Type} : Left H := { results := [], args := [] }

/-- 'pagewatchlaw14.RosterPieces': WHATEVER THE INPUT: true; the input reads as it did. -/
def rosterPiecesSpec : ChangeSpec := { name := "rosterPieces", fn := fun _ => fun
  | [d1, d2] => { results := [.lit (.bool true)], args := [d1, d2] }
  | _ => none }
def rosterPiecesRow : OpenClaim := { program := "ytcegmhnnglcgeaagreat", sum := "5dd85b1878267f4c0b2489142f9814c19202cc94e86bac75f2c1d209ceb5b4a4", func := "pagewatch/pagewatchlaw14.RosterPieces", spec := "rosterPieces", unfollowed := true, recurses := true, apart := false }
def RosterPiecesSaid : Prop := rosterPiecesRow.holds Tryz.pinned (OpenSpec.ofChange rosterPiecesSpec)

/-- ITS FALSE NEIGHBOUR: 'it returns false'. Refute it at one input. -/
def rosterPiecesWrong : ChangeSpec := { name := "rosterPieces", fn := fun _ => fun
  | [d1, d2] => { results := [.lit (.bool false)], args := [d1, d2] }
  | _ => none }
def RosterPiecesWrongFalsely : Prop := rosterPiecesRow.holds Tryz.pinned (OpenSpec.ofChange rosterPiecesWrong)

/-- 'pagewatchlaw14.RosterChanges': WHATEVER THE INPUT: true; the input reads as it did. -/
def rosterChangesSpec : ChangeSpec := { name := "rosterChanges", fn := fun _ => fun
  | [d] => { results := [.lit (.bool true)], args := [d] }
  | _ => none }
def rosterChangesRow : OpenClaim := { program := "ytcegmhnnglcgeaagreat", sum := "5dd85b1878267f4c0b2489142f9814c19202cc94e86bac75f2c1d209ceb5b4a4", func := "pagewatch/pagewatchlaw14.RosterChanges", spec := "rosterChanges", unfollowed := true, recurses := true, apart := false }
def RosterChangesSaid : Prop := rosterChangesRow.holds Tryz.pinned (OpenSpec.ofChange rosterChangesSpec)

/-- ITS FALSE NEIGHBOUR: 'it returns false'. Refute it at one input. -/
def rosterChangesWrong : ChangeSpec := { name := "rosterChanges", fn := fun _ => fun
  | [d] => { results := [.lit (.bool false)], args := [d] }
  | _ => none }
def RosterChangesWrongFalsely : Prop := rosterChangesRow.holds Tryz.pinned (OpenSpec.ofChange rosterChangesWrong)

/-- 'pagewatchlaw14.RosterDivides': WHATEVER THE INPUT: true; the input reads as it did. -/
def rosterDividesSpec : ChangeSpec := { name := "rosterDivides", fn := fun _ => fun
  | [d1, d2] => { results := [.lit (.bool true)], args := [d1, d2] }
  | _ => none }
def rosterDividesRow : OpenClaim := { program := "ytcegmhnnglcgeaagreat", sum := "5dd85b1878267f4c0b2489142f9814c19202cc94e86bac75f2c1d209ceb5b4a4", func := "pagewatch/pagewatchlaw14.RosterDivides", spec := "rosterDivides", unfollowed := true, recurses := true, apart := false }
def RosterDividesSaid : Prop := rosterDividesRow.holds Tryz.pinned (OpenSpec.ofChange rosterDividesSpec)

/-- ITS FALSE NEIGHBOUR: 'it returns false'. Refute it at one input. -/
def rosterDividesWrong : ChangeSpec := { name := "rosterDivides", fn := fun _ => fun
  | [d1, d2] => { results := [.lit (.bool false)], args := [d1, d2] }
  | _ => none }
def RosterDividesWrongFalsely : Prop := rosterDividesRow.holds Tryz.pinned (OpenSpec.ofChange rosterDividesWrong)

/-- 'pagewatchlaw15.CoverageClashes': WHATEVER THE INPUT: true; the input reads as it did. -/
def coverageClashesSpec : ChangeSpec := { name := "coverageClashes", fn := fun _ => fun
  | [d1, d2] => { results := [.lit (.bool true)], args := [d1, d2] }
  | _ => none }
def coverageClashesRow : OpenClaim := { program := "ytcegmhnnglcgeaagreat", sum := "5dd85b1878267f4c0b2489142f9814c19202cc94e86bac75f2c1d209ceb5b4a4", func := "pagewatch/pagewatchlaw15.CoverageClashes", spec := "coverageClashes", unfollowed := true, recurses := true, apart := false }
def CoverageClashesSaid : Prop := coverageClashesRow.holds Tryz.pinned (OpenSpec.ofChange coverageClashesSpec)

/-- ITS FALSE NEIGHBOUR: 'it returns false'. Refute it at one input. -/
def coverageClashesWrong : ChangeSpec := { name := "coverageClashes", fn := fun _ => fun
  | [d1, d2] => { results := [.lit (.bool false)], args := [d1, d2] }
  | _ => none }
def CoverageClashesWrongFalsely : Prop := coverageClashesRow.holds Tryz.pinned (OpenSpec.ofChange coverageClashesWrong)

/-- 'pagewatchlaw18.LimitsEdges': WHATEVER THE INPUT: true; the input reads as it did. -/
def limitsEdgesSpec : ChangeSpec := { name := "limitsEdges", fn := fun _ => fun
  | [d] => { results := [.lit (.bool true)], args := [d] }
  | _ => none }
def limitsEdgesRow : OpenClaim := { program := "ytcegmhnnglcgeaagreat", sum := "5dd85b1878267f4c0b2489142f9814c19202cc94e86bac75f2c1d209ceb5b4a4", func := "pagewatch/pagewatchlaw18.LimitsEdges", spec := "limitsEdges", unfollowed := true, recurses := true, apart := false }
def LimitsEdgesSaid : Prop := limitsEdgesRow.holds Tryz.pinned (OpenSpec.ofChange limitsEdgesSpec)

/-- ITS FALSE NEIGHBOUR: 'it returns false'. Refute it at one input. -/
def limitsEdgesWrong : ChangeSpec := { name := "limitsEdges", fn := fun _ => fun
  | [d] => { results := [.lit (.bool false)], args := [d] }
  | _ => none }
def LimitsEdgesWrongFalsely : Prop := limitsEdgesRow.holds Tryz.pinned (OpenSpec.ofChange limitsEdgesWrong)

/-- 'pagewatchlaw18.LimitsReach': WHATEVER THE INPUT: true; the input reads as it did. -/
def limitsReachSpec : ChangeSpec := { name := "limitsReach", fn := fun _ => fun
  | [d1, d2] => { results := [.lit (.bool true)], args := [d1, d2] }
  | _ => none }
def limitsReachRow : OpenClaim := { program := "ytcegmhnnglcgeaagreat", sum := "5dd85b1878267f4c0b2489142f9814c19202cc94e86bac75f2c1d209ceb5b4a4", func := "pagewatch/pagewatchlaw18.LimitsReach", spec := "limitsReach", unfollowed := true, recurses := true, apart := false }
def LimitsReachSaid : Prop := limitsReachRow.holds Tryz.pinned (OpenSpec.ofChange limitsReachSpec)

/-- ITS FALSE NEIGHBOUR: 'it returns false'. Refute it at one input. -/
def limitsReachWrong : ChangeSpec := { name := "limitsReach", fn := fun _ => fun
  | [d1, d2] => { results := [.lit (.bool false)], args := [d1, d2] }
  | _ => none }
def LimitsReachWrongFalsely : Prop := limitsReachRow.holds Tryz.pinned (OpenSpec.ofChange limitsReachWrong)

/- THE SECOND FORM. 'bulk': how many values and letters a reading holds, each counted each time it is reached (what is shared counts as often as it is met; a slice's spare places count too). A statement '..UptoSaid' is the law's where the arguments, and the package variables that the reading takes, are together of bulk at most 1048576: NARROWER than '..Said'. Prove '..Said' where nothing that the law and all that it calls make is longer than what came in: it says more and counts as full. Else prove '..UptoSaid'. A law counts once. -/
mutual
def uptoBulk {H : Type} : DataW H → Nat
  | .lit (.string bytes) => bytes.length + 1
  | .lit _ => 1
  | .nil => 1
  | .ptr d => uptoBulk d + 1
  | .slice elems spare => uptoBulkAll elems + uptoBulkAll spare + 1
  | .agg parts => uptoBulkAll parts + 1
  | .iface _ d => uptoBulk d + 1
  | .map entries => uptoBulkEntries entries + 1
  | .held _ => 1
def uptoBulkAll {H : Type} : List (DataW H) → Nat
  | [] => 0
  | d :: r => uptoBulk d + uptoBulkAll r
def uptoBulkEntries {H : Type} : List (Lit × DataW H) → Nat
  | [] => 0
  | x :: r => uptoBulkEntry x + uptoBulkEntries r
def uptoBulkEntry {H : Type} : Lit × DataW H → Nat
  | (.string bytes, d) => bytes.length + uptoBulk d + 1
  | (_, d) => uptoBulk d + 1
 end
def uptoSmall : (H : Type) → List (DataW H) → Bool := fun _ ds => decide (uptoBulkAll ds ≤ 1048576)
def OpenSpec.upto (s : _root_.Go.ChangeSpec) : _root_.Go.OpenSpec := { _root_.Go.OpenSpec.ofChange s with cond := some uptoSmall }

/-- 'pagewatchlaw14.RosterPieces', WHERE WHAT IT READS IS OF BULK AT MOST 1048576: true; the input reads as it did. -/
def rosterPiecesUptoRow : OpenClaim := { program := "ytcegmhnnglcgeaagreat", sum := "5dd85b1878267f4c0b2489142f9814c19202cc94e86bac75f2c1d209ceb5b4a4", func := "pagewatch/pagewatchlaw14.RosterPieces", spec := "rosterPieces", unfollowed := true, recurses := true, apart := false, narrowed := true }
def RosterPiecesUptoSaid : Prop := rosterPiecesUptoRow.holds Tryz.pinned (OpenSpec.upto rosterPiecesSpec)

/-- 'pagewatchlaw14.RosterChanges', WHERE WHAT IT READS IS OF BULK AT MOST 1048576: true; the input reads as it did. -/
def rosterChangesUptoRow : OpenClaim := { program := "ytcegmhnnglcgeaagreat", sum := "5dd85b1878267f4c0b2489142f9814c19202cc94e86bac75f2c1d209ceb5b4a4", func := "pagewatch/pagewatchlaw14.RosterChanges", spec := "rosterChanges", unfollowed := true, recurses := true, apart := false, narrowed := true }
def RosterChangesUptoSaid : Prop := rosterChangesUptoRow.holds Tryz.pinned (OpenSpec.upto rosterChangesSpec)

/-- 'pagewatchlaw14.RosterDivides', WHERE WHAT IT READS IS OF BULK AT MOST 1048576: true; the input reads as it did. -/
def rosterDividesUptoRow : OpenClaim := { program := "ytcegmhnnglcgeaagreat", sum := "5dd85b1878267f4c0b2489142f9814c19202cc94e86bac75f2c1d209ceb5b4a4", func := "pagewatch/pagewatchlaw14.RosterDivides", spec := "rosterDivides", unfollowed := true, recurses := true, apart := false, narrowed := true }
def RosterDividesUptoSaid : Prop := rosterDividesUptoRow.holds Tryz.pinned (OpenSpec.upto rosterDividesSpec)

/-- 'pagewatchlaw15.CoverageClashes', WHERE WHAT IT READS IS OF BULK AT MOST 1048576: true; the input reads as it did. -/
def coverageClashesUptoRow : OpenClaim := { program := "ytcegmhnnglcgeaagreat", sum := "5dd85b1878267f4c0b2489142f9814c19202cc94e86bac75f2c1d209ceb5b4a4", func := "pagewatch/pagewatchlaw15.CoverageClashes", spec := "coverageClashes", unfollowed := true, recurses := true, apart := false, narrowed := true }
def CoverageClashesUptoSaid : Prop := coverageClashesUptoRow.holds Tryz.pinned (OpenSpec.upto coverageClashesSpec)

/-- 'pagewatchlaw18.LimitsEdges', WHERE WHAT IT READS IS OF BULK AT MOST 1048576: true; the input reads as it did. -/
def limitsEdgesUptoRow : OpenClaim := { program := "ytcegmhnnglcgeaagreat", sum := "5dd85b1878267f4c0b2489142f9814c19202cc94e86bac75f2c1d209ceb5b4a4", func := "pagewatch/pagewatchlaw18.LimitsEdges", spec := "limitsEdges", unfollowed := true, recurses := true, apart := false, narrowed := true }
def LimitsEdgesUptoSaid : Prop := limitsEdgesUptoRow.holds Tryz.pinned (OpenSpec.upto limitsEdgesSpec)

/-- 'pagewatchlaw18.LimitsReach', WHERE WHAT IT READS IS OF BULK AT MOST 1048576: true; the input reads as it did. -/
def limitsReachUptoRow : OpenClaim := { program := "ytcegmhnnglcgeaagreat", sum := "5dd85b1878267f4c0b2489142f9814c19202cc94e86bac75f2c1d209ceb5b4a4", func := "pagewatch/pagewatchlaw18.LimitsReach", spec := "limitsReach", unfollowed := true, recurses := true, apart := false, narrowed := true }
def LimitsReachUptoSaid : Prop := limitsReachUptoRow.holds Tryz.pinned (OpenSpec.upto limitsReachSpec)

end Rows
end Go.Proofs.YtcegmhnnglcgeaaGreat
