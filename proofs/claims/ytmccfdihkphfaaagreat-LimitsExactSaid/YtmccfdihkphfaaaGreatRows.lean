/-
  No cell of these rows narrows 'for every input' (looked for: loops, veiled, ifaces, maps, wideKeys, modest, calm, conditions, laid).
  DERIVED. THE GIVEN ROWS OF THIS SEAT. 3 by the template 'for every input the law returns true; each argument reads behind the call as it read before'; 0 by the template 'total and deterministic' (their statements: YtmccfdihkphfaaaGreatTotals.lean).
  GIVEN WITH THE SEED: the statements are not yours to turn. If you find one false, say at which input.
  Laid BY PROGRAM, IN A SANDBOX (cutbox-rows.mjs): the forced cells as the released guide's own fill.sh prints them over the translation 16f67ba318a4519b… (all of the seat's roots in one cut). By AI agents, Wed Nov 11 2026. No macro, syntax, notation, axiom, sorry.
-/
import Derived.Test.YtmccfdihkphfaaaGreatChecked
import GoSem.Claim
import GoSem.ClaimJoined
import GoSem.ClaimMapViews
import Derived.JoinedTies
import Derived.KernelRfl
namespace Go.Proofs.YtmccfdihkphfaaaGreat
/- THE CELL 'sum', in the pinned program and in every row, IS THE sha256 OF THE DUMP (.gsa) THAT YtmccfdihkphfaaaGreatProg.lean LOADS. Nothing in Lean hashes anything: it is a label: what it is worth is what the hold of that sum in a sandbox is worth. -/
noncomputable def Tryz.pinned : Pinned := { name := "ytmccfdihkphfaaagreat", sum := "16f67ba318a4519bb6b1f193a0e1a4e65799373429077383bcf00cde27b905fc", checked := Tryz.checked }
namespace Rows
def none {H : Type} : Left H := { results := [], args := [] }

/-- 'pagewatchlaw14.RosterExact': WHATEVER THE INPUT: true; the input reads as it did. -/
def rosterExactSpec : ChangeSpec := { name := "rosterExact", fn := fun _ => fun
  | [d1, d2, d3, d4, d5, d6] => { results := [.lit (.bool true)], args := [d1, d2, d3, d4, d5, d6] }
  | _ => none }
def rosterExactRow : OpenClaim := { program := "ytmccfdihkphfaaagreat", sum := "16f67ba318a4519bb6b1f193a0e1a4e65799373429077383bcf00cde27b905fc", func := "pagewatch/pagewatchlaw14.RosterExact", spec := "rosterExact", unfollowed := true, recurses := true, apart := false }
def RosterExactSaid : Prop := rosterExactRow.holds Tryz.pinned (OpenSpec.ofChange rosterExactSpec)

/-- ITS FALSE NEIGHBOUR: 'it returns false'. Refute it at one input. -/
def rosterExactWrong : ChangeSpec := { name := "rosterExact", fn := fun _ => fun
  | [d1, d2, d3, d4, d5, d6] => { results := [.lit (.bool false)], args := [d1, d2, d3, d4, d5, d6] }
  | _ => none }
def RosterExactWrongFalsely : Prop := rosterExactRow.holds Tryz.pinned (OpenSpec.ofChange rosterExactWrong)

/-- 'pagewatchlaw15.CoverageExact': WHATEVER THE INPUT: true; the input reads as it did. -/
def coverageExactSpec : ChangeSpec := { name := "coverageExact", fn := fun _ => fun
  | [d1, d2, d3, d4, d5] => { results := [.lit (.bool true)], args := [d1, d2, d3, d4, d5] }
  | _ => none }
def coverageExactRow : OpenClaim := { program := "ytmccfdihkphfaaagreat", sum := "16f67ba318a4519bb6b1f193a0e1a4e65799373429077383bcf00cde27b905fc", func := "pagewatch/pagewatchlaw15.CoverageExact", spec := "coverageExact", unfollowed := true, recurses := true, apart := false }
def CoverageExactSaid : Prop := coverageExactRow.holds Tryz.pinned (OpenSpec.ofChange coverageExactSpec)

/-- ITS FALSE NEIGHBOUR: 'it returns false'. Refute it at one input. -/
def coverageExactWrong : ChangeSpec := { name := "coverageExact", fn := fun _ => fun
  | [d1, d2, d3, d4, d5] => { results := [.lit (.bool false)], args := [d1, d2, d3, d4, d5] }
  | _ => none }
def CoverageExactWrongFalsely : Prop := coverageExactRow.holds Tryz.pinned (OpenSpec.ofChange coverageExactWrong)

/-- 'pagewatchlaw18.LimitsExact': WHATEVER THE INPUT: true; the input reads as it did. -/
def limitsExactSpec : ChangeSpec := { name := "limitsExact", fn := fun _ => fun
  | [d1, d2, d3, d4, d5, d6] => { results := [.lit (.bool true)], args := [d1, d2, d3, d4, d5, d6] }
  | _ => none }
def limitsExactRow : OpenClaim := { program := "ytmccfdihkphfaaagreat", sum := "16f67ba318a4519bb6b1f193a0e1a4e65799373429077383bcf00cde27b905fc", func := "pagewatch/pagewatchlaw18.LimitsExact", spec := "limitsExact", unfollowed := true, recurses := true, apart := false }
def LimitsExactSaid : Prop := limitsExactRow.holds Tryz.pinned (OpenSpec.ofChange limitsExactSpec)

/-- ITS FALSE NEIGHBOUR: 'it returns false'. Refute it at one input. -/
def limitsExactWrong : ChangeSpec := { name := "limitsExact", fn := fun _ => fun
  | [d1, d2, d3, d4, d5, d6] => { results := [.lit (.bool false)], args := [d1, d2, d3, d4, d5, d6] }
  | _ => none }
def LimitsExactWrongFalsely : Prop := limitsExactRow.holds Tryz.pinned (OpenSpec.ofChange limitsExactWrong)

/- THE SECOND FORM. 'bulk': how many values and letters a reading holds, each counted each time it is reached (what is shared counts as often as it is met; a slice's spare places count too). A statement '..UptoSaid' is the law's where the arguments, and the package variables that the reading takes, are together of bulk at most 1048576: NARROWER than '..Said'. Prove '..Said' where nothing that the law and all that it calls make is longer than what came in: it says more and counts as full. Else prove '..UptoSaid'. A law counts once. -/
mutual
def uptoBulk {H : Type} : DataW H → Nat
  | .lit (.string bytes) => bytes.length + 1
  | .lit _ => 1
  | .nil => 1
  | .ptr d => uptoBulk d + 1
  | .slice elems spare => uptoBulkAll elems + uptoBulkAll spare + 1
  | .agg parts => uptoBulkAll parts + 1
  | .iface _ d => uptoBulk d + 1
  | .map entries => uptoBulkEntries entries + 1
  | .held _ => 1
def uptoBulkAll {H : Type} : List (DataW H) → Nat
  | [] => 0
  | d :: r => uptoBulk d + uptoBulkAll r
def uptoBulkEntries {H : Type} : List (Lit × DataW H) → Nat
  | [] => 0
  | x :: r => uptoBulkEntry x + uptoBulkEntries r
def uptoBulkEntry {H : Type} : Lit × DataW H → Nat
  | (.string bytes, d) => bytes.length + uptoBulk d + 1
  | (_, d) => uptoBulk d + 1
 end
def uptoSmall : (H : Type) → List (DataW H) → Bool := fun _ ds => decide (uptoBulkAll ds ≤ 1048576)
def OpenSpec.upto (s : _root_.Go.ChangeSpec) : _root_.Go.OpenSpec := { _root_.Go.OpenSpec.ofChange s with cond := some uptoSmall }

/-- 'pagewatchlaw14.RosterExact', WHERE WHAT IT READS IS OF BULK AT MOST 1048576: true; the input reads as it did. -/
def rosterExactUptoRow : OpenClaim := { program := "ytmccfdihkphfaaagreat", sum := "16f67ba318a4519bb6b1f193a0e1a4e65799373429077383bcf00cde27b905fc", func := "pagewatch/pagewatchlaw14.RosterExact", spec := "rosterExact", unfollowed := true, recurses := true, apart := false, narrowed := true }
def RosterExactUptoSaid : Prop := rosterExactUptoRow.holds Tryz.pinned (OpenSpec.upto rosterExactSpec)

/-- 'pagewatchlaw15.CoverageExact', WHERE WHAT IT READS IS OF BULK AT MOST 1048576: true; the input reads as it did. -/
def coverageExactUptoRow : OpenClaim := { program := "ytmccfdihkphfaaagreat", sum := "16f67ba318a4519bb6b1f193a0e1a4e65799373429077383bcf00cde27b905fc", func := "pagewatch/pagewatchlaw15.CoverageExact", spec := "coverageExact", unfollowed := true, recurses := true, apart := false, narrowed := true }
def CoverageExactUptoSaid : Prop := coverageExactUptoRow.holds Tryz.pinned (OpenSpec.upto coverageExactSpec)

/-- 'pagewatchlaw18.LimitsExact', WHERE WHAT IT READS IS OF BULK AT MOST 1048576: true; the input reads as it did. -/
def limitsExactUptoRow : OpenClaim := { program := "ytmccfdihkphfaaagreat", sum := "16f67ba318a4519bb6b1f193a0e1a4e65799373429077383bcf00cde27b905fc", func := "pagewatch/pagewatchlaw18.LimitsExact", spec := "limitsExact", unfollowed := true, recurses := true, apart := false, narrowed := true }
def LimitsExactUptoSaid : Prop := limitsExactUptoRow.holds Tryz.pinned (OpenSpec.upto limitsExactSpec)

end Rows
end Go.Proofs.YtmccfdihkphfaaaGreat
