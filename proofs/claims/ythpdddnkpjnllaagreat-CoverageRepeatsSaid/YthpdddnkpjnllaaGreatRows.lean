/-
  No cell of these rows narrows 'for every input' (looked for: loops, veiled, ifaces, maps, wideKeys, modest, calm, conditions, laid).
  DERIVED. THE GIVEN ROWS OF THIS SEAT. 7 by the template 'for every input the law returns true; each argument reads behind the call as it read before'; 0 by the template 'total and deterministic' (their statements: YthpdddnkpjnllaaGreatTotals.lean).
  GIVEN WITH THE SEED: the statements are not yours to turn. If you find one false, say at which input.
  Laid BY PROGRAM, IN A SANDBOX (cutbox-rows.mjs): the forced cells as the released guide's own fill.sh prints them over the translation 1f527315625510e1… (all of the seat's roots in one cut). By AI agents, Wed Nov 11 2026. No macro, syntax, notation, axiom, sorry.
-/
import Derived.Test.YthpdddnkpjnllaaGreatChecked
import GoSem.Claim
import GoSem.ClaimJoined
import GoSem.ClaimMapViews
import Derived.JoinedTies
import Derived.KernelRfl
namespace Go.Proofs.YthpdddnkpjnllaaGreat
/- THE CELL 'sum', in the pinned program and in every row, IS THE sha256 OF THE DUMP (.gsa) THAT YthpdddnkpjnllaaGreatProg.lean LOADS. Nothing in Lean hashes anything: it is a label: what it is worth is what the hold of that sum in a sandbox is worth. -/
noncomputable def Tryz.pinned : Pinned := { name := "ythpdddnkpjnllaagreat", sum := "1f527315625510e15f87722b83a7f6b231be09533df8862516e4545707723d6c", checked := Tryz.checked }
namespace Rows
def none {H : Type} : Left H := { results := [], args := [] }

/-- 'pagewatchlaw16.CycleRepeats': WHATEVER THE INPUT: true; the input reads as it did. -/
def cycleRepeatsSpec : ChangeSpec := { name := "cycleRepeats", fn := fun _ => fun
  | [d1, d2, d3] => { results := [.lit (.bool true)], args := [d1, d2, d3] }
  | _ => none }
def cycleRepeatsRow : OpenClaim := { program := "ythpdddnkpjnllaagreat", sum := "1f527315625510e15f87722b83a7f6b231be09533df8862516e4545707723d6c", func := "pagewatch/pagewatchlaw16.CycleRepeats", spec := "cycleRepeats", unfollowed := true, recurses := true, apart := false }
def CycleRepeatsSaid : Prop := cycleRepeatsRow.holds Tryz.pinned (OpenSpec.ofChange cycleRepeatsSpec)

/-- ITS FALSE NEIGHBOUR: 'it returns false'. Refute it at one input. -/
def cycleRepeatsWrong : ChangeSpec := { name := "cycleRepeats", fn := fun _ => fun
  | [d1, d2, d3] => { results := [.lit (.bool false)], args := [d1, d2, d3] }
  | _ => none }
def CycleRepeatsWrongFalsely : Prop := cycleRepeatsRow.holds Tryz.pinned (OpenSpec.ofChange cycleRepeatsWrong)

/-- 'pagewatchlaw16.CycleFar': WHATEVER THE INPUT: true; the input reads as it did. -/
def cycleFarSpec : ChangeSpec := { name := "cycleFar", fn := fun _ => fun
  | [d1, d2] => { results := [.lit (.bool true)], args := [d1, d2] }
  | _ => none }
def cycleFarRow : OpenClaim := { program := "ythpdddnkpjnllaagreat", sum := "1f527315625510e15f87722b83a7f6b231be09533df8862516e4545707723d6c", func := "pagewatch/pagewatchlaw16.CycleFar", spec := "cycleFar", unfollowed := true, recurses := true, apart := false }
def CycleFarSaid : Prop := cycleFarRow.holds Tryz.pinned (OpenSpec.ofChange cycleFarSpec)

/-- ITS FALSE NEIGHBOUR: 'it returns false'. Refute it at one input. -/
def cycleFarWrong : ChangeSpec := { name := "cycleFar", fn := fun _ => fun
  | [d1, d2] => { results := [.lit (.bool false)], args := [d1, d2] }
  | _ => none }
def CycleFarWrongFalsely : Prop := cycleFarRow.holds Tryz.pinned (OpenSpec.ofChange cycleFarWrong)

/-- 'pagewatchlaw12.StackTop': WHATEVER THE INPUT: true; the input reads as it did. -/
def stackTopSpec : ChangeSpec := { name := "stackTop", fn := fun _ => fun
  | [d] => { results := [.lit (.bool true)], args := [d] }
  | _ => none }
def stackTopRow : OpenClaim := { program := "ythpdddnkpjnllaagreat", sum := "1f527315625510e15f87722b83a7f6b231be09533df8862516e4545707723d6c", func := "pagewatch/pagewatchlaw12.StackTop", spec := "stackTop", unfollowed := true, recurses := true, apart := false }
def StackTopSaid : Prop := stackTopRow.holds Tryz.pinned (OpenSpec.ofChange stackTopSpec)

/-- ITS FALSE NEIGHBOUR: 'it returns false'. Refute it at one input. -/
def stackTopWrong : ChangeSpec := { name := "stackTop", fn := fun _ => fun
  | [d] => { results := [.lit (.bool false)], args := [d] }
  | _ => none }
def StackTopWrongFalsely : Prop := stackTopRow.holds Tryz.pinned (OpenSpec.ofChange stackTopWrong)

/-- 'pagewatchlaw12.StackPieces': WHATEVER THE INPUT: true; the input reads as it did. -/
def stackPiecesSpec : ChangeSpec := { name := "stackPieces", fn := fun _ => fun
  | [d1, d2] => { results := [.lit (.bool true)], args := [d1, d2] }
  | _ => none }
def stackPiecesRow : OpenClaim := { program := "ythpdddnkpjnllaagreat", sum := "1f527315625510e15f87722b83a7f6b231be09533df8862516e4545707723d6c", func := "pagewatch/pagewatchlaw12.StackPieces", spec := "stackPieces", unfollowed := true, recurses := true, apart := false }
def StackPiecesSaid : Prop := stackPiecesRow.holds Tryz.pinned (OpenSpec.ofChange stackPiecesSpec)

/-- ITS FALSE NEIGHBOUR: 'it returns false'. Refute it at one input. -/
def stackPiecesWrong : ChangeSpec := { name := "stackPieces", fn := fun _ => fun
  | [d1, d2] => { results := [.lit (.bool false)], args := [d1, d2] }
  | _ => none }
def StackPiecesWrongFalsely : Prop := stackPiecesRow.holds Tryz.pinned (OpenSpec.ofChange stackPiecesWrong)

/-- 'pagewatchlaw15.CoverageForever': WHATEVER THE INPUT: true; the input reads as it did. -/
def coverageForeverSpec : ChangeSpec := { name := "coverageForever", fn := fun _ => fun
  | [d1, d2, d3] => { results := [.lit (.bool true)], args := [d1, d2, d3] }
  | _ => none }
def coverageForeverRow : OpenClaim := { program := "ythpdddnkpjnllaagreat", sum := "1f527315625510e15f87722b83a7f6b231be09533df8862516e4545707723d6c", func := "pagewatch/pagewatchlaw15.CoverageForever", spec := "coverageForever", unfollowed := true, recurses := true, apart := false }
def CoverageForeverSaid : Prop := coverageForeverRow.holds Tryz.pinned (OpenSpec.ofChange coverageForeverSpec)

/-- ITS FALSE NEIGHBOUR: 'it returns false'. Refute it at one input. -/
def coverageForeverWrong : ChangeSpec := { name := "coverageForever", fn := fun _ => fun
  | [d1, d2, d3] => { results := [.lit (.bool false)], args := [d1, d2, d3] }
  | _ => none }
def CoverageForeverWrongFalsely : Prop := coverageForeverRow.holds Tryz.pinned (OpenSpec.ofChange coverageForeverWrong)

/-- 'pagewatchlaw15.CoverageRepeats': WHATEVER THE INPUT: true; the input reads as it did. -/
def coverageRepeatsSpec : ChangeSpec := { name := "coverageRepeats", fn := fun _ => fun
  | [d1, d2, d3] => { results := [.lit (.bool true)], args := [d1, d2, d3] }
  | _ => none }
def coverageRepeatsRow : OpenClaim := { program := "ythpdddnkpjnllaagreat", sum := "1f527315625510e15f87722b83a7f6b231be09533df8862516e4545707723d6c", func := "pagewatch/pagewatchlaw15.CoverageRepeats", spec := "coverageRepeats", unfollowed := true, recurses := true, apart := false }
def CoverageRepeatsSaid : Prop := coverageRepeatsRow.holds Tryz.pinned (OpenSpec.ofChange coverageRepeatsSpec)

/-- ITS FALSE NEIGHBOUR: 'it returns false'. Refute it at one input. -/
def coverageRepeatsWrong : ChangeSpec := { name := "coverageRepeats", fn := fun _ => fun
  | [d1, d2, d3] => { results := [.lit (.bool false)], args := [d1, d2, d3] }
  | _ => none }
def CoverageRepeatsWrongFalsely : Prop := coverageRepeatsRow.holds Tryz.pinned (OpenSpec.ofChange coverageRepeatsWrong)

/-- 'pagewatchlaw15.CoverageGaps': WHATEVER THE INPUT: true; the input reads as it did. -/
def coverageGapsSpec : ChangeSpec := { name := "coverageGaps", fn := fun _ => fun
  | [d1, d2] => { results := [.lit (.bool true)], args := [d1, d2] }
  | _ => none }
def coverageGapsRow : OpenClaim := { program := "ythpdddnkpjnllaagreat", sum := "1f527315625510e15f87722b83a7f6b231be09533df8862516e4545707723d6c", func := "pagewatch/pagewatchlaw15.CoverageGaps", spec := "coverageGaps", unfollowed := true, recurses := true, apart := false }
def CoverageGapsSaid : Prop := coverageGapsRow.holds Tryz.pinned (OpenSpec.ofChange coverageGapsSpec)

/-- ITS FALSE NEIGHBOUR: 'it returns false'. Refute it at one input. -/
def coverageGapsWrong : ChangeSpec := { name := "coverageGaps", fn := fun _ => fun
  | [d1, d2] => { results := [.lit (.bool false)], args := [d1, d2] }
  | _ => none }
def CoverageGapsWrongFalsely : Prop := coverageGapsRow.holds Tryz.pinned (OpenSpec.ofChange coverageGapsWrong)

/- THE SECOND FORM. 'bulk': how many values and letters a reading holds, each counted each time it is reached (what is shared counts as often as it is met; a slice's spare places count too). A statement '..UptoSaid' is the law's where the arguments, and the package variables that the reading takes, are together of bulk at most 1048576: NARROWER than '..Said'. Prove '..Said' where nothing that the law and all that it calls make is longer than what came in: it says more and counts as full. Else prove '..UptoSaid'. A law counts once. -/
mutual
def uptoBulk {H : Type} : DataW H → Nat
  | .lit (.string bytes) => bytes.length + 1
  | .lit _ => 1
  | .nil => 1
  | .ptr d => uptoBulk d + 1
  | .slice elems spare => uptoBulkAll elems + uptoBulkAll spare + 1
  | .agg parts => uptoBulkAll parts + 1
  | .iface _ d => uptoBulk d + 1
  | .map entries => uptoBulkEntries entries + 1
  | .held _ => 1
def uptoBulkAll {H : Type} : List (DataW H) → Nat
  | [] => 0
  | d :: r => uptoBulk d + uptoBulkAll r
def uptoBulkEntries {H : Type} : List (Lit × DataW H) → Nat
  | [] => 0
  | x :: r => uptoBulkEntry x + uptoBulkEntries r
def uptoBulkEntry {H : Type} : Lit × DataW H → Nat
  | (.string bytes, d) => bytes.length + uptoBulk d + 1
  | (_, d) => uptoBulk d + 1
 end
def uptoSmall : (H : Type) → List (DataW H) → Bool := fun _ ds => decide (uptoBulkAll ds ≤ 1048576)
def OpenSpec.upto (s : _root_.Go.ChangeSpec) : _root_.Go.OpenSpec := { _root_.Go.OpenSpec.ofChange s with cond := some uptoSmall }

/-- 'pagewatchlaw16.CycleRepeats', WHERE WHAT IT READS IS OF BULK AT MOST 1048576: true; the input reads as it did. -/
def cycleRepeatsUptoRow : OpenClaim := { program := "ythpdddnkpjnllaagreat", sum := "1f527315625510e15f87722b83a7f6b231be09533df8862516e4545707723d6c", func := "pagewatch/pagewatchlaw16.CycleRepeats", spec := "cycleRepeats", unfollowed := true, recurses := true, apart := false, narrowed := true }
def CycleRepeatsUptoSaid : Prop := cycleRepeatsUptoRow.holds Tryz.pinned (OpenSpec.upto cycleRepeatsSpec)

/-- 'pagewatchlaw16.CycleFar', WHERE WHAT IT READS IS OF BULK AT MOST 1048576: true; the input reads as it did. -/
def cycleFarUptoRow : OpenClaim := { program := "ythpdddnkpjnllaagreat", sum := "1f527315625510e15f87722b83a7f6b231be09533df8862516e4545707723d6c", func := "pagewatch/pagewatchlaw16.CycleFar", spec := "cycleFar", unfollowed := true, recurses := true, apart := false, narrowed := true }
def CycleFarUptoSaid : Prop := cycleFarUptoRow.holds Tryz.pinned (OpenSpec.upto cycleFarSpec)

/-- 'pagewatchlaw12.StackTop', WHERE WHAT IT READS IS OF BULK AT MOST 1048576: true; the input reads as it did. -/
def stackTopUptoRow : OpenClaim := { program := "ythpdddnkpjnllaagreat", sum := "1f527315625510e15f87722b83a7f6b231be09533df8862516e4545707723d6c", func := "pagewatch/pagewatchlaw12.StackTop", spec := "stackTop", unfollowed := true, recurses := true, apart := false, narrowed := true }
def StackTopUptoSaid : Prop := stackTopUptoRow.holds Tryz.pinned (OpenSpec.upto stackTopSpec)

/-- 'pagewatchlaw12.StackPieces', WHERE WHAT IT READS IS OF BULK AT MOST 1048576: true; the input reads as it did. -/
def stackPiecesUptoRow : OpenClaim := { program := "ythpdddnkpjnllaagreat", sum := "1f527315625510e15f87722b83a7f6b231be09533df8862516e4545707723d6c", func := "pagewatch/pagewatchlaw12.StackPieces", spec := "stackPieces", unfollowed := true, recurses := true, apart := false, narrowed := true }
def StackPiecesUptoSaid : Prop := stackPiecesUptoRow.holds Tryz.pinned (OpenSpec.upto stackPiecesSpec)

/-- 'pagewatchlaw15.CoverageForever', WHERE WHAT IT READS IS OF BULK AT MOST 1048576: true; the input reads as it did. -/
def coverageForeverUptoRow : OpenClaim := { program := "ythpdddnkpjnllaagreat", sum := "1f527315625510e15f87722b83a7f6b231be09533df8862516e4545707723d6c", func := "pagewatch/pagewatchlaw15.CoverageForever", spec := "coverageForever", unfollowed := true, recurses := true, apart := false, narrowed := true }
def CoverageForeverUptoSaid : Prop := coverageForeverUptoRow.holds Tryz.pinned (OpenSpec.upto coverageForeverSpec)

/-- 'pagewatchlaw15.CoverageRepeats', WHERE WHAT IT READS IS OF BULK AT MOST 1048576: true; the input reads as it did. -/
def coverageRepeatsUptoRow : OpenClaim := { program := "ythpdddnkpjnllaagreat", sum := "1f527315625510e15f87722b83a7f6b231be09533df8862516e4545707723d6c", func := "pagewatch/pagewatchlaw15.CoverageRepeats", spec := "coverageRepeats", unfollowed := true, recurses := true, apart := false, narrowed := true }
def CoverageRepeatsUptoSaid : Prop := coverageRepeatsUptoRow.holds Tryz.pinned (OpenSpec.upto coverageRepeatsSpec)

/-- 'pagewatchlaw15.CoverageGaps', WHERE WHAT IT READS IS OF BULK AT MOST 1048576: true; the input reads as it did. -/
def coverageGapsUptoRow : OpenClaim := { program := "ythpdddnkpjnllaagreat", sum := "1f527315625510e15f87722b83a7f6b231be09533df8862516e4545707723d6c", func := "pagewatch/pagewatchlaw15.CoverageGaps", spec := "coverageGaps", unfollowed := true, recurses := true, apart := false, narrowed := true }
def CoverageGapsUptoSaid : Prop := coverageGapsUptoRow.holds Tryz.pinned (OpenSpec.upto coverageGapsSpec)

end Rows
end Go.Proofs.YthpdddnkpjnllaaGreat
