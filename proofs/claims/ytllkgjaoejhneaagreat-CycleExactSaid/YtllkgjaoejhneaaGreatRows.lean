/-
  No cell of these rows narrows 'for every input' (looked for: loops, veiled, ifaces, maps, wideKeys, modest, calm, conditions, laid).
  DERIVED. THE GIVEN ROWS OF THIS SEAT. 4 by the template 'for every input the law returns true; each argument reads behind the call as it read before'; 0 by the template 'total and deterministic' (their statements: YtllkgjaoejhneaaGreatTotals.lean).
  GIVEN WITH THE SEED: the statements are not yours to turn. If you find one false, say at which input.
  Laid BY PROGRAM, IN A SANDBOX (cutbox-rows.mjs): the forced cells as the released guide's own fill.sh prints them over the translation 13bdb2bf0ca3571b… (all of the seat's roots in one cut). By AI agents, Wed Nov 11 2026. No macro, syntax, notation, axiom, sorry.
-/
import Derived.Test.YtllkgjaoejhneaaGreatChecked
import GoSem.Claim
import GoSem.ClaimJoined
import GoSem.ClaimMapViews
import Derived.JoinedTies
import Derived.KernelRfl
namespace Go.Proofs.YtllkgjaoejhneaaGreat
/- THE CELL 'sum', in the pinned program and in every row, IS THE sha256 OF THE DUMP (.gsa) THAT YtllkgjaoejhneaaGreatProg.lean LOADS. Nothing in Lean hashes anything: it is a label: what it is worth is what the hold of that sum in a sandbox is worth. -/
noncomputable def Tryz.pinned : Pinned := { name := "ytllkgjaoejhneaagreat", sum := "13bdb2bf0ca3571b6fccb81ac845606bb51ba98489283ae7e457978c8fe96190", checked := Tryz.checked }
namespace Rows
def none {H : Type} : Left H := { results := [], args := [] }

/-- 'pagewatchlaw13.EditExact': WHATEVER THE INPUT: true; the input reads as it did. -/
def editExactSpec : ChangeSpec := { name := "editExact", fn := fun _ => fun
  | [d1, d2, d3, d4, d5, d6] => { results := [.lit (.bool true)], args := [d1, d2, d3, d4, d5, d6] }
  | _ => none }
def editExactRow : OpenClaim := { program := "ytllkgjaoejhneaagreat", sum := "13bdb2bf0ca3571b6fccb81ac845606bb51ba98489283ae7e457978c8fe96190", func := "pagewatch/pagewatchlaw13.EditExact", spec := "editExact", unfollowed := true, recurses := true, apart := false }
def EditExactSaid : Prop := editExactRow.holds Tryz.pinned (OpenSpec.ofChange editExactSpec)

/-- ITS FALSE NEIGHBOUR: 'it returns false'. Refute it at one input. -/
def editExactWrong : ChangeSpec := { name := "editExact", fn := fun _ => fun
  | [d1, d2, d3, d4, d5, d6] => { results := [.lit (.bool false)], args := [d1, d2, d3, d4, d5, d6] }
  | _ => none }
def EditExactWrongFalsely : Prop := editExactRow.holds Tryz.pinned (OpenSpec.ofChange editExactWrong)

/-- 'pagewatchlaw16.CycleExact': WHATEVER THE INPUT: true; the input reads as it did. -/
def cycleExactSpec : ChangeSpec := { name := "cycleExact", fn := fun _ => fun
  | [d1, d2, d3, d4] => { results := [.lit (.bool true)], args := [d1, d2, d3, d4] }
  | _ => none }
def cycleExactRow : OpenClaim := { program := "ytllkgjaoejhneaagreat", sum := "13bdb2bf0ca3571b6fccb81ac845606bb51ba98489283ae7e457978c8fe96190", func := "pagewatch/pagewatchlaw16.CycleExact", spec := "cycleExact", unfollowed := true, recurses := true, apart := false }
def CycleExactSaid : Prop := cycleExactRow.holds Tryz.pinned (OpenSpec.ofChange cycleExactSpec)

/-- ITS FALSE NEIGHBOUR: 'it returns false'. Refute it at one input. -/
def cycleExactWrong : ChangeSpec := { name := "cycleExact", fn := fun _ => fun
  | [d1, d2, d3, d4] => { results := [.lit (.bool false)], args := [d1, d2, d3, d4] }
  | _ => none }
def CycleExactWrongFalsely : Prop := cycleExactRow.holds Tryz.pinned (OpenSpec.ofChange cycleExactWrong)

/-- 'pagewatchlaw11.DutyExact': WHATEVER THE INPUT: true; the input reads as it did. -/
def dutyExactSpec : ChangeSpec := { name := "dutyExact", fn := fun _ => fun
  | [d1, d2, d3, d4, d5] => { results := [.lit (.bool true)], args := [d1, d2, d3, d4, d5] }
  | _ => none }
def dutyExactRow : OpenClaim := { program := "ytllkgjaoejhneaagreat", sum := "13bdb2bf0ca3571b6fccb81ac845606bb51ba98489283ae7e457978c8fe96190", func := "pagewatch/pagewatchlaw11.DutyExact", spec := "dutyExact", unfollowed := true, recurses := true, apart := false }
def DutyExactSaid : Prop := dutyExactRow.holds Tryz.pinned (OpenSpec.ofChange dutyExactSpec)

/-- ITS FALSE NEIGHBOUR: 'it returns false'. Refute it at one input. -/
def dutyExactWrong : ChangeSpec := { name := "dutyExact", fn := fun _ => fun
  | [d1, d2, d3, d4, d5] => { results := [.lit (.bool false)], args := [d1, d2, d3, d4, d5] }
  | _ => none }
def DutyExactWrongFalsely : Prop := dutyExactRow.holds Tryz.pinned (OpenSpec.ofChange dutyExactWrong)

/-- 'pagewatchlaw12.StackExact': WHATEVER THE INPUT: true; the input reads as it did. -/
def stackExactSpec : ChangeSpec := { name := "stackExact", fn := fun _ => fun
  | [d1, d2, d3, d4, d5] => { results := [.lit (.bool true)], args := [d1, d2, d3, d4, d5] }
  | _ => none }
def stackExactRow : OpenClaim := { program := "ytllkgjaoejhneaagreat", sum := "13bdb2bf0ca3571b6fccb81ac845606bb51ba98489283ae7e457978c8fe96190", func := "pagewatch/pagewatchlaw12.StackExact", spec := "stackExact", unfollowed := true, recurses := true, apart := false }
def StackExactSaid : Prop := stackExactRow.holds Tryz.pinned (OpenSpec.ofChange stackExactSpec)

/-- ITS FALSE NEIGHBOUR: 'it returns false'. Refute it at one input. -/
def stackExactWrong : ChangeSpec := { name := "stackExact", fn := fun _ => fun
  | [d1, d2, d3, d4, d5] => { results := [.lit (.bool false)], args := [d1, d2, d3, d4, d5] }
  | _ => none }
def StackExactWrongFalsely : Prop := stackExactRow.holds Tryz.pinned (OpenSpec.ofChange stackExactWrong)

/- THE SECOND FORM. 'bulk': how many values and letters a reading holds, each counted each time it is reached (what is shared counts as often as it is met; a slice's spare places count too). A statement '..UptoSaid' is the law's where the arguments, and the package variables that the reading takes, are together of bulk at most 1048576: NARROWER than '..Said'. Prove '..Said' where nothing that the law and all that it calls make is longer than what came in: it says more and counts as full. Else prove '..UptoSaid'. A law counts once. -/
mutual
def uptoBulk {H : Type} : DataW H → Nat
  | .lit (.string bytes) => bytes.length + 1
  | .lit _ => 1
  | .nil => 1
  | .ptr d => uptoBulk d + 1
  | .slice elems spare => uptoBulkAll elems + uptoBulkAll spare + 1
  | .agg parts => uptoBulkAll parts + 1
  | .iface _ d => uptoBulk d + 1
  | .map entries => uptoBulkEntries entries + 1
  | .held _ => 1
def uptoBulkAll {H : Type} : List (DataW H) → Nat
  | [] => 0
  | d :: r => uptoBulk d + uptoBulkAll r
def uptoBulkEntries {H : Type} : List (Lit × DataW H) → Nat
  | [] => 0
  | x :: r => uptoBulkEntry x + uptoBulkEntries r
def uptoBulkEntry {H : Type} : Lit × DataW H → Nat
  | (.string bytes, d) => bytes.length + uptoBulk d + 1
  | (_, d) => uptoBulk d + 1
 end
def uptoSmall : (H : Type) → List (DataW H) → Bool := fun _ ds => decide (uptoBulkAll ds ≤ 1048576)
def OpenSpec.upto (s : _root_.Go.ChangeSpec) : _root_.Go.OpenSpec := { _root_.Go.OpenSpec.ofChange s with cond := some uptoSmall }

/-- 'pagewatchlaw13.EditExact', WHERE WHAT IT READS IS OF BULK AT MOST 1048576: true; the input reads as it did. -/
def editExactUptoRow : OpenClaim := { program := "ytllkgjaoejhneaagreat", sum := "13bdb2bf0ca3571b6fccb81ac845606bb51ba98489283ae7e457978c8fe96190", func := "pagewatch/pagewatchlaw13.EditExact", spec := "editExact", unfollowed := true, recurses := true, apart := false, narrowed := true }
def EditExactUptoSaid : Prop := editExactUptoRow.holds Tryz.pinned (OpenSpec.upto editExactSpec)

/-- 'pagewatchlaw16.CycleExact', WHERE WHAT IT READS IS OF BULK AT MOST 1048576: true; the input reads as it did. -/
def cycleExactUptoRow : OpenClaim := { program := "ytllkgjaoejhneaagreat", sum := "13bdb2bf0ca3571b6fccb81ac845606bb51ba98489283ae7e457978c8fe96190", func := "pagewatch/pagewatchlaw16.CycleExact", spec := "cycleExact", unfollowed := true, recurses := true, apart := false, narrowed := true }
def CycleExactUptoSaid : Prop := cycleExactUptoRow.holds Tryz.pinned (OpenSpec.upto cycleExactSpec)

/-- 'pagewatchlaw11.DutyExact', WHERE WHAT IT READS IS OF BULK AT MOST 1048576: true; the input reads as it did. -/
def dutyExactUptoRow : OpenClaim := { program := "ytllkgjaoejhneaagreat", sum := "13bdb2bf0ca3571b6fccb81ac845606bb51ba98489283ae7e457978c8fe96190", func := "pagewatch/pagewatchlaw11.DutyExact", spec := "dutyExact", unfollowed := true, recurses := true, apart := false, narrowed := true }
def DutyExactUptoSaid : Prop := dutyExactUptoRow.holds Tryz.pinned (OpenSpec.upto dutyExactSpec)

/-- 'pagewatchlaw12.StackExact', WHERE WHAT IT READS IS OF BULK AT MOST 1048576: true; the input reads as it did. -/
def stackExactUptoRow : OpenClaim := { program := "ytllkgjaoejhneaagreat", sum := "13bdb2bf0ca3571b6fccb81ac845606bb51ba98489283ae7e457978c8fe96190", func := "pagewatch/pagewatchlaw12.StackExact", spec := "stackExact", unfollowed := true, recurses := true, apart := false, narrowed := true }
def StackExactUptoSaid : Prop := stackExactUptoRow.holds Tryz.pinned (OpenSpec.upto stackExactSpec)

end Rows
end Go.Proofs.YtllkgjaoejhneaaGreat
