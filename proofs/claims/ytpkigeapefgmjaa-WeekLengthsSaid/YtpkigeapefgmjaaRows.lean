/-
  No cell of these rows narrows 'for every input' (looked for: loops, veiled, ifaces, maps, wideKeys, modest, calm, conditions, laid).
  DERIVED. THE GIVEN ROWS OF THIS SEAT. 7 by the template 'for every input the law returns true; each argument reads behind the call as it read before'; 0 by the template 'total and deterministic' (their statements: YtpkigeapefgmjaaTotals.lean).
  GIVEN WITH THE SEED: the statements are not yours to turn. If you find one false, say at which input.
  Laid BY PROGRAM, IN A SANDBOX (cutbox-rows.mjs): the forced cells as the released guide's own fill.sh prints them over the translation 4715367ee1bda2d4… (all of the seat's roots in one cut). By AI agents, Wed Nov 11 2026. No macro, syntax, notation, axiom, sorry.
-/
import Derived.Test.YtpkigeapefgmjaaChecked
import GoSem.Claim
import GoSem.ClaimJoined
import GoSem.ClaimMapViews
import Derived.JoinedTies
import Derived.KernelRfl
namespace Go.Proofs.Ytpkigeapefgmjaa
/- THE CELL 'sum', in the pinned program and in every row, IS THE sha256 OF THE DUMP (.gsa) THAT YtpkigeapefgmjaaProg.lean LOADS. Nothing in Lean hashes anything: it is a label: what it is worth is what the hold of that sum in a sandbox is worth. -/
noncomputable def Try.pinned : Pinned := { name := "ytpkigeapefgmjaa", sum := "4715367ee1bda2d42c1ae4e06a8e1027f64b754c6772d3111bf8fa20fb57b6ea", checked := Try.checked }
namespace Rows
def none {H : Type} : Left H := { results := [], args := [] }

/-- 'pagewatchlaw04.ZoneExact': WHATEVER THE INPUT: true; the input reads as it did. -/
def zoneExactSpec : ChangeSpec := { name := "zoneExact", fn := fun _ => fun
  | [d1, d2, d3, d4, d5] => { results := [.lit (.bool true)], args := [d1, d2, d3, d4, d5] }
  | _ => none }
def zoneExactRow : OpenClaim := { program := "ytpkigeapefgmjaa", sum := "4715367ee1bda2d42c1ae4e06a8e1027f64b754c6772d3111bf8fa20fb57b6ea", func := "pagewatch/pagewatchlaw04.ZoneExact", spec := "zoneExact", unfollowed := true, recurses := true, apart := false }
def ZoneExactSaid : Prop := zoneExactRow.holds Try.pinned (OpenSpec.ofChange zoneExactSpec)

/-- ITS FALSE NEIGHBOUR: 'it returns false'. Refute it at one input. -/
def zoneExactWrong : ChangeSpec := { name := "zoneExact", fn := fun _ => fun
  | [d1, d2, d3, d4, d5] => { results := [.lit (.bool false)], args := [d1, d2, d3, d4, d5] }
  | _ => none }
def ZoneExactWrongFalsely : Prop := zoneExactRow.holds Try.pinned (OpenSpec.ofChange zoneExactWrong)

/-- 'pagewatchlaw10.RecurSame': WHATEVER THE INPUT: true; the input reads as it did. -/
def recurSameSpec : ChangeSpec := { name := "recurSame", fn := fun _ => fun
  | [d1, d2] => { results := [.lit (.bool true)], args := [d1, d2] }
  | _ => none }
def recurSameRow : OpenClaim := { program := "ytpkigeapefgmjaa", sum := "4715367ee1bda2d42c1ae4e06a8e1027f64b754c6772d3111bf8fa20fb57b6ea", func := "pagewatch/pagewatchlaw10.RecurSame", spec := "recurSame", unfollowed := true, recurses := true, apart := false }
def RecurSameSaid : Prop := recurSameRow.holds Try.pinned (OpenSpec.ofChange recurSameSpec)

/-- ITS FALSE NEIGHBOUR: 'it returns false'. Refute it at one input. -/
def recurSameWrong : ChangeSpec := { name := "recurSame", fn := fun _ => fun
  | [d1, d2] => { results := [.lit (.bool false)], args := [d1, d2] }
  | _ => none }
def RecurSameWrongFalsely : Prop := recurSameRow.holds Try.pinned (OpenSpec.ofChange recurSameWrong)

/-- 'pagewatchlaw10.RecurCivil': WHATEVER THE INPUT: true; the input reads as it did. -/
def recurCivilSpec : ChangeSpec := { name := "recurCivil", fn := fun _ => fun
  | [d1, d2] => { results := [.lit (.bool true)], args := [d1, d2] }
  | _ => none }
def recurCivilRow : OpenClaim := { program := "ytpkigeapefgmjaa", sum := "4715367ee1bda2d42c1ae4e06a8e1027f64b754c6772d3111bf8fa20fb57b6ea", func := "pagewatch/pagewatchlaw10.RecurCivil", spec := "recurCivil", unfollowed := true, recurses := true, apart := false }
def RecurCivilSaid : Prop := recurCivilRow.holds Try.pinned (OpenSpec.ofChange recurCivilSpec)

/-- ITS FALSE NEIGHBOUR: 'it returns false'. Refute it at one input. -/
def recurCivilWrong : ChangeSpec := { name := "recurCivil", fn := fun _ => fun
  | [d1, d2] => { results := [.lit (.bool false)], args := [d1, d2] }
  | _ => none }
def RecurCivilWrongFalsely : Prop := recurCivilRow.holds Try.pinned (OpenSpec.ofChange recurCivilWrong)

/-- 'pagewatchlaw10.RecurExact': WHATEVER THE INPUT: true; the input reads as it did. -/
def recurExactSpec : ChangeSpec := { name := "recurExact", fn := fun _ => fun
  | [d1, d2, d3, d4, d5] => { results := [.lit (.bool true)], args := [d1, d2, d3, d4, d5] }
  | _ => none }
def recurExactRow : OpenClaim := { program := "ytpkigeapefgmjaa", sum := "4715367ee1bda2d42c1ae4e06a8e1027f64b754c6772d3111bf8fa20fb57b6ea", func := "pagewatch/pagewatchlaw10.RecurExact", spec := "recurExact", unfollowed := true, recurses := true, apart := false }
def RecurExactSaid : Prop := recurExactRow.holds Try.pinned (OpenSpec.ofChange recurExactSpec)

/-- ITS FALSE NEIGHBOUR: 'it returns false'. Refute it at one input. -/
def recurExactWrong : ChangeSpec := { name := "recurExact", fn := fun _ => fun
  | [d1, d2, d3, d4, d5] => { results := [.lit (.bool false)], args := [d1, d2, d3, d4, d5] }
  | _ => none }
def RecurExactWrongFalsely : Prop := recurExactRow.holds Try.pinned (OpenSpec.ofChange recurExactWrong)

/-- 'pagewatchlaw05.WeekTimes': WHATEVER THE INPUT: true; the input reads as it did. -/
def weekTimesSpec : ChangeSpec := { name := "weekTimes", fn := fun _ => fun
  | [d1, d2] => { results := [.lit (.bool true)], args := [d1, d2] }
  | _ => none }
def weekTimesRow : OpenClaim := { program := "ytpkigeapefgmjaa", sum := "4715367ee1bda2d42c1ae4e06a8e1027f64b754c6772d3111bf8fa20fb57b6ea", func := "pagewatch/pagewatchlaw05.WeekTimes", spec := "weekTimes", unfollowed := true, recurses := true, apart := false }
def WeekTimesSaid : Prop := weekTimesRow.holds Try.pinned (OpenSpec.ofChange weekTimesSpec)

/-- ITS FALSE NEIGHBOUR: 'it returns false'. Refute it at one input. -/
def weekTimesWrong : ChangeSpec := { name := "weekTimes", fn := fun _ => fun
  | [d1, d2] => { results := [.lit (.bool false)], args := [d1, d2] }
  | _ => none }
def WeekTimesWrongFalsely : Prop := weekTimesRow.holds Try.pinned (OpenSpec.ofChange weekTimesWrong)

/-- 'pagewatchlaw05.WeekLimits': WHATEVER THE INPUT: true; the input reads as it did. -/
def weekLimitsSpec : ChangeSpec := { name := "weekLimits", fn := fun _ => fun
  | [d] => { results := [.lit (.bool true)], args := [d] }
  | _ => none }
def weekLimitsRow : OpenClaim := { program := "ytpkigeapefgmjaa", sum := "4715367ee1bda2d42c1ae4e06a8e1027f64b754c6772d3111bf8fa20fb57b6ea", func := "pagewatch/pagewatchlaw05.WeekLimits", spec := "weekLimits", unfollowed := true, recurses := true, apart := false }
def WeekLimitsSaid : Prop := weekLimitsRow.holds Try.pinned (OpenSpec.ofChange weekLimitsSpec)

/-- ITS FALSE NEIGHBOUR: 'it returns false'. Refute it at one input. -/
def weekLimitsWrong : ChangeSpec := { name := "weekLimits", fn := fun _ => fun
  | [d] => { results := [.lit (.bool false)], args := [d] }
  | _ => none }
def WeekLimitsWrongFalsely : Prop := weekLimitsRow.holds Try.pinned (OpenSpec.ofChange weekLimitsWrong)

/-- 'pagewatchlaw05.WeekLengths': WHATEVER THE INPUT: true; the input reads as it did. -/
def weekLengthsSpec : ChangeSpec := { name := "weekLengths", fn := fun _ => fun
  | [d] => { results := [.lit (.bool true)], args := [d] }
  | _ => none }
def weekLengthsRow : OpenClaim := { program := "ytpkigeapefgmjaa", sum := "4715367ee1bda2d42c1ae4e06a8e1027f64b754c6772d3111bf8fa20fb57b6ea", func := "pagewatch/pagewatchlaw05.WeekLengths", spec := "weekLengths", unfollowed := true, recurses := true, apart := false }
def WeekLengthsSaid : Prop := weekLengthsRow.holds Try.pinned (OpenSpec.ofChange weekLengthsSpec)

/-- ITS FALSE NEIGHBOUR: 'it returns false'. Refute it at one input. -/
def weekLengthsWrong : ChangeSpec := { name := "weekLengths", fn := fun _ => fun
  | [d] => { results := [.lit (.bool false)], args := [d] }
  | _ => none }
def WeekLengthsWrongFalsely : Prop := weekLengthsRow.holds Try.pinned (OpenSpec.ofChange weekLengthsWrong)

/- THE SECOND FORM. 'bulk': how many values and letters a reading holds, each counted each time it is reached (what is shared counts as often as it is met; a slice's spare places count too). A statement '..UptoSaid' is the law's where the arguments, and the package variables that the reading takes, are together of bulk at most 1048576: NARROWER than '..Said'. Prove '..Said' where nothing that the law and all that it calls make is longer than what came in: it says more and counts as full. Else prove '..UptoSaid'. A law counts once. -/
mutual
def uptoBulk {H : Type} : DataW H → Nat
  | .lit (.string bytes) => bytes.length + 1
  | .lit _ => 1
  | .nil => 1
  | .ptr d => uptoBulk d + 1
  | .slice elems spare => uptoBulkAll elems + uptoBulkAll spare + 1
  | .agg parts => uptoBulkAll parts + 1
  | .iface _ d => uptoBulk d + 1
  | .map entries => uptoBulkEntries entries + 1
  | .held _ => 1
def uptoBulkAll {H : Type} : List (DataW H) → Nat
  | [] => 0
  | d :: r => uptoBulk d + uptoBulkAll r
def uptoBulkEntries {H : Type} : List (Lit × DataW H) → Nat
  | [] => 0
  | x :: r => uptoBulkEntry x + uptoBulkEntries r
def uptoBulkEntry {H : Type} : Lit × DataW H → Nat
  | (.string bytes, d) => bytes.length + uptoBulk d + 1
  | (_, d) => uptoBulk d + 1
 end
def uptoSmall : (H : Type) → List (DataW H) → Bool := fun _ ds => decide (uptoBulkAll ds ≤ 1048576)
def OpenSpec.upto (s : _root_.Go.ChangeSpec) : _root_.Go.OpenSpec := { _root_.Go.OpenSpec.ofChange s with cond := some uptoSmall }

/-- 'pagewatchlaw04.ZoneExact', WHERE WHAT IT READS IS OF BULK AT MOST 1048576: true; the input reads as it did. -/
def zoneExactUptoRow : OpenClaim := { program := "ytpkigeapefgmjaa", sum := "4715367ee1bda2d42c1ae4e06a8e1027f64b754c6772d3111bf8fa20fb57b6ea", func := "pagewatch/pagewatchlaw04.ZoneExact", spec := "zoneExact", unfollowed := true, recurses := true, apart := false, narrowed := true }
def ZoneExactUptoSaid : Prop := zoneExactUptoRow.holds Try.pinned (OpenSpec.upto zoneExactSpec)

/-- 'pagewatchlaw10.RecurSame', WHERE WHAT IT READS IS OF BULK AT MOST 1048576: true; the input reads as it did. -/
def recurSameUptoRow : OpenClaim := { program := "ytpkigeapefgmjaa", sum := "4715367ee1bda2d42c1ae4e06a8e1027f64b754c6772d3111bf8fa20fb57b6ea", func := "pagewatch/pagewatchlaw10.RecurSame", spec := "recurSame", unfollowed := true, recurses := true, apart := false, narrowed := true }
def RecurSameUptoSaid : Prop := recurSameUptoRow.holds Try.pinned (OpenSpec.upto recurSameSpec)

/-- 'pagewatchlaw10.RecurCivil', WHERE WHAT IT READS IS OF BULK AT MOST 1048576: true; the input reads as it did. -/
def recurCivilUptoRow : OpenClaim := { program := "ytpkigeapefgmjaa", sum := "4715367ee1bda2d42c1ae4e06a8e1027f64b754c6772d3111bf8fa20fb57b6ea", func := "pagewatch/pagewatchlaw10.RecurCivil", spec := "recurCivil", unfollowed := true, recurses := true, apart := false, narrowed := true }
def RecurCivilUptoSaid : Prop := recurCivilUptoRow.holds Try.pinned (OpenSpec.upto recurCivilSpec)

/-- 'pagewatchlaw10.RecurExact', WHERE WHAT IT READS IS OF BULK AT MOST 1048576: true; the input reads as it did. -/
def recurExactUptoRow : OpenClaim := { program := "ytpkigeapefgmjaa", sum := "4715367ee1bda2d42c1ae4e06a8e1027f64b754c6772d3111bf8fa20fb57b6ea", func := "pagewatch/pagewatchlaw10.RecurExact", spec := "recurExact", unfollowed := true, recurses := true, apart := false, narrowed := true }
def RecurExactUptoSaid : Prop := recurExactUptoRow.holds Try.pinned (OpenSpec.upto recurExactSpec)

/-- 'pagewatchlaw05.WeekTimes', WHERE WHAT IT READS IS OF BULK AT MOST 1048576: true; the input reads as it did. -/
def weekTimesUptoRow : OpenClaim := { program := "ytpkigeapefgmjaa", sum := "4715367ee1bda2d42c1ae4e06a8e1027f64b754c6772d3111bf8fa20fb57b6ea", func := "pagewatch/pagewatchlaw05.WeekTimes", spec := "weekTimes", unfollowed := true, recurses := true, apart := false, narrowed := true }
def WeekTimesUptoSaid : Prop := weekTimesUptoRow.holds Try.pinned (OpenSpec.upto weekTimesSpec)

/-- 'pagewatchlaw05.WeekLimits', WHERE WHAT IT READS IS OF BULK AT MOST 1048576: true; the input reads as it did. -/
def weekLimitsUptoRow : OpenClaim := { program := "ytpkigeapefgmjaa", sum := "4715367ee1bda2d42c1ae4e06a8e1027f64b754c6772d3111bf8fa20fb57b6ea", func := "pagewatch/pagewatchlaw05.WeekLimits", spec := "weekLimits", unfollowed := true, recurses := true, apart := false, narrowed := true }
def WeekLimitsUptoSaid : Prop := weekLimitsUptoRow.holds Try.pinned (OpenSpec.upto weekLimitsSpec)

/-- 'pagewatchlaw05.WeekLengths', WHERE WHAT IT READS IS OF BULK AT MOST 1048576: true; the input reads as it did. -/
def weekLengthsUptoRow : OpenClaim := { program := "ytpkigeapefgmjaa", sum := "4715367ee1bda2d42c1ae4e06a8e1027f64b754c6772d3111bf8fa20fb57b6ea", func := "pagewatch/pagewatchlaw05.WeekLengths", spec := "weekLengths", unfollowed := true, recurses := true, apart := false, narrowed := true }
def WeekLengthsUptoSaid : Prop := weekLengthsUptoRow.holds Try.pinned (OpenSpec.upto weekLengthsSpec)

end Rows
end Go.Proofs.Ytpkigeapefgmjaa
