/-
  No cell of these rows narrows 'for every input' (looked for: loops, veiled, ifaces, maps, wideKeys, modest, calm, conditions, laid).
  DERIVED. THE GIVEN ROWS OF THIS SEAT. 5 by the template 'for every input the law returns true; each argument reads behind the call as it read before'; 0 by the template 'total and deterministic' (their statements: YtdmkadcjemkadaaTotals.lean).
  GIVEN WITH THE SEED: the statements are not yours to turn. If you find one false, say at which input.
  Laid BY PROGRAM, IN A SANDBOX (cutbox-rows.mjs): the forced cells as the released guide's own fill.sh prints them over the translation 8df215edc4d6ca9f… (all of the seat's roots in one cut). By AI agents, Wed Nov 11 2026. No macro, syntax, notation, axiom, sorry.
-/
import Derived.Test.YtdmkadcjemkadaaChecked
import GoSem.Claim
import GoSem.ClaimJoined
import GoSem.ClaimMapViews
import Derived.JoinedTies
import Derived.KernelRfl
namespace Go.Proofs.Ytdmkadcjemkadaa
/- THE CELL 'sum', in the pinned program and in every row, IS THE sha256 OF THE DUMP (.gsa) THAT YtdmkadcjemkadaaProg.lean LOADS. Nothing in Lean hashes anything: it is a label: what it is worth is what the hold of that sum in a sandbox is worth. -/
noncomputable def Try.pinned : Pinned := { name := "ytdmkadcjemkadaa", sum := "8df215edc4d6ca9f2458ffdb9829daf289e8cf087031d10e50a52dc893dcac77", checked := Try.checked }
namespace Rows
def none {H : Type} : Left H := { results := [], args := [] }

/-- 'pagewatchlaw01.CivilNth': WHATEVER THE INPUT: true; the input reads as it did. -/
def civilNthSpec : ChangeSpec := { name := "civilNth", fn := fun _ => fun
  | [d1, d2, d3] => { results := [.lit (.bool true)], args := [d1, d2, d3] }
  | _ => none }
def civilNthRow : OpenClaim := { program := "ytdmkadcjemkadaa", sum := "8df215edc4d6ca9f2458ffdb9829daf289e8cf087031d10e50a52dc893dcac77", func := "pagewatch/pagewatchlaw01.CivilNth", spec := "civilNth", apart := false }
def CivilNthSaid : Prop := civilNthRow.holds Try.pinned (OpenSpec.ofChange civilNthSpec)

/-- ITS FALSE NEIGHBOUR: 'it returns false'. Refute it at one input. -/
def civilNthWrong : ChangeSpec := { name := "civilNth", fn := fun _ => fun
  | [d1, d2, d3] => { results := [.lit (.bool false)], args := [d1, d2, d3] }
  | _ => none }
def CivilNthWrongFalsely : Prop := civilNthRow.holds Try.pinned (OpenSpec.ofChange civilNthWrong)

/-- 'pagewatchlaw01.CivilExact': WHATEVER THE INPUT: true; the input reads as it did. -/
def civilExactSpec : ChangeSpec := { name := "civilExact", fn := fun _ => fun
  | [d1, d2, d3, d4] => { results := [.lit (.bool true)], args := [d1, d2, d3, d4] }
  | _ => none }
def civilExactRow : OpenClaim := { program := "ytdmkadcjemkadaa", sum := "8df215edc4d6ca9f2458ffdb9829daf289e8cf087031d10e50a52dc893dcac77", func := "pagewatch/pagewatchlaw01.CivilExact", spec := "civilExact", apart := false }
def CivilExactSaid : Prop := civilExactRow.holds Try.pinned (OpenSpec.ofChange civilExactSpec)

/-- ITS FALSE NEIGHBOUR: 'it returns false'. Refute it at one input. -/
def civilExactWrong : ChangeSpec := { name := "civilExact", fn := fun _ => fun
  | [d1, d2, d3, d4] => { results := [.lit (.bool false)], args := [d1, d2, d3, d4] }
  | _ => none }
def CivilExactWrongFalsely : Prop := civilExactRow.holds Try.pinned (OpenSpec.ofChange civilExactWrong)

/-- 'pagewatchlaw01.CivilBack': WHATEVER THE INPUT: true; the input reads as it did. -/
def civilBackSpec : ChangeSpec := { name := "civilBack", fn := fun _ => fun
  | [d] => { results := [.lit (.bool true)], args := [d] }
  | _ => none }
def civilBackRow : OpenClaim := { program := "ytdmkadcjemkadaa", sum := "8df215edc4d6ca9f2458ffdb9829daf289e8cf087031d10e50a52dc893dcac77", func := "pagewatch/pagewatchlaw01.CivilBack", spec := "civilBack", apart := false }
def CivilBackSaid : Prop := civilBackRow.holds Try.pinned (OpenSpec.ofChange civilBackSpec)

/-- ITS FALSE NEIGHBOUR: 'it returns false'. Refute it at one input. -/
def civilBackWrong : ChangeSpec := { name := "civilBack", fn := fun _ => fun
  | [d] => { results := [.lit (.bool false)], args := [d] }
  | _ => none }
def CivilBackWrongFalsely : Prop := civilBackRow.holds Try.pinned (OpenSpec.ofChange civilBackWrong)

/-- 'pagewatchlaw01.CivilMonths': WHATEVER THE INPUT: true; the input reads as it did. -/
def civilMonthsSpec : ChangeSpec := { name := "civilMonths", fn := fun _ => fun
  | [d1, d2, d3] => { results := [.lit (.bool true)], args := [d1, d2, d3] }
  | _ => none }
def civilMonthsRow : OpenClaim := { program := "ytdmkadcjemkadaa", sum := "8df215edc4d6ca9f2458ffdb9829daf289e8cf087031d10e50a52dc893dcac77", func := "pagewatch/pagewatchlaw01.CivilMonths", spec := "civilMonths", apart := false }
def CivilMonthsSaid : Prop := civilMonthsRow.holds Try.pinned (OpenSpec.ofChange civilMonthsSpec)

/-- ITS FALSE NEIGHBOUR: 'it returns false'. Refute it at one input. -/
def civilMonthsWrong : ChangeSpec := { name := "civilMonths", fn := fun _ => fun
  | [d1, d2, d3] => { results := [.lit (.bool false)], args := [d1, d2, d3] }
  | _ => none }
def CivilMonthsWrongFalsely : Prop := civilMonthsRow.holds Try.pinned (OpenSpec.ofChange civilMonthsWrong)

/-- 'pagewatchlaw01.CivilWeeks': WHATEVER THE INPUT: true; the input reads as it did. -/
def civilWeeksSpec : ChangeSpec := { name := "civilWeeks", fn := fun _ => fun
  | [d] => { results := [.lit (.bool true)], args := [d] }
  | _ => none }
def civilWeeksRow : OpenClaim := { program := "ytdmkadcjemkadaa", sum := "8df215edc4d6ca9f2458ffdb9829daf289e8cf087031d10e50a52dc893dcac77", func := "pagewatch/pagewatchlaw01.CivilWeeks", spec := "civilWeeks", apart := false }
def CivilWeeksSaid : Prop := civilWeeksRow.holds Try.pinned (OpenSpec.ofChange civilWeeksSpec)

/-- ITS FALSE NEIGHBOUR: 'it returns false'. Refute it at one input. -/
def civilWeeksWrong : ChangeSpec := { name := "civilWeeks", fn := fun _ => fun
  | [d] => { results := [.lit (.bool false)], args := [d] }
  | _ => none }
def CivilWeeksWrongFalsely : Prop := civilWeeksRow.holds Try.pinned (OpenSpec.ofChange civilWeeksWrong)

/- THE SECOND FORM. 'bulk': how many values and letters a reading holds, each counted each time it is reached (what is shared counts as often as it is met; a slice's spare places count too). A statement '..UptoSaid' is the law's where the arguments, and the package variables that the reading takes, are together of bulk at most 1048576: NARROWER than '..Said'. Prove '..Said' where nothing that the law and all that it calls make is longer than what came in: it says more and counts as full. Else prove '..UptoSaid'. A law counts once. -/
mutual
def uptoBulk {H : Type} : DataW H → Nat
  | .lit (.string bytes) => bytes.length + 1
  | .lit _ => 1
  | .nil => 1
  | .ptr d => uptoBulk d + 1
  | .slice elems spare => uptoBulkAll elems + uptoBulkAll spare + 1
  | .agg parts => uptoBulkAll parts + 1
  | .iface _ d => uptoBulk d + 1
  | .map entries => uptoBulkEntries entries + 1
  | .held _ => 1
def uptoBulkAll {H : Type} : List (DataW H) → Nat
  | [] => 0
  | d :: r => uptoBulk d + uptoBulkAll r
def uptoBulkEntries {H : Type} : List (Lit × DataW H) → Nat
  | [] => 0
  | x :: r => uptoBulkEntry x + uptoBulkEntries r
def uptoBulkEntry {H : Type} : Lit × DataW H → Nat
  | (.string bytes, d) => bytes.length + uptoBulk d + 1
  | (_, d) => uptoBulk d + 1
 end
def uptoSmall : (H : Type) → List (DataW H) → Bool := fun _ ds => decide (uptoBulkAll ds ≤ 1048576)
def OpenSpec.upto (s : _root_.Go.ChangeSpec) : _root_.Go.OpenSpec := { _root_.Go.OpenSpec.ofChange s with cond := some uptoSmall }

/-- 'pagewatchlaw01.CivilNth', WHERE WHAT IT READS IS OF BULK AT MOST 1048576: true; the input reads as it did. -/
def civilNthUptoRow : OpenClaim := { program := "ytdmkadcjemkadaa", sum := "8df215edc4d6ca9f2458ffdb9829daf289e8cf087031d10e50a52dc893dcac77", func := "pagewatch/pagewatchlaw01.CivilNth", spec := "civilNth", apart := false, narrowed := true }
def CivilNthUptoSaid : Prop := civilNthUptoRow.holds Try.pinned (OpenSpec.upto civilNthSpec)

/-- 'pagewatchlaw01.CivilExact', WHERE WHAT IT READS IS OF BULK AT MOST 1048576: true; the input reads as it did. -/
def civilExactUptoRow : OpenClaim := { program := "ytdmkadcjemkadaa", sum := "8df215edc4d6ca9f2458ffdb9829daf289e8cf087031d10e50a52dc893dcac77", func := "pagewatch/pagewatchlaw01.CivilExact", spec := "civilExact", apart := false, narrowed := true }
def CivilExactUptoSaid : Prop := civilExactUptoRow.holds Try.pinned (OpenSpec.upto civilExactSpec)

/-- 'pagewatchlaw01.CivilBack', WHERE WHAT IT READS IS OF BULK AT MOST 1048576: true; the input reads as it did. -/
def civilBackUptoRow : OpenClaim := { program := "ytdmkadcjemkadaa", sum := "8df215edc4d6ca9f2458ffdb9829daf289e8cf087031d10e50a52dc893dcac77", func := "pagewatch/pagewatchlaw01.CivilBack", spec := "civilBack", apart := false, narrowed := true }
def CivilBackUptoSaid : Prop := civilBackUptoRow.holds Try.pinned (OpenSpec.upto civilBackSpec)

/-- 'pagewatchlaw01.CivilMonths', WHERE WHAT IT READS IS OF BULK AT MOST 1048576: true; the input reads as it did. -/
def civilMonthsUptoRow : OpenClaim := { program := "ytdmkadcjemkadaa", sum := "8df215edc4d6ca9f2458ffdb9829daf289e8cf087031d10e50a52dc893dcac77", func := "pagewatch/pagewatchlaw01.CivilMonths", spec := "civilMonths", apart := false, narrowed := true }
def CivilMonthsUptoSaid : Prop := civilMonthsUptoRow.holds Try.pinned (OpenSpec.upto civilMonthsSpec)

/-- 'pagewatchlaw01.CivilWeeks', WHERE WHAT IT READS IS OF BULK AT MOST 1048576: true; the input reads as it did. -/
def civilWeeksUptoRow : OpenClaim := { program := "ytdmkadcjemkadaa", sum := "8df215edc4d6ca9f2458ffdb9829daf289e8cf087031d10e50a52dc893dcac77", func := "pagewatch/pagewatchlaw01.CivilWeeks", spec := "civilWeeks", apart := false, narrowed := true }
def CivilWeeksUptoSaid : Prop := civilWeeksUptoRow.holds Try.pinned (OpenSpec.upto civilWeeksSpec)

end Rows
end Go.Proofs.Ytdmkadcjemkadaa
