/-
  No cell of these rows narrows 'for every input' (looked for: loops, veiled, ifaces, maps, wideKeys, modest, calm, conditions, laid).
  DERIVED. THE GIVEN ROWS OF THIS SEAT. 15 by the template 'for every input the law returns true; each argument reads behind the call as it read before'; 0 by the template 'total and deterministic' (their statements: YtngdgmapbahdgaaTotals.lean).
  GIVEN WITH THE SEED: the statements are not yours to turn. If you find one false, say at which input.
  Laid BY PROGRAM, IN A SANDBOX (cutbox-rows.mjs): the forced cells as the released guide's own fill.sh prints them over the translation d33e860940e627f1… (all of the seat's roots in one cut). By AI agents, Wed Nov 11 2026. No macro, syntax, notation, axiom, sorry.
-/
import Derived.Test.YtngdgmapbahdgaaChecked
import GoSem.Claim
import GoSem.ClaimJoined
import GoSem.ClaimMapViews
import Derived.JoinedTies
import Derived.KernelRfl
namespace Go.Proofs.Ytngdgmapbahdgaa
/- THE CELL 'sum', in the pinned program and in every row, IS THE sha256 OF THE DUMP (.gsa) THAT YtngdgmapbahdgaaProg.lean LOADS. Nothing in Lean hashes anything: it is a label: what it is worth is what the hold of that sum in a sandbox is worth. -/
noncomputable def Try.pinned : Pinned := { name := "ytngdgmapbahdgaa", sum := "d33e860940e627f1ed7fea2e26f6ef30b2848035799cae345c8cb259600c9165", checked := Try.checked }
namespace Rows
def none {H : Type} : Left H := { results := [], args := [] }

/-- 'pagewatchlaw04.ZoneBack': WHATEVER THE INPUT: true; the input reads as it did. -/
def zoneBackSpec : ChangeSpec := { name := "zoneBack", fn := fun _ => fun
  | [d1, d2] => { results := [.lit (.bool true)], args := [d1, d2] }
  | _ => none }
def zoneBackRow : OpenClaim := { program := "ytngdgmapbahdgaa", sum := "d33e860940e627f1ed7fea2e26f6ef30b2848035799cae345c8cb259600c9165", func := "pagewatch/pagewatchlaw04.ZoneBack", spec := "zoneBack", unfollowed := true, recurses := true, apart := false }
def ZoneBackSaid : Prop := zoneBackRow.holds Try.pinned (OpenSpec.ofChange zoneBackSpec)

/-- ITS FALSE NEIGHBOUR: 'it returns false'. Refute it at one input. -/
def zoneBackWrong : ChangeSpec := { name := "zoneBack", fn := fun _ => fun
  | [d1, d2] => { results := [.lit (.bool false)], args := [d1, d2] }
  | _ => none }
def ZoneBackWrongFalsely : Prop := zoneBackRow.holds Try.pinned (OpenSpec.ofChange zoneBackWrong)

/-- 'pagewatchlaw04.ZoneAscends': WHATEVER THE INPUT: true; the input reads as it did. -/
def zoneAscendsSpec : ChangeSpec := { name := "zoneAscends", fn := fun _ => fun
  | [d1, d2, d3] => { results := [.lit (.bool true)], args := [d1, d2, d3] }
  | _ => none }
def zoneAscendsRow : OpenClaim := { program := "ytngdgmapbahdgaa", sum := "d33e860940e627f1ed7fea2e26f6ef30b2848035799cae345c8cb259600c9165", func := "pagewatch/pagewatchlaw04.ZoneAscends", spec := "zoneAscends", unfollowed := true, recurses := true, apart := false }
def ZoneAscendsSaid : Prop := zoneAscendsRow.holds Try.pinned (OpenSpec.ofChange zoneAscendsSpec)

/-- ITS FALSE NEIGHBOUR: 'it returns false'. Refute it at one input. -/
def zoneAscendsWrong : ChangeSpec := { name := "zoneAscends", fn := fun _ => fun
  | [d1, d2, d3] => { results := [.lit (.bool false)], args := [d1, d2, d3] }
  | _ => none }
def ZoneAscendsWrongFalsely : Prop := zoneAscendsRow.holds Try.pinned (OpenSpec.ofChange zoneAscendsWrong)

/-- 'pagewatchlaw05.WeekInverts': WHATEVER THE INPUT: true; the input reads as it did. -/
def weekInvertsSpec : ChangeSpec := { name := "weekInverts", fn := fun _ => fun
  | [d1, d2] => { results := [.lit (.bool true)], args := [d1, d2] }
  | _ => none }
def weekInvertsRow : OpenClaim := { program := "ytngdgmapbahdgaa", sum := "d33e860940e627f1ed7fea2e26f6ef30b2848035799cae345c8cb259600c9165", func := "pagewatch/pagewatchlaw05.WeekInverts", spec := "weekInverts", unfollowed := true, recurses := true, apart := false }
def WeekInvertsSaid : Prop := weekInvertsRow.holds Try.pinned (OpenSpec.ofChange weekInvertsSpec)

/-- ITS FALSE NEIGHBOUR: 'it returns false'. Refute it at one input. -/
def weekInvertsWrong : ChangeSpec := { name := "weekInverts", fn := fun _ => fun
  | [d1, d2] => { results := [.lit (.bool false)], args := [d1, d2] }
  | _ => none }
def WeekInvertsWrongFalsely : Prop := weekInvertsRow.holds Try.pinned (OpenSpec.ofChange weekInvertsWrong)

/-- 'pagewatchlaw04.ZoneLimits': WHATEVER THE INPUT: true; the input reads as it did. -/
def zoneLimitsSpec : ChangeSpec := { name := "zoneLimits", fn := fun _ => fun
  | [d] => { results := [.lit (.bool true)], args := [d] }
  | _ => none }
def zoneLimitsRow : OpenClaim := { program := "ytngdgmapbahdgaa", sum := "d33e860940e627f1ed7fea2e26f6ef30b2848035799cae345c8cb259600c9165", func := "pagewatch/pagewatchlaw04.ZoneLimits", spec := "zoneLimits", unfollowed := true, recurses := true, apart := false }
def ZoneLimitsSaid : Prop := zoneLimitsRow.holds Try.pinned (OpenSpec.ofChange zoneLimitsSpec)

/-- ITS FALSE NEIGHBOUR: 'it returns false'. Refute it at one input. -/
def zoneLimitsWrong : ChangeSpec := { name := "zoneLimits", fn := fun _ => fun
  | [d] => { results := [.lit (.bool false)], args := [d] }
  | _ => none }
def ZoneLimitsWrongFalsely : Prop := zoneLimitsRow.holds Try.pinned (OpenSpec.ofChange zoneLimitsWrong)

/-- 'pagewatchlaw04.ZoneRules': WHATEVER THE INPUT: true; the input reads as it did. -/
def zoneRulesSpec : ChangeSpec := { name := "zoneRules", fn := fun _ => fun
  | [d1, d2] => { results := [.lit (.bool true)], args := [d1, d2] }
  | _ => none }
def zoneRulesRow : OpenClaim := { program := "ytngdgmapbahdgaa", sum := "d33e860940e627f1ed7fea2e26f6ef30b2848035799cae345c8cb259600c9165", func := "pagewatch/pagewatchlaw04.ZoneRules", spec := "zoneRules", unfollowed := true, recurses := true, apart := false }
def ZoneRulesSaid : Prop := zoneRulesRow.holds Try.pinned (OpenSpec.ofChange zoneRulesSpec)

/-- ITS FALSE NEIGHBOUR: 'it returns false'. Refute it at one input. -/
def zoneRulesWrong : ChangeSpec := { name := "zoneRules", fn := fun _ => fun
  | [d1, d2] => { results := [.lit (.bool false)], args := [d1, d2] }
  | _ => none }
def ZoneRulesWrongFalsely : Prop := zoneRulesRow.holds Try.pinned (OpenSpec.ofChange zoneRulesWrong)

/-- 'pagewatchlaw04.ZoneLeaps': WHATEVER THE INPUT: true; the input reads as it did. -/
def zoneLeapsSpec : ChangeSpec := { name := "zoneLeaps", fn := fun _ => fun
  | [d1, d2, d3] => { results := [.lit (.bool true)], args := [d1, d2, d3] }
  | _ => none }
def zoneLeapsRow : OpenClaim := { program := "ytngdgmapbahdgaa", sum := "d33e860940e627f1ed7fea2e26f6ef30b2848035799cae345c8cb259600c9165", func := "pagewatch/pagewatchlaw04.ZoneLeaps", spec := "zoneLeaps", unfollowed := true, recurses := true, apart := false }
def ZoneLeapsSaid : Prop := zoneLeapsRow.holds Try.pinned (OpenSpec.ofChange zoneLeapsSpec)

/-- ITS FALSE NEIGHBOUR: 'it returns false'. Refute it at one input. -/
def zoneLeapsWrong : ChangeSpec := { name := "zoneLeaps", fn := fun _ => fun
  | [d1, d2, d3] => { results := [.lit (.bool false)], args := [d1, d2, d3] }
  | _ => none }
def ZoneLeapsWrongFalsely : Prop := zoneLeapsRow.holds Try.pinned (OpenSpec.ofChange zoneLeapsWrong)

/-- 'pagewatchlaw04.ZoneExact': WHATEVER THE INPUT: true; the input reads as it did. -/
def zoneExactSpec : ChangeSpec := { name := "zoneExact", fn := fun _ => fun
  | [d1, d2, d3, d4, d5] => { results := [.lit (.bool true)], args := [d1, d2, d3, d4, d5] }
  | _ => none }
def zoneExactRow : OpenClaim := { program := "ytngdgmapbahdgaa", sum := "d33e860940e627f1ed7fea2e26f6ef30b2848035799cae345c8cb259600c9165", func := "pagewatch/pagewatchlaw04.ZoneExact", spec := "zoneExact", unfollowed := true, recurses := true, apart := false }
def ZoneExactSaid : Prop := zoneExactRow.holds Try.pinned (OpenSpec.ofChange zoneExactSpec)

/-- ITS FALSE NEIGHBOUR: 'it returns false'. Refute it at one input. -/
def zoneExactWrong : ChangeSpec := { name := "zoneExact", fn := fun _ => fun
  | [d1, d2, d3, d4, d5] => { results := [.lit (.bool false)], args := [d1, d2, d3, d4, d5] }
  | _ => none }
def ZoneExactWrongFalsely : Prop := zoneExactRow.holds Try.pinned (OpenSpec.ofChange zoneExactWrong)

/-- 'pagewatchlaw10.RecurSame': WHATEVER THE INPUT: true; the input reads as it did. -/
def recurSameSpec : ChangeSpec := { name := "recurSame", fn := fun _ => fun
  | [d1, d2] => { results := [.lit (.bool true)], args := [d1, d2] }
  | _ => none }
def recurSameRow : OpenClaim := { program := "ytngdgmapbahdgaa", sum := "d33e860940e627f1ed7fea2e26f6ef30b2848035799cae345c8cb259600c9165", func := "pagewatch/pagewatchlaw10.RecurSame", spec := "recurSame", unfollowed := true, recurses := true, apart := false }
def RecurSameSaid : Prop := recurSameRow.holds Try.pinned (OpenSpec.ofChange recurSameSpec)

/-- ITS FALSE NEIGHBOUR: 'it returns false'. Refute it at one input. -/
def recurSameWrong : ChangeSpec := { name := "recurSame", fn := fun _ => fun
  | [d1, d2] => { results := [.lit (.bool false)], args := [d1, d2] }
  | _ => none }
def RecurSameWrongFalsely : Prop := recurSameRow.holds Try.pinned (OpenSpec.ofChange recurSameWrong)

/-- 'pagewatchlaw10.RecurAscends': WHATEVER THE INPUT: true; the input reads as it did. -/
def recurAscendsSpec : ChangeSpec := { name := "recurAscends", fn := fun _ => fun
  | [d1, d2] => { results := [.lit (.bool true)], args := [d1, d2] }
  | _ => none }
def recurAscendsRow : OpenClaim := { program := "ytngdgmapbahdgaa", sum := "d33e860940e627f1ed7fea2e26f6ef30b2848035799cae345c8cb259600c9165", func := "pagewatch/pagewatchlaw10.RecurAscends", spec := "recurAscends", unfollowed := true, recurses := true, apart := false }
def RecurAscendsSaid : Prop := recurAscendsRow.holds Try.pinned (OpenSpec.ofChange recurAscendsSpec)

/-- ITS FALSE NEIGHBOUR: 'it returns false'. Refute it at one input. -/
def recurAscendsWrong : ChangeSpec := { name := "recurAscends", fn := fun _ => fun
  | [d1, d2] => { results := [.lit (.bool false)], args := [d1, d2] }
  | _ => none }
def RecurAscendsWrongFalsely : Prop := recurAscendsRow.holds Try.pinned (OpenSpec.ofChange recurAscendsWrong)

/-- 'pagewatchlaw10.RecurCivil': WHATEVER THE INPUT: true; the input reads as it did. -/
def recurCivilSpec : ChangeSpec := { name := "recurCivil", fn := fun _ => fun
  | [d1, d2] => { results := [.lit (.bool true)], args := [d1, d2] }
  | _ => none }
def recurCivilRow : OpenClaim := { program := "ytngdgmapbahdgaa", sum := "d33e860940e627f1ed7fea2e26f6ef30b2848035799cae345c8cb259600c9165", func := "pagewatch/pagewatchlaw10.RecurCivil", spec := "recurCivil", unfollowed := true, recurses := true, apart := false }
def RecurCivilSaid : Prop := recurCivilRow.holds Try.pinned (OpenSpec.ofChange recurCivilSpec)

/-- ITS FALSE NEIGHBOUR: 'it returns false'. Refute it at one input. -/
def recurCivilWrong : ChangeSpec := { name := "recurCivil", fn := fun _ => fun
  | [d1, d2] => { results := [.lit (.bool false)], args := [d1, d2] }
  | _ => none }
def RecurCivilWrongFalsely : Prop := recurCivilRow.holds Try.pinned (OpenSpec.ofChange recurCivilWrong)

/-- 'pagewatchlaw10.RecurRanges': WHATEVER THE INPUT: true; the input reads as it did. -/
def recurRangesSpec : ChangeSpec := { name := "recurRanges", fn := fun _ => fun
  | [d1, d2, d3] => { results := [.lit (.bool true)], args := [d1, d2, d3] }
  | _ => none }
def recurRangesRow : OpenClaim := { program := "ytngdgmapbahdgaa", sum := "d33e860940e627f1ed7fea2e26f6ef30b2848035799cae345c8cb259600c9165", func := "pagewatch/pagewatchlaw10.RecurRanges", spec := "recurRanges", unfollowed := true, recurses := true, apart := false }
def RecurRangesSaid : Prop := recurRangesRow.holds Try.pinned (OpenSpec.ofChange recurRangesSpec)

/-- ITS FALSE NEIGHBOUR: 'it returns false'. Refute it at one input. -/
def recurRangesWrong : ChangeSpec := { name := "recurRanges", fn := fun _ => fun
  | [d1, d2, d3] => { results := [.lit (.bool false)], args := [d1, d2, d3] }
  | _ => none }
def RecurRangesWrongFalsely : Prop := recurRangesRow.holds Try.pinned (OpenSpec.ofChange recurRangesWrong)

/-- 'pagewatchlaw10.RecurExact': WHATEVER THE INPUT: true; the input reads as it did. -/
def recurExactSpec : ChangeSpec := { name := "recurExact", fn := fun _ => fun
  | [d1, d2, d3, d4, d5] => { results := [.lit (.bool true)], args := [d1, d2, d3, d4, d5] }
  | _ => none }
def recurExactRow : OpenClaim := { program := "ytngdgmapbahdgaa", sum := "d33e860940e627f1ed7fea2e26f6ef30b2848035799cae345c8cb259600c9165", func := "pagewatch/pagewatchlaw10.RecurExact", spec := "recurExact", unfollowed := true, recurses := true, apart := false }
def RecurExactSaid : Prop := recurExactRow.holds Try.pinned (OpenSpec.ofChange recurExactSpec)

/-- ITS FALSE NEIGHBOUR: 'it returns false'. Refute it at one input. -/
def recurExactWrong : ChangeSpec := { name := "recurExact", fn := fun _ => fun
  | [d1, d2, d3, d4, d5] => { results := [.lit (.bool false)], args := [d1, d2, d3, d4, d5] }
  | _ => none }
def RecurExactWrongFalsely : Prop := recurExactRow.holds Try.pinned (OpenSpec.ofChange recurExactWrong)

/-- 'pagewatchlaw05.WeekTimes': WHATEVER THE INPUT: true; the input reads as it did. -/
def weekTimesSpec : ChangeSpec := { name := "weekTimes", fn := fun _ => fun
  | [d1, d2] => { results := [.lit (.bool true)], args := [d1, d2] }
  | _ => none }
def weekTimesRow : OpenClaim := { program := "ytngdgmapbahdgaa", sum := "d33e860940e627f1ed7fea2e26f6ef30b2848035799cae345c8cb259600c9165", func := "pagewatch/pagewatchlaw05.WeekTimes", spec := "weekTimes", unfollowed := true, recurses := true, apart := false }
def WeekTimesSaid : Prop := weekTimesRow.holds Try.pinned (OpenSpec.ofChange weekTimesSpec)

/-- ITS FALSE NEIGHBOUR: 'it returns false'. Refute it at one input. -/
def weekTimesWrong : ChangeSpec := { name := "weekTimes", fn := fun _ => fun
  | [d1, d2] => { results := [.lit (.bool false)], args := [d1, d2] }
  | _ => none }
def WeekTimesWrongFalsely : Prop := weekTimesRow.holds Try.pinned (OpenSpec.ofChange weekTimesWrong)

/-- 'pagewatchlaw05.WeekLimits': WHATEVER THE INPUT: true; the input reads as it did. -/
def weekLimitsSpec : ChangeSpec := { name := "weekLimits", fn := fun _ => fun
  | [d] => { results := [.lit (.bool true)], args := [d] }
  | _ => none }
def weekLimitsRow : OpenClaim := { program := "ytngdgmapbahdgaa", sum := "d33e860940e627f1ed7fea2e26f6ef30b2848035799cae345c8cb259600c9165", func := "pagewatch/pagewatchlaw05.WeekLimits", spec := "weekLimits", unfollowed := true, recurses := true, apart := false }
def WeekLimitsSaid : Prop := weekLimitsRow.holds Try.pinned (OpenSpec.ofChange weekLimitsSpec)

/-- ITS FALSE NEIGHBOUR: 'it returns false'. Refute it at one input. -/
def weekLimitsWrong : ChangeSpec := { name := "weekLimits", fn := fun _ => fun
  | [d] => { results := [.lit (.bool false)], args := [d] }
  | _ => none }
def WeekLimitsWrongFalsely : Prop := weekLimitsRow.holds Try.pinned (OpenSpec.ofChange weekLimitsWrong)

/-- 'pagewatchlaw05.WeekLengths': WHATEVER THE INPUT: true; the input reads as it did. -/
def weekLengthsSpec : ChangeSpec := { name := "weekLengths", fn := fun _ => fun
  | [d] => { results := [.lit (.bool true)], args := [d] }
  | _ => none }
def weekLengthsRow : OpenClaim := { program := "ytngdgmapbahdgaa", sum := "d33e860940e627f1ed7fea2e26f6ef30b2848035799cae345c8cb259600c9165", func := "pagewatch/pagewatchlaw05.WeekLengths", spec := "weekLengths", unfollowed := true, recurses := true, apart := false }
def WeekLengthsSaid : Prop := weekLengthsRow.holds Try.pinned (OpenSpec.ofChange weekLengthsSpec)

/-- ITS FALSE NEIGHBOUR: 'it returns false'. Refute it at one input. -/
def weekLengthsWrong : ChangeSpec := { name := "weekLengths", fn := fun _ => fun
  | [d] => { results := [.lit (.bool false)], args := [d] }
  | _ => none }
def WeekLengthsWrongFalsely : Prop := weekLengthsRow.holds Try.pinned (OpenSpec.ofChange weekLengthsWrong)

/- THE SECOND FORM. 'bulk': how many values and letters a reading holds, each counted each time it is reached (what is shared counts as often as it is met; a slice's spare places count too). A statement '..UptoSaid' is the law's where the arguments, and the package variables that the reading takes, are together of bulk at most 1048576: NARROWER than '..Said'. Prove '..Said' where nothing that the law and all that it calls make is longer than what came in: it says more and counts as full. Else prove '..UptoSaid'. A law counts once. -/
mutual
def uptoBulk {H : Type} : DataW H → Nat
  | .lit (.string bytes) => bytes.length + 1
  | .lit _ => 1
  | .nil => 1
  | .ptr d => uptoBulk d + 1
  | .slice elems spare => uptoBulkAll elems + uptoBulkAll spare + 1
  | .agg parts => uptoBulkAll parts + 1
  | .iface _ d => uptoBulk d + 1
  | .map entries => uptoBulkEntries entries + 1
  | .held _ => 1
def uptoBulkAll {H : Type} : List (DataW H) → Nat
  | [] => 0
  | d :: r => uptoBulk d + uptoBulkAll r
def uptoBulkEntries {H : Type} : List (Lit × DataW H) → Nat
  | [] => 0
  | x :: r => uptoBulkEntry x + uptoBulkEntries r
def uptoBulkEntry {H : Type} : Lit × DataW H → Nat
  | (.string bytes, d) => bytes.length + uptoBulk d + 1
  | (_, d) => uptoBulk d + 1
 end
def uptoSmall : (H : Type) → List (DataW H) → Bool := fun _ ds => decide (uptoBulkAll ds ≤ 1048576)
def OpenSpec.upto (s : _root_.Go.ChangeSpec) : _root_.Go.OpenSpec := { _root_.Go.OpenSpec.ofChange s with cond := some uptoSmall }

/-- 'pagewatchlaw04.ZoneBack', WHERE WHAT IT READS IS OF BULK AT MOST 1048576: true; the input reads as it did. -/
def zoneBackUptoRow : OpenClaim := { program := "ytngdgmapbahdgaa", sum := "d33e860940e627f1ed7fea2e26f6ef30b2848035799cae345c8cb259600c9165", func := "pagewatch/pagewatchlaw04.ZoneBack", spec := "zoneBack", unfollowed := true, recurses := true, apart := false, narrowed := true }
def ZoneBackUptoSaid : Prop := zoneBackUptoRow.holds Try.pinned (OpenSpec.upto zoneBackSpec)

/-- 'pagewatchlaw04.ZoneAscends', WHERE WHAT IT READS IS OF BULK AT MOST 1048576: true; the input reads as it did. -/
def zoneAscendsUptoRow : OpenClaim := { program := "ytngdgmapbahdgaa", sum := "d33e860940e627f1ed7fea2e26f6ef30b2848035799cae345c8cb259600c9165", func := "pagewatch/pagewatchlaw04.ZoneAscends", spec := "zoneAscends", unfollowed := true, recurses := true, apart := false, narrowed := true }
def ZoneAscendsUptoSaid : Prop := zoneAscendsUptoRow.holds Try.pinned (OpenSpec.upto zoneAscendsSpec)

/-- 'pagewatchlaw05.WeekInverts', WHERE WHAT IT READS IS OF BULK AT MOST 1048576: true; the input reads as it did. -/
def weekInvertsUptoRow : OpenClaim := { program := "ytngdgmapbahdgaa", sum := "d33e860940e627f1ed7fea2e26f6ef30b2848035799cae345c8cb259600c9165", func := "pagewatch/pagewatchlaw05.WeekInverts", spec := "weekInverts", unfollowed := true, recurses := true, apart := false, narrowed := true }
def WeekInvertsUptoSaid : Prop := weekInvertsUptoRow.holds Try.pinned (OpenSpec.upto weekInvertsSpec)

/-- 'pagewatchlaw04.ZoneLimits', WHERE WHAT IT READS IS OF BULK AT MOST 1048576: true; the input reads as it did. -/
def zoneLimitsUptoRow : OpenClaim := { program := "ytngdgmapbahdgaa", sum := "d33e860940e627f1ed7fea2e26f6ef30b2848035799cae345c8cb259600c9165", func := "pagewatch/pagewatchlaw04.ZoneLimits", spec := "zoneLimits", unfollowed := true, recurses := true, apart := false, narrowed := true }
def ZoneLimitsUptoSaid : Prop := zoneLimitsUptoRow.holds Try.pinned (OpenSpec.upto zoneLimitsSpec)

/-- 'pagewatchlaw04.ZoneRules', WHERE WHAT IT READS IS OF BULK AT MOST 1048576: true; the input reads as it did. -/
def zoneRulesUptoRow : OpenClaim := { program := "ytngdgmapbahdgaa", sum := "d33e860940e627f1ed7fea2e26f6ef30b2848035799cae345c8cb259600c9165", func := "pagewatch/pagewatchlaw04.ZoneRules", spec := "zoneRules", unfollowed := true, recurses := true, apart := false, narrowed := true }
def ZoneRulesUptoSaid : Prop := zoneRulesUptoRow.holds Try.pinned (OpenSpec.upto zoneRulesSpec)

/-- 'pagewatchlaw04.ZoneLeaps', WHERE WHAT IT READS IS OF BULK AT MOST 1048576: true; the input reads as it did. -/
def zoneLeapsUptoRow : OpenClaim := { program := "ytngdgmapbahdgaa", sum := "d33e860940e627f1ed7fea2e26f6ef30b2848035799cae345c8cb259600c9165", func := "pagewatch/pagewatchlaw04.ZoneLeaps", spec := "zoneLeaps", unfollowed := true, recurses := true, apart := false, narrowed := true }
def ZoneLeapsUptoSaid : Prop := zoneLeapsUptoRow.holds Try.pinned (OpenSpec.upto zoneLeapsSpec)

/-- 'pagewatchlaw04.ZoneExact', WHERE WHAT IT READS IS OF BULK AT MOST 1048576: true; the input reads as it did. -/
def zoneExactUptoRow : OpenClaim := { program := "ytngdgmapbahdgaa", sum := "d33e860940e627f1ed7fea2e26f6ef30b2848035799cae345c8cb259600c9165", func := "pagewatch/pagewatchlaw04.ZoneExact", spec := "zoneExact", unfollowed := true, recurses := true, apart := false, narrowed := true }
def ZoneExactUptoSaid : Prop := zoneExactUptoRow.holds Try.pinned (OpenSpec.upto zoneExactSpec)

/-- 'pagewatchlaw10.RecurSame', WHERE WHAT IT READS IS OF BULK AT MOST 1048576: true; the input reads as it did. -/
def recurSameUptoRow : OpenClaim := { program := "ytngdgmapbahdgaa", sum := "d33e860940e627f1ed7fea2e26f6ef30b2848035799cae345c8cb259600c9165", func := "pagewatch/pagewatchlaw10.RecurSame", spec := "recurSame", unfollowed := true, recurses := true, apart := false, narrowed := true }
def RecurSameUptoSaid : Prop := recurSameUptoRow.holds Try.pinned (OpenSpec.upto recurSameSpec)

/-- 'pagewatchlaw10.RecurAscends', WHERE WHAT IT READS IS OF BULK AT MOST 1048576: true; the input reads as it did. -/
def recurAscendsUptoRow : OpenClaim := { program := "ytngdgmapbahdgaa", sum := "d33e860940e627f1ed7fea2e26f6ef30b2848035799cae345c8cb259600c9165", func := "pagewatch/pagewatchlaw10.RecurAscends", spec := "recurAscends", unfollowed := true, recurses := true, apart := false, narrowed := true }
def RecurAscendsUptoSaid : Prop := recurAscendsUptoRow.holds Try.pinned (OpenSpec.upto recurAscendsSpec)

/-- 'pagewatchlaw10.RecurCivil', WHERE WHAT IT READS IS OF BULK AT MOST 1048576: true; the input reads as it did. -/
def recurCivilUptoRow : OpenClaim := { program := "ytngdgmapbahdgaa", sum := "d33e860940e627f1ed7fea2e26f6ef30b2848035799cae345c8cb259600c9165", func := "pagewatch/pagewatchlaw10.RecurCivil", spec := "recurCivil", unfollowed := true, recurses := true, apart := false, narrowed := true }
def RecurCivilUptoSaid : Prop := recurCivilUptoRow.holds Try.pinned (OpenSpec.upto recurCivilSpec)

/-- 'pagewatchlaw10.RecurRanges', WHERE WHAT IT READS IS OF BULK AT MOST 1048576: true; the input reads as it did. -/
def recurRangesUptoRow : OpenClaim := { program := "ytngdgmapbahdgaa", sum := "d33e860940e627f1ed7fea2e26f6ef30b2848035799cae345c8cb259600c9165", func := "pagewatch/pagewatchlaw10.RecurRanges", spec := "recurRanges", unfollowed := true, recurses := true, apart := false, narrowed := true }
def RecurRangesUptoSaid : Prop := recurRangesUptoRow.holds Try.pinned (OpenSpec.upto recurRangesSpec)

/-- 'pagewatchlaw10.RecurExact', WHERE WHAT IT READS IS OF BULK AT MOST 1048576: true; the input reads as it did. -/
def recurExactUptoRow : OpenClaim := { program := "ytngdgmapbahdgaa", sum := "d33e860940e627f1ed7fea2e26f6ef30b2848035799cae345c8cb259600c9165", func := "pagewatch/pagewatchlaw10.RecurExact", spec := "recurExact", unfollowed := true, recurses := true, apart := false, narrowed := true }
def RecurExactUptoSaid : Prop := recurExactUptoRow.holds Try.pinned (OpenSpec.upto recurExactSpec)

/-- 'pagewatchlaw05.WeekTimes', WHERE WHAT IT READS IS OF BULK AT MOST 1048576: true; the input reads as it did. -/
def weekTimesUptoRow : OpenClaim := { program := "ytngdgmapbahdgaa", sum := "d33e860940e627f1ed7fea2e26f6ef30b2848035799cae345c8cb259600c9165", func := "pagewatch/pagewatchlaw05.WeekTimes", spec := "weekTimes", unfollowed := true, recurses := true, apart := false, narrowed := true }
def WeekTimesUptoSaid : Prop := weekTimesUptoRow.holds Try.pinned (OpenSpec.upto weekTimesSpec)

/-- 'pagewatchlaw05.WeekLimits', WHERE WHAT IT READS IS OF BULK AT MOST 1048576: true; the input reads as it did. -/
def weekLimitsUptoRow : OpenClaim := { program := "ytngdgmapbahdgaa", sum := "d33e860940e627f1ed7fea2e26f6ef30b2848035799cae345c8cb259600c9165", func := "pagewatch/pagewatchlaw05.WeekLimits", spec := "weekLimits", unfollowed := true, recurses := true, apart := false, narrowed := true }
def WeekLimitsUptoSaid : Prop := weekLimitsUptoRow.holds Try.pinned (OpenSpec.upto weekLimitsSpec)

/-- 'pagewatchlaw05.WeekLengths', WHERE WHAT IT READS IS OF BULK AT MOST 1048576: true; the input reads as it did. -/
def weekLengthsUptoRow : OpenClaim := { program := "ytngdgmapbahdgaa", sum := "d33e860940e627f1ed7fea2e26f6ef30b2848035799cae345c8cb259600c9165", func := "pagewatch/pagewatchlaw05.WeekLengths", spec := "weekLengths", unfollowed := true, recurses := true, apart := false, narrowed := true }
def WeekLengthsUptoSaid : Prop := weekLengthsUptoRow.holds Try.pinned (OpenSpec.upto weekLengthsSpec)

end Rows
end Go.Proofs.Ytngdgmapbahdgaa
