/- Chapter 4: the law ZoneLimits, on plain functions: thirty examples. -/
import Derived.Test.YtngdgmapbahdgaaPB
import Derived.Test.YtngdgmapbahdgaaLD
import Derived.KernelRfl
open Go Go.Lft
namespace Go.Proofs.Pw
theorem lim0 : law04_ZoneLimits 0 = some true := law04_ZoneLimits_le 60 0 true (by kernel_rfl)
theorem lim1 : law04_ZoneLimits 1 = some true := law04_ZoneLimits_le 60 1 true (by kernel_rfl)
theorem lim2 : law04_ZoneLimits 2 = some true := law04_ZoneLimits_le 60 2 true (by kernel_rfl)
theorem lim3 : law04_ZoneLimits 3 = some true := law04_ZoneLimits_le 60 3 true (by kernel_rfl)
theorem lim4 : law04_ZoneLimits 4 = some true := law04_ZoneLimits_le 60 4 true (by kernel_rfl)
theorem lim5 : law04_ZoneLimits 5 = some true := law04_ZoneLimits_le 60 5 true (by kernel_rfl)
theorem lim6 : law04_ZoneLimits 6 = some true := law04_ZoneLimits_le 60 6 true (by kernel_rfl)
theorem lim7 : law04_ZoneLimits 7 = some true := law04_ZoneLimits_le 60 7 true (by kernel_rfl)
theorem lim8 : law04_ZoneLimits 8 = some true := law04_ZoneLimits_le 60 8 true (by kernel_rfl)
theorem lim9 : law04_ZoneLimits 9 = some true := law04_ZoneLimits_le 60 9 true (by kernel_rfl)
theorem lim10 : law04_ZoneLimits 10 = some true := law04_ZoneLimits_le 60 10 true (by kernel_rfl)
theorem lim11 : law04_ZoneLimits 11 = some true := law04_ZoneLimits_le 60 11 true (by kernel_rfl)
theorem lim12 : law04_ZoneLimits 12 = some true := law04_ZoneLimits_le 60 12 true (by kernel_rfl)
theorem lim13 : law04_ZoneLimits 13 = some true := law04_ZoneLimits_le 60 13 true (by kernel_rfl)
theorem lim14 : law04_ZoneLimits 14 = some true := law04_ZoneLimits_le 60 14 true (by kernel_rfl)
theorem lim15 : law04_ZoneLimits 15 = some true := law04_ZoneLimits_le 60 15 true (by kernel_rfl)
theorem lim16 : law04_ZoneLimits 16 = some true := law04_ZoneLimits_le 60 16 true (by kernel_rfl)
theorem lim17 : law04_ZoneLimits 17 = some true := law04_ZoneLimits_le 60 17 true (by kernel_rfl)
theorem lim18 : law04_ZoneLimits 18 = some true := law04_ZoneLimits_le 60 18 true (by kernel_rfl)
theorem lim19 : law04_ZoneLimits 19 = some true := law04_ZoneLimits_le 60 19 true (by kernel_rfl)
theorem lim20 : law04_ZoneLimits 20 = some true := law04_ZoneLimits_le 60 20 true (by kernel_rfl)
theorem lim21 : law04_ZoneLimits 21 = some true := law04_ZoneLimits_le 60 21 true (by kernel_rfl)
theorem lim22 : law04_ZoneLimits 22 = some true := law04_ZoneLimits_le 60 22 true (by kernel_rfl)
theorem lim23 : law04_ZoneLimits 23 = some true := law04_ZoneLimits_le 60 23 true (by kernel_rfl)
theorem lim24 : law04_ZoneLimits 24 = some true := law04_ZoneLimits_le 60 24 true (by kernel_rfl)
theorem lim25 : law04_ZoneLimits 25 = some true := law04_ZoneLimits_le 60 25 true (by kernel_rfl)
theorem lim26 : law04_ZoneLimits 26 = some true := law04_ZoneLimits_le 60 26 true (by kernel_rfl)
theorem lim27 : law04_ZoneLimits 27 = some true := law04_ZoneLimits_le 60 27 true (by kernel_rfl)
theorem lim28 : law04_ZoneLimits 28 = some true := law04_ZoneLimits_le 60 28 true (by kernel_rfl)
theorem lim29 : law04_ZoneLimits 29 = some true := law04_ZoneLimits_le 60 29 true (by kernel_rfl)

theorem lim_mod (n : Int) (h : 0 ≤ n) : law04_ZoneLimits n = law04_ZoneLimits (n % 30) := by
  have e : Int.tmod n 30 = Int.tmod (n % 30) 30 := by
    rw [Int.tmod_eq_emod_of_nonneg h, Int.tmod_eq_emod_of_nonneg (by omega)]
    omega
  simp only [law04_ZoneLimits, e]

theorem ZoneLimits_true (n : Int) (h : Wf (.int .u8) n) : law04_ZoneLimits n = some true := by
  have h0 : 0 ≤ n := by
    have e : IntKind.u8.min = 0 := rfl
    simp only [Wf, Lit.wf] at h
    simp at h
    omega
  rw [lim_mod n h0]
  have h1 : 0 ≤ n % 30 ∧ n % 30 < 30 := by omega
  generalize n % 30 = r at h1
  obtain rfl | rfl | rfl | rfl | rfl | rfl | rfl | rfl | rfl | rfl | rfl | rfl | rfl | rfl | rfl | rfl | rfl | rfl | rfl | rfl | rfl | rfl | rfl | rfl | rfl | rfl | rfl | rfl | rfl | rfl : r = 0 ∨ r = 1 ∨ r = 2 ∨ r = 3 ∨ r = 4 ∨ r = 5 ∨ r = 6 ∨ r = 7 ∨ r = 8 ∨ r = 9 ∨ r = 10 ∨ r = 11 ∨ r = 12 ∨ r = 13 ∨ r = 14 ∨ r = 15 ∨ r = 16 ∨ r = 17 ∨ r = 18 ∨ r = 19 ∨ r = 20 ∨ r = 21 ∨ r = 22 ∨ r = 23 ∨ r = 24 ∨ r = 25 ∨ r = 26 ∨ r = 27 ∨ r = 28 ∨ r = 29 := by omega
  · exact lim0
  · exact lim1
  · exact lim2
  · exact lim3
  · exact lim4
  · exact lim5
  · exact lim6
  · exact lim7
  · exact lim8
  · exact lim9
  · exact lim10
  · exact lim11
  · exact lim12
  · exact lim13
  · exact lim14
  · exact lim15
  · exact lim16
  · exact lim17
  · exact lim18
  · exact lim19
  · exact lim20
  · exact lim21
  · exact lim22
  · exact lim23
  · exact lim24
  · exact lim25
  · exact lim26
  · exact lim27
  · exact lim28
  · exact lim29
end Go.Proofs.Pw
