/- The types of the seat, printed by a program. -/
import Derived.Test.YthjegapnciafcaaFns
import Derived.Test.YthjegapnciafcaaProg
open Go Go.Lft
namespace Go.Proofs.Pk

def tabL : List (Option TyI) := [none,
  none,
  none,
  some { size := 1, agg := false, ty := some (.int .i64), flds := [], elem := 0 },
  some { size := 1, agg := false, ty := some .bool, flds := [], elem := 0 },
  some { size := 1, agg := false, ty := some (.int .u8), flds := [], elem := 0 },
  none,
  none,
  none,
  none,
  none,
  none,
  none,
  none,
  none,
  none,
  none,
  none,
  none,
  none,
  none,
  none,
  some { size := 1, agg := false, ty := some (.list (.int .i64)), flds := [], elem := 3 },
  none,
  none,
  some { size := 1, agg := false, ty := some (.list (.pair (.int .i64) (.pair (.int .i64) (.int .i64)))), flds := [], elem := 35 },
  none,
  none,
  none,
  none,
  some { size := 2, agg := true, ty := some (.pair (.int .i64) (.int .i64)), flds := [(0, 3), (1, 3)], elem := 0, cmp := [(.int .i64), (.int .i64)] },
  some { size := 1, agg := false, ty := some (.int .i64), flds := [], elem := 0 },
  none,
  none,
  none,
  some { size := 3, agg := true, ty := some (.pair (.int .i64) (.pair (.int .i64) (.int .i64))), flds := [(0, 3), (1, 3), (2, 3)], elem := 0, cmp := [(.int .i64), (.int .i64), (.int .i64)] },
  none,
  none,
  some { size := 1, agg := false, ty := some (.list (.int .u8)), flds := [], elem := 5 },
  none,
  none,
  none,
  none,
  none,
  none,
  some { size := 2, agg := true, ty := some (.pair (.list (.int .i64)) (.int .i64)), flds := [(0, 22), (1, 3)], elem := 0 }]

theorem tabOk : TabOk Try.prog (tab tabL) := tabOk_of Try.prog tabL (by kernel_rfl)
theorem mixedOk : Try.prog.follows .mixedOrders = true := by kernel_rfl
end Go.Proofs.Pk
