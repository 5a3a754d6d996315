/- The types of the seat, printed by a program. -/
import Derived.Test.YtgepoeafaklbjaaGreatPFFns
import Derived.Test.YtgepoeafaklbjaaGreatProg
open Option renaming some->b,none->h
open Bool renaming true->d,false->e
open Go Go.Lft
namespace Go.Proofs.Pk
abbrev ty3:Ty:=(.list (.list iT))
abbrev ty7:Ty:=(.pair iT iT)
abbrev ty12:Ty:=(.list ty7)
abbrev ty21:Ty:=(.pair ty7 iT)
abbrev ty20:Ty:=(.pair iT ty7)
abbrev ty23:Ty:=(.pair .str (.pair iT (.list iT)))
abbrev ty27:Ty:=(.pair iT ty12)
abbrev ty26:Ty:=(.list ty21)
abbrev ty25:Ty:=(.list ty20)
abbrev ty28:Ty:=(.list ty23)
abbrev ty32:Ty:=(.list ty27)
abbrev ty30:Ty:=(.list ty25)
abbrev ty34:Ty:=(.pair iT ty20)
abbrev ty38:Ty:=(.list ty34)
abbrev ty41:Ty:=(.pair iT ty34)
abbrev ty43:Ty:=(.list ty41)
abbrev ty52:Ty:=(.pair .str (.pair iT (.pair ty12 (.pair iT (.pair iT .bool)))))
abbrev ty54:Ty:=(.pair iT (.pair iT ty41))
abbrev ty55:Ty:=(.list ty52)
abbrev ty57:Ty:=(.list ty54)
abbrev ty64:Ty:=(.pair .str (.pair iT ty57))
abbrev ty65:Ty:=(.list ty64)
abbrev ty71:Ty:=(.pair .str (.pair iT (.pair ty7 (.pair iT (.pair iT (.pair (.list iT) (.pair ty12 ty7)))))))
abbrev ty72:Ty:=(.list ty71)
abbrev ty76:Ty:=(.pair .str (.pair ty72 ty43))
abbrev ty77:Ty:=(.list ty76)
abbrev ty83:Ty:=(.pair ty65 (.pair ty55 (.pair ty28 ty77)))
abbrev ty85:Ty:=(.pair ty83 ty32)
def tabL:List (Option TyI):=tz [(3,tR iT 0),(0,tR .bool 0),(0,tR (.int .u8) 0),(3,tR .str 0),(12,tR ((.list iT)) 3),(4,tR ty65 80),(0,tR ty55 83),(0,tR ty28 111),(0,tR ty77 61),(1,{ size:=4,agg:=d,ty:=b ty83,flds:=[(0,27),(1,28),(2,29),(3,30)],elem:=0 }),(2,tR ty12 42),(0,tR iT 0),(5,{ size:=2,agg:=d,ty:=b ty7,flds:=[(0,3),(1,3)],elem:=0,cmp:=[iT,iT] }),(1,{ size:=3,agg:=d,ty:=b (.arr 3 iT),flds:=[],elem:=3 }),(10,{ size:=2,agg:=d,ty:=b (.pair (.list iT) iT),flds:=[(0,22),(1,3)],elem:=0 }),(1,tR (.list .str) 9),(0,tR ty72 66),(0,tR ty43 70),(1,{ size:=3,agg:=d,ty:=b ty76,flds:=[(0,9),(1,58),(2,59)],elem:=0 }),(1,{ size:=2,agg:=d,ty:=b ty7,flds:=[(0,3),(1,3)],elem:=0 }),(0,tR ty12 81),(1,{ size:=10,agg:=d,ty:=b ty71,flds:=[(0,9),(1,3),(2,63),(4,3),(5,3),(6,22),(7,64),(8,3),(9,3)],elem:=0 }),(3,{ size:=5,agg:=d,ty:=b ty41,flds:=[(0,3),(1,3),(2,3),(3,3),(4,3)],elem:=0 }),(3,tR ty26 141),(3,tR ty57 118),(1,{ size:=3,agg:=d,ty:=b ty64,flds:=[(0,9),(1,3),(2,78)],elem:=0 }),(0,{ size:=2,agg:=d,ty:=b ty7,flds:=[(0,3),(1,3)],elem:=0 }),(1,{ size:=6,agg:=d,ty:=b ty52,flds:=[(0,9),(1,3),(2,64),(3,3),(4,3),(5,4)],elem:=0 }),(3,tR ty25 95),(2,tR ty12 92),(1,{ size:=2,agg:=d,ty:=b ty7,flds:=[(0,3),(1,3)],elem:=0 }),(2,{ size:=3,agg:=d,ty:=b ty20,flds:=[(0,3),(1,3),(2,3)],elem:=0 }),(4,tR ty25 105),(4,{ size:=3,agg:=d,ty:=b ty20,flds:=[(0,3),(1,3),(2,3)],elem:=0,cmp:=[iT,iT,iT] }),(5,{ size:=3,agg:=d,ty:=b ty23,flds:=[(0,9),(1,3),(2,22)],elem:=0 }),(6,{ size:=7,agg:=d,ty:=b ty54,flds:=[(0,3),(1,3),(2,3),(3,3),(4,3),(5,3),(6,3)],elem:=0 }),(5,tR ty25 128),(3,{ size:=3,agg:=d,ty:=b ty20,flds:=[(0,3),(1,3),(2,3)],elem:=0 }),(5,tR ty12 254),(1,{ size:=2,agg:=d,ty:=b ty27,flds:=[(0,3),(1,134)],elem:=0 }),(2,{ size:=1,agg:=e,ty:=h,flds:=[],elem:=0,mp:=b (3,95) }),(1,{ size:=3,agg:=d,ty:=b ty21,flds:=[(0,81),(2,3)],elem:=0 }),(7,tR (.int .u64) 0),(2,tR ty32 136),(1,{ size:=5,agg:=d,ty:=b ty85,flds:=[(0,32),(4,152)],elem:=0 }),(3,tR ty43 167),(2,{ size:=4,agg:=d,ty:=b (.arr 4 (.list iT)),flds:=[],elem:=22 }),(5,{ size:=5,agg:=d,ty:=b ty41,flds:=[(0,3),(1,3),(2,3),(3,3),(4,3)],elem:=0 }),(13,{ size:=1,agg:=e,ty:=h,flds:=[],elem:=0,mp:=b (9,4) }),(17,tR ty25 202),(2,{ size:=3,agg:=d,ty:=b ty20,flds:=[(0,3),(1,3),(2,3)],elem:=0 }),(21,tR ty30 124),(22,tR ty12 251),(3,{ size:=2,agg:=d,ty:=b ty7,flds:=[(0,3),(1,3)],elem:=0 }),(2,{ size:=2,agg:=d,ty:=b ty7,flds:=[(0,3),(1,3)],elem:=0 }),(27,{ size:=3,agg:=d,ty:=b ty20,flds:=[(0,3),(1,3),(2,3)],elem:=0 }),(37,{ size:=1,agg:=e,ty:=h,flds:=[],elem:=0,mp:=b (3,35) }),(24,tR ty12 347),(1,{ size:=2,agg:=d,ty:=b ty7,flds:=[(0,3),(1,3)],elem:=0 }),(3,{ size:=12,agg:=d,ty:=b (.arr 12 iT),flds:=[],elem:=3 })]
theorem jh5:j1K Tryz.prog (tab tabL):=jxx Tryz.prog tabL (by kernel_rfl)
theorem j9D:Tryz.prog.follows .mixedOrders=true:=by kernel_rfl
end Go.Proofs.Pk
