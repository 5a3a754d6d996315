/- The types of the seat, printed by a program. -/
import Derived.Test.YtlnljpfkgigljaaGreatPOFns
import Derived.Test.YtlnljpfkgigljaaGreatProg
open Option renaming some->b,none->h
open Bool renaming true->d,false->e
open Go Go.Lft
namespace Go.Proofs.Pk
abbrev ty3:Ty:=(.list (.list iT))
abbrev ty6:Ty:=(.pair iT iT)
abbrev ty11:Ty:=(.list ty6)
abbrev ty20:Ty:=(.pair ty6 iT)
abbrev ty19:Ty:=(.pair iT ty6)
abbrev ty22:Ty:=(.pair .str (.pair iT (.list iT)))
abbrev ty26:Ty:=(.pair iT ty11)
abbrev ty25:Ty:=(.list ty20)
abbrev ty24:Ty:=(.list ty19)
abbrev ty27:Ty:=(.list ty22)
abbrev ty31:Ty:=(.list ty26)
abbrev ty29:Ty:=(.list ty24)
abbrev ty33:Ty:=(.pair iT ty19)
abbrev ty37:Ty:=(.list ty33)
abbrev ty40:Ty:=(.pair iT ty33)
abbrev ty42:Ty:=(.list ty40)
abbrev ty51:Ty:=(.pair .str (.pair iT (.pair ty11 (.pair iT (.pair iT .bool)))))
abbrev ty53:Ty:=(.pair iT (.pair iT ty40))
abbrev ty54:Ty:=(.list ty51)
abbrev ty56:Ty:=(.list ty53)
abbrev ty63:Ty:=(.pair .str (.pair iT ty56))
abbrev ty64:Ty:=(.list ty63)
abbrev ty70:Ty:=(.pair .str (.pair iT (.pair ty6 (.pair iT (.pair iT (.pair (.list iT) (.pair ty11 ty6)))))))
abbrev ty71:Ty:=(.list ty70)
abbrev ty75:Ty:=(.pair .str (.pair ty71 ty42))
abbrev ty76:Ty:=(.list ty75)
abbrev ty82:Ty:=(.pair ty64 (.pair ty54 (.pair ty27 ty76)))
abbrev ty84:Ty:=(.pair ty82 ty31)
def tabL:List (Option TyI):=tz [(3,tR iT 0),(0,tR .bool 0),(0,tR (.int .u8) 0),(3,tR .str 0),(12,tR ((.list iT)) 3),(4,tR ty64 98),(0,tR ty54 112),(0,tR ty27 117),(0,tR ty76 60),(1,{ size:=4,agg:=d,ty:=b ty82,flds:=[(0,27),(1,28),(2,29),(3,30)],elem:=0 }),(1,tR ty25 75),(3,tR iT 0),(2,tR ty24 83),(8,tR ty11 99),(3,{ size:=2,agg:=d,ty:=b (.pair (.list iT) iT),flds:=[(0,22),(1,3)],elem:=0 }),(1,tR (.list .str) 9),(0,tR ty71 65),(0,tR ty42 69),(1,{ size:=3,agg:=d,ty:=b ty75,flds:=[(0,9),(1,57),(2,58)],elem:=0 }),(1,{ size:=2,agg:=d,ty:=b ty6,flds:=[(0,3),(1,3)],elem:=0 }),(0,tR ty11 73),(1,{ size:=10,agg:=d,ty:=b ty70,flds:=[(0,9),(1,3),(2,62),(4,3),(5,3),(6,22),(7,63),(8,3),(9,3)],elem:=0 }),(3,{ size:=5,agg:=d,ty:=b ty40,flds:=[(0,3),(1,3),(2,3),(3,3),(4,3)],elem:=0 }),(3,{ size:=2,agg:=d,ty:=b ty6,flds:=[(0,3),(1,3)],elem:=0 }),(1,{ size:=3,agg:=d,ty:=b ty20,flds:=[(0,73),(2,3)],elem:=0 }),(2,tR ty11 80),(1,{ size:=2,agg:=d,ty:=b ty6,flds:=[(0,3),(1,3)],elem:=0 }),(2,{ size:=3,agg:=d,ty:=b ty19,flds:=[(0,3),(1,3),(2,3)],elem:=0 }),(3,tR ty24 92),(4,{ size:=3,agg:=d,ty:=b ty19,flds:=[(0,3),(1,3),(2,3)],elem:=0 }),(3,tR ty56 174),(1,{ size:=3,agg:=d,ty:=b ty63,flds:=[(0,9),(1,3),(2,96)],elem:=0 }),(0,{ size:=2,agg:=d,ty:=b ty6,flds:=[(0,3),(1,3)],elem:=0 }),(3,tR ty24 108),(4,{ size:=3,agg:=d,ty:=b ty19,flds:=[(0,3),(1,3),(2,3)],elem:=0,cmp:=[iT,iT,iT] }),(3,{ size:=6,agg:=d,ty:=b ty51,flds:=[(0,9),(1,3),(2,63),(3,3),(4,3),(5,4)],elem:=0 }),(4,{ size:=3,agg:=d,ty:=b ty22,flds:=[(0,9),(1,3),(2,22)],elem:=0 }),(2,tR ty11 140),(1,{ size:=2,agg:=d,ty:=b ty26,flds:=[(0,3),(1,120)],elem:=0 }),(2,{ size:=1,agg:=e,ty:=h,flds:=[],elem:=0,mp:=b (3,83) }),(7,tR (.int .u64) 0),(6,{ size:=2,agg:=d,ty:=b ty6,flds:=[(0,3),(1,3)],elem:=0 }),(4,tR ty31 122),(1,{ size:=5,agg:=d,ty:=b ty84,flds:=[(0,32),(4,145)],elem:=0 }),(3,tR ty42 160),(2,{ size:=4,agg:=d,ty:=b (.arr 4 (.list iT)),flds:=[],elem:=22 }),(5,{ size:=5,agg:=d,ty:=b ty40,flds:=[(0,3),(1,3),(2,3),(3,3),(4,3)],elem:=0 }),(13,{ size:=7,agg:=d,ty:=b ty53,flds:=[(0,3),(1,3),(2,3),(3,3),(4,3),(5,3),(6,3)],elem:=0 }),(8,{ size:=1,agg:=e,ty:=h,flds:=[],elem:=0,mp:=b (9,4) }),(14,tR ty24 201),(2,{ size:=3,agg:=d,ty:=b ty19,flds:=[(0,3),(1,3),(2,3)],elem:=0 }),(21,tR ty11 225),(1,{ size:=2,agg:=d,ty:=b ty6,flds:=[(0,3),(1,3)],elem:=0 }),(5,tR ty29 87),(20,tR ty11 256),(3,{ size:=2,agg:=d,ty:=b ty6,flds:=[(0,3),(1,3)],elem:=0 }),(28,{ size:=3,agg:=d,ty:=b ty19,flds:=[(0,3),(1,3),(2,3)],elem:=0 }),(35,{ size:=1,agg:=e,ty:=h,flds:=[],elem:=0,mp:=b (3,50) }),(27,{ size:=12,agg:=d,ty:=b (.arr 12 iT),flds:=[],elem:=3 })]
theorem jhx:j1L Tryz.prog (tab tabL):=jyp Tryz.prog tabL (by kernel_rfl)
theorem j9S:Tryz.prog.follows .mixedOrders=true:=by kernel_rfl
end Go.Proofs.Pk
