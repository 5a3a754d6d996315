/- The types of the seat, printed by a program. -/
import Derived.Test.YtmccfdihkphfaaaGreatLIFns
import Derived.Test.YtmccfdihkphfaaaGreatProg
open Option renaming some->b,none->h
open Bool renaming true->d,false->e
open Go Go.Lft
namespace Go.Proofs.Pk
abbrev ty3:Ty:=(.list (.list iT))
abbrev ty5:Ty:=(.list (.arr 2 iT))
abbrev ty9:Ty:=(.pair iT iT)
abbrev ty15:Ty:=(.list ty9)
abbrev ty20:Ty:=(.list ty15)
abbrev ty24:Ty:=(.pair iT ty9)
abbrev ty26:Ty:=(.pair .str (.pair iT (.list iT)))
abbrev ty30:Ty:=(.pair iT ty15)
abbrev ty29:Ty:=(.list ty24)
abbrev ty31:Ty:=(.list ty26)
abbrev ty34:Ty:=(.list ty30)
abbrev ty33:Ty:=(.list ty29)
abbrev ty43:Ty:=(.pair iT (.pair iT ty24))
abbrev ty45:Ty:=(.list ty43)
abbrev ty54:Ty:=(.pair .str (.pair iT (.pair ty15 (.pair iT (.pair iT .bool)))))
abbrev ty56:Ty:=(.pair iT (.pair iT ty43))
abbrev ty57:Ty:=(.list ty54)
abbrev ty59:Ty:=(.list ty56)
abbrev ty66:Ty:=(.pair .str (.pair iT ty59))
abbrev ty67:Ty:=(.list ty66)
abbrev ty73:Ty:=(.pair .str (.pair iT (.pair ty9 (.pair iT (.pair iT (.pair (.list iT) (.pair ty15 ty9)))))))
abbrev ty74:Ty:=(.list ty73)
abbrev ty78:Ty:=(.pair .str (.pair ty74 ty45))
abbrev ty79:Ty:=(.list ty78)
abbrev ty85:Ty:=(.pair ty67 (.pair ty57 (.pair ty31 ty79)))
abbrev ty86:Ty:=(.list ty85)
abbrev ty89:Ty:=(.pair ty85 ty34)
def tabL:List (Option TyI):=tz [(3,tR iT 0),(0,tR .bool 0),(0,tR (.int .u8) 0),(3,tR .str 0),(12,tR ((.list iT)) 3),(4,tR ty67 105),(0,tR ty57 107),(0,tR ty31 110),(0,tR ty79 91),(1,{ size:=4,agg:=d,ty:=b ty85,flds:=[(0,27),(1,28),(2,29),(3,30)],elem:=0 }),(2,{ size:=8,agg:=d,ty:=b (.arr 2 ty85),flds:=[],elem:=32 }),(2,{ size:=2,agg:=d,ty:=b (.arr 2 iT),flds:=[],elem:=3 }),(1,{ size:=3,agg:=d,ty:=b (.arr 3 iT),flds:=[],elem:=3 }),(2,tR iT 0),(3,{ size:=4,agg:=d,ty:=b (.arr 2 (.arr 2 iT)),flds:=[],elem:=38 }),(0,tR ty29 123),(5,tR ty15 59),(4,{ size:=2,agg:=d,ty:=b ty9,flds:=[(0,3),(1,3)],elem:=0,cmp:=[iT,iT] }),(2,tR ty45 66),(3,{ size:=5,agg:=d,ty:=b ty43,flds:=[(0,3),(1,3),(2,3),(3,3),(4,3)],elem:=0 }),(6,tR ty29 148),(7,{ size:=2,agg:=d,ty:=b (.arr 2 ty15),flds:=[],elem:=54 }),(4,{ size:=2,agg:=d,ty:=b (.pair (.list iT) iT),flds:=[(0,22),(1,3)],elem:=0 }),(0,tR (.list .str) 9),(0,tR ty74 96),(0,tR ty45 100),(1,{ size:=3,agg:=d,ty:=b ty78,flds:=[(0,9),(1,88),(2,89)],elem:=0 }),(1,{ size:=2,agg:=d,ty:=b ty9,flds:=[(0,3),(1,3)],elem:=0 }),(0,tR ty15 108),(1,{ size:=10,agg:=d,ty:=b ty73,flds:=[(0,9),(1,3),(2,93),(4,3),(5,3),(6,22),(7,94),(8,3),(9,3)],elem:=0 }),(3,{ size:=5,agg:=d,ty:=b ty43,flds:=[(0,3),(1,3),(2,3),(3,3),(4,3)],elem:=0 }),(2,tR ty59 215),(1,{ size:=3,agg:=d,ty:=b ty66,flds:=[(0,9),(1,3),(2,103)],elem:=0 }),(1,{ size:=6,agg:=d,ty:=b ty54,flds:=[(0,9),(1,3),(2,94),(3,3),(4,3),(5,4)],elem:=0 }),(0,{ size:=2,agg:=d,ty:=b ty9,flds:=[(0,3),(1,3)],elem:=0 }),(1,{ size:=3,agg:=d,ty:=b ty26,flds:=[(0,9),(1,3),(2,22)],elem:=0 }),(2,tR ty34 157),(1,{ size:=5,agg:=d,ty:=b ty89,flds:=[(0,32),(4,113)],elem:=0 }),(7,{ size:=3,agg:=d,ty:=b ty24,flds:=[(0,3),(1,3),(2,3)],elem:=0 }),(8,tR ty33 48),(15,{ size:=3,agg:=d,ty:=b ty24,flds:=[(0,3),(1,3),(2,3)],elem:=0,cmp:=[iT,iT,iT] }),(1,{ size:=4,agg:=d,ty:=b (.arr 4 (.list iT)),flds:=[],elem:=22 }),(4,tR ty15 201),(1,{ size:=2,agg:=d,ty:=b ty30,flds:=[(0,3),(1,155)],elem:=0 }),(8,{ size:=1,agg:=e,ty:=h,flds:=[],elem:=0,mp:=b (3,3) }),(34,{ size:=2,agg:=d,ty:=b ty9,flds:=[(0,3),(1,3)],elem:=0 }),(0,tR ty29 205),(2,{ size:=3,agg:=d,ty:=b ty24,flds:=[(0,3),(1,3),(2,3)],elem:=0 }),(2,tR (.int .u64) 0),(6,{ size:=7,agg:=d,ty:=b ty56,flds:=[(0,3),(1,3),(2,3),(3,3),(4,3),(5,3),(6,3)],elem:=0 }),(23,{ size:=1,agg:=e,ty:=h,flds:=[],elem:=0,mp:=b (9,4) }),(19,tR ty15 261),(1,{ size:=2,agg:=d,ty:=b ty9,flds:=[(0,3),(1,3)],elem:=0 }),(17,{ size:=1,agg:=e,ty:=h,flds:=[],elem:=0,mp:=b (3,54) }),(52,{ size:=3,agg:=d,ty:=b ty24,flds:=[(0,3),(1,3),(2,3)],elem:=0 }),(12,tR ty15 349),(3,{ size:=2,agg:=d,ty:=b ty9,flds:=[(0,3),(1,3)],elem:=0 }),(7,{ size:=12,agg:=d,ty:=b (.arr 12 iT),flds:=[],elem:=3 })]
theorem jqz:j2x Tryz.prog (tab tabL):=jyN Tryz.prog tabL (by kernel_rfl)
theorem jis:Tryz.prog.follows .mixedOrders=true:=by kernel_rfl
end Go.Proofs.Pk
