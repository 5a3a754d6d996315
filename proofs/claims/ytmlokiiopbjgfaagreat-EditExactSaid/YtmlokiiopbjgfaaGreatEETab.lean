/- The types of the seat, printed by a program. -/
import Derived.Test.YtmlokiiopbjgfaaGreatEEFns
import Derived.Test.YtmlokiiopbjgfaaGreatProg
open Option renaming some->b
open Bool renaming true->c
open Go Go.Lft
namespace Go.Proofs.Pk
abbrev ty6:Ty:=(.pair iT iT)
abbrev ty10:Ty:=(.list ty6)
abbrev ty18:Ty:=(.pair iT ty6)
abbrev ty20:Ty:=(.pair .str (.pair iT (.list iT)))
abbrev ty23:Ty:=(.pair iT ty10)
abbrev ty22:Ty:=(.list ty18)
abbrev ty24:Ty:=(.list ty20)
abbrev ty27:Ty:=(.list ty23)
abbrev ty35:Ty:=(.pair iT (.pair iT ty18))
abbrev ty37:Ty:=(.list ty35)
abbrev ty40:Ty:=(.list ty37)
abbrev ty50:Ty:=(.pair .str (.pair iT (.pair ty10 (.pair iT (.pair iT .bool)))))
abbrev ty52:Ty:=(.pair iT (.pair iT ty35))
abbrev ty53:Ty:=(.list ty50)
abbrev ty55:Ty:=(.list ty52)
abbrev ty62:Ty:=(.pair .str (.pair iT ty55))
abbrev ty63:Ty:=(.list ty62)
abbrev ty69:Ty:=(.pair .str (.pair iT (.pair ty6 (.pair iT (.pair iT (.pair (.list iT) (.pair ty10 ty6)))))))
abbrev ty70:Ty:=(.list ty69)
abbrev ty74:Ty:=(.pair .str (.pair ty70 ty37))
abbrev ty75:Ty:=(.list ty74)
abbrev ty81:Ty:=(.pair ty63 (.pair ty53 (.pair ty24 ty75)))
abbrev ty82:Ty:=(.list ty81)
abbrev ty85:Ty:=(.pair ty81 ty27)
def tabL:List (Option TyI):=tz [(3,tR iT 0),(0,tR .bool 0),(0,tR (.int .u8) 0),(3,tR .str 0),(12,tR ((.list iT)) 3),(1,{ size:=5,agg:=c,ty:=b ty35,flds:=[(0,3),(1,3),(2,3),(3,3),(4,3)],elem:=0,cmp:=[iT,iT,iT,iT,iT] }),(0,tR ty37 24),(4,tR ty63 72),(0,tR ty53 74),(0,tR ty24 78),(0,tR ty75 52),(1,{ size:=4,agg:=c,ty:=b ty81,flds:=[(0,30),(1,31),(2,32),(3,33)],elem:=0 }),(2,{ size:=8,agg:=c,ty:=b (.arr 2 ty81),flds:=[],elem:=35 }),(1,{ size:=3,agg:=c,ty:=b (.arr 3 iT),flds:=[],elem:=3 }),(3,{ size:=15,agg:=c,ty:=b (.arr 3 ty35),flds:=[],elem:=24 }),(0,tR iT 0),(4,tR ty70 66),(1,{ size:=3,agg:=c,ty:=b ty74,flds:=[(0,9),(1,50),(2,25)],elem:=0 }),(0,{ size:=2,agg:=c,ty:=b (.arr 2 ty37),flds:=[],elem:=25 }),(6,{ size:=2,agg:=c,ty:=b (.pair (.list iT) iT),flds:=[(0,22),(1,3)],elem:=0 }),(0,tR (.list .str) 9),(1,{ size:=2,agg:=c,ty:=b ty6,flds:=[(0,3),(1,3)],elem:=0,cmp:=[iT,iT] }),(0,tR ty10 76),(1,{ size:=10,agg:=c,ty:=b ty69,flds:=[(0,9),(1,3),(2,63),(4,3),(5,3),(6,22),(7,64),(8,3),(9,3)],elem:=0 }),(3,tR ty55 120),(1,{ size:=3,agg:=c,ty:=b ty62,flds:=[(0,9),(1,3),(2,70)],elem:=0 }),(1,{ size:=6,agg:=c,ty:=b ty50,flds:=[(0,9),(1,3),(2,64),(3,3),(4,3),(5,4)],elem:=0 }),(1,{ size:=2,agg:=c,ty:=b ty6,flds:=[(0,3),(1,3)],elem:=0,cmp:=[iT,iT] }),(1,{ size:=3,agg:=c,ty:=b ty20,flds:=[(0,9),(1,3),(2,22)],elem:=0 }),(3,tR ty27 154),(1,{ size:=5,agg:=c,ty:=b ty85,flds:=[(0,35),(4,82)],elem:=0 }),(23,{ size:=1,agg:=false,ty:=none,flds:=[],elem:=0,mp:=b (9,4) }),(11,{ size:=7,agg:=c,ty:=b ty52,flds:=[(0,3),(1,3),(2,3),(3,3),(4,3),(5,3),(6,3)],elem:=0,cmp:=[iT,iT,iT,iT,iT,iT,iT] }),(31,tR ty10 189),(1,{ size:=2,agg:=c,ty:=b ty23,flds:=[(0,3),(1,152)],elem:=0 }),(14,{ size:=3,agg:=c,ty:=b ty18,flds:=[(0,3),(1,3),(2,3)],elem:=0 }),(13,tR ty10 187),(3,{ size:=2,agg:=c,ty:=b ty6,flds:=[(0,3),(1,3)],elem:=0 }),(1,{ size:=2,agg:=c,ty:=b ty6,flds:=[(0,3),(1,3)],elem:=0 }),(0,tR ty10 192),(1,{ size:=2,agg:=c,ty:=b ty6,flds:=[(0,3),(1,3)],elem:=0 }),(2,tR (.int .u64) 0),(8,{ size:=12,agg:=c,ty:=b (.arr 12 iT),flds:=[],elem:=3 }),(8,tR ty22 216),(2,{ size:=3,agg:=c,ty:=b ty18,flds:=[(0,3),(1,3),(2,3)],elem:=0 })]
theorem jeK:j1J Tryz.prog (tab tabL):=jqc Tryz.prog tabL (by kernel_rfl)
theorem j8h:Tryz.prog.follows .mixedOrders=true:=by kernel_rfl
end Go.Proofs.Pk
