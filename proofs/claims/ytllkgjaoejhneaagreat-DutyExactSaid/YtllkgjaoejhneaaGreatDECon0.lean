/- Contracts: each given function is its plain function, printed by a program. -/
import Derived.Test.YtllkgjaoejhneaaGreatDETab
import Derived.Test.YtllkgjaoejhneaaGreatDESrt
open _root_ renaming trivial->e
open Bool renaming false->i
noncomputable section
open Go Go.Lft
set_option linter.unusedVariables false
set_option maxRecDepth 100000
namespace Go.Proofs.Pk
abbrev OKc (c:Con):=Con.OK Tryz.prog c
abbrev ty9:Ty:=(.pair iT iT)
abbrev ty14:Ty:=(.list ty9)
abbrev ty22:Ty:=(.pair iT ty9)
abbrev ty24:Ty:=(.pair .str (.pair iT (.list iT)))
abbrev ty27:Ty:=(.pair iT ty14)
abbrev ty26:Ty:=(.list ty22)
abbrev ty28:Ty:=(.list ty24)
abbrev ty31:Ty:=(.list ty27)
abbrev ty39:Ty:=(.pair iT (.pair iT ty22))
abbrev ty41:Ty:=(.list ty39)
abbrev ty54:Ty:=(.pair .str (.pair iT (.pair ty14 (.pair iT (.pair iT .bool)))))
abbrev ty56:Ty:=(.pair iT (.pair iT ty39))
abbrev ty57:Ty:=(.list ty54)
abbrev ty59:Ty:=(.list ty56)
abbrev ty66:Ty:=(.pair .str (.pair iT ty59))
abbrev ty67:Ty:=(.list ty66)
abbrev ty73:Ty:=(.pair .str (.pair iT (.pair ty9 (.pair iT (.pair iT (.pair (.list iT) (.pair ty14 ty9)))))))
abbrev ty74:Ty:=(.list ty73)
abbrev ty80:Ty:=(.pair .str (.pair ty74 ty41))
abbrev ty81:Ty:=(.list ty80)
abbrev ty87:Ty:=(.pair ty67 (.pair ty57 (.pair ty28 ty81)))
abbrev ty88:Ty:=(.list ty87)
abbrev ty93:Ty:=(.pair ty87 ty31)
def jbU:Con:=⟨7,[.v (.list iT)],[(.list iT)],⟨[.v .bool],[]⟩,[.bool],fun h=>Pw.jhS h⟩
def joj:FnD where
 N:=6
 np:=1
theorem jmK:OKc jbU:=
 cOf j0d j04 joj jbU Tryz.func7 e e
def jaI:Con:=⟨89,[],[],⟨[.v ty87,.v ty73],[]⟩,[ty87,ty73],fun h=>Pw.jjW⟩
def jmL:FnD where
 N:=15
 np:=0
theorem jkQ:OKc jaI:=
 cOf j0d j04 jmL jaI Tryz.func89 e e
def j6w:Con:=⟨119,[.v ty66],[ty66],⟨[.v .str],[]⟩,[.str],fun h=>Pw.j6U h⟩
def jh2:FnD where
 N:=5
 np:=1
theorem jg1:OKc j6w:=
 cOf j0d j04 jh2 j6w Tryz.func119 e e
def jaJ:Con:=⟨230,[.v (.int .u8)],[(.int .u8)],⟨[.v .bool],[]⟩,[.bool],fun h=>Pw.jao h⟩
def jmM:FnD where
 N:=9
 np:=1
theorem jkR:OKc jaJ:=
 cOf j0d j04 jmM jaJ Tryz.func230 e e
def jaK:Con:=⟨231,[.v (.int .u8)],[(.int .u8)],⟨[.v .bool],[]⟩,[.bool],fun h=>Pw.jfV h⟩
def jmN:FnD where
 N:=9
 np:=1
theorem jkS:OKc jaK:=
 cOf j0d j04 jmN jaK Tryz.func231 e e
def jbV:Con:=⟨177,[.v .str],[.str],⟨[.v .bool],[]⟩,[.bool],fun h=>Pw.jcy h⟩
def jok:FnD where
 N:=43
 np:=1
 cs:=[jaJ,jaK]
 ds:=[⟨0,[sD .str,sI,sI],[.str,iT,iT],[⟨.ret,[sD .bool],[.bool]⟩,⟨.exit 0,[],[]⟩],Pw.unc3 (Pw.j49)⟩]
 keep:=[(0,⟨[0,19,20],[],[],[]⟩)]
 keepX:=[(0,.ret,⟨[2],[],[],[]⟩)]
theorem jmO:OKc jbV:=
 cOf j0d j04 jok jbV Tryz.func177 (jg jkR (jg jkS e)) (jg (fun h=>by kernel_rfl) e)
def j3m:Con:=⟨121,[.v .str,.rl 4294967458 (.list (.pair .str .bool))],[.str,(.list (.pair .str .bool))],⟨[.v iT],[.rl (.list (.pair .str .bool))]⟩,[iT,(.list (.pair .str .bool))],Pw.unc2 Pw.j3H⟩
def jkT:FnD where
 N:=13
 np:=2
 cs:=[jbV]
theorem j63:OKc j3m:=
 cOf j0d j04 jkT j3m Tryz.func121 (jg jmO e) e
def jaL:Con:=⟨264,[.v iT,.v iT,.v iT],[iT,iT,iT],⟨[.v .bool],[]⟩,[.bool],Pw.unc3 Pw.j6u⟩
def juw:FnD where
 N:=15
 np:=3
theorem jhV:OKc jaL:=
 cOf j0d j04 juw jaL Tryz.func264 e e
def jdn:Con:=⟨282,[.v ty56],[ty56],⟨[.v iT],[]⟩,[iT],fun h=>Pw.j93 h⟩
def jq4:FnD where
 N:=45
 np:=1
 cs:=[jaL]
theorem jol:OKc jdn:=
 cOf j0d j04 jq4 jdn Tryz.func282 (jg jhV e) e
def jbW:Con:=⟨287,[.v iT],[iT],⟨[.v .bool],[]⟩,[.bool],fun h=>Pw.jhT h⟩
def jom:FnD where
 N:=16
 np:=1
theorem jmP:OKc jbW:=
 cOf j0d j04 jom jbW Tryz.func287 e e
def j5x:Con:=⟨267,[.v iT,.v iT],[iT,iT],⟨[.v iT],[]⟩,[iT],Pw.unc2 Pw.j6c⟩
def jon:FnD where
 N:=24
 np:=2
 cs:=[jbW]
theorem j9Z:OKc j5x:=
 cOf j0d j04 jon j5x Tryz.func267 (jg jmP e) e
def jaM:Con:=⟨299,[.v ty22],[ty22],⟨[.v .bool],[]⟩,[.bool],fun h=>Pw.jap h⟩
def jmQ:FnD where
 N:=26
 np:=1
 cs:=[j5x]
theorem jkU:OKc jaM:=
 cOf j0d j04 jmQ jaM Tryz.func299 (jg j9Z e) e
def j81:Con:=⟨286,[.v iT,.v iT],[iT,iT],⟨[.v iT],[]⟩,[iT],Pw.unc2 Pw.j7d⟩
def jmR:FnD where
 N:=16
 np:=2
theorem jfB:OKc j81:=
 cOf j0d j04 jmR j81 Tryz.func286 e e
def j64:Con:=⟨265,[.v iT],[iT],⟨[.v iT],[]⟩,[iT],fun h=>Pw.j4v h⟩
def jmS:FnD where
 N:=19
 np:=1
 cs:=[j81]
theorem jbX:OKc j64:=
 cOf j0d j04 jmS j64 Tryz.func265 (jg jfB e) e
def j9t:Con:=⟨300,[.v ty22],[ty22],⟨[.v iT],[]⟩,[iT],fun h=>Pw.jbm h⟩
def jkV:FnD where
 N:=25
 np:=1
 cs:=[j5x,j64]
 ds:=[⟨0,[sB 64 0,sI,sI,.b (.cell [.d iT,.d iT,.d iT] i)],[iT,iT,iT,iT,iT],[⟨.exit 0,[sI],[iT]⟩],Pw.unc5 (Pw.j3o)⟩]
 keep:=[(0,⟨[1,3,4],[64],[],[]⟩)]
 keepX:=[(0,.exit 0,⟨[3],[],[],[]⟩)]
theorem jk0:OKc j9t:=
 cOf j0d j04 jkV j9t Tryz.func300 (jg j9Z (jg jbX e)) (jg (fun h=>by kernel_rfl) e)
def j6i:Con:=⟨210,[.v iT],[iT],⟨[.v iT],[]⟩,[iT],fun h=>Pw.j54 h⟩
def jk1:FnD where
 N:=7
 np:=1
theorem je3:OKc j6i:=
 cOf j0d j04 jk1 j6i Tryz.func210 e e
def jdo:Con:=⟨283,[.v iT,.v iT,.v iT,.v iT],[iT,iT,iT,iT],⟨[.v iT,.v iT],[]⟩,[iT,iT],Pw.unc4 Pw.jgQ⟩
def jq5:FnD where
 N:=59
 np:=4
 cs:=[j5x,jaM,j9t,j6i]
theorem joo:OKc jdo:=
 cOf j0d j04 jq5 jdo Tryz.func283 (jg j9Z (jg jkU (jg jk0 (jg je3 e)))) e
def j5b:Con:=⟨285,[.v ty9,.v ty9],[ty9,ty9],⟨[.v iT],[]⟩,[iT],Pw.unc2 Pw.j7e⟩
def jeF:FnD where
 N:=10
 np:=2
theorem je9:OKc j5b:=
 cOf j0d j04 jeF j5b Tryz.func285 e e
def j12:Con:=⟨305,[.rl 289 ty14,.v iT,.v iT,.clo 285 []],[ty14,iT,iT],⟨[],[.rl ty14]⟩,[ty14],Pw.unc3 Pw.j0s⟩
def j4U:FnD where
 N:=53
 np:=4
 cs:=[j5b]
 ds:=[⟨0,[sO 0,sI,sI,sC 285 [],sI,.b (.lst 289 ty9 i)],[iT,iT,iT,ty14],[⟨.exit 0,[.b (.lst 289 ty9 i)],[ty14]⟩],Pw.unc4 (Pw.j0h)⟩,⟨2,[sO 0,sI,sI,sC 285 [],sI,sI,.b (.lst 289 ty9 i)],[iT,iT,iT,iT,ty14],[⟨.exit 2,[sO 0,sI,sI,sC 285 [],sI,.b (.lst 289 ty9 i)],[iT,iT,iT,ty14]⟩],Pw.unc5 (Pw.j0g)⟩]
 keep:=[(0,⟨[0,1,2,3,8],[0],[],[]⟩),(2,⟨[0,1,2,3,8,9],[0],[],[]⟩)]
 keepX:=[(0,.exit 0,⟨[],[0],[],[]⟩),(2,.exit 2,⟨[0,1,2,3,8],[0],[],[]⟩)]
 dw:=[(6,[[],[],[],[],[],[],[],[],[],[],[],[],[],[],[],[0],[],[0]])]
theorem j4C:OKc j12:=
 cOf j0d j04 j4U j12 Tryz.func305 (jg je9 e) (jg (fun h=>by kernel_rfl) (jg (fun h=>by kernel_rfl) e))
def j1u:Con:=⟨301,[.rl 289 ty14,.v iT,.clo 285 []],[ty14,iT],⟨[],[.rl ty14]⟩,[ty14],Pw.unc2 Pw.j1S⟩
def j6j:FnD where
 N:=63
 np:=3
 cs:=[j12]
 ds:=[⟨0,[sO 0,sI,sC 285 [],sI,sI,sI,.b (.lst 289 ty9 i)],[iT,iT,iT,iT,ty14],[⟨.exit 0,[sO 0,sI,sC 285 [],sI,sI,.b (.lst 289 ty9 i)],[iT,iT,iT,ty14]⟩],Pw.unc5 (Pw.j0G)⟩,⟨2,[sO 0,sI,sC 285 [],sI,.b (.lst 289 ty9 i)],[iT,iT,ty14],[⟨.exit 2,[.b (.lst 289 ty9 i)],[ty14]⟩],Pw.unc3 (Pw.j0H)⟩,⟨4,[sO 0,sI,sC 285 [],sI,sI,sI,.b (.lst 289 ty9 i)],[iT,iT,iT,iT,ty14],[⟨.exit 4,[sO 0,sI,sC 285 [],sI,sI,.b (.lst 289 ty9 i)],[iT,iT,iT,ty14]⟩],Pw.unc5 (Pw.j28)⟩]
 modes:=[(305,[true,i,i,i])]
 keep:=[(0,⟨[0,1,2,6,7,8],[0],[],[]⟩),(2,⟨[0,1,2,6],[0],[],[]⟩),(4,⟨[0,1,2,6,7,8],[0],[],[]⟩)]
 keepX:=[(0,.exit 0,⟨[0,1,2,6,7],[0],[],[]⟩),(2,.exit 2,⟨[],[0],[],[]⟩),(4,.exit 4,⟨[0,1,2,6,7],[0],[],[]⟩)]
theorem j65:OKc j1u:=
 cOf j0d j04 j6j j1u Tryz.func301 (jg j4C e) (jg (fun h=>by kernel_rfl) (jg (fun h=>by kernel_rfl) (jg (fun h=>by kernel_rfl) e)))
end Go.Proofs.Pk
