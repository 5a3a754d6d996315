/- Contracts: each given function is its plain function, printed by a program. -/
import Derived.Test.YtpbnnhakjhalaaaGreatESTab
noncomputable section
open Go Go.Lft
set_option linter.unusedVariables false
set_option maxRecDepth 100000
namespace Go.Proofs.Pk
abbrev ty8:Ty:=(.pair iT iT)
abbrev ty13:Ty:=(.list ty8)
abbrev ty21:Ty:=(.pair iT ty8)
abbrev ty24:Ty:=(.pair .str (.pair iT (.list iT)))
abbrev ty28:Ty:=(.pair iT ty13)
abbrev ty26:Ty:=(.list ty21)
abbrev ty29:Ty:=(.list ty24)
abbrev ty33:Ty:=(.list ty28)
abbrev ty42:Ty:=(.pair iT (.pair iT ty21))
abbrev ty44:Ty:=(.list ty42)
abbrev ty53:Ty:=(.pair .str (.pair iT (.pair ty13 (.pair iT (.pair iT .bool)))))
abbrev ty55:Ty:=(.pair iT (.pair iT ty42))
abbrev ty56:Ty:=(.list ty53)
abbrev ty58:Ty:=(.list ty55)
abbrev ty65:Ty:=(.pair .str (.pair iT ty58))
abbrev ty66:Ty:=(.list ty65)
abbrev ty72:Ty:=(.pair .str (.pair iT (.pair ty8 (.pair iT (.pair iT (.pair (.list iT) (.pair ty13 ty8)))))))
abbrev ty73:Ty:=(.list ty72)
abbrev ty77:Ty:=(.pair .str (.pair ty73 ty44))
abbrev ty78:Ty:=(.list ty77)
abbrev ty84:Ty:=(.pair ty66 (.pair ty56 (.pair ty29 ty78)))
abbrev ty86:Ty:=(.pair ty84 ty33)
def j9F:Con:=⟨15,[.v (.list iT)],[(.list iT)],⟨[.v .bool],[]⟩,[.bool],fun h=>Pw.jew h⟩
def jk4:FnD where
 N:=6
 np:=1
 cs:=[]
 ds:=[]
 ro:=[false]
theorem jiD:Con.OK Tryz.prog j9F:=
 cOf j0r j04 jk4 j9F Tryz.func15 trivial trivial
def j8Q:Con:=⟨64,[],[],⟨[.so [(some 68,ty66),(some 71,ty56),(some 120,ty29),(some 38,ty78)]],[]⟩,[ty66,ty56,ty29,ty78],fun h=>Pw.jgm⟩
def jiE:FnD where
 N:=26
 np:=0
 cs:=[]
 ds:=[]
 ro:=[true]
 so:=[.own 68 ty65,.own 71 ty53,.own 120 ty24,.own 38 ty77]
theorem jh3:Con.OK Tryz.prog j8Q:=
 cOf j0r j04 jiE j8Q Tryz.func64 trivial trivial
def j5H:Con:=⟨150,[.v ty65],[ty65],⟨[.v .str],[]⟩,[.str],fun h=>Pw.j82 h⟩
def jdS:FnD where
 N:=5
 np:=1
 cs:=[]
 ds:=[]
 ro:=[false]
theorem jcT:Con.OK Tryz.prog j5H:=
 cOf j0r j04 jdS j5H Tryz.func150 trivial trivial
def j8R:Con:=⟨306,[.v (.int .u8)],[(.int .u8)],⟨[.v .bool],[]⟩,[.bool],fun h=>Pw.jcO h⟩
def jiF:FnD where
 N:=9
 np:=1
 cs:=[]
 ds:=[]
 ro:=[false]
theorem jh4:Con.OK Tryz.prog j8R:=
 cOf j0r j04 jiF j8R Tryz.func306 trivial trivial
def j8S:Con:=⟨307,[.v (.int .u8)],[(.int .u8)],⟨[.v .bool],[]⟩,[.bool],fun h=>Pw.jgn h⟩
def jiG:FnD where
 N:=9
 np:=1
 cs:=[]
 ds:=[]
 ro:=[false]
theorem jh5:Con.OK Tryz.prog j8S:=
 cOf j0r j04 jiG j8S Tryz.func307 trivial trivial
def j9G:Con:=⟨226,[.v .str],[.str],⟨[.v .bool],[]⟩,[.bool],fun h=>Pw.j5t h⟩
def jk5:FnD where
 N:=43
 np:=1
 cs:=[j8R,j8S]
 ds:=[⟨0,[.s (.one (.d .str)),sI,sI],[.str,iT,iT],[⟨.ret,[.s (.one (.d .bool))],[.bool]⟩,⟨.exit 0,[],[]⟩],Pw.unc3 (Pw.j9x)⟩]
 modes:=[(306,[false]),(307,[false])]
 keep:=[(0,⟨[0,19,20],[],[],[]⟩)]
 keepX:=[(0,.ret,⟨[2],[],[],[]⟩),
  (0,.exit 0,⟨[],[],[],[]⟩)]
 ro:=[false]
theorem jiH:Con.OK Tryz.prog j9G:=
 cOf j0r j04 jk5 j9G Tryz.func226 (j9 jh4 (j9 jh5 trivial)) (j9 (fun h=>by kernel_rfl) trivial)
def j33:Con:=⟨152,[.v .str,.rl 4294967512 (.list (.pair .str .bool))],[.str,(.list (.pair .str .bool))],⟨[.v iT],[.rl (.list (.pair .str .bool))]⟩,[iT,(.list (.pair .str .bool))],Pw.unc2 Pw.j2N⟩
def jh6:FnD where
 N:=13
 np:=2
 cs:=[j9G]
 ds:=[]
 modes:=[(226,[false])]
 ro:=[false]
theorem j5g:Con.OK Tryz.prog j33:=
 cOf j0r j04 jh6 j33 Tryz.func152 (j9 jiH trivial) trivial
def j8T:Con:=⟨293,[.v iT,.v iT,.v iT],[iT,iT,iT],⟨[.v .bool],[]⟩,[.bool],Pw.unc3 Pw.j83⟩
def joC:FnD where
 N:=15
 np:=3
 cs:=[]
 ds:=[]
 ro:=[false]
theorem jey:Con.OK Tryz.prog j8T:=
 cOf j0r j04 joC j8T Tryz.func293 trivial trivial
def jaK:Con:=⟨339,[.v ty55],[ty55],⟨[.v iT],[]⟩,[iT],fun h=>Pw.jbH h⟩
def jlj:FnD where
 N:=45
 np:=1
 cs:=[j8T]
 ds:=[]
 modes:=[(293,[false,false,false])]
 ro:=[false]
theorem jk6:Con.OK Tryz.prog jaK:=
 cOf j0r j04 jlj jaK Tryz.func339 (j9 jey trivial) trivial
def j9H:Con:=⟨396,[.v iT],[iT],⟨[.v .bool],[]⟩,[.bool],fun h=>Pw.jex h⟩
def jk7:FnD where
 N:=16
 np:=1
 cs:=[]
 ds:=[]
 ro:=[false]
theorem jiI:Con.OK Tryz.prog j9H:=
 cOf j0r j04 jk7 j9H Tryz.func396 trivial trivial
def j4H:Con:=⟨349,[.v iT,.v iT],[iT,iT],⟨[.v iT],[]⟩,[iT],Pw.unc2 Pw.j5u⟩
def jk8:FnD where
 N:=24
 np:=2
 cs:=[j9H]
 ds:=[]
 modes:=[(396,[false])]
 ro:=[false]
theorem j8u:Con.OK Tryz.prog j4H:=
 cOf j0r j04 jk8 j4H Tryz.func349 (j9 jiI trivial) trivial
def j8U:Con:=⟨391,[.v ty21],[ty21],⟨[.v .bool],[]⟩,[.bool],fun h=>Pw.j8G h⟩
def jiJ:FnD where
 N:=26
 np:=1
 cs:=[j4H]
 ds:=[]
 modes:=[(349,[false,false])]
 ro:=[false]
theorem jh7:Con.OK Tryz.prog j8U:=
 cOf j0r j04 jiJ j8U Tryz.func391 (j9 j8u trivial) trivial
def j6G:Con:=⟨395,[.v iT,.v iT],[iT,iT],⟨[.v iT],[]⟩,[iT],Pw.unc2 Pw.j67⟩
def jiK:FnD where
 N:=16
 np:=2
 cs:=[]
 ds:=[]
 ro:=[false]
theorem jcw:Con.OK Tryz.prog j6G:=
 cOf j0r j04 jiK j6G Tryz.func395 trivial trivial
def j5h:Con:=⟨347,[.v iT],[iT],⟨[.v iT],[]⟩,[iT],fun h=>Pw.j3O h⟩
def jiL:FnD where
 N:=19
 np:=1
 cs:=[j6G]
 ds:=[]
 modes:=[(395,[false,false])]
 ro:=[false]
theorem j9I:Con.OK Tryz.prog j5h:=
 cOf j0r j04 jiL j5h Tryz.func347 (j9 jcw trivial) trivial
def j86:Con:=⟨392,[.v ty21],[ty21],⟨[.v iT],[]⟩,[iT],fun h=>Pw.j54 h⟩
def jh8:FnD where
 N:=25
 np:=1
 cs:=[j4H,j5h]
 ds:=[⟨0,[.s (.one (.bp 64 0)),sI,sI,.b (.cell [.d iT,.d iT,.d iT] false)],[iT,iT,iT,iT,iT],[⟨.exit 0,[sI],[iT]⟩],Pw.unc5 (Pw.j35)⟩]
 modes:=[(347,[false]),(349,[false,false])]
 keep:=[(0,⟨[1,3,4],[64],[],[]⟩)]
 keepX:=[(0,.exit 0,⟨[3],[],[],[]⟩)]
 ro:=[false]
theorem jgp:Con.OK Tryz.prog j86:=
 cOf j0r j04 jh8 j86 Tryz.func392 (j9 j8u (j9 j9I trivial)) (j9 (fun h=>by kernel_rfl) trivial)
def j5x:Con:=⟨250,[.v iT],[iT],⟨[.v iT],[]⟩,[iT],fun h=>Pw.j4q h⟩
def jgq:FnD where
 N:=7
 np:=1
 cs:=[]
 ds:=[]
 ro:=[false]
theorem jb7:Con.OK Tryz.prog j5x:=
 cOf j0r j04 jgq j5x Tryz.func250 trivial trivial
def jaL:Con:=⟨340,[.v iT,.v iT,.v iT,.v iT],[iT,iT,iT,iT],⟨[.v iT,.v iT],[]⟩,[iT,iT],Pw.unc4 Pw.j8H⟩
def jlk:FnD where
 N:=59
 np:=4
 cs:=[j4H,j8U,j86,j5x]
 ds:=[]
 modes:=[(250,[false]),(349,[false,false]),(391,[false]),(392,[false])]
 ro:=[false,false]
theorem jk9:Con.OK Tryz.prog jaL:=
 cOf j0r j04 jlk jaL Tryz.func340 (j9 j8u (j9 jh7 (j9 jgp (j9 jb7 trivial)))) trivial
def j4u:Con:=⟨342,[.v ty8,.v ty8],[ty8,ty8],⟨[.v iT],[]⟩,[iT],Pw.unc2 Pw.j68⟩
def jbP:FnD where
 N:=10
 np:=2
 cs:=[]
 ds:=[]
 ro:=[false]
theorem jb9:Con.OK Tryz.prog j4u:=
 cOf j0r j04 jbP j4u Tryz.func342 trivial trivial
def j16:Con:=⟨412,[.rl 332 ty13,.v iT,.v iT,.clo 342 []],[ty13,iT,iT],⟨[],[.rl ty13]⟩,[ty13],Pw.unc3 Pw.j0a⟩
def j4f:FnD where
 N:=53
 np:=4
 cs:=[j4u]
 ds:=[⟨0,[.s (.one (.ol 0)),sI,sI,.s (.one (.clo 342 [])),sI,.b (.lst 332 ty8 false)],[iT,iT,iT,ty13],[⟨.exit 0,[.b (.lst 332 ty8 false)],[ty13]⟩],Pw.unc4 (Pw.j06)⟩,
  ⟨2,[.s (.one (.ol 0)),sI,sI,.s (.one (.clo 342 [])),sI,sI,.b (.lst 332 ty8 false)],[iT,iT,iT,iT,ty13],[⟨.exit 2,[.s (.one (.ol 0)),sI,sI,.s (.one (.clo 342 [])),sI,.b (.lst 332 ty8 false)],[iT,iT,iT,ty13]⟩],Pw.unc5 (Pw.j0i)⟩]
 modes:=[(342,[false,false])]
 keep:=[(0,⟨[0,1,2,3,8],[0],[],[]⟩),
  (2,⟨[0,1,2,3,8,9],[0],[],[]⟩)]
 keepX:=[(0,.exit 0,⟨[],[0],[],[]⟩),
  (2,.exit 2,⟨[0,1,2,3,8],[0],[],[]⟩)]
 dw:=[(6,[[],[],[],[],[],[],[],[],[],[],[],[],[],[],[],[0],[],[0]])]
theorem j3Y:Con.OK Tryz.prog j16:=
 cOf j0r j04 j4f j16 Tryz.func412 (j9 jb9 trivial) (j9 (fun h=>by kernel_rfl) (j9 (fun h=>by kernel_rfl) trivial))
def j1C:Con:=⟨393,[.rl 332 ty13,.v iT,.clo 342 []],[ty13,iT],⟨[],[.rl ty13]⟩,[ty13],Pw.unc2 Pw.j0I⟩
def j5y:FnD where
 N:=63
 np:=3
 cs:=[j16]
 ds:=[⟨0,[.s (.one (.ol 0)),sI,.s (.one (.clo 342 [])),sI,sI,sI,.b (.lst 332 ty8 false)],[iT,iT,iT,iT,ty13],[⟨.exit 0,[.s (.one (.ol 0)),sI,.s (.one (.clo 342 [])),sI,sI,.b (.lst 332 ty8 false)],[iT,iT,iT,ty13]⟩],Pw.unc5 (Pw.j0c)⟩,
  ⟨2,[.s (.one (.ol 0)),sI,.s (.one (.clo 342 [])),sI,.b (.lst 332 ty8 false)],[iT,iT,ty13],[⟨.exit 2,[.b (.lst 332 ty8 false)],[ty13]⟩],Pw.unc3 (Pw.j0d)⟩,
  ⟨4,[.s (.one (.ol 0)),sI,.s (.one (.clo 342 [])),sI,sI,sI,.b (.lst 332 ty8 false)],[iT,iT,iT,iT,ty13],[⟨.exit 4,[.s (.one (.ol 0)),sI,.s (.one (.clo 342 [])),sI,sI,.b (.lst 332 ty8 false)],[iT,iT,iT,ty13]⟩],Pw.unc5 (Pw.j2k)⟩]
 modes:=[(412,[true,false,false,false])]
 keep:=[(0,⟨[0,1,2,6,7,8],[0],[],[]⟩),
  (2,⟨[0,1,2,6],[0],[],[]⟩),
  (4,⟨[0,1,2,6,7,8],[0],[],[]⟩)]
 keepX:=[(0,.exit 0,⟨[0,1,2,6,7],[0],[],[]⟩),
  (2,.exit 2,⟨[],[0],[],[]⟩),
  (4,.exit 4,⟨[0,1,2,6,7],[0],[],[]⟩)]
theorem j5i:Con.OK Tryz.prog j1C:=
 cOf j0r j04 j5y j1C Tryz.func393 (j9 j3Y trivial) (j9 (fun h=>by kernel_rfl) (j9 (fun h=>by kernel_rfl) (j9 (fun h=>by kernel_rfl) trivial)))
end Go.Proofs.Pk
