/- Contracts: each given function is its plain function, printed by a program. -/
import Derived.Test.YtaieocafhcjelaaGreatBTab
import Derived.Test.YtaieocafhcjelaaGreatBSrt
noncomputable section
open Go Go.Lft
set_option linter.unusedVariables false
set_option maxRecDepth 100000
namespace Go.Proofs.Pk
abbrev ty8:Ty:=(.pair iT iT)
abbrev ty13:Ty:=(.list ty8)
abbrev ty21:Ty:=(.pair iT ty8)
abbrev ty24:Ty:=(.pair .str (.pair iT (.list iT)))
abbrev ty28:Ty:=(.pair iT ty13)
abbrev ty26:Ty:=(.list ty21)
abbrev ty29:Ty:=(.list ty24)
abbrev ty33:Ty:=(.list ty28)
abbrev ty42:Ty:=(.pair iT (.pair iT ty21))
abbrev ty44:Ty:=(.list ty42)
abbrev ty53:Ty:=(.pair .str (.pair iT (.pair ty13 (.pair iT (.pair iT .bool)))))
abbrev ty55:Ty:=(.pair iT (.pair iT ty42))
abbrev ty56:Ty:=(.list ty53)
abbrev ty58:Ty:=(.list ty55)
abbrev ty65:Ty:=(.pair .str (.pair iT ty58))
abbrev ty66:Ty:=(.list ty65)
abbrev ty72:Ty:=(.pair .str (.pair iT (.pair ty8 (.pair iT (.pair iT (.pair (.list iT) (.pair ty13 ty8)))))))
abbrev ty73:Ty:=(.list ty72)
abbrev ty77:Ty:=(.pair .str (.pair ty73 ty44))
abbrev ty78:Ty:=(.list ty77)
abbrev ty84:Ty:=(.pair ty66 (.pair ty56 (.pair ty29 ty78)))
abbrev ty86:Ty:=(.pair ty84 ty33)
def jbT:Con:=⟨17,[.v (.list iT)],[(.list iT)],⟨[.v .bool],[]⟩,[.bool],fun h=>Pw.jhb h⟩
def jnn:FnD where
 N:=6
 np:=1
 cs:=[]
 ds:=[]
 ro:=[false]
theorem jlN:Con.OK Tryz.prog jbT:=
 cOf j0n j04 jnn jbT Tryz.func17 trivial trivial
def jaN:Con:=⟨148,[],[],⟨[.so [(some 91,ty66),(some 93,ty56),(some 152,ty29),(some 45,ty78)]],[]⟩,[ty66,ty56,ty29,ty78],fun h=>Pw.jji⟩
def jlO:FnD where
 N:=26
 np:=0
 cs:=[]
 ds:=[]
 ro:=[true]
 so:=[.own 91 ty65,.own 93 ty53,.own 152 ty24,.own 45 ty77]
theorem jk3:Con.OK Tryz.prog jaN:=
 cOf j0n j04 jlO jaN Tryz.func148 trivial trivial
def j92:Con:=⟨68,[],[],⟨[.v ty84],[]⟩,[ty84],fun h=>Pw.jgh⟩
def jjl:FnD where
 N:=11
 np:=0
 cs:=[jaN]
 ds:=[]
 modes:=[(148,[])]
 ro:=[false]
theorem jhV:Con.OK Tryz.prog j92:=
 cOf j0n j04 jjl j92 Tryz.func68 (j9 jk3 trivial) trivial
def j70:Con:=⟨166,[.v ty65],[ty65],⟨[.v .str],[]⟩,[.str],fun h=>Pw.j9K h⟩
def jgj:FnD where
 N:=5
 np:=1
 cs:=[]
 ds:=[]
 ro:=[false]
theorem jfp:Con.OK Tryz.prog j70:=
 cOf j0n j04 jgj j70 Tryz.func166 trivial trivial
def jaO:Con:=⟨320,[.v (.int .u8)],[(.int .u8)],⟨[.v .bool],[]⟩,[.bool],fun h=>Pw.jfm h⟩
def jlP:FnD where
 N:=9
 np:=1
 cs:=[]
 ds:=[]
 ro:=[false]
theorem jk4:Con.OK Tryz.prog jaO:=
 cOf j0n j04 jlP jaO Tryz.func320 trivial trivial
def jaP:Con:=⟨321,[.v (.int .u8)],[(.int .u8)],⟨[.v .bool],[]⟩,[.bool],fun h=>Pw.jjj h⟩
def jlQ:FnD where
 N:=9
 np:=1
 cs:=[]
 ds:=[]
 ro:=[false]
theorem jk5:Con.OK Tryz.prog jaP:=
 cOf j0n j04 jlQ jaP Tryz.func321 trivial trivial
def jbU:Con:=⟨249,[.v .str],[.str],⟨[.v .bool],[]⟩,[.bool],fun h=>Pw.j7S h⟩
def jno:FnD where
 N:=43
 np:=1
 cs:=[jaO,jaP]
 ds:=[⟨0,[.s (.one (.d .str)),sI,sI],[.str,iT,iT],[⟨.ret,[.s (.one (.d .bool))],[.bool]⟩,⟨.exit 0,[],[]⟩],Pw.unc3 (Pw.jbz)⟩]
 modes:=[(320,[false]),(321,[false])]
 keep:=[(0,⟨[0,19,20],[],[],[]⟩)]
 keepX:=[(0,.ret,⟨[2],[],[],[]⟩),
  (0,.exit 0,⟨[],[],[],[]⟩)]
 ro:=[false]
theorem jlR:Con.OK Tryz.prog jbU:=
 cOf j0n j04 jno jbU Tryz.func249 (j9 jk4 (j9 jk5 trivial)) (j9 (fun h=>by kernel_rfl) trivial)
def j3S:Con:=⟨168,[.v .str,.rl 4294967523 (.list (.pair .str .bool))],[.str,(.list (.pair .str .bool))],⟨[.v iT],[.rl (.list (.pair .str .bool))]⟩,[iT,(.list (.pair .str .bool))],Pw.unc2 Pw.j3z⟩
def jk6:FnD where
 N:=13
 np:=2
 cs:=[jbU]
 ds:=[]
 modes:=[(249,[false])]
 ro:=[false]
theorem j6x:Con.OK Tryz.prog j3S:=
 cOf j0n j04 jk6 j3S Tryz.func168 (j9 jlR trivial) trivial
def jaQ:Con:=⟨300,[.v iT,.v iT,.v iT],[iT,iT,iT],⟨[.v .bool],[]⟩,[.bool],Pw.unc3 Pw.j9L⟩
def js4:FnD where
 N:=15
 np:=3
 cs:=[]
 ds:=[]
 ro:=[false]
theorem jhg:Con.OK Tryz.prog jaQ:=
 cOf j0n j04 js4 jaQ Tryz.func300 trivial trivial
def jd1:Con:=⟨340,[.v ty55],[ty55],⟨[.v iT],[]⟩,[iT],fun h=>Pw.je3 h⟩
def joI:FnD where
 N:=45
 np:=1
 cs:=[jaQ]
 ds:=[]
 modes:=[(300,[false,false,false])]
 ro:=[false]
theorem jnp:Con.OK Tryz.prog jd1:=
 cOf j0n j04 joI jd1 Tryz.func340 (j9 jhg trivial) trivial
def jbV:Con:=⟨394,[.v iT],[iT],⟨[.v .bool],[]⟩,[.bool],fun h=>Pw.jhc h⟩
def jnq:FnD where
 N:=16
 np:=1
 cs:=[]
 ds:=[]
 ro:=[false]
theorem jlS:Con.OK Tryz.prog jbV:=
 cOf j0n j04 jnq jbV Tryz.func394 trivial trivial
def j63:Con:=⟨368,[.v iT,.v iT],[iT,iT],⟨[.v iT],[]⟩,[iT],Pw.unc2 Pw.j6H⟩
def jnr:FnD where
 N:=24
 np:=2
 cs:=[jbV]
 ds:=[]
 modes:=[(394,[false])]
 ro:=[false]
theorem jak:Con.OK Tryz.prog j63:=
 cOf j0n j04 jnr j63 Tryz.func368 (j9 jlS trivial) trivial
def jaR:Con:=⟨383,[.v ty21],[ty21],⟨[.v .bool],[]⟩,[.bool],fun h=>Pw.jaC h⟩
def jlT:FnD where
 N:=26
 np:=1
 cs:=[j63]
 ds:=[]
 modes:=[(368,[false,false])]
 ro:=[false]
theorem jk7:Con.OK Tryz.prog jaR:=
 cOf j0n j04 jlT jaR Tryz.func383 (j9 jak trivial) trivial
def j8d:Con:=⟨393,[.v iT,.v iT],[iT,iT],⟨[.v iT],[]⟩,[iT],Pw.unc2 Pw.j7G⟩
def jlU:FnD where
 N:=16
 np:=2
 cs:=[]
 ds:=[]
 ro:=[false]
theorem jeZ:Con.OK Tryz.prog j8d:=
 cOf j0n j04 jlU j8d Tryz.func393 trivial trivial
def j6y:Con:=⟨366,[.v iT],[iT],⟨[.v iT],[]⟩,[iT],fun h=>Pw.j4V h⟩
def jlV:FnD where
 N:=19
 np:=1
 cs:=[j8d]
 ds:=[]
 modes:=[(393,[false,false])]
 ro:=[false]
theorem jbW:Con.OK Tryz.prog j6y:=
 cOf j0n j04 jlV j6y Tryz.func366 (j9 jeZ trivial) trivial
def j9P:Con:=⟨384,[.v ty21],[ty21],⟨[.v iT],[]⟩,[iT],fun h=>Pw.j6o h⟩
def jk8:FnD where
 N:=25
 np:=1
 cs:=[j63,j6y]
 ds:=[⟨0,[.s (.one (.bp 64 0)),sI,sI,.b (.cell [.d iT,.d iT,.d iT] false)],[iT,iT,iT,iT,iT],[⟨.exit 0,[sI],[iT]⟩],Pw.unc5 (Pw.j3W)⟩]
 modes:=[(366,[false]),(368,[false,false])]
 keep:=[(0,⟨[1,3,4],[64],[],[]⟩)]
 keepX:=[(0,.exit 0,⟨[3],[],[],[]⟩)]
 ro:=[false]
theorem jjm:Con.OK Tryz.prog j9P:=
 cOf j0n j04 jk8 j9P Tryz.func384 (j9 jak (j9 jbW trivial)) (j9 (fun h=>by kernel_rfl) trivial)
def j6M:Con:=⟨263,[.v iT],[iT],⟨[.v iT],[]⟩,[iT],fun h=>Pw.j6I h⟩
def jjn:FnD where
 N:=7
 np:=1
 cs:=[]
 ds:=[]
 ro:=[false]
theorem jdu:Con.OK Tryz.prog j6M:=
 cOf j0n j04 jjn j6M Tryz.func263 trivial trivial
def jd2:Con:=⟨341,[.v iT,.v iT,.v iT,.v iT],[iT,iT,iT,iT],⟨[.v iT,.v iT],[]⟩,[iT,iT],Pw.unc4 Pw.jaD⟩
def joJ:FnD where
 N:=59
 np:=4
 cs:=[j63,jaR,j9P,j6M]
 ds:=[]
 modes:=[(263,[false]),(368,[false,false]),(383,[false]),(384,[false])]
 ro:=[false,false]
theorem jns:Con.OK Tryz.prog jd2:=
 cOf j0n j04 joJ jd2 Tryz.func341 (j9 jak (j9 jk7 (j9 jjm (j9 jdu trivial)))) trivial
def j5K:Con:=⟨343,[.v ty8,.v ty8],[ty8,ty8],⟨[.v iT],[]⟩,[iT],Pw.unc2 Pw.j7H⟩
def je6:FnD where
 N:=10
 np:=2
 cs:=[]
 ds:=[]
 ro:=[false]
theorem jdz:Con.OK Tryz.prog j5K:=
 cOf j0n j04 je6 j5K Tryz.func343 trivial trivial
def j1u:Con:=⟨398,[.rl 338 ty13,.v iT,.v iT,.clo 343 []],[ty13,iT,iT],⟨[],[.rl ty13]⟩,[ty13],Pw.unc3 Pw.j0d⟩
def j5s:FnD where
 N:=53
 np:=4
 cs:=[j5K]
 ds:=[⟨0,[.s (.one (.ol 0)),sI,sI,.s (.one (.clo 343 [])),sI,.b (.lst 338 ty8 false)],[iT,iT,iT,ty13],[⟨.exit 0,[.b (.lst 338 ty8 false)],[ty13]⟩],Pw.unc4 (Pw.j08)⟩,
  ⟨2,[.s (.one (.ol 0)),sI,sI,.s (.one (.clo 343 [])),sI,sI,.b (.lst 338 ty8 false)],[iT,iT,iT,iT,ty13],[⟨.exit 2,[.s (.one (.ol 0)),sI,sI,.s (.one (.clo 343 [])),sI,.b (.lst 338 ty8 false)],[iT,iT,iT,ty13]⟩],Pw.unc5 (Pw.j0o)⟩]
 modes:=[(343,[false,false])]
 keep:=[(0,⟨[0,1,2,3,8],[0],[],[]⟩),
  (2,⟨[0,1,2,3,8,9],[0],[],[]⟩)]
 keepX:=[(0,.exit 0,⟨[],[0],[],[]⟩),
  (2,.exit 2,⟨[0,1,2,3,8],[0],[],[]⟩)]
 dw:=[(6,[[],[],[],[],[],[],[],[],[],[],[],[],[],[],[],[0],[],[0]])]
theorem j59:Con.OK Tryz.prog j1u:=
 cOf j0n j04 j5s j1u Tryz.func398 (j9 jdz trivial) (j9 (fun h=>by kernel_rfl) (j9 (fun h=>by kernel_rfl) trivial))
end Go.Proofs.Pk
