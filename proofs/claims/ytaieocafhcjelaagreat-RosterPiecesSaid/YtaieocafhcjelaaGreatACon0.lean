/- Contracts: each given function is its plain function, printed by a program. -/
import Derived.Test.YtaieocafhcjelaaGreatATab
import Derived.Test.YtaieocafhcjelaaGreatASrt
noncomputable section
open Go Go.Lft
set_option linter.unusedVariables false
set_option maxRecDepth 100000
namespace Go.Proofs.Pk
abbrev ty8:Ty:=(.pair iT iT)
abbrev ty13:Ty:=(.list ty8)
abbrev ty21:Ty:=(.pair iT ty8)
abbrev ty24:Ty:=(.pair .str (.pair iT (.list iT)))
abbrev ty28:Ty:=(.pair iT ty13)
abbrev ty26:Ty:=(.list ty21)
abbrev ty29:Ty:=(.list ty24)
abbrev ty33:Ty:=(.list ty28)
abbrev ty42:Ty:=(.pair iT (.pair iT ty21))
abbrev ty44:Ty:=(.list ty42)
abbrev ty53:Ty:=(.pair .str (.pair iT (.pair ty13 (.pair iT (.pair iT .bool)))))
abbrev ty55:Ty:=(.pair iT (.pair iT ty42))
abbrev ty56:Ty:=(.list ty53)
abbrev ty58:Ty:=(.list ty55)
abbrev ty65:Ty:=(.pair .str (.pair iT ty58))
abbrev ty66:Ty:=(.list ty65)
abbrev ty72:Ty:=(.pair .str (.pair iT (.pair ty8 (.pair iT (.pair iT (.pair (.list iT) (.pair ty13 ty8)))))))
abbrev ty73:Ty:=(.list ty72)
abbrev ty77:Ty:=(.pair .str (.pair ty73 ty44))
abbrev ty78:Ty:=(.list ty77)
abbrev ty84:Ty:=(.pair ty66 (.pair ty56 (.pair ty29 ty78)))
abbrev ty86:Ty:=(.pair ty84 ty33)
def jdP:Con:=⟨17,[.v (.list iT)],[(.list iT)],⟨[.v .bool],[]⟩,[.bool],fun h=>Pw.jkA h⟩
def jru:FnD where
 N:=6
 np:=1
 cs:=[]
 ds:=[]
 ro:=[false]
theorem jpJ:Con.OK Tryz.prog jdP:=
 cOf j0c j03 jru jdP Tryz.func17 trivial trivial
def jcD:Con:=⟨148,[],[],⟨[.so [(some 91,ty66),(some 93,ty56),(some 152,ty29),(some 45,ty78)]],[]⟩,[ty66,ty56,ty29,ty78],fun h=>Pw.jmW⟩
def jpK:FnD where
 N:=26
 np:=0
 cs:=[]
 ds:=[]
 ro:=[true]
 so:=[.own 91 ty65,.own 93 ty53,.own 152 ty24,.own 45 ty77]
theorem jnT:Con.OK Tryz.prog jcD:=
 cOf j0c j03 jpK jcD Tryz.func148 trivial trivial
def jai:Con:=⟨68,[],[],⟨[.v ty84],[]⟩,[ty84],fun h=>Pw.jjt⟩
def jn2:FnD where
 N:=11
 np:=0
 cs:=[jcD]
 ds:=[]
 modes:=[(148,[])]
 ro:=[false]
theorem jlx:Con.OK Tryz.prog jai:=
 cOf j0c j03 jn2 jai Tryz.func68 (j9 jnT trivial) trivial
def j80:Con:=⟨166,[.v ty65],[ty65],⟨[.v .str],[]⟩,[.str],fun h=>Pw.jbg h⟩
def jjF:FnD where
 N:=5
 np:=1
 cs:=[]
 ds:=[]
 ro:=[false]
theorem jis:Con.OK Tryz.prog j80:=
 cOf j0c j03 jjF j80 Tryz.func166 trivial trivial
def jcE:Con:=⟨320,[.v (.int .u8)],[(.int .u8)],⟨[.v .bool],[]⟩,[.bool],fun h=>Pw.jcg h⟩
def jpL:FnD where
 N:=9
 np:=1
 cs:=[]
 ds:=[]
 ro:=[false]
theorem jnU:Con.OK Tryz.prog jcE:=
 cOf j0c j03 jpL jcE Tryz.func320 trivial trivial
def jcF:Con:=⟨321,[.v (.int .u8)],[(.int .u8)],⟨[.v .bool],[]⟩,[.bool],fun h=>Pw.jio h⟩
def jpM:FnD where
 N:=9
 np:=1
 cs:=[]
 ds:=[]
 ro:=[false]
theorem jnV:Con.OK Tryz.prog jcF:=
 cOf j0c j03 jpM jcF Tryz.func321 trivial trivial
def jdQ:Con:=⟨249,[.v .str],[.str],⟨[.v .bool],[]⟩,[.bool],fun h=>Pw.j51 h⟩
def jrv:FnD where
 N:=43
 np:=1
 cs:=[jcE,jcF]
 ds:=[⟨0,[.s (.one (.d .str)),sI,sI],[.str,iT,iT],[⟨.ret,[.s (.one (.d .bool))],[.bool]⟩,⟨.exit 0,[],[]⟩],Pw.unc3 (Pw.j70)⟩]
 modes:=[(320,[false]),(321,[false])]
 keep:=[(0,⟨[0,19,20],[],[],[]⟩)]
 keepX:=[(0,.ret,⟨[2],[],[],[]⟩),
  (0,.exit 0,⟨[],[],[],[]⟩)]
 ro:=[false]
theorem jpN:Con.OK Tryz.prog jdQ:=
 cOf j0c j03 jrv jdQ Tryz.func249 (j9 jnU (j9 jnV trivial)) (j9 (fun h=>by kernel_rfl) trivial)
def j4e:Con:=⟨168,[.v .str,.rl 4294967523 (.list (.pair .str .bool))],[.str,(.list (.pair .str .bool))],⟨[.v iT],[.rl (.list (.pair .str .bool))]⟩,[iT,(.list (.pair .str .bool))],Pw.unc2 Pw.j3K⟩
def jnW:FnD where
 N:=13
 np:=2
 cs:=[jdQ]
 ds:=[]
 modes:=[(249,[false])]
 ro:=[false]
theorem j7v:Con.OK Tryz.prog j4e:=
 cOf j0c j03 jnW j4e Tryz.func168 (j9 jpN trivial) trivial
def jcG:Con:=⟨300,[.v iT,.v iT,.v iT],[iT,iT,iT],⟨[.v .bool],[]⟩,[.bool],Pw.unc3 Pw.jbh⟩
def jxi:FnD where
 N:=15
 np:=3
 cs:=[]
 ds:=[]
 ro:=[false]
theorem jkF:Con.OK Tryz.prog jcG:=
 cOf j0c j03 jxi jcG Tryz.func300 trivial trivial
def jfc:Con:=⟨340,[.v ty55],[ty55],⟨[.v iT],[]⟩,[iT],fun h=>Pw.jgz h⟩
def jtb:FnD where
 N:=45
 np:=1
 cs:=[jcG]
 ds:=[]
 modes:=[(300,[false,false,false])]
 ro:=[false]
theorem jrw:Con.OK Tryz.prog jfc:=
 cOf j0c j03 jtb jfc Tryz.func340 (j9 jkF trivial) trivial
def jdR:Con:=⟨394,[.v iT],[iT],⟨[.v .bool],[]⟩,[.bool],fun h=>Pw.jkB h⟩
def jrx:FnD where
 N:=16
 np:=1
 cs:=[]
 ds:=[]
 ro:=[false]
theorem jpO:Con.OK Tryz.prog jdR:=
 cOf j0c j03 jrx jdR Tryz.func394 trivial trivial
def j6T:Con:=⟨368,[.v iT,.v iT],[iT,iT],⟨[.v iT],[]⟩,[iT],Pw.unc2 Pw.j7H⟩
def jry:FnD where
 N:=24
 np:=2
 cs:=[jdR]
 ds:=[]
 modes:=[(394,[false])]
 ro:=[false]
theorem jbT:Con.OK Tryz.prog j6T:=
 cOf j0c j03 jry j6T Tryz.func368 (j9 jpO trivial) trivial
def jcH:Con:=⟨383,[.v ty21],[ty21],⟨[.v .bool],[]⟩,[.bool],fun h=>Pw.jch h⟩
def jpP:FnD where
 N:=26
 np:=1
 cs:=[j6T]
 ds:=[]
 modes:=[(368,[false,false])]
 ro:=[false]
theorem jnX:Con.OK Tryz.prog jcH:=
 cOf j0c j03 jpP jcH Tryz.func383 (j9 jbT trivial) trivial
def j9n:Con:=⟨393,[.v iT,.v iT],[iT,iT],⟨[.v iT],[]⟩,[iT],Pw.unc2 Pw.j8H⟩
def jpQ:FnD where
 N:=16
 np:=2
 cs:=[]
 ds:=[]
 ro:=[false]
theorem ji1:Con.OK Tryz.prog j9n:=
 cOf j0c j03 jpQ j9n Tryz.func393 trivial trivial
def j7w:Con:=⟨366,[.v iT],[iT],⟨[.v iT],[]⟩,[iT],fun h=>Pw.j5y h⟩
def jpR:FnD where
 N:=19
 np:=1
 cs:=[j9n]
 ds:=[]
 modes:=[(393,[false,false])]
 ro:=[false]
theorem jdS:Con.OK Tryz.prog j7w:=
 cOf j0c j03 jpR j7w Tryz.func366 (j9 ji1 trivial) trivial
def jbm:Con:=⟨384,[.v ty21],[ty21],⟨[.v iT],[]⟩,[iT],fun h=>Pw.j7i h⟩
def jnY:FnD where
 N:=25
 np:=1
 cs:=[j6T,j7w]
 ds:=[⟨0,[.s (.one (.bp 64 0)),sI,sI,.b (.cell [.d iT,.d iT,.d iT] false)],[iT,iT,iT,iT,iT],[⟨.exit 0,[sI],[iT]⟩],Pw.unc5 (Pw.j4i)⟩]
 modes:=[(366,[false]),(368,[false,false])]
 keep:=[(0,⟨[1,3,4],[64],[],[]⟩)]
 keepX:=[(0,.exit 0,⟨[3],[],[],[]⟩)]
 ro:=[false]
theorem jn3:Con.OK Tryz.prog jbm:=
 cOf j0c j03 jnY jbm Tryz.func384 (j9 jbT (j9 jdS trivial)) (j9 (fun h=>by kernel_rfl) trivial)
def j7M:Con:=⟨263,[.v iT],[iT],⟨[.v iT],[]⟩,[iT],fun h=>Pw.j6h h⟩
def jn4:FnD where
 N:=7
 np:=1
 cs:=[]
 ds:=[]
 ro:=[false]
theorem jg0:Con.OK Tryz.prog j7M:=
 cOf j0c j03 jn4 j7M Tryz.func263 trivial trivial
def jfd:Con:=⟨341,[.v iT,.v iT,.v iT,.v iT],[iT,iT,iT,iT],⟨[.v iT,.v iT],[]⟩,[iT,iT],Pw.unc4 Pw.jci⟩
def jtc:FnD where
 N:=59
 np:=4
 cs:=[j6T,jcH,jbm,j7M]
 ds:=[]
 modes:=[(263,[false]),(368,[false,false]),(383,[false]),(384,[false])]
 ro:=[false,false]
theorem jrz:Con.OK Tryz.prog jfd:=
 cOf j0c j03 jtc jfd Tryz.func341 (j9 jbT (j9 jnX (j9 jn3 (j9 jg0 trivial)))) trivial
def j6o:Con:=⟨343,[.v ty8,.v ty8],[ty8,ty8],⟨[.v iT],[]⟩,[iT],Pw.unc2 Pw.j8I⟩
def jgN:FnD where
 N:=10
 np:=2
 cs:=[]
 ds:=[]
 ro:=[false]
theorem jg5:Con.OK Tryz.prog j6o:=
 cOf j0c j03 jgN j6o Tryz.func343 trivial trivial
def j1w:Con:=⟨398,[.rl 338 ty13,.v iT,.v iT,.clo 343 []],[ty13,iT,iT],⟨[],[.rl ty13]⟩,[ty13],Pw.unc3 Pw.j0e⟩
def j65:FnD where
 N:=53
 np:=4
 cs:=[j6o]
 ds:=[⟨0,[.s (.one (.ol 0)),sI,sI,.s (.one (.clo 343 [])),sI,.b (.lst 338 ty8 false)],[iT,iT,iT,ty13],[⟨.exit 0,[.b (.lst 338 ty8 false)],[ty13]⟩],Pw.unc4 (Pw.j09)⟩,
  ⟨2,[.s (.one (.ol 0)),sI,sI,.s (.one (.clo 343 [])),sI,sI,.b (.lst 338 ty8 false)],[iT,iT,iT,iT,ty13],[⟨.exit 2,[.s (.one (.ol 0)),sI,sI,.s (.one (.clo 343 [])),sI,.b (.lst 338 ty8 false)],[iT,iT,iT,ty13]⟩],Pw.unc5 (Pw.j0o)⟩]
 modes:=[(343,[false,false])]
 keep:=[(0,⟨[0,1,2,3,8],[0],[],[]⟩),
  (2,⟨[0,1,2,3,8,9],[0],[],[]⟩)]
 keepX:=[(0,.exit 0,⟨[],[0],[],[]⟩),
  (2,.exit 2,⟨[0,1,2,3,8],[0],[],[]⟩)]
 dw:=[(6,[[],[],[],[],[],[],[],[],[],[],[],[],[],[],[],[0],[],[0]])]
theorem j5K:Con.OK Tryz.prog j1w:=
 cOf j0c j03 j65 j1w Tryz.func398 (j9 jg5 trivial) (j9 (fun h=>by kernel_rfl) (j9 (fun h=>by kernel_rfl) trivial))
end Go.Proofs.Pk
