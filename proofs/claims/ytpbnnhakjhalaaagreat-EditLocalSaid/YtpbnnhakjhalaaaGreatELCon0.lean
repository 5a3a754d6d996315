/- Contracts: each given function is its plain function, printed by a program. -/
import Derived.Test.YtpbnnhakjhalaaaGreatELTab
noncomputable section
open Go Go.Lft
set_option linter.unusedVariables false
set_option maxRecDepth 100000
namespace Go.Proofs.Pk
abbrev ty8:Ty:=(.pair iT iT)
abbrev ty13:Ty:=(.list ty8)
abbrev ty21:Ty:=(.pair iT ty8)
abbrev ty24:Ty:=(.pair .str (.pair iT (.list iT)))
abbrev ty28:Ty:=(.pair iT ty13)
abbrev ty26:Ty:=(.list ty21)
abbrev ty29:Ty:=(.list ty24)
abbrev ty33:Ty:=(.list ty28)
abbrev ty42:Ty:=(.pair iT (.pair iT ty21))
abbrev ty44:Ty:=(.list ty42)
abbrev ty53:Ty:=(.pair .str (.pair iT (.pair ty13 (.pair iT (.pair iT .bool)))))
abbrev ty55:Ty:=(.pair iT (.pair iT ty42))
abbrev ty56:Ty:=(.list ty53)
abbrev ty58:Ty:=(.list ty55)
abbrev ty65:Ty:=(.pair .str (.pair iT ty58))
abbrev ty66:Ty:=(.list ty65)
abbrev ty72:Ty:=(.pair .str (.pair iT (.pair ty8 (.pair iT (.pair iT (.pair (.list iT) (.pair ty13 ty8)))))))
abbrev ty73:Ty:=(.list ty72)
abbrev ty77:Ty:=(.pair .str (.pair ty73 ty44))
abbrev ty78:Ty:=(.list ty77)
abbrev ty84:Ty:=(.pair ty66 (.pair ty56 (.pair ty29 ty78)))
abbrev ty86:Ty:=(.pair ty84 ty33)
def jac:Con:=⟨15,[.v (.list iT)],[(.list iT)],⟨[.v .bool],[]⟩,[.bool],fun h=>Pw.jfg h⟩
def jkO:FnD where
 N:=6
 np:=1
 cs:=[]
 ds:=[]
 ro:=[false]
theorem jjo:Con.OK Tryz.prog jac:=
 cOf j0n j04 jkO jac Tryz.func15 trivial trivial
def j9l:Con:=⟨64,[],[],⟨[.so [(some 68,ty66),(some 71,ty56),(some 120,ty29),(some 38,ty78)]],[]⟩,[ty66,ty56,ty29,ty78],fun h=>Pw.jh6⟩
def jjp:FnD where
 N:=26
 np:=0
 cs:=[]
 ds:=[]
 ro:=[true]
 so:=[.own 68 ty65,.own 71 ty53,.own 120 ty24,.own 38 ty77]
theorem jhO:Con.OK Tryz.prog j9l:=
 cOf j0n j04 jjp j9l Tryz.func64 trivial trivial
def j65:Con:=⟨150,[.v ty65],[ty65],⟨[.v .str],[]⟩,[.str],fun h=>Pw.j8v h⟩
def jeB:FnD where
 N:=5
 np:=1
 cs:=[]
 ds:=[]
 ro:=[false]
theorem jdA:Con.OK Tryz.prog j65:=
 cOf j0n j04 jeB j65 Tryz.func150 trivial trivial
def j9m:Con:=⟨306,[.v (.int .u8)],[(.int .u8)],⟨[.v .bool],[]⟩,[.bool],fun h=>Pw.jdv h⟩
def jjq:FnD where
 N:=9
 np:=1
 cs:=[]
 ds:=[]
 ro:=[false]
theorem jhP:Con.OK Tryz.prog j9m:=
 cOf j0n j04 jjq j9m Tryz.func306 trivial trivial
def j9n:Con:=⟨307,[.v (.int .u8)],[(.int .u8)],⟨[.v .bool],[]⟩,[.bool],fun h=>Pw.jh7 h⟩
def jjr:FnD where
 N:=9
 np:=1
 cs:=[]
 ds:=[]
 ro:=[false]
theorem jhQ:Con.OK Tryz.prog j9n:=
 cOf j0n j04 jjr j9n Tryz.func307 trivial trivial
def jad:Con:=⟨226,[.v .str],[.str],⟨[.v .bool],[]⟩,[.bool],fun h=>Pw.j5R h⟩
def jkP:FnD where
 N:=43
 np:=1
 cs:=[j9m,j9n]
 ds:=[⟨0,[.s (.one (.d .str)),sI,sI],[.str,iT,iT],[⟨.ret,[.s (.one (.d .bool))],[.bool]⟩,⟨.exit 0,[],[]⟩],Pw.unc3 (Pw.ja1)⟩]
 modes:=[(306,[false]),(307,[false])]
 keep:=[(0,⟨[0,19,20],[],[],[]⟩)]
 keepX:=[(0,.ret,⟨[2],[],[],[]⟩),
  (0,.exit 0,⟨[],[],[],[]⟩)]
 ro:=[false]
theorem jjs:Con.OK Tryz.prog jad:=
 cOf j0n j04 jkP jad Tryz.func226 (j9 jhP (j9 jhQ trivial)) (j9 (fun h=>by kernel_rfl) trivial)
def j37:Con:=⟨152,[.v .str,.rl 4294967512 (.list (.pair .str .bool))],[.str,(.list (.pair .str .bool))],⟨[.v iT],[.rl (.list (.pair .str .bool))]⟩,[iT,(.list (.pair .str .bool))],Pw.unc2 Pw.j2T⟩
def jhR:FnD where
 N:=13
 np:=2
 cs:=[jad]
 ds:=[]
 modes:=[(226,[false])]
 ro:=[false]
theorem j5D:Con.OK Tryz.prog j37:=
 cOf j0n j04 jhR j37 Tryz.func152 (j9 jjs trivial) trivial
def j9o:Con:=⟨293,[.v iT,.v iT,.v iT],[iT,iT,iT],⟨[.v .bool],[]⟩,[.bool],Pw.unc3 Pw.j8w⟩
def jps:FnD where
 N:=15
 np:=3
 cs:=[]
 ds:=[]
 ro:=[false]
theorem jfi:Con.OK Tryz.prog j9o:=
 cOf j0n j04 jps j9o Tryz.func293 trivial trivial
def jbk:Con:=⟨339,[.v ty55],[ty55],⟨[.v iT],[]⟩,[iT],fun h=>Pw.jch h⟩
def jm4:FnD where
 N:=45
 np:=1
 cs:=[j9o]
 ds:=[]
 modes:=[(293,[false,false,false])]
 ro:=[false]
theorem jkQ:Con.OK Tryz.prog jbk:=
 cOf j0n j04 jm4 jbk Tryz.func339 (j9 jfi trivial) trivial
def jae:Con:=⟨396,[.v iT],[iT],⟨[.v .bool],[]⟩,[.bool],fun h=>Pw.jfh h⟩
def jkR:FnD where
 N:=16
 np:=1
 cs:=[]
 ds:=[]
 ro:=[false]
theorem jjt:Con.OK Tryz.prog jae:=
 cOf j0n j04 jkR jae Tryz.func396 trivial trivial
def j50:Con:=⟨349,[.v iT,.v iT],[iT,iT],⟨[.v iT],[]⟩,[iT],Pw.unc2 Pw.j5S⟩
def jkS:FnD where
 N:=24
 np:=2
 cs:=[jae]
 ds:=[]
 modes:=[(396,[false])]
 ro:=[false]
theorem j8X:Con.OK Tryz.prog j50:=
 cOf j0n j04 jkS j50 Tryz.func349 (j9 jjt trivial) trivial
def j9p:Con:=⟨391,[.v ty21],[ty21],⟨[.v .bool],[]⟩,[.bool],fun h=>Pw.j99 h⟩
def jju:FnD where
 N:=26
 np:=1
 cs:=[j50]
 ds:=[]
 modes:=[(349,[false,false])]
 ro:=[false]
theorem jhS:Con.OK Tryz.prog j9p:=
 cOf j0n j04 jju j9p Tryz.func391 (j9 j8X trivial) trivial
def j73:Con:=⟨395,[.v iT,.v iT],[iT,iT],⟨[.v iT],[]⟩,[iT],Pw.unc2 Pw.j6x⟩
def jjv:FnD where
 N:=16
 np:=2
 cs:=[]
 ds:=[]
 ro:=[false]
theorem jdc:Con.OK Tryz.prog j73:=
 cOf j0n j04 jjv j73 Tryz.func395 trivial trivial
def j5E:Con:=⟨347,[.v iT],[iT],⟨[.v iT],[]⟩,[iT],fun h=>Pw.j40 h⟩
def jjw:FnD where
 N:=19
 np:=1
 cs:=[j73]
 ds:=[]
 modes:=[(395,[false,false])]
 ro:=[false]
theorem jaf:Con.OK Tryz.prog j5E:=
 cOf j0n j04 jjw j5E Tryz.func347 (j9 jdc trivial) trivial
def j8z:Con:=⟨392,[.v ty21],[ty21],⟨[.v iT],[]⟩,[iT],fun h=>Pw.j5n h⟩
def jhT:FnD where
 N:=25
 np:=1
 cs:=[j50,j5E]
 ds:=[⟨0,[.s (.one (.bp 64 0)),sI,sI,.b (.cell [.d iT,.d iT,.d iT] false)],[iT,iT,iT,iT,iT],[⟨.exit 0,[sI],[iT]⟩],Pw.unc5 (Pw.j39)⟩]
 modes:=[(347,[false]),(349,[false,false])]
 keep:=[(0,⟨[1,3,4],[64],[],[]⟩)]
 keepX:=[(0,.exit 0,⟨[3],[],[],[]⟩)]
 ro:=[false]
theorem jh9:Con.OK Tryz.prog j8z:=
 cOf j0n j04 jhT j8z Tryz.func392 (j9 j8X (j9 jaf trivial)) (j9 (fun h=>by kernel_rfl) trivial)
def j5W:Con:=⟨250,[.v iT],[iT],⟨[.v iT],[]⟩,[iT],fun h=>Pw.j4C h⟩
def jha:FnD where
 N:=7
 np:=1
 cs:=[]
 ds:=[]
 ro:=[false]
theorem jbH:Con.OK Tryz.prog j5W:=
 cOf j0n j04 jha j5W Tryz.func250 trivial trivial
def jbl:Con:=⟨340,[.v iT,.v iT,.v iT,.v iT],[iT,iT,iT,iT],⟨[.v iT,.v iT],[]⟩,[iT,iT],Pw.unc4 Pw.j9a⟩
def jm5:FnD where
 N:=59
 np:=4
 cs:=[j50,j9p,j8z,j5W]
 ds:=[]
 modes:=[(250,[false]),(349,[false,false]),(391,[false]),(392,[false])]
 ro:=[false,false]
theorem jkT:Con.OK Tryz.prog jbl:=
 cOf j0n j04 jm5 jbl Tryz.func340 (j9 j8X (j9 jhS (j9 jh9 (j9 jbH trivial)))) trivial
def j4G:Con:=⟨342,[.v ty8,.v ty8],[ty8,ty8],⟨[.v iT],[]⟩,[iT],Pw.unc2 Pw.j6y⟩
def jcp:FnD where
 N:=10
 np:=2
 cs:=[]
 ds:=[]
 ro:=[false]
theorem jbJ:Con.OK Tryz.prog j4G:=
 cOf j0n j04 jcp j4G Tryz.func342 trivial trivial
def j16:Con:=⟨412,[.rl 332 ty13,.v iT,.v iT,.clo 342 []],[ty13,iT,iT],⟨[],[.rl ty13]⟩,[ty13],Pw.unc3 Pw.j0a⟩
def j4q:FnD where
 N:=53
 np:=4
 cs:=[j4G]
 ds:=[⟨0,[.s (.one (.ol 0)),sI,sI,.s (.one (.clo 342 [])),sI,.b (.lst 332 ty8 false)],[iT,iT,iT,ty13],[⟨.exit 0,[.b (.lst 332 ty8 false)],[ty13]⟩],Pw.unc4 (Pw.j07)⟩,
  ⟨2,[.s (.one (.ol 0)),sI,sI,.s (.one (.clo 342 [])),sI,sI,.b (.lst 332 ty8 false)],[iT,iT,iT,iT,ty13],[⟨.exit 2,[.s (.one (.ol 0)),sI,sI,.s (.one (.clo 342 [])),sI,.b (.lst 332 ty8 false)],[iT,iT,iT,ty13]⟩],Pw.unc5 (Pw.j0k)⟩]
 modes:=[(342,[false,false])]
 keep:=[(0,⟨[0,1,2,3,8],[0],[],[]⟩),
  (2,⟨[0,1,2,3,8,9],[0],[],[]⟩)]
 keepX:=[(0,.exit 0,⟨[],[0],[],[]⟩),
  (2,.exit 2,⟨[0,1,2,3,8],[0],[],[]⟩)]
 dw:=[(6,[[],[],[],[],[],[],[],[],[],[],[],[],[],[],[],[0],[],[0]])]
theorem j4b:Con.OK Tryz.prog j16:=
 cOf j0n j04 j4q j16 Tryz.func412 (j9 jbJ trivial) (j9 (fun h=>by kernel_rfl) (j9 (fun h=>by kernel_rfl) trivial))
def j1B:Con:=⟨393,[.rl 332 ty13,.v iT,.clo 342 []],[ty13,iT],⟨[],[.rl ty13]⟩,[ty13],Pw.unc2 Pw.j0H⟩
def j5X:FnD where
 N:=63
 np:=3
 cs:=[j16]
 ds:=[⟨0,[.s (.one (.ol 0)),sI,.s (.one (.clo 342 [])),sI,sI,sI,.b (.lst 332 ty8 false)],[iT,iT,iT,iT,ty13],[⟨.exit 0,[.s (.one (.ol 0)),sI,.s (.one (.clo 342 [])),sI,sI,.b (.lst 332 ty8 false)],[iT,iT,iT,ty13]⟩],Pw.unc5 (Pw.j0d)⟩,
  ⟨2,[.s (.one (.ol 0)),sI,.s (.one (.clo 342 [])),sI,.b (.lst 332 ty8 false)],[iT,iT,ty13],[⟨.exit 2,[.b (.lst 332 ty8 false)],[ty13]⟩],Pw.unc3 (Pw.j0e)⟩,
  ⟨4,[.s (.one (.ol 0)),sI,.s (.one (.clo 342 [])),sI,sI,sI,.b (.lst 332 ty8 false)],[iT,iT,iT,iT,ty13],[⟨.exit 4,[.s (.one (.ol 0)),sI,.s (.one (.clo 342 [])),sI,sI,.b (.lst 332 ty8 false)],[iT,iT,iT,ty13]⟩],Pw.unc5 (Pw.j2p)⟩]
 modes:=[(412,[true,false,false,false])]
 keep:=[(0,⟨[0,1,2,6,7,8],[0],[],[]⟩),
  (2,⟨[0,1,2,6],[0],[],[]⟩),
  (4,⟨[0,1,2,6,7,8],[0],[],[]⟩)]
 keepX:=[(0,.exit 0,⟨[0,1,2,6,7],[0],[],[]⟩),
  (2,.exit 2,⟨[],[0],[],[]⟩),
  (4,.exit 4,⟨[0,1,2,6,7],[0],[],[]⟩)]
theorem j5F:Con.OK Tryz.prog j1B:=
 cOf j0n j04 j5X j1B Tryz.func393 (j9 j4b trivial) (j9 (fun h=>by kernel_rfl) (j9 (fun h=>by kernel_rfl) (j9 (fun h=>by kernel_rfl) trivial)))
end Go.Proofs.Pk
