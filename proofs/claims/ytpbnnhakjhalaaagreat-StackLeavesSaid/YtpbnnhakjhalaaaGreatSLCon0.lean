/- Contracts: each given function is its plain function, printed by a program. -/
import Derived.Test.YtpbnnhakjhalaaaGreatSLTab
import Derived.Test.YtpbnnhakjhalaaaGreatSLSrt
noncomputable section
open Go Go.Lft
set_option linter.unusedVariables false
set_option maxRecDepth 100000
namespace Go.Proofs.Pk
abbrev ty8:Ty:=(.pair iT iT)
abbrev ty13:Ty:=(.list ty8)
abbrev ty21:Ty:=(.pair iT ty8)
abbrev ty24:Ty:=(.pair .str (.pair iT (.list iT)))
abbrev ty28:Ty:=(.pair iT ty13)
abbrev ty26:Ty:=(.list ty21)
abbrev ty29:Ty:=(.list ty24)
abbrev ty33:Ty:=(.list ty28)
abbrev ty42:Ty:=(.pair iT (.pair iT ty21))
abbrev ty44:Ty:=(.list ty42)
abbrev ty53:Ty:=(.pair .str (.pair iT (.pair ty13 (.pair iT (.pair iT .bool)))))
abbrev ty55:Ty:=(.pair iT (.pair iT ty42))
abbrev ty56:Ty:=(.list ty53)
abbrev ty58:Ty:=(.list ty55)
abbrev ty65:Ty:=(.pair .str (.pair iT ty58))
abbrev ty66:Ty:=(.list ty65)
abbrev ty72:Ty:=(.pair .str (.pair iT (.pair ty8 (.pair iT (.pair iT (.pair (.list iT) (.pair ty13 ty8)))))))
abbrev ty73:Ty:=(.list ty72)
abbrev ty77:Ty:=(.pair .str (.pair ty73 ty44))
abbrev ty78:Ty:=(.list ty77)
abbrev ty84:Ty:=(.pair ty66 (.pair ty56 (.pair ty29 ty78)))
abbrev ty86:Ty:=(.pair ty84 ty33)
def jaA:Con:=⟨15,[.v (.list iT)],[(.list iT)],⟨[.v .bool],[]⟩,[.bool],fun h=>Pw.jg0 h⟩
def jlT:FnD where
 N:=6
 np:=1
 cs:=[]
 ds:=[]
 ro:=[false]
theorem jks:Con.OK Tryz.prog jaA:=
 cOf j0l j04 jlT jaA Tryz.func15 trivial trivial
def j9D:Con:=⟨82,[],[],⟨[.so [(some 68,ty66),(some 71,ty56),(some 120,ty29),(some 38,ty78)]],[]⟩,[ty66,ty56,ty29,ty78],fun h=>Pw.jdY⟩
def jkt:FnD where
 N:=26
 np:=0
 cs:=[]
 ds:=[]
 ro:=[true]
 so:=[.own 68 ty65,.own 71 ty53,.own 120 ty24,.own 38 ty77]
theorem jiG:Con.OK Tryz.prog j9D:=
 cOf j0l j04 jkt j9D Tryz.func82 trivial trivial
def j5O:Con:=⟨150,[.v ty65],[ty65],⟨[.v .str],[]⟩,[.str],fun h=>Pw.j8r h⟩
def jf4:FnD where
 N:=5
 np:=1
 cs:=[]
 ds:=[]
 ro:=[false]
theorem je2:Con.OK Tryz.prog j5O:=
 cOf j0l j04 jf4 j5O Tryz.func150 trivial trivial
def j9E:Con:=⟨306,[.v (.int .u8)],[(.int .u8)],⟨[.v .bool],[]⟩,[.bool],fun h=>Pw.jdZ h⟩
def jku:FnD where
 N:=9
 np:=1
 cs:=[]
 ds:=[]
 ro:=[false]
theorem jiH:Con.OK Tryz.prog j9E:=
 cOf j0l j04 jku j9E Tryz.func306 trivial trivial
def j9F:Con:=⟨307,[.v (.int .u8)],[(.int .u8)],⟨[.v .bool],[]⟩,[.bool],fun h=>Pw.jhZ h⟩
def jkv:FnD where
 N:=9
 np:=1
 cs:=[]
 ds:=[]
 ro:=[false]
theorem jiI:Con.OK Tryz.prog j9F:=
 cOf j0l j04 jkv j9F Tryz.func307 trivial trivial
def jaB:Con:=⟨226,[.v .str],[.str],⟨[.v .bool],[]⟩,[.bool],fun h=>Pw.j5x h⟩
def jlU:FnD where
 N:=43
 np:=1
 cs:=[j9E,j9F]
 ds:=[⟨0,[.s (.one (.d .str)),sI,sI],[.str,iT,iT],[⟨.ret,[.s (.one (.d .bool))],[.bool]⟩,⟨.exit 0,[],[]⟩],Pw.unc3 (Pw.jap)⟩]
 modes:=[(306,[false]),(307,[false])]
 keep:=[(0,⟨[0,19,20],[],[],[]⟩)]
 keepX:=[(0,.ret,⟨[2],[],[],[]⟩),
  (0,.exit 0,⟨[],[],[],[]⟩)]
 ro:=[false]
theorem jkw:Con.OK Tryz.prog jaB:=
 cOf j0l j04 jlU jaB Tryz.func226 (j9 jiH (j9 jiI trivial)) (j9 (fun h=>by kernel_rfl) trivial)
def j38:Con:=⟨152,[.v .str,.rl 4294967512 (.list (.pair .str .bool))],[.str,(.list (.pair .str .bool))],⟨[.v iT],[.rl (.list (.pair .str .bool))]⟩,[iT,(.list (.pair .str .bool))],Pw.unc2 Pw.j2S⟩
def jiJ:FnD where
 N:=13
 np:=2
 cs:=[jaB]
 ds:=[]
 modes:=[(226,[false])]
 ro:=[false]
theorem j5l:Con.OK Tryz.prog j38:=
 cOf j0l j04 jiJ j38 Tryz.func152 (j9 jkw trivial) trivial
def j9G:Con:=⟨293,[.v iT,.v iT,.v iT],[iT,iT,iT],⟨[.v .bool],[]⟩,[.bool],Pw.unc3 Pw.j8s⟩
def jqC:FnD where
 N:=15
 np:=3
 cs:=[]
 ds:=[]
 ro:=[false]
theorem jg2:Con.OK Tryz.prog j9G:=
 cOf j0l j04 jqC j9G Tryz.func293 trivial trivial
def jbJ:Con:=⟨339,[.v ty55],[ty55],⟨[.v iT],[]⟩,[iT],fun h=>Pw.jcP h⟩
def jnc:FnD where
 N:=45
 np:=1
 cs:=[j9G]
 ds:=[]
 modes:=[(293,[false,false,false])]
 ro:=[false]
theorem jlV:Con.OK Tryz.prog jbJ:=
 cOf j0l j04 jnc jbJ Tryz.func339 (j9 jg2 trivial) trivial
def jaC:Con:=⟨396,[.v iT],[iT],⟨[.v .bool],[]⟩,[.bool],fun h=>Pw.jg1 h⟩
def jlW:FnD where
 N:=16
 np:=1
 cs:=[]
 ds:=[]
 ro:=[false]
theorem jkx:Con.OK Tryz.prog jaC:=
 cOf j0l j04 jlW jaC Tryz.func396 trivial trivial
def j4Q:Con:=⟨349,[.v iT,.v iT],[iT,iT],⟨[.v iT],[]⟩,[iT],Pw.unc2 Pw.j5y⟩
def jlX:FnD where
 N:=24
 np:=2
 cs:=[jaC]
 ds:=[]
 modes:=[(396,[false])]
 ro:=[false]
theorem j94:Con.OK Tryz.prog j4Q:=
 cOf j0l j04 jlX j4Q Tryz.func349 (j9 jkx trivial) trivial
def j9H:Con:=⟨391,[.v ty21],[ty21],⟨[.v .bool],[]⟩,[.bool],fun h=>Pw.j9k h⟩
def jky:FnD where
 N:=26
 np:=1
 cs:=[j4Q]
 ds:=[]
 modes:=[(349,[false,false])]
 ro:=[false]
theorem jiK:Con.OK Tryz.prog j9H:=
 cOf j0l j04 jky j9H Tryz.func391 (j9 j94 trivial) trivial
def j6X:Con:=⟨395,[.v iT,.v iT],[iT,iT],⟨[.v iT],[]⟩,[iT],Pw.unc2 Pw.j6k⟩
def jkz:FnD where
 N:=16
 np:=2
 cs:=[]
 ds:=[]
 ro:=[false]
theorem jdG:Con.OK Tryz.prog j6X:=
 cOf j0l j04 jkz j6X Tryz.func395 trivial trivial
def j5m:Con:=⟨347,[.v iT],[iT],⟨[.v iT],[]⟩,[iT],fun h=>Pw.j40 h⟩
def jkA:FnD where
 N:=19
 np:=1
 cs:=[j6X]
 ds:=[]
 modes:=[(395,[false,false])]
 ro:=[false]
theorem jaD:Con.OK Tryz.prog j5m:=
 cOf j0l j04 jkA j5m Tryz.func347 (j9 jdG trivial) trivial
def j8w:Con:=⟨392,[.v ty21],[ty21],⟨[.v iT],[]⟩,[iT],fun h=>Pw.j59 h⟩
def jiL:FnD where
 N:=25
 np:=1
 cs:=[j4Q,j5m]
 ds:=[⟨0,[.s (.one (.bp 64 0)),sI,sI,.b (.cell [.d iT,.d iT,.d iT] false)],[iT,iT,iT,iT,iT],[⟨.exit 0,[sI],[iT]⟩],Pw.unc5 (Pw.j3a)⟩]
 modes:=[(347,[false]),(349,[false,false])]
 keep:=[(0,⟨[1,3,4],[64],[],[]⟩)]
 keepX:=[(0,.exit 0,⟨[3],[],[],[]⟩)]
 ro:=[false]
theorem ji1:Con.OK Tryz.prog j8w:=
 cOf j0l j04 jiL j8w Tryz.func392 (j9 j94 (j9 jaD trivial)) (j9 (fun h=>by kernel_rfl) trivial)
def j5B:Con:=⟨250,[.v iT],[iT],⟨[.v iT],[]⟩,[iT],fun h=>Pw.j4v h⟩
def ji2:FnD where
 N:=7
 np:=1
 cs:=[]
 ds:=[]
 ro:=[false]
theorem jc8:Con.OK Tryz.prog j5B:=
 cOf j0l j04 ji2 j5B Tryz.func250 trivial trivial
def jbK:Con:=⟨340,[.v iT,.v iT,.v iT,.v iT],[iT,iT,iT,iT],⟨[.v iT,.v iT],[]⟩,[iT,iT],Pw.unc4 Pw.j9l⟩
def jnd:FnD where
 N:=59
 np:=4
 cs:=[j4Q,j9H,j8w,j5B]
 ds:=[]
 modes:=[(250,[false]),(349,[false,false]),(391,[false]),(392,[false])]
 ro:=[false,false]
theorem jlY:Con.OK Tryz.prog jbK:=
 cOf j0l j04 jnd jbK Tryz.func340 (j9 j94 (j9 jiK (j9 ji1 (j9 jc8 trivial)))) trivial
def j4A:Con:=⟨342,[.v ty8,.v ty8],[ty8,ty8],⟨[.v iT],[]⟩,[iT],Pw.unc2 Pw.j6l⟩
def jcU:FnD where
 N:=10
 np:=2
 cs:=[]
 ds:=[]
 ro:=[false]
theorem jcf:Con.OK Tryz.prog j4A:=
 cOf j0l j04 jcU j4A Tryz.func342 trivial trivial
def j1a:Con:=⟨412,[.rl 332 ty13,.v iT,.v iT,.clo 342 []],[ty13,iT,iT],⟨[],[.rl ty13]⟩,[ty13],Pw.unc3 Pw.j09⟩
def j4l:FnD where
 N:=53
 np:=4
 cs:=[j4A]
 ds:=[⟨0,[.s (.one (.ol 0)),sI,sI,.s (.one (.clo 342 [])),sI,.b (.lst 332 ty8 false)],[iT,iT,iT,ty13],[⟨.exit 0,[.b (.lst 332 ty8 false)],[ty13]⟩],Pw.unc4 (Pw.j06)⟩,
  ⟨2,[.s (.one (.ol 0)),sI,sI,.s (.one (.clo 342 [])),sI,sI,.b (.lst 332 ty8 false)],[iT,iT,iT,iT,ty13],[⟨.exit 2,[.s (.one (.ol 0)),sI,sI,.s (.one (.clo 342 [])),sI,.b (.lst 332 ty8 false)],[iT,iT,iT,ty13]⟩],Pw.unc5 (Pw.j0k)⟩]
 modes:=[(342,[false,false])]
 keep:=[(0,⟨[0,1,2,3,8],[0],[],[]⟩),
  (2,⟨[0,1,2,3,8,9],[0],[],[]⟩)]
 keepX:=[(0,.exit 0,⟨[],[0],[],[]⟩),
  (2,.exit 2,⟨[0,1,2,3,8],[0],[],[]⟩)]
 dw:=[(6,[[],[],[],[],[],[],[],[],[],[],[],[],[],[],[],[0],[],[0]])]
theorem j4a:Con.OK Tryz.prog j1a:=
 cOf j0l j04 j4l j1a Tryz.func412 (j9 jcf trivial) (j9 (fun h=>by kernel_rfl) (j9 (fun h=>by kernel_rfl) trivial))
def j1C:Con:=⟨393,[.rl 332 ty13,.v iT,.clo 342 []],[ty13,iT],⟨[],[.rl ty13]⟩,[ty13],Pw.unc2 Pw.j0H⟩
def j5C:FnD where
 N:=63
 np:=3
 cs:=[j1a]
 ds:=[⟨0,[.s (.one (.ol 0)),sI,.s (.one (.clo 342 [])),sI,sI,sI,.b (.lst 332 ty8 false)],[iT,iT,iT,iT,ty13],[⟨.exit 0,[.s (.one (.ol 0)),sI,.s (.one (.clo 342 [])),sI,sI,.b (.lst 332 ty8 false)],[iT,iT,iT,ty13]⟩],Pw.unc5 (Pw.j0d)⟩,
  ⟨2,[.s (.one (.ol 0)),sI,.s (.one (.clo 342 [])),sI,.b (.lst 332 ty8 false)],[iT,iT,ty13],[⟨.exit 2,[.b (.lst 332 ty8 false)],[ty13]⟩],Pw.unc3 (Pw.j0e)⟩,
  ⟨4,[.s (.one (.ol 0)),sI,.s (.one (.clo 342 [])),sI,sI,sI,.b (.lst 332 ty8 false)],[iT,iT,iT,iT,ty13],[⟨.exit 4,[.s (.one (.ol 0)),sI,.s (.one (.clo 342 [])),sI,sI,.b (.lst 332 ty8 false)],[iT,iT,iT,ty13]⟩],Pw.unc5 (Pw.j2p)⟩]
 modes:=[(412,[true,false,false,false])]
 keep:=[(0,⟨[0,1,2,6,7,8],[0],[],[]⟩),
  (2,⟨[0,1,2,6],[0],[],[]⟩),
  (4,⟨[0,1,2,6,7,8],[0],[],[]⟩)]
 keepX:=[(0,.exit 0,⟨[0,1,2,6,7],[0],[],[]⟩),
  (2,.exit 2,⟨[],[0],[],[]⟩),
  (4,.exit 4,⟨[0,1,2,6,7],[0],[],[]⟩)]
theorem j5n:Con.OK Tryz.prog j1C:=
 cOf j0l j04 j5C j1C Tryz.func393 (j9 j4a trivial) (j9 (fun h=>by kernel_rfl) (j9 (fun h=>by kernel_rfl) (j9 (fun h=>by kernel_rfl) trivial)))
end Go.Proofs.Pk
