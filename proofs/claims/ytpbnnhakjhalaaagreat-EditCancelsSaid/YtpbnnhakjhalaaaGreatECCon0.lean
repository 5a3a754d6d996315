/- Contracts: each given function is its plain function, printed by a program. -/
import Derived.Test.YtpbnnhakjhalaaaGreatECTab
noncomputable section
open Go Go.Lft
set_option linter.unusedVariables false
set_option maxRecDepth 100000
namespace Go.Proofs.Pk
abbrev ty8:Ty:=(.pair iT iT)
abbrev ty13:Ty:=(.list ty8)
abbrev ty21:Ty:=(.pair iT ty8)
abbrev ty24:Ty:=(.pair .str (.pair iT (.list iT)))
abbrev ty28:Ty:=(.pair iT ty13)
abbrev ty26:Ty:=(.list ty21)
abbrev ty29:Ty:=(.list ty24)
abbrev ty33:Ty:=(.list ty28)
abbrev ty42:Ty:=(.pair iT (.pair iT ty21))
abbrev ty44:Ty:=(.list ty42)
abbrev ty53:Ty:=(.pair .str (.pair iT (.pair ty13 (.pair iT (.pair iT .bool)))))
abbrev ty55:Ty:=(.pair iT (.pair iT ty42))
abbrev ty56:Ty:=(.list ty53)
abbrev ty58:Ty:=(.list ty55)
abbrev ty65:Ty:=(.pair .str (.pair iT ty58))
abbrev ty66:Ty:=(.list ty65)
abbrev ty72:Ty:=(.pair .str (.pair iT (.pair ty8 (.pair iT (.pair iT (.pair (.list iT) (.pair ty13 ty8)))))))
abbrev ty73:Ty:=(.list ty72)
abbrev ty77:Ty:=(.pair .str (.pair ty73 ty44))
abbrev ty78:Ty:=(.list ty77)
abbrev ty84:Ty:=(.pair ty66 (.pair ty56 (.pair ty29 ty78)))
abbrev ty86:Ty:=(.pair ty84 ty33)
def jaC:Con:=⟨15,[.v (.list iT)],[(.list iT)],⟨[.v .bool],[]⟩,[.bool],fun h=>Pw.jgf h⟩
def jm2:FnD where
 N:=6
 np:=1
 cs:=[]
 ds:=[]
 ro:=[false]
theorem jkA:Con.OK Tryz.prog jaC:=
 cOf j0f j02 jm2 jaC Tryz.func15 trivial trivial
def j9L:Con:=⟨64,[],[],⟨[.so [(some 68,ty66),(some 71,ty56),(some 120,ty29),(some 38,ty78)]],[]⟩,[ty66,ty56,ty29,ty78],fun h=>Pw.jid⟩
def jkB:FnD where
 N:=26
 np:=0
 cs:=[]
 ds:=[]
 ro:=[true]
 so:=[.own 68 ty65,.own 71 ty53,.own 120 ty24,.own 38 ty77]
theorem jiZ:Con.OK Tryz.prog j9L:=
 cOf j0f j02 jkB j9L Tryz.func64 trivial trivial
def j65:Con:=⟨150,[.v ty65],[ty65],⟨[.v .str],[]⟩,[.str],fun h=>Pw.j8E h⟩
def jfz:FnD where
 N:=5
 np:=1
 cs:=[]
 ds:=[]
 ro:=[false]
theorem jes:Con.OK Tryz.prog j65:=
 cOf j0f j02 jfz j65 Tryz.func150 trivial trivial
def j9M:Con:=⟨306,[.v (.int .u8)],[(.int .u8)],⟨[.v .bool],[]⟩,[.bool],fun h=>Pw.j9q h⟩
def jkC:FnD where
 N:=9
 np:=1
 cs:=[]
 ds:=[]
 ro:=[false]
theorem jj0:Con.OK Tryz.prog j9M:=
 cOf j0f j02 jkC j9M Tryz.func306 trivial trivial
def j9N:Con:=⟨307,[.v (.int .u8)],[(.int .u8)],⟨[.v .bool],[]⟩,[.bool],fun h=>Pw.jeo h⟩
def jkD:FnD where
 N:=9
 np:=1
 cs:=[]
 ds:=[]
 ro:=[false]
theorem jj1:Con.OK Tryz.prog j9N:=
 cOf j0f j02 jkD j9N Tryz.func307 trivial trivial
def jaD:Con:=⟨226,[.v .str],[.str],⟨[.v .bool],[]⟩,[.bool],fun h=>Pw.j48 h⟩
def jm3:FnD where
 N:=43
 np:=1
 cs:=[j9M,j9N]
 ds:=[⟨0,[.s (.one (.d .str)),sI,sI],[.str,iT,iT],[⟨.ret,[.s (.one (.d .bool))],[.bool]⟩,⟨.exit 0,[],[]⟩],Pw.unc3 (Pw.j55)⟩]
 modes:=[(306,[false]),(307,[false])]
 keep:=[(0,⟨[0,19,20],[],[],[]⟩)]
 keepX:=[(0,.ret,⟨[2],[],[],[]⟩),
  (0,.exit 0,⟨[],[],[],[]⟩)]
 ro:=[false]
theorem jkE:Con.OK Tryz.prog jaD:=
 cOf j0f j02 jm3 jaD Tryz.func226 (j8 jj0 (j8 jj1 trivial)) (j8 (fun h=>by kernel_rfl) trivial)
def j2Z:Con:=⟨152,[.v .str,.rl 4294967512 (.list (.pair .str .bool))],[.str,(.list (.pair .str .bool))],⟨[.v iT],[.rl (.list (.pair .str .bool))]⟩,[iT,(.list (.pair .str .bool))],Pw.unc2 Pw.j2A⟩
def jj2:FnD where
 N:=13
 np:=2
 cs:=[jaD]
 ds:=[]
 modes:=[(226,[false])]
 ro:=[false]
theorem j5C:Con.OK Tryz.prog j2Z:=
 cOf j0f j02 jj2 j2Z Tryz.func152 (j8 jkE trivial) trivial
def j9O:Con:=⟨293,[.v iT,.v iT,.v iT],[iT,iT,iT],⟨[.v .bool],[]⟩,[.bool],Pw.unc3 Pw.j8F⟩
def jqX:FnD where
 N:=15
 np:=3
 cs:=[]
 ds:=[]
 ro:=[false]
theorem jgj:Con.OK Tryz.prog j9O:=
 cOf j0f j02 jqX j9O Tryz.func293 trivial trivial
def jbO:Con:=⟨339,[.v ty55],[ty55],⟨[.v iT],[]⟩,[iT],fun h=>Pw.jcW h⟩
def jnm:FnD where
 N:=45
 np:=1
 cs:=[j9O]
 ds:=[]
 modes:=[(293,[false,false,false])]
 ro:=[false]
theorem jm4:Con.OK Tryz.prog jbO:=
 cOf j0f j02 jnm jbO Tryz.func339 (j8 jgj trivial) trivial
def jaE:Con:=⟨396,[.v iT],[iT],⟨[.v .bool],[]⟩,[.bool],fun h=>Pw.jgg h⟩
def jm5:FnD where
 N:=16
 np:=1
 cs:=[]
 ds:=[]
 ro:=[false]
theorem jkF:Con.OK Tryz.prog jaE:=
 cOf j0f j02 jm5 jaE Tryz.func396 trivial trivial
def j50:Con:=⟨349,[.v iT,.v iT],[iT,iT],⟨[.v iT],[]⟩,[iT],Pw.unc2 Pw.j5Q⟩
def jm6:FnD where
 N:=24
 np:=2
 cs:=[jaE]
 ds:=[]
 modes:=[(396,[false])]
 ro:=[false]
theorem j9a:Con.OK Tryz.prog j50:=
 cOf j0f j02 jm6 j50 Tryz.func349 (j8 jkF trivial) trivial
def j9P:Con:=⟨391,[.v ty21],[ty21],⟨[.v .bool],[]⟩,[.bool],fun h=>Pw.j9r h⟩
def jkG:FnD where
 N:=26
 np:=1
 cs:=[j50]
 ds:=[]
 modes:=[(349,[false,false])]
 ro:=[false]
theorem jj3:Con.OK Tryz.prog j9P:=
 cOf j0f j02 jkG j9P Tryz.func391 (j8 j9a trivial) trivial
def j7a:Con:=⟨395,[.v iT,.v iT],[iT,iT],⟨[.v iT],[]⟩,[iT],Pw.unc2 Pw.j6A⟩
def jkH:FnD where
 N:=16
 np:=2
 cs:=[]
 ds:=[]
 ro:=[false]
theorem je5:Con.OK Tryz.prog j7a:=
 cOf j0f j02 jkH j7a Tryz.func395 trivial trivial
def j5D:Con:=⟨347,[.v iT],[iT],⟨[.v iT],[]⟩,[iT],fun h=>Pw.j3R h⟩
def jkI:FnD where
 N:=19
 np:=1
 cs:=[j7a]
 ds:=[]
 modes:=[(395,[false,false])]
 ro:=[false]
theorem jaF:Con.OK Tryz.prog j5D:=
 cOf j0f j02 jkI j5D Tryz.func347 (j8 je5 trivial) trivial
def j8N:Con:=⟨392,[.v ty21],[ty21],⟨[.v iT],[]⟩,[iT],fun h=>Pw.j5n h⟩
def jj4:FnD where
 N:=25
 np:=1
 cs:=[j50,j5D]
 ds:=[⟨0,[.s (.one (.bp 64 0)),sI,sI,.b (.cell [.d iT,.d iT,.d iT] false)],[iT,iT,iT,iT,iT],[⟨.exit 0,[sI],[iT]⟩],Pw.unc5 (Pw.j31)⟩]
 modes:=[(347,[false]),(349,[false,false])]
 keep:=[(0,⟨[1,3,4],[64],[],[]⟩)]
 keepX:=[(0,.exit 0,⟨[3],[],[],[]⟩)]
 ro:=[false]
theorem jik:Con.OK Tryz.prog j8N:=
 cOf j0f j02 jj4 j8N Tryz.func392 (j8 j9a (j8 jaF trivial)) (j8 (fun h=>by kernel_rfl) trivial)
def j5V:Con:=⟨250,[.v iT],[iT],⟨[.v iT],[]⟩,[iT],fun h=>Pw.j4x h⟩
def jil:FnD where
 N:=7
 np:=1
 cs:=[]
 ds:=[]
 ro:=[false]
theorem jcm:Con.OK Tryz.prog j5V:=
 cOf j0f j02 jil j5V Tryz.func250 trivial trivial
def jbP:Con:=⟨340,[.v iT,.v iT,.v iT,.v iT],[iT,iT,iT,iT],⟨[.v iT,.v iT],[]⟩,[iT,iT],Pw.unc4 Pw.j9s⟩
def jnn:FnD where
 N:=59
 np:=4
 cs:=[j50,j9P,j8N,j5V]
 ds:=[]
 modes:=[(250,[false]),(349,[false,false]),(391,[false]),(392,[false])]
 ro:=[false,false]
theorem jm7:Con.OK Tryz.prog jbP:=
 cOf j0f j02 jnn jbP Tryz.func340 (j8 j9a (j8 jj3 (j8 jik (j8 jcm trivial)))) trivial
def j4A:Con:=⟨342,[.v ty8,.v ty8],[ty8,ty8],⟨[.v iT],[]⟩,[iT],Pw.unc2 Pw.j6B⟩
def jdb:FnD where
 N:=10
 np:=2
 cs:=[]
 ds:=[]
 ro:=[false]
theorem jco:Con.OK Tryz.prog j4A:=
 cOf j0f j02 jdb j4A Tryz.func342 trivial trivial
def j10:Con:=⟨412,[.rl 332 ty13,.v iT,.v iT,.clo 342 []],[ty13,iT,iT],⟨[],[.rl ty13]⟩,[ty13],Pw.unc3 Pw.j0b⟩
def j4l:FnD where
 N:=53
 np:=4
 cs:=[j4A]
 ds:=[⟨0,[.s (.one (.ol 0)),sI,sI,.s (.one (.clo 342 [])),sI,.b (.lst 332 ty8 false)],[iT,iT,iT,ty13],[⟨.exit 0,[.b (.lst 332 ty8 false)],[ty13]⟩],Pw.unc4 (Pw.j07)⟩,
  ⟨2,[.s (.one (.ol 0)),sI,sI,.s (.one (.clo 342 [])),sI,sI,.b (.lst 332 ty8 false)],[iT,iT,iT,iT,ty13],[⟨.exit 2,[.s (.one (.ol 0)),sI,sI,.s (.one (.clo 342 [])),sI,.b (.lst 332 ty8 false)],[iT,iT,iT,ty13]⟩],Pw.unc5 (Pw.j0l)⟩]
 modes:=[(342,[false,false])]
 keep:=[(0,⟨[0,1,2,3,8],[0],[],[]⟩),
  (2,⟨[0,1,2,3,8,9],[0],[],[]⟩)]
 keepX:=[(0,.exit 0,⟨[],[0],[],[]⟩),
  (2,.exit 2,⟨[0,1,2,3,8],[0],[],[]⟩)]
 dw:=[(6,[[],[],[],[],[],[],[],[],[],[],[],[],[],[],[],[0],[],[0]])]
theorem j40:Con.OK Tryz.prog j10:=
 cOf j0f j02 j4l j10 Tryz.func412 (j8 jco trivial) (j8 (fun h=>by kernel_rfl) (j8 (fun h=>by kernel_rfl) trivial))
def j1p:Con:=⟨393,[.rl 332 ty13,.v iT,.clo 342 []],[ty13,iT],⟨[],[.rl ty13]⟩,[ty13],Pw.unc2 Pw.j0C⟩
def j5W:FnD where
 N:=63
 np:=3
 cs:=[j10]
 ds:=[⟨0,[.s (.one (.ol 0)),sI,.s (.one (.clo 342 [])),sI,sI,sI,.b (.lst 332 ty8 false)],[iT,iT,iT,iT,ty13],[⟨.exit 0,[.s (.one (.ol 0)),sI,.s (.one (.clo 342 [])),sI,sI,.b (.lst 332 ty8 false)],[iT,iT,iT,ty13]⟩],Pw.unc5 (Pw.j0d)⟩,
  ⟨2,[.s (.one (.ol 0)),sI,.s (.one (.clo 342 [])),sI,.b (.lst 332 ty8 false)],[iT,iT,ty13],[⟨.exit 2,[.b (.lst 332 ty8 false)],[ty13]⟩],Pw.unc3 (Pw.j0e)⟩,
  ⟨4,[.s (.one (.ol 0)),sI,.s (.one (.clo 342 [])),sI,sI,sI,.b (.lst 332 ty8 false)],[iT,iT,iT,iT,ty13],[⟨.exit 4,[.s (.one (.ol 0)),sI,.s (.one (.clo 342 [])),sI,sI,.b (.lst 332 ty8 false)],[iT,iT,iT,ty13]⟩],Pw.unc5 (Pw.j27)⟩]
 modes:=[(412,[true,false,false,false])]
 keep:=[(0,⟨[0,1,2,6,7,8],[0],[],[]⟩),
  (2,⟨[0,1,2,6],[0],[],[]⟩),
  (4,⟨[0,1,2,6,7,8],[0],[],[]⟩)]
 keepX:=[(0,.exit 0,⟨[0,1,2,6,7],[0],[],[]⟩),
  (2,.exit 2,⟨[],[0],[],[]⟩),
  (4,.exit 4,⟨[0,1,2,6,7],[0],[],[]⟩)]
theorem j5E:Con.OK Tryz.prog j1p:=
 cOf j0f j02 j5W j1p Tryz.func393 (j8 j40 trivial) (j8 (fun h=>by kernel_rfl) (j8 (fun h=>by kernel_rfl) (j8 (fun h=>by kernel_rfl) trivial)))
end Go.Proofs.Pk
