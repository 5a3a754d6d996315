/- Contracts: each given function is its plain function, printed by a program. -/
import Derived.Test.YtpbnnhakjhalaaaGreatEOTab
noncomputable section
open Go Go.Lft
set_option linter.unusedVariables false
set_option maxRecDepth 100000
namespace Go.Proofs.Pk
abbrev ty8:Ty:=(.pair iT iT)
abbrev ty13:Ty:=(.list ty8)
abbrev ty21:Ty:=(.pair iT ty8)
abbrev ty24:Ty:=(.pair .str (.pair iT (.list iT)))
abbrev ty28:Ty:=(.pair iT ty13)
abbrev ty26:Ty:=(.list ty21)
abbrev ty29:Ty:=(.list ty24)
abbrev ty33:Ty:=(.list ty28)
abbrev ty42:Ty:=(.pair iT (.pair iT ty21))
abbrev ty44:Ty:=(.list ty42)
abbrev ty53:Ty:=(.pair .str (.pair iT (.pair ty13 (.pair iT (.pair iT .bool)))))
abbrev ty55:Ty:=(.pair iT (.pair iT ty42))
abbrev ty56:Ty:=(.list ty53)
abbrev ty58:Ty:=(.list ty55)
abbrev ty65:Ty:=(.pair .str (.pair iT ty58))
abbrev ty66:Ty:=(.list ty65)
abbrev ty72:Ty:=(.pair .str (.pair iT (.pair ty8 (.pair iT (.pair iT (.pair (.list iT) (.pair ty13 ty8)))))))
abbrev ty73:Ty:=(.list ty72)
abbrev ty77:Ty:=(.pair .str (.pair ty73 ty44))
abbrev ty78:Ty:=(.list ty77)
abbrev ty84:Ty:=(.pair ty66 (.pair ty56 (.pair ty29 ty78)))
abbrev ty86:Ty:=(.pair ty84 ty33)
def jaY:Con:=⟨15,[.v (.list iT)],[(.list iT)],⟨[.v .bool],[]⟩,[.bool],fun h=>Pw.jgY h⟩
def jn6:FnD where
 N:=6
 np:=1
 cs:=[]
 ds:=[]
 ro:=[false]
theorem jlv:Con.OK Tryz.prog jaY:=
 cOf j0e j03 jn6 jaY Tryz.func15 trivial trivial
def ja6:Con:=⟨64,[],[],⟨[.so [(some 68,ty66),(some 71,ty56),(some 120,ty29),(some 38,ty78)]],[]⟩,[ty66,ty56,ty29,ty78],fun h=>Pw.jiY⟩
def jlw:FnD where
 N:=26
 np:=0
 cs:=[]
 ds:=[]
 ro:=[true]
 so:=[.own 68 ty65,.own 71 ty53,.own 120 ty24,.own 38 ty77]
theorem jjP:Con.OK Tryz.prog ja6:=
 cOf j0e j03 jlw ja6 Tryz.func64 trivial trivial
def j6k:Con:=⟨150,[.v ty65],[ty65],⟨[.v .str],[]⟩,[.str],fun h=>Pw.j90 h⟩
def jgi:FnD where
 N:=5
 np:=1
 cs:=[]
 ds:=[]
 ro:=[false]
theorem jfa:Con.OK Tryz.prog j6k:=
 cOf j0e j03 jgi j6k Tryz.func150 trivial trivial
def ja7:Con:=⟨306,[.v (.int .u8)],[(.int .u8)],⟨[.v .bool],[]⟩,[.bool],fun h=>Pw.j9O h⟩
def jlx:FnD where
 N:=9
 np:=1
 cs:=[]
 ds:=[]
 ro:=[false]
theorem jjQ:Con.OK Tryz.prog ja7:=
 cOf j0e j03 jlx ja7 Tryz.func306 trivial trivial
def ja8:Con:=⟨307,[.v (.int .u8)],[(.int .u8)],⟨[.v .bool],[]⟩,[.bool],fun h=>Pw.jf5 h⟩
def jly:FnD where
 N:=9
 np:=1
 cs:=[]
 ds:=[]
 ro:=[false]
theorem jjR:Con.OK Tryz.prog ja8:=
 cOf j0e j03 jly ja8 Tryz.func307 trivial trivial
def jaZ:Con:=⟨226,[.v .str],[.str],⟨[.v .bool],[]⟩,[.bool],fun h=>Pw.j4s h⟩
def jn7:FnD where
 N:=43
 np:=1
 cs:=[ja7,ja8]
 ds:=[⟨0,[.s (.one (.d .str)),sI,sI],[.str,iT,iT],[⟨.ret,[.s (.one (.d .bool))],[.bool]⟩,⟨.exit 0,[],[]⟩],Pw.unc3 (Pw.j5o)⟩]
 modes:=[(306,[false]),(307,[false])]
 keep:=[(0,⟨[0,19,20],[],[],[]⟩)]
 keepX:=[(0,.ret,⟨[2],[],[],[]⟩),
  (0,.exit 0,⟨[],[],[],[]⟩)]
 ro:=[false]
theorem jlz:Con.OK Tryz.prog jaZ:=
 cOf j0e j03 jn7 jaZ Tryz.func226 (j9 jjQ (j9 jjR trivial)) (j9 (fun h=>by kernel_rfl) trivial)
def j3a:Con:=⟨152,[.v .str,.rl 4294967512 (.list (.pair .str .bool))],[.str,(.list (.pair .str .bool))],⟨[.v iT],[.rl (.list (.pair .str .bool))]⟩,[iT,(.list (.pair .str .bool))],Pw.unc2 Pw.j2M⟩
def jjS:FnD where
 N:=13
 np:=2
 cs:=[jaZ]
 ds:=[]
 modes:=[(226,[false])]
 ro:=[false]
theorem j5S:Con.OK Tryz.prog j3a:=
 cOf j0e j03 jjS j3a Tryz.func152 (j9 jlz trivial) trivial
def ja9:Con:=⟨293,[.v iT,.v iT,.v iT],[iT,iT,iT],⟨[.v .bool],[]⟩,[.bool],Pw.unc3 Pw.j91⟩
def jsz:FnD where
 N:=15
 np:=3
 cs:=[]
 ds:=[]
 ro:=[false]
theorem jh1:Con.OK Tryz.prog ja9:=
 cOf j0e j03 jsz ja9 Tryz.func293 trivial trivial
def jcm:Con:=⟨339,[.v ty55],[ty55],⟨[.v iT],[]⟩,[iT],fun h=>Pw.jdz h⟩
def joB:FnD where
 N:=45
 np:=1
 cs:=[ja9]
 ds:=[]
 modes:=[(293,[false,false,false])]
 ro:=[false]
theorem jn8:Con.OK Tryz.prog jcm:=
 cOf j0e j03 joB jcm Tryz.func339 (j9 jh1 trivial) trivial
def jb0:Con:=⟨396,[.v iT],[iT],⟨[.v .bool],[]⟩,[.bool],fun h=>Pw.jgZ h⟩
def jn9:FnD where
 N:=16
 np:=1
 cs:=[]
 ds:=[]
 ro:=[false]
theorem jlA:Con.OK Tryz.prog jb0:=
 cOf j0e j03 jn9 jb0 Tryz.func396 trivial trivial
def j5j:Con:=⟨349,[.v iT,.v iT],[iT,iT],⟨[.v iT],[]⟩,[iT],Pw.unc2 Pw.j66⟩
def jna:FnD where
 N:=24
 np:=2
 cs:=[jb0]
 ds:=[]
 modes:=[(396,[false])]
 ro:=[false]
theorem j9v:Con.OK Tryz.prog j5j:=
 cOf j0e j03 jna j5j Tryz.func349 (j9 jlA trivial) trivial
def jaa:Con:=⟨391,[.v ty21],[ty21],⟨[.v .bool],[]⟩,[.bool],fun h=>Pw.j9P h⟩
def jlB:FnD where
 N:=26
 np:=1
 cs:=[j5j]
 ds:=[]
 modes:=[(349,[false,false])]
 ro:=[false]
theorem jjT:Con.OK Tryz.prog jaa:=
 cOf j0e j03 jlB jaa Tryz.func391 (j9 j9v trivial) trivial
def j7p:Con:=⟨395,[.v iT,.v iT],[iT,iT],⟨[.v iT],[]⟩,[iT],Pw.unc2 Pw.j6O⟩
def jlC:FnD where
 N:=16
 np:=2
 cs:=[]
 ds:=[]
 ro:=[false]
theorem jeN:Con.OK Tryz.prog j7p:=
 cOf j0e j03 jlC j7p Tryz.func395 trivial trivial
def j5T:Con:=⟨347,[.v iT],[iT],⟨[.v iT],[]⟩,[iT],fun h=>Pw.j4a h⟩
def jlD:FnD where
 N:=19
 np:=1
 cs:=[j7p]
 ds:=[]
 modes:=[(395,[false,false])]
 ro:=[false]
theorem jb1:Con.OK Tryz.prog j5T:=
 cOf j0e j03 jlD j5T Tryz.func347 (j9 jeN trivial) trivial
def j95:Con:=⟨392,[.v ty21],[ty21],⟨[.v iT],[]⟩,[iT],fun h=>Pw.j5H h⟩
def jjU:FnD where
 N:=25
 np:=1
 cs:=[j5j,j5T]
 ds:=[⟨0,[.s (.one (.bp 64 0)),sI,sI,.b (.cell [.d iT,.d iT,.d iT] false)],[iT,iT,iT,iT,iT],[⟨.exit 0,[sI],[iT]⟩],Pw.unc5 (Pw.j3c)⟩]
 modes:=[(347,[false]),(349,[false,false])]
 keep:=[(0,⟨[1,3,4],[64],[],[]⟩)]
 keepX:=[(0,.exit 0,⟨[3],[],[],[]⟩)]
 ro:=[false]
theorem jj3:Con.OK Tryz.prog j95:=
 cOf j0e j03 jjU j95 Tryz.func392 (j9 j9v (j9 jb1 trivial)) (j9 (fun h=>by kernel_rfl) trivial)
def j6a:Con:=⟨250,[.v iT],[iT],⟨[.v iT],[]⟩,[iT],fun h=>Pw.j4S h⟩
def jj4:FnD where
 N:=7
 np:=1
 cs:=[]
 ds:=[]
 ro:=[false]
theorem jcZ:Con.OK Tryz.prog j6a:=
 cOf j0e j03 jj4 j6a Tryz.func250 trivial trivial
def jcn:Con:=⟨340,[.v iT,.v iT,.v iT,.v iT],[iT,iT,iT,iT],⟨[.v iT,.v iT],[]⟩,[iT,iT],Pw.unc4 Pw.j9Q⟩
def joC:FnD where
 N:=59
 np:=4
 cs:=[j5j,jaa,j95,j6a]
 ds:=[]
 modes:=[(250,[false]),(349,[false,false]),(391,[false]),(392,[false])]
 ro:=[false,false]
theorem jnb:Con.OK Tryz.prog jcn:=
 cOf j0e j03 joC jcn Tryz.func340 (j9 j9v (j9 jjT (j9 jj3 (j9 jcZ trivial)))) trivial
def j4V:Con:=⟨342,[.v ty8,.v ty8],[ty8,ty8],⟨[.v iT],[]⟩,[iT],Pw.unc2 Pw.j6P⟩
def jdS:FnD where
 N:=10
 np:=2
 cs:=[]
 ds:=[]
 ro:=[false]
theorem jd1:Con.OK Tryz.prog j4V:=
 cOf j0e j03 jdS j4V Tryz.func342 trivial trivial
def j18:Con:=⟨412,[.rl 332 ty13,.v iT,.v iT,.clo 342 []],[ty13,iT,iT],⟨[],[.rl ty13]⟩,[ty13],Pw.unc3 Pw.j0c⟩
def j4D:FnD where
 N:=53
 np:=4
 cs:=[j4V]
 ds:=[⟨0,[.s (.one (.ol 0)),sI,sI,.s (.one (.clo 342 [])),sI,.b (.lst 332 ty8 false)],[iT,iT,iT,ty13],[⟨.exit 0,[.b (.lst 332 ty8 false)],[ty13]⟩],Pw.unc4 (Pw.j08)⟩,
  ⟨2,[.s (.one (.ol 0)),sI,sI,.s (.one (.clo 342 [])),sI,sI,.b (.lst 332 ty8 false)],[iT,iT,iT,iT,ty13],[⟨.exit 2,[.s (.one (.ol 0)),sI,sI,.s (.one (.clo 342 [])),sI,.b (.lst 332 ty8 false)],[iT,iT,iT,ty13]⟩],Pw.unc5 (Pw.j0m)⟩]
 modes:=[(342,[false,false])]
 keep:=[(0,⟨[0,1,2,3,8],[0],[],[]⟩),
  (2,⟨[0,1,2,3,8,9],[0],[],[]⟩)]
 keepX:=[(0,.exit 0,⟨[],[0],[],[]⟩),
  (2,.exit 2,⟨[0,1,2,3,8],[0],[],[]⟩)]
 dw:=[(6,[[],[],[],[],[],[],[],[],[],[],[],[],[],[],[],[0],[],[0]])]
theorem j4k:Con.OK Tryz.prog j18:=
 cOf j0e j03 j4D j18 Tryz.func412 (j9 jd1 trivial) (j9 (fun h=>by kernel_rfl) (j9 (fun h=>by kernel_rfl) trivial))
def j1x:Con:=⟨393,[.rl 332 ty13,.v iT,.clo 342 []],[ty13,iT],⟨[],[.rl ty13]⟩,[ty13],Pw.unc2 Pw.j0H⟩
def j6b:FnD where
 N:=63
 np:=3
 cs:=[j18]
 ds:=[⟨0,[.s (.one (.ol 0)),sI,.s (.one (.clo 342 [])),sI,sI,sI,.b (.lst 332 ty8 false)],[iT,iT,iT,iT,ty13],[⟨.exit 0,[.s (.one (.ol 0)),sI,.s (.one (.clo 342 [])),sI,sI,.b (.lst 332 ty8 false)],[iT,iT,iT,ty13]⟩],Pw.unc5 (Pw.j0g)⟩,
  ⟨2,[.s (.one (.ol 0)),sI,.s (.one (.clo 342 [])),sI,.b (.lst 332 ty8 false)],[iT,iT,ty13],[⟨.exit 2,[.b (.lst 332 ty8 false)],[ty13]⟩],Pw.unc3 (Pw.j0h)⟩,
  ⟨4,[.s (.one (.ol 0)),sI,.s (.one (.clo 342 [])),sI,sI,sI,.b (.lst 332 ty8 false)],[iT,iT,iT,iT,ty13],[⟨.exit 4,[.s (.one (.ol 0)),sI,.s (.one (.clo 342 [])),sI,sI,.b (.lst 332 ty8 false)],[iT,iT,iT,ty13]⟩],Pw.unc5 (Pw.j2g)⟩]
 modes:=[(412,[true,false,false,false])]
 keep:=[(0,⟨[0,1,2,6,7,8],[0],[],[]⟩),
  (2,⟨[0,1,2,6],[0],[],[]⟩),
  (4,⟨[0,1,2,6,7,8],[0],[],[]⟩)]
 keepX:=[(0,.exit 0,⟨[0,1,2,6,7],[0],[],[]⟩),
  (2,.exit 2,⟨[],[0],[],[]⟩),
  (4,.exit 4,⟨[0,1,2,6,7],[0],[],[]⟩)]
theorem j5U:Con.OK Tryz.prog j1x:=
 cOf j0e j03 j6b j1x Tryz.func393 (j9 j4k trivial) (j9 (fun h=>by kernel_rfl) (j9 (fun h=>by kernel_rfl) (j9 (fun h=>by kernel_rfl) trivial)))
end Go.Proofs.Pk
