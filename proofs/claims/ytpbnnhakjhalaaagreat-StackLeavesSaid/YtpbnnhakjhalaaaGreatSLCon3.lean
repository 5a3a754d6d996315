/- Contracts: each given function is its plain function, printed by a program. -/
import Derived.Test.YtpbnnhakjhalaaaGreatSLCon2
noncomputable section
open Go Go.Lft
set_option linter.unusedVariables false
set_option maxRecDepth 100000
namespace Go.Proofs.Pk
def jbR:Con:=⟨76,[.v ty84],[ty84],⟨[.v ty86,.v .bool],[]⟩,[ty86,.bool],fun h=>Pw.jcR h⟩
def jqE:FnD where
 N:=10
 np:=1
 cs:=[j7H,jbQ]
 ds:=[]
 modes:=[(75,[false]),(162,[false])]
 ro:=[false,false]
theorem jjI:Con.OK Tryz.prog jbR:=
 cOf j0l j04 jqE jbR Tryz.func76 (j9 jgD (j9 jm3 trivial)) trivial
def j6Z:Con:=⟨77,[.v ty84,.v iT],[ty84,iT],⟨[.v .bool],[]⟩,[.bool],Pw.unc2 Pw.jbC⟩
def jkF:FnD where
 N:=14
 np:=2
 cs:=[]
 ds:=[]
 ro:=[false]
theorem jdH:Con.OK Tryz.prog j6Z:=
 cOf j0l j04 jkF j6Z Tryz.func77 trivial trivial
def jaJ:Con:=⟨173,[.v iT,.v iT],[iT,iT],⟨[.v .bool],[]⟩,[.bool],Pw.unc2 Pw.jjH⟩
def jm4:FnD where
 N:=26
 np:=2
 cs:=[]
 ds:=[]
 ro:=[false]
theorem jkG:Con.OK Tryz.prog jaJ:=
 cOf j0l j04 jm4 jaJ Tryz.func173 trivial trivial
def j9O:Con:=⟨164,[.v ty84,.v iT,.v iT,.v iT],[ty84,iT,iT,iT],⟨[.v ty86,.v iT],[]⟩,[ty86,iT],Pw.unc4 Pw.j9p⟩
def jkH:FnD where
 N:=34
 np:=4
 cs:=[jbR,j6Z,jaJ]
 ds:=[]
 modes:=[(76,[false]),(77,[false,false]),(173,[false,false])]
 ro:=[false,false]
theorem jiO:Con.OK Tryz.prog j9O:=
 cOf j0l j04 jkH j9O Tryz.func164 (j9 jjI (j9 jdH (j9 jkG trivial))) trivial
def j16:Con:=⟨168,[.v ty73],[ty73],⟨[.clo 248 [.p [ty73]]],[]⟩,[ty73],fun h=>Pw.j1q h⟩
def j5U:FnD where
 N:=4
 np:=1
 cs:=[]
 ds:=[]
 ro:=[false]
theorem j31:Con.OK Tryz.prog j16:=
 cOf j0l j04 j5U j16 Tryz.func168 trivial trivial
def j7Q:Con:=⟨357,[.v ty72],[ty72],⟨[.v iT],[]⟩,[iT],fun h=>Pw.j7y h⟩
def jm5:FnD where
 N:=11
 np:=1
 cs:=[]
 ds:=[]
 ro:=[false]
theorem jfc:Con.OK Tryz.prog j7Q:=
 cOf j0l j04 jm5 j7Q Tryz.func357 trivial trivial
def j4C:Con:=⟨328,[.v iT,.ip [iT,ty13],.ip [iT]],[iT,iT,ty13,iT],⟨[.v .bool],[]⟩,[.bool],Pw.unc4 Pw.j6m⟩
def jcX:FnD where
 N:=13
 np:=3
 cs:=[]
 ds:=[]
 ro:=[false]
theorem jci:Con.OK Tryz.prog j4C:=
 cOf j0l j04 jcX j4C Tryz.func328 trivial trivial
def j9P:Con:=⟨327,[.v iT,.clo 328 [.p [iT,ty13],.p [iT]]],[iT,iT,ty13,iT],⟨[.v iT],[]⟩,[iT],Pw.unc4 Pw.j7z⟩
def jkI:FnD where
 N:=26
 np:=2
 cs:=[j4C]
 ds:=[⟨0,[.s (.one (.clo 328 [.p [iT,ty13],.p [iT]])),sI,sI],[iT,ty13,iT,iT,iT],[⟨.exit 0,[sI],[iT]⟩],Pw.unc5 (Pw.j2J)⟩]
 modes:=[(328,[false])]
 keep:=[(0,⟨[1,5,6],[],[],[]⟩)]
 keepX:=[(0,.exit 0,⟨[5],[],[],[]⟩)]
 ro:=[false]
theorem jiP:Con.OK Tryz.prog j9P:=
 cOf j0l j04 jkI j9P Tryz.func327 (j9 jci trivial) (j9 (fun h=>by kernel_rfl) trivial)
def j4f:Con:=⟨264,[.v ty28,.v iT],[ty28,iT],⟨[.v iT],[]⟩,[iT],Pw.unc2 Pw.j2F⟩
def jfd:FnD where
 N:=10
 np:=2
 cs:=[j9P]
 ds:=[]
 modes:=[(327,[false,false])]
 ro:=[false]
theorem j9Q:Con.OK Tryz.prog j4f:=
 cOf j0l j04 jfd j4f Tryz.func264 (j9 jiP trivial) trivial
def j3V:Con:=⟨265,[.v ty28,.v iT],[ty28,iT],⟨[.v iT],[]⟩,[iT],Pw.unc2 Pw.j3t⟩
def jeb:FnD where
 N:=16
 np:=2
 cs:=[]
 ds:=[]
 ro:=[false]
theorem j8W:Con.OK Tryz.prog j3V:=
 cOf j0l j04 jeb j3V Tryz.func265 trivial trivial
def j2W:Con:=⟨181,[.v ty28,.v iT,.v iT],[ty28,iT,iT],⟨[.own 248 ty26],[]⟩,[ty26],Pw.unc3 Pw.j1R⟩
def jec:FnD where
 N:=41
 np:=3
 cs:=[j4f,j3V]
 ds:=[⟨0,[sI,sI,.s (.one (.bp 192 0)),.s (.one (.ol 1000000)),.b (.cell [.d iT,.d ty13] false),.b (.lst 248 ty21 false)],[iT,iT,iT,ty13,ty26],[⟨.exit 0,[.s (.one (.ol 1500100)),.b (.lst 248 ty21 false)],[ty26]⟩],Pw.unc5 (Pw.j0N)⟩]
 modes:=[(264,[false,false]),(265,[false,false])]
 keep:=[(0,⟨[1,2,3,7],[192],[⟨1000000,248,ty21,[.slot 7],false⟩],[]⟩)]
 keepX:=[(0,.exit 0,⟨[7],[],[⟨1500100,248,ty21,[.slot 7],false⟩],[]⟩)]
 ro:=[true]
theorem j5V:Con.OK Tryz.prog j2W:=
 cOf j0l j04 jec j2W Tryz.func181 (j9 j9Q (j9 j8W trivial)) (j9 (fun h=>by kernel_rfl) trivial)
def j8C:Con:=⟨400,[.v ty8],[ty8],⟨[.v iT],[]⟩,[iT],fun h=>Pw.j3o h⟩
def jiQ:FnD where
 N:=11
 np:=1
 cs:=[]
 ds:=[]
 ro:=[false]
theorem ji7:Con.OK Tryz.prog j8C:=
 cOf j0l j04 jiQ j8C Tryz.func400 trivial trivial
def j5W:Con:=⟨358,[.v ty28,.v ty8],[ty28,ty8],⟨[.v iT,.v .bool],[]⟩,[iT,.bool],Pw.unc2 Pw.j1u⟩
def jfe:FnD where
 N:=30
 np:=2
 cs:=[j2W,j8C]
 ds:=[⟨0,[.s (.one (.bp 192 0)),.s (.one (.ol 1000000)),sI,sI,.b (.cell [.d iT,.d iT] false),.b (.lst 248 ty21 false)],[iT,iT,iT,iT,ty26],[⟨.ret,[sI,.s (.one (.d .bool))],[iT,.bool]⟩,⟨.exit 0,[],[]⟩],Pw.unc5 (Pw.j1g)⟩]
 modes:=[(181,[false,false,false]),(400,[false])]
 keep:=[(0,⟨[3,10,11,12],[192],[⟨1000000,248,ty21,[.slot 10],false⟩],[]⟩)]
 keepX:=[(0,.ret,⟨[4,5],[],[],[]⟩),
  (0,.exit 0,⟨[],[],[],[]⟩)]
 ro:=[false,false]
theorem jed:Con.OK Tryz.prog j5W:=
 cOf j0l j04 jfe j5W Tryz.func358 (j9 j5V (j9 ji7 trivial)) (j9 (fun h=>by kernel_rfl) trivial)
def j3e:Con:=⟨318,[.v ty28,.v ty72,.v iT],[ty28,ty72,iT],⟨[.v iT,.v .bool],[]⟩,[iT,.bool],Pw.unc3 Pw.j0O⟩
def jff:FnD where
 N:=50
 np:=3
 cs:=[j7Q,j5W]
 ds:=[]
 modes:=[(357,[false]),(358,[false,false])]
 ro:=[false,false]
 dw:=[(5,[[],[],[],[],[],[],[],[],[512]])]
theorem j6p:Con.OK Tryz.prog j3e:=
 cOf j0l j04 jff j3e Tryz.func318 (j9 jfc (j9 jed trivial)) trivial
def j3B:Con:=⟨255,[.v ty13],[ty13],⟨[.own 77 ty13],[]⟩,[ty13],fun h=>Pw.j4s h⟩
def j7c:FnD where
 N:=8
 np:=1
 cs:=[]
 ds:=[]
 ro:=[true]
theorem j70:Con.OK Tryz.prog j3B:=
 jqs j0l j04 j7c 255 ty8 77 Tryz.f255 (Tryz.f255.body.getD .skip) Tryz.func255 (by kernel_rfl) (by kernel_rfl) (Nat.le_of_ble_eq_true (by kernel_rfl)) (by kernel_rfl) trivial (by kernel_rfl)
  (fun h R k=>by kernel_rfl)
def j5D:Con:=⟨256,[.v ty8],[ty8],⟨[.v .bool],[]⟩,[.bool],fun h=>Pw.jbD h⟩
def ji8:FnD where
 N:=8
 np:=1
 cs:=[]
 ds:=[]
 ro:=[false]
theorem jc9:Con.OK Tryz.prog j5D:=
 cOf j0l j04 ji8 j5D Tryz.func256 trivial trivial
def j1V:Con:=⟨322,[.rl 77 ty13,.clo 256 []],[ty13],⟨[.v iT],[.rl ty13]⟩,[iT,ty13],fun h=>Pw.j10 h⟩
def j6d:FnD where
 N:=19
 np:=2
 cs:=[j5D]
 ds:=[⟨0,[.s (.one (.ol 0)),.s (.one (.clo 256 [])),sI,sI,.b (.lst 77 ty8 false)],[iT,iT,ty13],[⟨.ret,[sI,.b (.lst 77 ty8 false)],[iT,ty13]⟩,⟨.exit 0,[.b (.lst 77 ty8 false)],[ty13]⟩],Pw.unc3 (Pw.j2G)⟩]
 modes:=[(256,[false])]
 keep:=[(0,⟨[0,1,7,8],[0],[],[]⟩)]
 keepX:=[(0,.ret,⟨[4],[0],[],[]⟩),
  (0,.exit 0,⟨[],[0],[],[]⟩)]
 ro:=[false]
theorem j5X:Con.OK Tryz.prog j1V:=
 cOf j0l j04 j6d j1V Tryz.func322 (j9 jc9 trivial) (j9 (fun h=>by kernel_rfl) trivial)
def j1L:Con:=⟨254,[.rl 77 ty13,.clo 256 []],[ty13],⟨[.hd],[.rl ty13]⟩,[iT,ty13],fun h=>Pw.j0R h⟩
def j5Y:FnD where
 N:=42
 np:=2
 cs:=[j5D,j1V]
 ds:=[⟨0,[.s (.one (.ol 0)),.s (.one (.clo 256 [])),sI,sI,.b (.lst 77 ty8 false)],[iT,iT,ty13],[⟨.exit 0,[.s (.one (.ol 0)),sI,.b (.lst 77 ty8 false)],[iT,ty13]⟩],Pw.unc3 (Pw.j2v)⟩]
 modes:=[(256,[false]),(322,[true,false])]
 keep:=[(0,⟨[0,1,5,6],[0],[],[]⟩)]
 keepX:=[(0,.exit 0,⟨[0,5],[0],[],[]⟩)]
 ro:=[false]
 hd:=true
theorem j5E:Con.OK Tryz.prog j1L:=
 cOf j0l j04 j5Y j1L Tryz.func254 (j9 jc9 (j9 j5X trivial)) (j9 (fun h=>by kernel_rfl) trivial)
def j7I:Con:=⟨258,[.v ty8,.v ty8],[ty8,ty8],⟨[.v iT],[]⟩,[iT],Pw.unc2 Pw.j92⟩
def ji9:FnD where
 N:=10
 np:=2
 cs:=[]
 ds:=[]
 ro:=[false]
theorem jp9:Con.OK Tryz.prog j7I:=
 cOf j0l j04 ji9 j7I Tryz.func258 trivial trivial
def j1y:Con:=⟨257,[.rl 77 ty13,.clo 258 []],[ty13],⟨[],[.rl ty13]⟩,[ty13],fun h=>Pw.j1P h⟩
def j9f:FnD where
 N:=14
 np:=2
 cs:=[j7I]
 ds:=[]
 modes:=[(258,[false,false])]
theorem j3n:Con.OK Tryz.prog j1y:=
 jo6 Tryz.sort257 (ty8) rfl 77 (by kernel_rfl) Tryz.isAgg77 Tryz.sizeOf77 _ 258 (enters_of Tryz.func258 (by kernel_rfl) rfl) jn8 jn9 257 rfl
end Go.Proofs.Pk
