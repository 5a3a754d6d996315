/- Contracts: each given function is its plain function, printed by a program. -/
import Derived.Test.YtpbnnhakjhalaaaGreatEOCon5
noncomputable section
open Go Go.Lft
set_option linter.unusedVariables false
set_option maxRecDepth 100000
namespace Go.Proofs.Pk
def jcx:Con:=⟨386,[.v (.int .u8)],[(.int .u8)],⟨[.v .bool],[]⟩,[.bool],fun h=>Pw.jj0 h⟩
def joJ:FnD where
 N:=9
 np:=1
 cs:=[]
 ds:=[]
 ro:=[false]
theorem jnq:Con.OK Tryz.prog jcx:=
 cOf j0e j03 joJ jcx Tryz.func386 trivial trivial
def jdX:Con:=⟨334,[.v .str],[.str],⟨[.v .bool],[]⟩,[.bool],fun h=>Pw.ji9 h⟩
def jqQ:FnD where
 N:=57
 np:=1
 cs:=[jcx]
 ds:=[⟨0,[.s (.one (.d .str)),sI],[.str,iT],[⟨.ret,[.s (.one (.d .bool))],[.bool]⟩,⟨.exit 0,[],[]⟩],Pw.unc2 (Pw.j53)⟩]
 modes:=[(386,[false])]
 keep:=[(0,⟨[0,3],[],[],[]⟩)]
 keepX:=[(0,.ret,⟨[2],[],[],[]⟩),
  (0,.exit 0,⟨[],[],[],[]⟩)]
 ro:=[false]
theorem joK:Con.OK Tryz.prog jdX:=
 cOf j0e j03 jqQ jdX Tryz.func334 (j9 jnq trivial) (j9 (fun h=>by kernel_rfl) trivial)
def j76:Con:=⟨276,[.v (.list .str),.v iT],[(.list .str),iT],⟨[.v iT],[]⟩,[iT],Pw.unc2 Pw.j9u⟩
def jqR:FnD where
 N:=26
 np:=2
 cs:=[jdX]
 ds:=[⟨0,[.s (.one (.d (.list .str))),sI,sI],[(.list .str),iT,iT],[⟨.ret,[sI],[iT]⟩,⟨.exit 0,[],[]⟩],Pw.unc3 (Pw.j54)⟩]
 modes:=[(334,[false])]
 keep:=[(0,⟨[0,1,5],[],[],[]⟩)]
 keepX:=[(0,.ret,⟨[4],[],[],[]⟩),
  (0,.exit 0,⟨[],[],[],[]⟩)]
 ro:=[false]
theorem jcy:Con.OK Tryz.prog j76:=
 cOf j0e j03 jqR j76 Tryz.func276 (j9 joK trivial) (j9 (fun h=>by kernel_rfl) trivial)
def j8g:Con:=⟨191,[.v iT,.v iT,.v iT],[iT,iT,iT],⟨[.v .bool],[]⟩,[.bool],Pw.unc3 Pw.j7R⟩
def ju1:FnD where
 N:=15
 np:=3
 cs:=[]
 ds:=[]
 ro:=[false]
theorem jdY:Con.OK Tryz.prog j8g:=
 cOf j0e j03 ju1 j8g Tryz.func191 trivial trivial
def jcz:Con:=⟨192,[.v ty55],[ty55],⟨[.v .bool],[]⟩,[.bool],fun h=>Pw.jdG h⟩
def joL:FnD where
 N:=38
 np:=1
 cs:=[j8g]
 ds:=[]
 modes:=[(191,[false,false,false])]
 ro:=[false]
theorem jnr:Con.OK Tryz.prog jcz:=
 cOf j0e j03 joL jcz Tryz.func192 (j9 jdY trivial) trivial
def jdZ:Con:=⟨390,[.v iT],[iT],⟨[.v .bool],[]⟩,[.bool],fun h=>Pw.j1q h⟩
def jqS:FnD where
 N:=16
 np:=1
 cs:=[]
 ds:=[]
 ro:=[false]
theorem joM:Con.OK Tryz.prog jdZ:=
 cOf j0e j03 jqS jdZ Tryz.func390 trivial trivial
def j8Q:Con:=⟨338,[.v iT,.v iT],[iT,iT],⟨[.v iT],[]⟩,[iT],Pw.unc2 Pw.jci⟩
def jqT:FnD where
 N:=23
 np:=2
 cs:=[jdZ]
 ds:=[]
 modes:=[(390,[false])]
 ro:=[false]
theorem jfu:Con.OK Tryz.prog j8Q:=
 cOf j0e j03 jqT j8Q Tryz.func338 (j9 joM trivial) trivial
def jcA:Con:=⟨389,[.v ty21],[ty21],⟨[.v .bool],[]⟩,[.bool],fun h=>Pw.jg8 h⟩
def joN:FnD where
 N:=36
 np:=1
 cs:=[j8Q]
 ds:=[]
 modes:=[(338,[false,false])]
 ro:=[false]
theorem jns:Con.OK Tryz.prog jcA:=
 cOf j0e j03 joN jcA Tryz.func389 (j9 jfu trivial) trivial
def jaT:Con:=⟨335,[.v iT],[iT],⟨[.v iT],[]⟩,[iT],fun h=>Pw.jg9 h⟩
def jqU:FnD where
 N:=18
 np:=1
 cs:=[]
 ds:=[]
 ro:=[false]
theorem jji:Con.OK Tryz.prog jaT:=
 cOf j0e j03 jqU jaT Tryz.func335 trivial trivial
def jfv:Con:=⟨337,[.v ty21],[ty21],⟨[.v iT,.v iT],[]⟩,[iT,iT],fun h=>Pw.jlq h⟩
def jsC:FnD where
 N:=29
 np:=1
 cs:=[j8Q,jcA,jaT]
 ds:=[⟨0,[.s (.one (.bp 64 0)),sI,sI,.b (.cell [.d iT,.d iT,.d iT] false)],[iT,iT,iT,iT,iT],[⟨.exit 0,[.s (.one (.bp 64 0)),sI,.b (.cell [.d iT,.d iT,.d iT] false)],[iT,iT,iT,iT]⟩],Pw.unc5 (Pw.j5M)⟩]
 modes:=[(335,[false]),(338,[false,false]),(389,[false])]
 keep:=[(0,⟨[1,4,5],[64],[],[]⟩)]
 keepX:=[(0,.exit 0,⟨[1,4],[64],[],[]⟩)]
 ro:=[false,false]
theorem r01_Day_ok:Con.OK Tryz.prog jfv:=
 cOf j0e j03 jsC jfv Tryz.func337 (j9 jfu (j9 jns (j9 jji trivial))) (j9 (fun h=>by kernel_rfl) trivial)
def j7w:Con:=⟨287,[.v iT],[iT],⟨[.v iT],[]⟩,[iT],fun h=>Pw.jcj h⟩
def jlR:FnD where
 N:=7
 np:=1
 cs:=[]
 ds:=[]
 ro:=[false]
theorem jeP:Con.OK Tryz.prog j7w:=
 cOf j0e j03 jlR j7w Tryz.func287 trivial trivial
def jfw:Con:=⟨286,[.v iT,.v iT,.v iT,.v iT],[iT,iT,iT,iT],⟨[.v iT,.v iT],[]⟩,[iT,iT],Pw.unc4 Pw.jlr⟩
def jsD:FnD where
 N:=63
 np:=4
 cs:=[j8Q,jfv,j7w]
 ds:=[⟨0,[sI,sI,sI,sI,sI,sI],[iT,iT,iT,iT,iT,iT],[⟨.exit 0,[sI,sI,sI,sI,sI],[iT,iT,iT,iT,iT]⟩],Pw.unc6 (Pw.j5N)⟩,
  ⟨2,[sI,sI,sI,sI],[iT,iT,iT,iT],[⟨.exit 2,[sI],[iT]⟩],Pw.unc4 (Pw.j5O)⟩]
 modes:=[(287,[false]),(337,[false]),(338,[false,false])]
 keep:=[(0,⟨[0,1,2,3,10,12],[],[],[]⟩),
  (2,⟨[0,1,10,12],[],[],[]⟩)]
 keepX:=[(0,.exit 0,⟨[0,1,2,10,12],[],[],[]⟩),
  (2,.exit 2,⟨[12],[],[],[]⟩)]
 ro:=[false,false]
theorem r01_Nth_ok:Con.OK Tryz.prog jfw:=
 cOf j0e j03 jsD jfw Tryz.func286 (j9 jfu (j9 r01_Day_ok (j9 jeP trivial))) (j9 (fun h=>by kernel_rfl) (j9 (fun h=>by kernel_rfl) trivial))
def j6V:Con:=⟨193,[.v ty58],[ty58],⟨[.own 258 ty13],[]⟩,[ty13],fun h=>Pw.j7l h⟩
def jh5:FnD where
 N:=98
 np:=1
 cs:=[jfw]
 ds:=[⟨0,[.s (.one (.d ty58)),.s (.one (.ol 1000000)),sI,.b (.lst 258 ty8 false)],[ty58,iT,ty13],[⟨.exit 0,[.s (.one (.ol 1500100)),.b (.lst 258 ty8 false)],[ty13]⟩],Pw.unc3 (Pw.j2q)⟩,
  ⟨2,[.s (.one (.d ty58)),.s (.one (.ol 1002000)),sI,sI,.b (.lst 258 ty8 false)],[ty58,iT,iT,ty13],[⟨.exit 2,[.s (.one (.d ty58)),.s (.one (.ol 1502300)),sI,.b (.lst 258 ty8 false)],[ty58,iT,ty13]⟩],Pw.unc4 (Pw.j2p)⟩,
  ⟨4,[.s (.one (.d ty58)),.s (.one (.ol 1004000)),sI,sI,.s (.one (.bp 512 0)),sI,.b (.cell [.d iT,.d iT] false),.b (.lst 258 ty8 false)],[ty58,iT,iT,iT,iT,iT,ty13],[⟨.exit 4,[.s (.one (.d ty58)),.s (.one (.ol 1504500)),sI,sI,.s (.one (.bp 512 0)),sI,.b (.cell [.d iT,.d iT] false),.b (.lst 258 ty8 false)],[ty58,iT,iT,iT,iT,iT,ty13]⟩],Pw.unc7 (Pw.j2o)⟩]
 modes:=[(286,[false,false,false,false])]
 keep:=[(0,⟨[0,3,4],[],[⟨1000000,258,ty8,[.slot 3],false⟩],[]⟩),
  (2,⟨[0,3,4,5],[],[⟨1002000,258,ty8,[.slot 3],false⟩],[]⟩),
  (4,⟨[0,3,4,5,8,9],[512],[⟨1004000,258,ty8,[.slot 3],false⟩],[]⟩)]
 keepX:=[(0,.exit 0,⟨[3],[],[⟨1500100,258,ty8,[.slot 3],false⟩],[]⟩),
  (2,.exit 2,⟨[0,3,4],[],[⟨1502300,258,ty8,[.slot 3],false⟩],[]⟩),
  (4,.exit 4,⟨[0,3,4,5,8,9],[512],[⟨1504500,258,ty8,[.slot 3],false⟩],[]⟩)]
 ro:=[true]
 dw:=[(9,[[],[],[],[],[],[],[],[],[],[],[],[],[],[],[512],[512]]),(14,[[],[],[],[],[],[],[],[5376]])]
theorem jgB:Con.OK Tryz.prog j6V:=
 cOf j0e j03 jh5 j6V Tryz.func193 (j9 r01_Nth_ok trivial) (j9 (fun h=>by kernel_rfl) (j9 (fun h=>by kernel_rfl) (j9 (fun h=>by kernel_rfl) trivial)))
def j3A:Con:=⟨107,[.v ty65],[ty65],⟨[.own 167 ty13,.v iT],[]⟩,[ty13,iT],fun h=>Pw.j1f h⟩
def jh6:FnD where
 N:=119
 np:=1
 cs:=[j8g,jcz,j6V]
 ds:=[⟨0,[.s (.one (.bp 64 0)),sI,sI,.b (.cell [.d .str,.d iT,.d ty58] false)],[iT,iT,.str,iT,ty58],[⟨.ret,[.s (.one (.nil)),sI],[iT]⟩,⟨.exit 0,[.s (.one (.bp 64 0)),sI,.b (.cell [.d .str,.d iT,.d ty58] false)],[iT,.str,iT,ty58]⟩],Pw.unc5 (Pw.j2r)⟩,
  ⟨2,[.s (.one (.ol 1002000)),.s (.one (.ol 1002001)),sI,sI,.b (.lst 167 ty8 false),.b (.lst 258 ty8 false)],[iT,iT,ty13,ty13],[⟨.ret,[.s (.one (.nil)),sI],[iT]⟩,⟨.exit 2,[.s (.one (.ol 1502300)),.b (.lst 167 ty8 false)],[ty13]⟩],Pw.unc4 (Pw.j2s)⟩]
 modes:=[(191,[false,false,false]),(192,[false]),(193,[false])]
 keep:=[(0,⟨[1,4,5],[64],[],[]⟩),
  (2,⟨[6,7,8,9],[],[⟨1002000,167,ty8,[.slot 6],false⟩,⟨1002001,258,ty8,[.slot 7],false⟩],[]⟩)]
 keepX:=[(0,.ret,⟨[2,3],[],[],[]⟩),
  (0,.exit 0,⟨[1,4],[64],[],[]⟩),
  (2,.ret,⟨[2,3],[],[],[]⟩),
  (2,.exit 2,⟨[6],[],[⟨1502300,167,ty8,[.slot 6],false⟩],[]⟩)]
 ro:=[true,false]
 dw:=[(21,[[],[],[],[],[],[],[],[],[],[],[],[],[],[640],[640]]),(24,[[],[],[7296],[7360,1002000],[],[],[],[]])]
theorem j7x:Con.OK Tryz.prog j3A:=
 cOf j0e j03 jh6 j3A Tryz.func107 (j9 jdY (j9 jnr (j9 jgB trivial))) (j9 (fun h=>by kernel_rfl) (j9 (fun h=>by kernel_rfl) trivial))
def j9A:Con:=⟨277,[.v ty65],[ty65],⟨[.v iT],[]⟩,[iT],fun h=>Pw.j5P h⟩
def joO:FnD where
 N:=11
 np:=1
 cs:=[j3A]
 ds:=[]
 modes:=[(107,[false])]
 ro:=[false]
theorem jhu:Con.OK Tryz.prog j9A:=
 cOf j0e j03 joO j9A Tryz.func277 (j9 j7x trivial) trivial
def jam:Con:=⟨278,[.v ty65],[ty65],⟨[.v .bool],[]⟩,[.bool],fun h=>Pw.j9X h⟩
def jlS:FnD where
 N:=28
 np:=1
 cs:=[]
 ds:=[⟨0,[.s (.one (.bp 64 0)),.s (.one (.d .bool)),sI,.b (.cell [.d .str,.d iT,.d ty58] false)],[.bool,iT,.str,iT,ty58],[⟨.exit 0,[.s (.one (.d .bool))],[.bool]⟩],Pw.unc5 (Pw.j3x)⟩]
 keep:=[(0,⟨[1,3,4],[64],[],[]⟩)]
 keepX:=[(0,.exit 0,⟨[3],[],[],[]⟩)]
 ro:=[false]
theorem jk3:Con.OK Tryz.prog jam:=
 cOf j0e j03 jlS jam Tryz.func278 trivial (j9 (fun h=>by kernel_rfl) trivial)
def jcB:Con:=⟨184,[.v ty84],[ty84],⟨[.v iT],[]⟩,[iT],fun h=>Pw.jj1 h⟩
def joP:FnD where
 N:=44
 np:=1
 cs:=[j76,j9A,jam]
 ds:=[⟨0,[.s (.one (.bp 64 0)),.s (.one (.ol 1000000)),sI,.b (.cell [.d ty66,.d ty56,.d ty29,.d ty78] false),.b (.lst 9 .str false)],[iT,ty66,ty56,ty29,ty78,(.list .str)],[⟨.ret,[sI],[iT]⟩,⟨.exit 0,[],[]⟩],Pw.unc6 (Pw.j4y)⟩]
 modes:=[(276,[false,false]),(277,[false]),(278,[false])]
 keep:=[(0,⟨[1,3,4],[64],[⟨1000000,9,.str,[.slot 3],false⟩],[]⟩)]
 keepX:=[(0,.ret,⟨[2],[],[],[]⟩),
  (0,.exit 0,⟨[],[],[],[]⟩)]
 ro:=[false]
theorem jnt:Con.OK Tryz.prog jcB:=
 cOf j0e j03 joP jcB Tryz.func184 (j9 jcy (j9 jhu (j9 jk3 trivial))) (j9 (fun h=>by kernel_rfl) trivial)
def j8h:Con:=⟨279,[.v iT,.v iT,.v iT],[iT,iT,iT],⟨[.v .bool],[]⟩,[.bool],Pw.unc3 Pw.j6F⟩
def ju2:FnD where
 N:=15
 np:=3
 cs:=[]
 ds:=[]
 ro:=[false]
theorem je0:Con.OK Tryz.prog j8h:=
 cOf j0e j03 ju2 j8h Tryz.func279 trivial trivial
def j7y:Con:=⟨108,[.v ty13],[ty13],⟨[.v iT],[]⟩,[iT],fun h=>Pw.jbK h⟩
def joQ:FnD where
 N:=56
 np:=1
 cs:=[]
 ds:=[⟨0,[.s (.one (.d ty13)),sI],[ty13,iT],[⟨.ret,[sI],[iT]⟩,⟨.exit 0,[],[]⟩],Pw.unc2 (Pw.j4z)⟩]
 keep:=[(0,⟨[0,3],[],[],[]⟩)]
 keepX:=[(0,.ret,⟨[2],[],[],[]⟩),
  (0,.exit 0,⟨[],[],[],[]⟩)]
 ro:=[false]
theorem je1:Con.OK Tryz.prog j7y:=
 cOf j0e j03 joQ j7y Tryz.func108 trivial (j9 (fun h=>by kernel_rfl) trivial)
def jcC:Con:=⟨280,[.v iT],[iT],⟨[.v .bool],[]⟩,[.bool],fun h=>Pw.jgd h⟩
def joR:FnD where
 N:=10
 np:=1
 cs:=[j8h]
 ds:=[]
 modes:=[(279,[false,false,false])]
 ro:=[false]
theorem jnu:Con.OK Tryz.prog jcC:=
 cOf j0e j03 joR jcC Tryz.func280 (j9 je0 trivial) trivial
end Go.Proofs.Pk
