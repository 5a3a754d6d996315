/- Contracts: each given function is its plain function, printed by a program. -/
import Derived.Test.YtpbnnhakjhalaaaGreatECCon0
noncomputable section
open Go Go.Lft
set_option linter.unusedVariables false
set_option maxRecDepth 100000
namespace Go.Proofs.Pk
def j0E:Con:=⟨341,[.rl 332 ty13,.clo 342 []],[ty13],⟨[],[.rl ty13]⟩,[ty13],fun h=>Pw.j08 h⟩
def j30:FnD where
 N:=9
 np:=2
 cs:=[j1p]
 ds:=[]
 modes:=[(393,[true,false,false])]
theorem j2N:Con.OK Tryz.prog j0E:=
 cOf j0f j02 j30 j0E Tryz.func341 (j8 j5E trivial) trivial
def j66:Con:=⟨292,[.v ty65],[ty65],⟨[.own 332 ty13,.v iT],[]⟩,[ty13,iT],fun h=>Pw.j2W h⟩
def jfA:FnD where
 N:=86
 np:=1
 cs:=[j9O,jbO,jbP,j0E]
 ds:=[⟨0,[.s (.one (.bp 64 0)),sI,.s (.one (.d ty58)),sI,sI,.b (.cell [.d .str,.d iT,.d ty58] false)],[iT,ty58,iT,iT,.str,iT,ty58],[⟨.ret,[.s (.one (.nil)),sI],[iT]⟩,⟨.exit 0,[.s (.one (.bp 64 0)),sI,.b (.cell [.d .str,.d iT,.d ty58] false)],[iT,.str,iT,ty58]⟩],Pw.unc7 (Pw.j1V)⟩,
  ⟨2,[.s (.one (.ol 1002000)),.s (.one (.d ty58)),sI,sI,.b (.lst 332 ty8 false)],[ty58,iT,iT,ty13],[⟨.exit 2,[.s (.one (.ol 1502300)),.b (.lst 332 ty8 false)],[ty13]⟩],Pw.unc4 (Pw.j0K)⟩,
  ⟨4,[.s (.one (.ol 1004000)),.s (.one (.bp 640 0)),sI,.s (.one (.d ty58)),sI,sI,.b (.cell [.d iT,.d iT,.d iT,.d iT,.d iT,.d iT,.d iT] false),.b (.lst 332 ty8 false)],[iT,ty58,iT,iT,iT,iT,iT,iT,iT,iT,iT,ty13],[⟨.exit 4,[.s (.one (.ol 1504500)),.s (.one (.d ty58)),sI,sI,.b (.lst 332 ty8 false)],[ty58,iT,iT,ty13]⟩],Pw.jud (Pw.j0J)⟩]
 modes:=[(293,[false,false,false]),(339,[false]),(340,[false,false,false,false]),(341,[true,false])]
 keep:=[(0,⟨[1,4,23,24,25],[64],[],[]⟩),
  (2,⟨[8,46,47,48],[],[⟨1002000,332,ty8,[.slot 8],false⟩],[]⟩),
  (4,⟨[8,10,11,46,47,48],[640],[⟨1004000,332,ty8,[.slot 8],false⟩],[]⟩)]
 keepX:=[(0,.ret,⟨[2,3],[],[],[]⟩),
  (0,.exit 0,⟨[1,4],[64],[],[]⟩),
  (2,.exit 2,⟨[8],[],[⟨1502300,332,ty8,[.slot 8],false⟩],[]⟩),
  (4,.exit 4,⟨[8,46,47,48],[],[⟨1504500,332,ty8,[.slot 8],false⟩],[]⟩)]
 ro:=[true,false]
theorem jet:Con.OK Tryz.prog j66:=
 cOf j0f j02 jfA j66 Tryz.func292 (j8 jgj (j8 jm4 (j8 jm7 (j8 j2N trivial)))) (j8 (fun h=>by kernel_rfl) (j8 (fun h=>by kernel_rfl) (j8 (fun h=>by kernel_rfl) trivial)))
def j43:Con:=⟨201,[.v ty65],[ty65],⟨[.own 167 ty13,.v iT],[]⟩,[ty13,iT],fun h=>Pw.j1O h⟩
def jfB:FnD where
 N:=79
 np:=1
 cs:=[j9O,j66]
 ds:=[⟨0,[.s (.one (.ol 1000000)),sI,.s (.one (.ol 1000001)),sI,sI,.b (.lst 167 ty8 false),.b (.lst 332 ty8 false)],[iT,iT,iT,ty13,ty13],[⟨.ret,[.s (.one (.nil)),sI],[iT]⟩,⟨.exit 0,[.s (.one (.ol 1500100)),.b (.lst 167 ty8 false)],[ty13]⟩],Pw.unc5 (Pw.j1W)⟩]
 modes:=[(292,[false]),(293,[false,false,false])]
 keep:=[(0,⟨[6,7,22,23,24],[],[⟨1000000,167,ty8,[.slot 6],false⟩,⟨1000001,332,ty8,[.slot 22],false⟩],[]⟩)]
 keepX:=[(0,.ret,⟨[2,3],[],[],[]⟩),
  (0,.exit 0,⟨[6],[],[⟨1500100,167,ty8,[.slot 6],false⟩],[]⟩)]
 ro:=[true,false]
theorem j9Q:Con.OK Tryz.prog j43:=
 cOf j0f j02 jfB j43 Tryz.func201 (j8 jgj (j8 jet trivial)) (j8 (fun h=>by kernel_rfl) trivial)
def jaG:Con:=⟨223,[.v ty65],[ty65],⟨[.v iT],[]⟩,[iT],fun h=>Pw.j6N h⟩
def jm8:FnD where
 N:=11
 np:=1
 cs:=[j43]
 ds:=[]
 modes:=[(201,[false])]
 ro:=[false]
theorem jkJ:Con.OK Tryz.prog jaG:=
 cOf j0f j02 jm8 jaG Tryz.func223 (j8 j9Q trivial) trivial
def j4m:Con:=⟨225,[.v ty55],[ty55],⟨[.v .bool],[]⟩,[.bool],fun h=>Pw.j63 h⟩
def jcp:FnD where
 N:=7
 np:=1
 cs:=[]
 ds:=[]
 ro:=[false]
theorem jbQ:Con.OK Tryz.prog j4m:=
 cOf j0f j02 jcp j4m Tryz.func225 trivial trivial
def j15:Con:=⟨305,[.v ty58,.clo 225 []],[ty58],⟨[.v iT],[]⟩,[iT],fun h=>Pw.j0r h⟩
def j4q:FnD where
 N:=19
 np:=2
 cs:=[j4m]
 ds:=[⟨0,[.s (.one (.d ty58)),.s (.one (.clo 225 [])),sI,sI],[ty58,iT,iT],[⟨.ret,[sI],[iT]⟩,⟨.exit 0,[],[]⟩],Pw.unc3 (Pw.j0m)⟩]
 modes:=[(225,[false])]
 keep:=[(0,⟨[0,1,7,8],[],[],[]⟩)]
 keepX:=[(0,.ret,⟨[4],[],[],[]⟩),
  (0,.exit 0,⟨[],[],[],[]⟩)]
 ro:=[false]
theorem j4n:Con.OK Tryz.prog j15:=
 cOf j0f j02 j4q j15 Tryz.func305 (j8 jbQ trivial) (j8 (fun h=>by kernel_rfl) trivial)
def j0T:Con:=⟨224,[.v ty58,.clo 225 []],[ty58],⟨[.v .bool],[]⟩,[.bool],fun h=>Pw.j0k h⟩
def j3S:FnD where
 N:=9
 np:=2
 cs:=[j15]
 ds:=[]
 modes:=[(305,[false,false])]
 ro:=[false]
theorem j3M:Con.OK Tryz.prog j0T:=
 cOf j0f j02 j3S j0T Tryz.func224 (j8 j4n trivial) trivial
def j5F:Con:=⟨151,[.v ty65],[ty65],⟨[.v iT],[]⟩,[iT],fun h=>Pw.j1X h⟩
def jeu:FnD where
 N:=17
 np:=1
 cs:=[jaG,j0T]
 ds:=[]
 modes:=[(223,[false]),(224,[false,false])]
 ro:=[false]
theorem jdL:Con.OK Tryz.prog j5F:=
 cOf j0f j02 jeu j5F Tryz.func151 (j8 jkJ (j8 j3M trivial)) trivial
def j3t:Con:=⟨149,[.v ty66,.clo 150 [],.clo 151 []],[ty66],⟨[.v iT],[]⟩,[iT],fun h=>Pw.j1n h⟩
def jbg:FnD where
 N:=34
 np:=3
 cs:=[j65,j2Z,j5F]
 ds:=[⟨0,[.s (.one (.clo 150 [])),.s (.one (.clo 151 [])),.s (.one (.ol 1000000)),.s (.one (.d ty66)),sI,sI,.b (.lst 4294967512 (.pair .str .bool) false)],[ty66,iT,iT,(.list (.pair .str .bool))],[⟨.ret,[sI],[iT]⟩,⟨.exit 0,[],[]⟩],Pw.unc4 (Pw.j0y)⟩]
 modes:=[(150,[false]),(151,[false]),(152,[false,true])]
 keep:=[(0,⟨[1,2,7,13,14,15],[],[⟨1000000,4294967512,(.pair .str .bool),[.slot 7],false⟩],[]⟩)]
 keepX:=[(0,.ret,⟨[6],[],[],[]⟩),
  (0,.exit 0,⟨[],[],[],[]⟩)]
 ro:=[false]
theorem jaH:Con.OK Tryz.prog j3t:=
 cOf j0f j02 jbg j3t Tryz.func149 (j8 jes (j8 j5C (j8 jdL trivial))) (j8 (fun h=>by kernel_rfl) trivial)
def j2v:Con:=⟨227,[.v iT,.v iT],[iT,iT],⟨[.v .bool],[]⟩,[.bool],Pw.unc2 Pw.j1z⟩
def jim:FnD where
 N:=12
 np:=2
 cs:=[]
 ds:=[]
 ro:=[false]
theorem j4V:Con.OK Tryz.prog j2v:=
 cOf j0f j02 jim j2v Tryz.func227 trivial trivial
def j7Z:Con:=⟨197,[.v ty13],[ty13],⟨[.v iT],[]⟩,[iT],fun h=>Pw.j6O h⟩
def jm9:FnD where
 N:=46
 np:=1
 cs:=[]
 ds:=[⟨0,[.s (.one (.d ty13)),.s (.one (.d ty13)),sI,sI],[ty13,ty13,iT,iT],[⟨.ret,[sI],[iT]⟩,⟨.exit 0,[],[]⟩],Pw.unc4 (Pw.j3B)⟩]
 keep:=[(0,⟨[0,8,9,10],[],[],[]⟩)]
 keepX:=[(0,.ret,⟨[2],[],[],[]⟩),
  (0,.exit 0,⟨[],[],[],[]⟩)]
 ro:=[false]
theorem jfC:Con.OK Tryz.prog j7Z:=
 cOf j0f j02 jm9 j7Z Tryz.func197 trivial (j8 (fun h=>by kernel_rfl) trivial)
def j6s:Con:=⟨308,[.v iT,.v iT,.v iT],[iT,iT,iT],⟨[.v .bool],[]⟩,[.bool],Pw.unc3 Pw.j5S⟩
def jma:FnD where
 N:=15
 np:=3
 cs:=[]
 ds:=[]
 ro:=[false]
theorem jbR:Con.OK Tryz.prog j6s:=
 cOf j0f j02 jma j6s Tryz.func308 trivial trivial
def j7O:Con:=⟨228,[.v iT],[iT],⟨[.v .bool],[]⟩,[.bool],fun h=>Pw.j3C h⟩
def jin:FnD where
 N:=10
 np:=1
 cs:=[j6s]
 ds:=[]
 modes:=[(308,[false,false,false])]
 ro:=[false]
theorem jgQ:Con.OK Tryz.prog j7O:=
 cOf j0f j02 jin j7O Tryz.func228 (j8 jbR trivial) trivial
def j4B:Con:=⟨153,[.v ty84,.v ty53],[ty84,ty53],⟨[.v iT],[]⟩,[iT],Pw.unc2 Pw.j1h⟩
def jdc:FnD where
 N:=29
 np:=2
 cs:=[j2v,j7Z,j7O]
 ds:=[]
 modes:=[(197,[false]),(227,[false,false]),(228,[false])]
 ro:=[false]
theorem jcq:Con.OK Tryz.prog j4B:=
 cOf j0f j02 jdc j4B Tryz.func153 (j8 j4V (j8 jfC (j8 jgQ trivial))) trivial
def j67:Con:=⟨155,[.v ty24],[ty24],⟨[.v .str],[]⟩,[.str],fun h=>Pw.j8G h⟩
def jfD:FnD where
 N:=5
 np:=1
 cs:=[]
 ds:=[]
 ro:=[false]
theorem jev:Con.OK Tryz.prog j67:=
 cOf j0f j02 jfD j67 Tryz.func155 trivial trivial
def jaI:Con:=⟨348,[.v iT],[iT],⟨[.v iT],[]⟩,[iT],fun h=>Pw.jba h⟩
def jmb:FnD where
 N:=15
 np:=1
 cs:=[j7a,j5D]
 ds:=[⟨0,[sI,sI],[iT,iT],[⟨.exit 0,[sI],[iT]⟩],Pw.unc2 (Pw.jaq)⟩]
 modes:=[(347,[false]),(395,[false,false])]
 keep:=[(0,⟨[0,3],[],[],[]⟩)]
 keepX:=[(0,.exit 0,⟨[3],[],[],[]⟩)]
 ro:=[false]
theorem jkK:Con.OK Tryz.prog jaI:=
 cOf j0f j02 jmb jaI Tryz.func348 (j8 je5 (j8 jaF trivial)) (j8 (fun h=>by kernel_rfl) trivial)
def j8O:Con:=⟨310,[.v iT],[iT],⟨[.v ty21,.v iT],[]⟩,[ty21,iT],fun h=>Pw.j5o h⟩
def jj5:FnD where
 N:=45
 np:=1
 cs:=[j50,j5D,jaI]
 ds:=[⟨0,[.s (.one (.bp 128 0)),.s (.one (.bp 256 0)),sI,.b (.cell [.d iT,.d iT,.d iT] false),.b (.cell [.d iT,.d iT,.d iT] false)],[iT,iT,iT,iT,iT,iT,iT],[⟨.exit 0,[.s (.one (.bp 128 0)),.s (.one (.bp 256 0)),sI,.b (.cell [.d iT,.d iT,.d iT] false),.b (.cell [.d iT,.d iT,.d iT] false)],[iT,iT,iT,iT,iT,iT,iT]⟩],Pw.unc7 (Pw.j94)⟩]
 modes:=[(347,[false]),(348,[false]),(349,[false,false])]
 keep:=[(0,⟨[2,4,5],[128,256],[],[]⟩)]
 keepX:=[(0,.exit 0,⟨[2,4,5],[128,256],[],[]⟩)]
 ro:=[false,false]
theorem jio:Con.OK Tryz.prog j8O:=
 cOf j0f j02 jj5 j8O Tryz.func310 (j8 j9a (j8 jaF (j8 jkK trivial))) (j8 (fun h=>by kernel_rfl) trivial)
def j5G:Con:=⟨231,[.v iT],[iT],⟨[.v .bool],[]⟩,[.bool],fun h=>Pw.j0Y h⟩
def jkL:FnD where
 N:=12
 np:=1
 cs:=[j8O]
 ds:=[]
 modes:=[(310,[false])]
 ro:=[false]
theorem jaJ:Con.OK Tryz.prog j5G:=
 cOf j0f j02 jkL j5G Tryz.func231 (j8 jio trivial) trivial
def j37:Con:=⟨230,[.v iT],[iT],⟨[.v .bool],[]⟩,[.bool],fun h=>Pw.j1q h⟩
def jad:FnD where
 N:=6
 np:=1
 cs:=[j5G]
 ds:=[]
 modes:=[(231,[false])]
 ro:=[false]
theorem j9R:Con.OK Tryz.prog j37:=
 cOf j0f j02 jad j37 Tryz.func230 (j8 jaJ trivial) trivial
def j38:Con:=⟨309,[.v (.list iT),.clo 230 []],[(.list iT)],⟨[.v iT],[]⟩,[iT],fun h=>Pw.j1r h⟩
def jae:FnD where
 N:=19
 np:=2
 cs:=[j37]
 ds:=[⟨0,[.s (.one (.d (.list iT))),.s (.one (.clo 230 [])),sI,sI],[(.list iT),iT,iT],[⟨.ret,[sI],[iT]⟩,⟨.exit 0,[],[]⟩],Pw.unc3 (Pw.j0s)⟩]
 modes:=[(230,[false])]
 keep:=[(0,⟨[0,1,7,8],[],[],[]⟩)]
 keepX:=[(0,.ret,⟨[4],[],[],[]⟩),
  (0,.exit 0,⟨[],[],[],[]⟩)]
 ro:=[false]
theorem j9S:Con.OK Tryz.prog j38:=
 cOf j0f j02 jae j38 Tryz.func309 (j8 j9R trivial) (j8 (fun h=>by kernel_rfl) trivial)
end Go.Proofs.Pk
