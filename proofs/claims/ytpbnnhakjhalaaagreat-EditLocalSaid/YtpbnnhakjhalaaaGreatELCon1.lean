/- Contracts: each given function is its plain function, printed by a program. -/
import Derived.Test.YtpbnnhakjhalaaaGreatELCon0
noncomputable section
open Go Go.Lft
set_option linter.unusedVariables false
set_option maxRecDepth 100000
namespace Go.Proofs.Pk
def j0K:Con:=⟨341,[.rl 332 ty13,.clo 342 []],[ty13],⟨[],[.rl ty13]⟩,[ty13],fun h=>Pw.j08 h⟩
def j38:FnD where
 N:=9
 np:=2
 cs:=[j1B]
 ds:=[]
 modes:=[(393,[true,false,false])]
theorem j2W:Con.OK Tryz.prog j0K:=
 cOf j0n j04 j38 j0K Tryz.func341 (j9 j5F trivial) trivial
def j66:Con:=⟨292,[.v ty65],[ty65],⟨[.own 332 ty13,.v iT],[]⟩,[ty13,iT],fun h=>Pw.j34 h⟩
def jeC:FnD where
 N:=86
 np:=1
 cs:=[j9o,jbk,jbl,j0K]
 ds:=[⟨0,[.s (.one (.bp 64 0)),sI,.s (.one (.d ty58)),sI,sI,.b (.cell [.d .str,.d iT,.d ty58] false)],[iT,ty58,iT,iT,.str,iT,ty58],[⟨.ret,[.s (.one (.nil)),sI],[iT]⟩,⟨.exit 0,[.s (.one (.bp 64 0)),sI,.b (.cell [.d .str,.d iT,.d ty58] false)],[iT,.str,iT,ty58]⟩],Pw.unc7 (Pw.j2d)⟩,
  ⟨2,[.s (.one (.ol 1002000)),.s (.one (.d ty58)),sI,sI,.b (.lst 332 ty8 false)],[ty58,iT,iT,ty13],[⟨.exit 2,[.s (.one (.ol 1502300)),.b (.lst 332 ty8 false)],[ty13]⟩],Pw.unc4 (Pw.j0Q)⟩,
  ⟨4,[.s (.one (.ol 1004000)),.s (.one (.bp 640 0)),sI,.s (.one (.d ty58)),sI,sI,.b (.cell [.d iT,.d iT,.d iT,.d iT,.d iT,.d iT,.d iT] false),.b (.lst 332 ty8 false)],[iT,ty58,iT,iT,iT,iT,iT,iT,iT,iT,iT,ty13],[⟨.exit 4,[.s (.one (.ol 1504500)),.s (.one (.d ty58)),sI,sI,.b (.lst 332 ty8 false)],[ty58,iT,iT,ty13]⟩],Pw.jsU (Pw.j0P)⟩]
 modes:=[(293,[false,false,false]),(339,[false]),(340,[false,false,false,false]),(341,[true,false])]
 keep:=[(0,⟨[1,4,23,24,25],[64],[],[]⟩),
  (2,⟨[8,46,47,48],[],[⟨1002000,332,ty8,[.slot 8],false⟩],[]⟩),
  (4,⟨[8,10,11,46,47,48],[640],[⟨1004000,332,ty8,[.slot 8],false⟩],[]⟩)]
 keepX:=[(0,.ret,⟨[2,3],[],[],[]⟩),
  (0,.exit 0,⟨[1,4],[64],[],[]⟩),
  (2,.exit 2,⟨[8],[],[⟨1502300,332,ty8,[.slot 8],false⟩],[]⟩),
  (4,.exit 4,⟨[8,46,47,48],[],[⟨1504500,332,ty8,[.slot 8],false⟩],[]⟩)]
 ro:=[true,false]
theorem jdB:Con.OK Tryz.prog j66:=
 cOf j0n j04 jeC j66 Tryz.func292 (j9 jfi (j9 jkQ (j9 jkT (j9 j2W trivial)))) (j9 (fun h=>by kernel_rfl) (j9 (fun h=>by kernel_rfl) (j9 (fun h=>by kernel_rfl) trivial)))
def j4e:Con:=⟨201,[.v ty65],[ty65],⟨[.own 167 ty13,.v iT],[]⟩,[ty13,iT],fun h=>Pw.j1L h⟩
def jeD:FnD where
 N:=79
 np:=1
 cs:=[j9o,j66]
 ds:=[⟨0,[.s (.one (.ol 1000000)),sI,.s (.one (.ol 1000001)),sI,sI,.b (.lst 167 ty8 false),.b (.lst 332 ty8 false)],[iT,iT,iT,ty13,ty13],[⟨.ret,[.s (.one (.nil)),sI],[iT]⟩,⟨.exit 0,[.s (.one (.ol 1500100)),.b (.lst 167 ty8 false)],[ty13]⟩],Pw.unc5 (Pw.j2e)⟩]
 modes:=[(292,[false]),(293,[false,false,false])]
 keep:=[(0,⟨[6,7,22,23,24],[],[⟨1000000,167,ty8,[.slot 6],false⟩,⟨1000001,332,ty8,[.slot 22],false⟩],[]⟩)]
 keepX:=[(0,.ret,⟨[2,3],[],[],[]⟩),
  (0,.exit 0,⟨[6],[],[⟨1500100,167,ty8,[.slot 6],false⟩],[]⟩)]
 ro:=[true,false]
theorem j9q:Con.OK Tryz.prog j4e:=
 cOf j0n j04 jeD j4e Tryz.func201 (j9 jfi (j9 jdB trivial)) (j9 (fun h=>by kernel_rfl) trivial)
def jag:Con:=⟨223,[.v ty65],[ty65],⟨[.v iT],[]⟩,[iT],fun h=>Pw.j6J h⟩
def jkU:FnD where
 N:=11
 np:=1
 cs:=[j4e]
 ds:=[]
 modes:=[(201,[false])]
 ro:=[false]
theorem jjx:Con.OK Tryz.prog jag:=
 cOf j0n j04 jkU jag Tryz.func223 (j9 j9q trivial) trivial
def j4r:Con:=⟨225,[.v ty55],[ty55],⟨[.v .bool],[]⟩,[.bool],fun h=>Pw.j64 h⟩
def jbK:FnD where
 N:=7
 np:=1
 cs:=[]
 ds:=[]
 ro:=[false]
theorem jbm:Con.OK Tryz.prog j4r:=
 cOf j0n j04 jbK j4r Tryz.func225 trivial trivial
def j1c:Con:=⟨305,[.v ty58,.clo 225 []],[ty58],⟨[.v iT],[]⟩,[iT],fun h=>Pw.j0r h⟩
def j4w:FnD where
 N:=19
 np:=2
 cs:=[j4r]
 ds:=[⟨0,[.s (.one (.d ty58)),.s (.one (.clo 225 [])),sI,sI],[ty58,iT,iT],[⟨.ret,[sI],[iT]⟩,⟨.exit 0,[],[]⟩],Pw.unc3 (Pw.j0l)⟩]
 modes:=[(225,[false])]
 keep:=[(0,⟨[0,1,7,8],[],[],[]⟩)]
 keepX:=[(0,.ret,⟨[4],[],[],[]⟩),
  (0,.exit 0,⟨[],[],[],[]⟩)]
 ro:=[false]
theorem j4s:Con.OK Tryz.prog j1c:=
 cOf j0n j04 j4w j1c Tryz.func305 (j9 jbm trivial) (j9 (fun h=>by kernel_rfl) trivial)
def j0Z:Con:=⟨224,[.v ty58,.clo 225 []],[ty58],⟨[.v .bool],[]⟩,[.bool],fun h=>Pw.j0i h⟩
def j43:FnD where
 N:=9
 np:=2
 cs:=[j1c]
 ds:=[]
 modes:=[(305,[false,false])]
 ro:=[false]
theorem j3U:Con.OK Tryz.prog j0Z:=
 cOf j0n j04 j43 j0Z Tryz.func224 (j9 j4s trivial) trivial
def j5G:Con:=⟨151,[.v ty65],[ty65],⟨[.v iT],[]⟩,[iT],fun h=>Pw.j2f h⟩
def jdC:FnD where
 N:=17
 np:=1
 cs:=[jag,j0Z]
 ds:=[]
 modes:=[(223,[false]),(224,[false,false])]
 ro:=[false]
theorem jcU:Con.OK Tryz.prog j5G:=
 cOf j0n j04 jdC j5G Tryz.func151 (j9 jjx (j9 j3U trivial)) trivial
def j3D:Con:=⟨149,[.v ty66,.clo 150 [],.clo 151 []],[ty66],⟨[.v iT],[]⟩,[iT],fun h=>Pw.j1z h⟩
def jaM:FnD where
 N:=34
 np:=3
 cs:=[j65,j37,j5G]
 ds:=[⟨0,[.s (.one (.clo 150 [])),.s (.one (.clo 151 [])),.s (.one (.ol 1000000)),.s (.one (.d ty66)),sI,sI,.b (.lst 4294967512 (.pair .str .bool) false)],[ty66,iT,iT,(.list (.pair .str .bool))],[⟨.ret,[sI],[iT]⟩,⟨.exit 0,[],[]⟩],Pw.unc4 (Pw.j0A)⟩]
 modes:=[(150,[false]),(151,[false]),(152,[false,true])]
 keep:=[(0,⟨[1,2,7,13,14,15],[],[⟨1000000,4294967512,(.pair .str .bool),[.slot 7],false⟩],[]⟩)]
 keepX:=[(0,.ret,⟨[6],[],[],[]⟩),
  (0,.exit 0,⟨[],[],[],[]⟩)]
 ro:=[false]
theorem jah:Con.OK Tryz.prog j3D:=
 cOf j0n j04 jaM j3D Tryz.func149 (j9 jdA (j9 j5D (j9 jcU trivial))) (j9 (fun h=>by kernel_rfl) trivial)
def j2O:Con:=⟨227,[.v iT,.v iT],[iT,iT],⟨[.v .bool],[]⟩,[.bool],Pw.unc2 Pw.j1O⟩
def jhb:FnD where
 N:=12
 np:=2
 cs:=[]
 ds:=[]
 ro:=[false]
theorem j4T:Con.OK Tryz.prog j2O:=
 cOf j0n j04 jhb j2O Tryz.func227 trivial trivial
def j7U:Con:=⟨197,[.v ty13],[ty13],⟨[.v iT],[]⟩,[iT],fun h=>Pw.j6K h⟩
def jkV:FnD where
 N:=46
 np:=1
 cs:=[]
 ds:=[⟨0,[.s (.one (.d ty13)),.s (.one (.d ty13)),sI,sI],[ty13,ty13,iT,iT],[⟨.ret,[sI],[iT]⟩,⟨.exit 0,[],[]⟩],Pw.unc4 (Pw.j3L)⟩]
 keep:=[(0,⟨[0,8,9,10],[],[],[]⟩)]
 keepX:=[(0,.ret,⟨[2],[],[],[]⟩),
  (0,.exit 0,⟨[],[],[],[]⟩)]
 ro:=[false]
theorem jeE:Con.OK Tryz.prog j7U:=
 cOf j0n j04 jkV j7U Tryz.func197 trivial (j9 (fun h=>by kernel_rfl) trivial)
def j6p:Con:=⟨308,[.v iT,.v iT,.v iT],[iT,iT,iT],⟨[.v .bool],[]⟩,[.bool],Pw.unc3 Pw.j5U⟩
def jkW:FnD where
 N:=15
 np:=3
 cs:=[]
 ds:=[]
 ro:=[false]
theorem jbn:Con.OK Tryz.prog j6p:=
 cOf j0n j04 jkW j6p Tryz.func308 trivial trivial
def j7M:Con:=⟨228,[.v iT],[iT],⟨[.v .bool],[]⟩,[.bool],fun h=>Pw.j4D h⟩
def jhc:FnD where
 N:=10
 np:=1
 cs:=[j6p]
 ds:=[]
 modes:=[(308,[false,false,false])]
 ro:=[false]
theorem jfN:Con.OK Tryz.prog j7M:=
 cOf j0n j04 jhc j7M Tryz.func228 (j9 jbn trivial) trivial
def j4H:Con:=⟨153,[.v ty84,.v ty53],[ty84,ty53],⟨[.v iT],[]⟩,[iT],Pw.unc2 Pw.j1q⟩
def jcq:FnD where
 N:=29
 np:=2
 cs:=[j2O,j7U,j7M]
 ds:=[]
 modes:=[(197,[false]),(227,[false,false]),(228,[false])]
 ro:=[false]
theorem jbL:Con.OK Tryz.prog j4H:=
 cOf j0n j04 jcq j4H Tryz.func153 (j9 j4T (j9 jeE (j9 jfN trivial))) trivial
def j67:Con:=⟨155,[.v ty24],[ty24],⟨[.v .str],[]⟩,[.str],fun h=>Pw.j8x h⟩
def jeF:FnD where
 N:=5
 np:=1
 cs:=[]
 ds:=[]
 ro:=[false]
theorem jdD:Con.OK Tryz.prog j67:=
 cOf j0n j04 jeF j67 Tryz.func155 trivial trivial
def jai:Con:=⟨348,[.v iT],[iT],⟨[.v iT],[]⟩,[iT],fun h=>Pw.jaH h⟩
def jkX:FnD where
 N:=15
 np:=1
 cs:=[j73,j5E]
 ds:=[⟨0,[sI,sI],[iT,iT],[⟨.exit 0,[sI],[iT]⟩],Pw.unc2 (Pw.ja3)⟩]
 modes:=[(347,[false]),(395,[false,false])]
 keep:=[(0,⟨[0,3],[],[],[]⟩)]
 keepX:=[(0,.exit 0,⟨[3],[],[],[]⟩)]
 ro:=[false]
theorem jjy:Con.OK Tryz.prog jai:=
 cOf j0n j04 jkX jai Tryz.func348 (j9 jdc (j9 jaf trivial)) (j9 (fun h=>by kernel_rfl) trivial)
def j8A:Con:=⟨310,[.v iT],[iT],⟨[.v ty21,.v iT],[]⟩,[ty21,iT],fun h=>Pw.j5o h⟩
def jhU:FnD where
 N:=45
 np:=1
 cs:=[j50,j5E,jai]
 ds:=[⟨0,[.s (.one (.bp 128 0)),.s (.one (.bp 256 0)),sI,.b (.cell [.d iT,.d iT,.d iT] false),.b (.cell [.d iT,.d iT,.d iT] false)],[iT,iT,iT,iT,iT,iT,iT],[⟨.exit 0,[.s (.one (.bp 128 0)),.s (.one (.bp 256 0)),sI,.b (.cell [.d iT,.d iT,.d iT] false),.b (.cell [.d iT,.d iT,.d iT] false)],[iT,iT,iT,iT,iT,iT,iT]⟩],Pw.unc7 (Pw.j8Q)⟩]
 modes:=[(347,[false]),(348,[false]),(349,[false,false])]
 keep:=[(0,⟨[2,4,5],[128,256],[],[]⟩)]
 keepX:=[(0,.exit 0,⟨[2,4,5],[128,256],[],[]⟩)]
 ro:=[false,false]
theorem jhd:Con.OK Tryz.prog j8A:=
 cOf j0n j04 jhU j8A Tryz.func310 (j9 j8X (j9 jaf (j9 jjy trivial))) (j9 (fun h=>by kernel_rfl) trivial)
def j5H:Con:=⟨231,[.v iT],[iT],⟨[.v .bool],[]⟩,[.bool],fun h=>Pw.j1e h⟩
def jjz:FnD where
 N:=12
 np:=1
 cs:=[j8A]
 ds:=[]
 modes:=[(310,[false])]
 ro:=[false]
theorem jaj:Con.OK Tryz.prog j5H:=
 cOf j0n j04 jjz j5H Tryz.func231 (j9 jhd trivial) trivial
def j3h:Con:=⟨230,[.v iT],[iT],⟨[.v .bool],[]⟩,[.bool],fun h=>Pw.j1C h⟩
def j9P:FnD where
 N:=6
 np:=1
 cs:=[j5H]
 ds:=[]
 modes:=[(231,[false])]
 ro:=[false]
theorem j9r:Con.OK Tryz.prog j3h:=
 cOf j0n j04 j9P j3h Tryz.func230 (j9 jaj trivial) trivial
def j3i:Con:=⟨309,[.v (.list iT),.clo 230 []],[(.list iT)],⟨[.v iT],[]⟩,[iT],fun h=>Pw.j1D h⟩
def j9Q:FnD where
 N:=19
 np:=2
 cs:=[j3h]
 ds:=[⟨0,[.s (.one (.d (.list iT))),.s (.one (.clo 230 [])),sI,sI],[(.list iT),iT,iT],[⟨.ret,[sI],[iT]⟩,⟨.exit 0,[],[]⟩],Pw.unc3 (Pw.j0t)⟩]
 modes:=[(230,[false])]
 keep:=[(0,⟨[0,1,7,8],[],[],[]⟩)]
 keepX:=[(0,.ret,⟨[4],[],[],[]⟩),
  (0,.exit 0,⟨[],[],[],[]⟩)]
 ro:=[false]
theorem j9s:Con.OK Tryz.prog j3i:=
 cOf j0n j04 j9Q j3i Tryz.func309 (j9 j9r trivial) (j9 (fun h=>by kernel_rfl) trivial)
end Go.Proofs.Pk
