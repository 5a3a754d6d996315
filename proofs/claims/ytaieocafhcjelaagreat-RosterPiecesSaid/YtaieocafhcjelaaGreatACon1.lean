/- Contracts: each given function is its plain function, printed by a program. -/
import Derived.Test.YtaieocafhcjelaaGreatACon0
noncomputable section
open Go Go.Lft
set_option linter.unusedVariables false
set_option maxRecDepth 100000
namespace Go.Proofs.Pk
def j2b:Con:=⟨385,[.rl 338 ty13,.v iT,.clo 343 []],[ty13,iT],⟨[],[.rl ty13]⟩,[ty13],Pw.unc2 Pw.j0P⟩
def j7N:FnD where
 N:=63
 np:=3
 cs:=[j1w]
 ds:=[⟨0,[.s (.one (.ol 0)),sI,.s (.one (.clo 343 [])),sI,sI,sI,.b (.lst 338 ty8 false)],[iT,iT,iT,iT,ty13],[⟨.exit 0,[.s (.one (.ol 0)),sI,.s (.one (.clo 343 [])),sI,sI,.b (.lst 338 ty8 false)],[iT,iT,iT,ty13]⟩],Pw.unc5 (Pw.j0g)⟩,
  ⟨2,[.s (.one (.ol 0)),sI,.s (.one (.clo 343 [])),sI,.b (.lst 338 ty8 false)],[iT,iT,ty13],[⟨.exit 2,[.b (.lst 338 ty8 false)],[ty13]⟩],Pw.unc3 (Pw.j0h)⟩,
  ⟨4,[.s (.one (.ol 0)),sI,.s (.one (.clo 343 [])),sI,sI,sI,.b (.lst 338 ty8 false)],[iT,iT,iT,iT,ty13],[⟨.exit 4,[.s (.one (.ol 0)),sI,.s (.one (.clo 343 [])),sI,sI,.b (.lst 338 ty8 false)],[iT,iT,iT,ty13]⟩],Pw.unc5 (Pw.j36)⟩]
 modes:=[(398,[true,false,false,false])]
 keep:=[(0,⟨[0,1,2,6,7,8],[0],[],[]⟩),
  (2,⟨[0,1,2,6],[0],[],[]⟩),
  (4,⟨[0,1,2,6,7,8],[0],[],[]⟩)]
 keepX:=[(0,.exit 0,⟨[0,1,2,6,7],[0],[],[]⟩),
  (2,.exit 2,⟨[],[0],[],[]⟩),
  (4,.exit 4,⟨[0,1,2,6,7],[0],[],[]⟩)]
theorem j7x:Con.OK Tryz.prog j2b:=
 cOf j0c j03 j7N j2b Tryz.func385 (j9 j5K trivial) (j9 (fun h=>by kernel_rfl) (j9 (fun h=>by kernel_rfl) (j9 (fun h=>by kernel_rfl) trivial)))
def j0V:Con:=⟨342,[.rl 338 ty13,.clo 343 []],[ty13],⟨[],[.rl ty13]⟩,[ty13],fun h=>Pw.j0b h⟩
def j4f:FnD where
 N:=9
 np:=2
 cs:=[j2b]
 ds:=[]
 modes:=[(385,[true,false,false])]
theorem j41:Con.OK Tryz.prog j0V:=
 cOf j0c j03 j4f j0V Tryz.func342 (j9 j7x trivial) trivial
def j81:Con:=⟨299,[.v ty65],[ty65],⟨[.own 338 ty13,.v iT],[]⟩,[ty13,iT],fun h=>Pw.j4a h⟩
def jjG:FnD where
 N:=86
 np:=1
 cs:=[jcG,jfc,jfd,j0V]
 ds:=[⟨0,[.s (.one (.bp 64 0)),sI,.s (.one (.d ty58)),sI,sI,.b (.cell [.d .str,.d iT,.d ty58] false)],[iT,ty58,iT,iT,.str,iT,ty58],[⟨.ret,[.s (.one (.nil)),sI],[iT]⟩,⟨.exit 0,[.s (.one (.bp 64 0)),sI,.b (.cell [.d .str,.d iT,.d ty58] false)],[iT,.str,iT,ty58]⟩],Pw.unc7 (Pw.j2U)⟩,
  ⟨2,[.s (.one (.ol 1002000)),.s (.one (.d ty58)),sI,sI,.b (.lst 338 ty8 false)],[ty58,iT,iT,ty13],[⟨.exit 2,[.s (.one (.ol 1502300)),.b (.lst 338 ty8 false)],[ty13]⟩],Pw.unc4 (Pw.j16)⟩,
  ⟨4,[.s (.one (.ol 1004000)),.s (.one (.bp 640 0)),sI,.s (.one (.d ty58)),sI,sI,.b (.cell [.d iT,.d iT,.d iT,.d iT,.d iT,.d iT,.d iT] false),.b (.lst 338 ty8 false)],[iT,ty58,iT,iT,iT,iT,iT,iT,iT,iT,iT,ty13],[⟨.exit 4,[.s (.one (.ol 1504500)),.s (.one (.d ty58)),sI,sI,.b (.lst 338 ty8 false)],[ty58,iT,iT,ty13]⟩],Pw.jz4 (Pw.j15)⟩]
 modes:=[(300,[false,false,false]),(340,[false]),(341,[false,false,false,false]),(342,[true,false])]
 keep:=[(0,⟨[1,4,23,24,25],[64],[],[]⟩),
  (2,⟨[8,46,47,48],[],[⟨1002000,338,ty8,[.slot 8],false⟩],[]⟩),
  (4,⟨[8,10,11,46,47,48],[640],[⟨1004000,338,ty8,[.slot 8],false⟩],[]⟩)]
 keepX:=[(0,.ret,⟨[2,3],[],[],[]⟩),
  (0,.exit 0,⟨[1,4],[64],[],[]⟩),
  (2,.exit 2,⟨[8],[],[⟨1502300,338,ty8,[.slot 8],false⟩],[]⟩),
  (4,.exit 4,⟨[8,46,47,48],[],[⟨1504500,338,ty8,[.slot 8],false⟩],[]⟩)]
 ro:=[true,false]
theorem jit:Con.OK Tryz.prog j81:=
 cOf j0c j03 jjG j81 Tryz.func299 (j9 jkF (j9 jrw (j9 jrz (j9 j41 trivial)))) (j9 (fun h=>by kernel_rfl) (j9 (fun h=>by kernel_rfl) (j9 (fun h=>by kernel_rfl) trivial)))
def j5O:Con:=⟨208,[.v ty65],[ty65],⟨[.own 186 ty13,.v iT],[]⟩,[ty13,iT],fun h=>Pw.j2q h⟩
def jjH:FnD where
 N:=79
 np:=1
 cs:=[jcG,j81]
 ds:=[⟨0,[.s (.one (.ol 1000000)),sI,.s (.one (.ol 1000001)),sI,sI,.b (.lst 186 ty8 false),.b (.lst 338 ty8 false)],[iT,iT,iT,ty13,ty13],[⟨.ret,[.s (.one (.nil)),sI],[iT]⟩,⟨.exit 0,[.s (.one (.ol 1500100)),.b (.lst 186 ty8 false)],[ty13]⟩],Pw.unc5 (Pw.j2V)⟩]
 modes:=[(299,[false]),(300,[false,false,false])]
 keep:=[(0,⟨[6,7,22,23,24],[],[⟨1000000,186,ty8,[.slot 6],false⟩,⟨1000001,338,ty8,[.slot 22],false⟩],[]⟩)]
 keepX:=[(0,.ret,⟨[2,3],[],[],[]⟩),
  (0,.exit 0,⟨[6],[],[⟨1500100,186,ty8,[.slot 6],false⟩],[]⟩)]
 ro:=[true,false]
theorem jcI:Con.OK Tryz.prog j5O:=
 cOf j0c j03 jjH j5O Tryz.func208 (j9 jkF (j9 jit trivial)) (j9 (fun h=>by kernel_rfl) trivial)
def jdT:Con:=⟨246,[.v ty65],[ty65],⟨[.v iT],[]⟩,[iT],fun h=>Pw.j8U h⟩
def jrA:FnD where
 N:=11
 np:=1
 cs:=[j5O]
 ds:=[]
 modes:=[(208,[false])]
 ro:=[false]
theorem jpS:Con.OK Tryz.prog jdT:=
 cOf j0c j03 jrA jdT Tryz.func246 (j9 jcI trivial) trivial
def j66:Con:=⟨248,[.v ty55],[ty55],⟨[.v .bool],[]⟩,[.bool],fun h=>Pw.j7Y h⟩
def jg6:FnD where
 N:=7
 np:=1
 cs:=[]
 ds:=[]
 ro:=[false]
theorem jfe:Con.OK Tryz.prog j66:=
 cOf j0c j03 jg6 j66 Tryz.func248 trivial trivial
def j1z:Con:=⟨319,[.v ty58,.clo 248 []],[ty58],⟨[.v iT],[]⟩,[iT],fun h=>Pw.j0v h⟩
def j69:FnD where
 N:=19
 np:=2
 cs:=[j66]
 ds:=[⟨0,[.s (.one (.d ty58)),.s (.one (.clo 248 [])),sI,sI],[ty58,iT,iT],[⟨.ret,[sI],[iT]⟩,⟨.exit 0,[],[]⟩],Pw.unc3 (Pw.j0r)⟩]
 modes:=[(248,[false])]
 keep:=[(0,⟨[0,1,7,8],[],[],[]⟩)]
 keepX:=[(0,.ret,⟨[4],[],[],[]⟩),
  (0,.exit 0,⟨[],[],[],[]⟩)]
 ro:=[false]
theorem j67:Con.OK Tryz.prog j1z:=
 cOf j0c j03 j69 j1z Tryz.func319 (j9 jfe trivial) (j9 (fun h=>by kernel_rfl) trivial)
def j1i:Con:=⟨247,[.v ty58,.clo 248 []],[ty58],⟨[.v .bool],[]⟩,[.bool],fun h=>Pw.j0n h⟩
def j5B:FnD where
 N:=9
 np:=2
 cs:=[j1z]
 ds:=[]
 modes:=[(319,[false,false])]
 ro:=[false]
theorem j5s:Con.OK Tryz.prog j1i:=
 cOf j0c j03 j5B j1i Tryz.func247 (j9 j67 trivial) trivial
def j7y:Con:=⟨167,[.v ty65],[ty65],⟨[.v iT],[]⟩,[iT],fun h=>Pw.j2W h⟩
def jiu:FnD where
 N:=17
 np:=1
 cs:=[jdT,j1i]
 ds:=[]
 modes:=[(246,[false]),(247,[false,false])]
 ro:=[false]
theorem jhF:Con.OK Tryz.prog j7y:=
 cOf j0c j03 jiu j7y Tryz.func167 (j9 jpS (j9 j5s trivial)) trivial
def j4X:Con:=⟨165,[.v ty66,.clo 166 [],.clo 167 []],[ty66],⟨[.v iT],[]⟩,[iT],fun h=>Pw.j27 h⟩
def jez:FnD where
 N:=34
 np:=3
 cs:=[j80,j4e,j7y]
 ds:=[⟨0,[.s (.one (.clo 166 [])),.s (.one (.clo 167 [])),.s (.one (.ol 1000000)),.s (.one (.d ty66)),sI,sI,.b (.lst 4294967523 (.pair .str .bool) false)],[ty66,iT,iT,(.list (.pair .str .bool))],[⟨.ret,[sI],[iT]⟩,⟨.exit 0,[],[]⟩],Pw.unc4 (Pw.j0G)⟩]
 modes:=[(166,[false]),(167,[false]),(168,[false,true])]
 keep:=[(0,⟨[1,2,7,13,14,15],[],[⟨1000000,4294967523,(.pair .str .bool),[.slot 7],false⟩],[]⟩)]
 keepX:=[(0,.ret,⟨[6],[],[],[]⟩),
  (0,.exit 0,⟨[],[],[],[]⟩)]
 ro:=[false]
theorem jdU:Con.OK Tryz.prog j4X:=
 cOf j0c j03 jez j4X Tryz.func165 (j9 jis (j9 j7v (j9 jhF trivial))) (j9 (fun h=>by kernel_rfl) trivial)
def j3z:Con:=⟨250,[.v iT,.v iT],[iT,iT],⟨[.v .bool],[]⟩,[.bool],Pw.unc2 Pw.j2r⟩
def jn5:FnD where
 N:=12
 np:=2
 cs:=[]
 ds:=[]
 ro:=[false]
theorem j6L:Con.OK Tryz.prog j3z:=
 cOf j0c j03 jn5 j3z Tryz.func250 trivial trivial
def jaA:Con:=⟨204,[.v ty13],[ty13],⟨[.v iT],[]⟩,[iT],fun h=>Pw.j8V h⟩
def jrB:FnD where
 N:=46
 np:=1
 cs:=[]
 ds:=[⟨0,[.s (.one (.d ty13)),.s (.one (.d ty13)),sI,sI],[ty13,ty13,iT,iT],[⟨.ret,[sI],[iT]⟩,⟨.exit 0,[],[]⟩],Pw.unc4 (Pw.j57)⟩]
 keep:=[(0,⟨[0,8,9,10],[],[],[]⟩)]
 keepX:=[(0,.ret,⟨[2],[],[],[]⟩),
  (0,.exit 0,⟨[],[],[],[]⟩)]
 ro:=[false]
theorem jjI:Con.OK Tryz.prog jaA:=
 cOf j0c j03 jrB jaA Tryz.func204 trivial (j9 (fun h=>by kernel_rfl) trivial)
def j8u:Con:=⟨322,[.v iT,.v iT,.v iT],[iT,iT,iT],⟨[.v .bool],[]⟩,[.bool],Pw.unc3 Pw.j7J⟩
def jrC:FnD where
 N:=15
 np:=3
 cs:=[]
 ds:=[]
 ro:=[false]
theorem jff:Con.OK Tryz.prog j8u:=
 cOf j0c j03 jrC j8u Tryz.func322 trivial trivial
def jaj:Con:=⟨251,[.v iT],[iT],⟨[.v .bool],[]⟩,[.bool],fun h=>Pw.j58 h⟩
def jn6:FnD where
 N:=10
 np:=1
 cs:=[j8u]
 ds:=[]
 modes:=[(322,[false,false,false])]
 ro:=[false]
theorem jly:Con.OK Tryz.prog jaj:=
 cOf j0c j03 jn6 jaj Tryz.func251 (j9 jff trivial) trivial
def j6p:Con:=⟨169,[.v ty84,.v ty53],[ty84,ty53],⟨[.v iT],[]⟩,[iT],Pw.unc2 Pw.j1T⟩
def jgO:FnD where
 N:=29
 np:=2
 cs:=[j3z,jaA,jaj]
 ds:=[]
 modes:=[(204,[false]),(250,[false,false]),(251,[false])]
 ro:=[false]
theorem jg7:Con.OK Tryz.prog j6p:=
 cOf j0c j03 jgO j6p Tryz.func169 (j9 j6L (j9 jjI (j9 jly trivial))) trivial
def j82:Con:=⟨171,[.v ty24],[ty24],⟨[.v .str],[]⟩,[.str],fun h=>Pw.jbi h⟩
def jjJ:FnD where
 N:=5
 np:=1
 cs:=[]
 ds:=[]
 ro:=[false]
theorem jiv:Con.OK Tryz.prog j82:=
 cOf j0c j03 jjJ j82 Tryz.func171 trivial trivial
def jdV:Con:=⟨367,[.v iT],[iT],⟨[.v iT],[]⟩,[iT],fun h=>Pw.jeq h⟩
def jrD:FnD where
 N:=15
 np:=1
 cs:=[j9n,j7w]
 ds:=[⟨0,[sI,sI],[iT,iT],[⟨.exit 0,[sI],[iT]⟩],Pw.unc2 (Pw.jdt)⟩]
 modes:=[(366,[false]),(393,[false,false])]
 keep:=[(0,⟨[0,3],[],[],[]⟩)]
 keepX:=[(0,.exit 0,⟨[3],[],[],[]⟩)]
 ro:=[false]
theorem jpT:Con.OK Tryz.prog jdV:=
 cOf j0c j03 jrD jdV Tryz.func367 (j9 ji1 (j9 jdS trivial)) (j9 (fun h=>by kernel_rfl) trivial)
def jbn:Con:=⟨323,[.v iT],[iT],⟨[.v ty21,.v iT],[]⟩,[ty21,iT],fun h=>Pw.j59 h⟩
def jnZ:FnD where
 N:=45
 np:=1
 cs:=[j6T,j7w,jdV]
 ds:=[⟨0,[.s (.one (.bp 128 0)),.s (.one (.bp 256 0)),sI,.b (.cell [.d iT,.d iT,.d iT] false),.b (.cell [.d iT,.d iT,.d iT] false)],[iT,iT,iT,iT,iT,iT,iT],[⟨.exit 0,[.s (.one (.bp 128 0)),.s (.one (.bp 256 0)),sI,.b (.cell [.d iT,.d iT,.d iT] false),.b (.cell [.d iT,.d iT,.d iT] false)],[iT,iT,iT,iT,iT,iT,iT]⟩],Pw.unc7 (Pw.jbJ)⟩]
 modes:=[(366,[false]),(367,[false]),(368,[false,false])]
 keep:=[(0,⟨[2,4,5],[128,256],[],[]⟩)]
 keepX:=[(0,.exit 0,⟨[2,4,5],[128,256],[],[]⟩)]
 ro:=[false,false]
theorem jn7:Con.OK Tryz.prog jbn:=
 cOf j0c j03 jnZ jbn Tryz.func323 (j9 jbT (j9 jdS (j9 jpT trivial))) (j9 (fun h=>by kernel_rfl) trivial)
def j7z:Con:=⟨254,[.v iT],[iT],⟨[.v .bool],[]⟩,[.bool],fun h=>Pw.j0W h⟩
def jpU:FnD where
 N:=12
 np:=1
 cs:=[jbn]
 ds:=[]
 modes:=[(323,[false])]
 ro:=[false]
theorem jdW:Con.OK Tryz.prog j7z:=
 cOf j0c j03 jpU j7z Tryz.func254 (j9 jn7 trivial) trivial
def j4s:Con:=⟨253,[.v iT],[iT],⟨[.v .bool],[]⟩,[.bool],fun h=>Pw.j2d h⟩
def jdd:FnD where
 N:=6
 np:=1
 cs:=[j7z]
 ds:=[]
 modes:=[(254,[false])]
 ro:=[false]
theorem jcJ:Con.OK Tryz.prog j4s:=
 cOf j0c j03 jdd j4s Tryz.func253 (j9 jdW trivial) trivial
end Go.Proofs.Pk
