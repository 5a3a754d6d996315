/- Contracts: each given function is its plain function, printed by a program. -/
import Derived.Test.YtaieocafhcjelaaGreatBCon0
noncomputable section
open Go Go.Lft
set_option linter.unusedVariables false
set_option maxRecDepth 100000
namespace Go.Proofs.Pk
def j27:Con:=⟨385,[.rl 338 ty13,.v iT,.clo 343 []],[ty13,iT],⟨[],[.rl ty13]⟩,[ty13],Pw.unc2 Pw.j0N⟩
def j6N:FnD where
 N:=63
 np:=3
 cs:=[j1u]
 ds:=[⟨0,[.s (.one (.ol 0)),sI,.s (.one (.clo 343 [])),sI,sI,sI,.b (.lst 338 ty8 false)],[iT,iT,iT,iT,ty13],[⟨.exit 0,[.s (.one (.ol 0)),sI,.s (.one (.clo 343 [])),sI,sI,.b (.lst 338 ty8 false)],[iT,iT,iT,ty13]⟩],Pw.unc5 (Pw.j0f)⟩,
  ⟨2,[.s (.one (.ol 0)),sI,.s (.one (.clo 343 [])),sI,.b (.lst 338 ty8 false)],[iT,iT,ty13],[⟨.exit 2,[.b (.lst 338 ty8 false)],[ty13]⟩],Pw.unc3 (Pw.j0g)⟩,
  ⟨4,[.s (.one (.ol 0)),sI,.s (.one (.clo 343 [])),sI,sI,sI,.b (.lst 338 ty8 false)],[iT,iT,iT,iT,ty13],[⟨.exit 4,[.s (.one (.ol 0)),sI,.s (.one (.clo 343 [])),sI,sI,.b (.lst 338 ty8 false)],[iT,iT,iT,ty13]⟩],Pw.unc5 (Pw.j2Z)⟩]
 modes:=[(398,[true,false,false,false])]
 keep:=[(0,⟨[0,1,2,6,7,8],[0],[],[]⟩),
  (2,⟨[0,1,2,6],[0],[],[]⟩),
  (4,⟨[0,1,2,6,7,8],[0],[],[]⟩)]
 keepX:=[(0,.exit 0,⟨[0,1,2,6,7],[0],[],[]⟩),
  (2,.exit 2,⟨[],[0],[],[]⟩),
  (4,.exit 4,⟨[0,1,2,6,7],[0],[],[]⟩)]
theorem j6z:Con.OK Tryz.prog j27:=
 cOf j0n j04 j6N j27 Tryz.func385 (j9 j59 trivial) (j9 (fun h=>by kernel_rfl) (j9 (fun h=>by kernel_rfl) (j9 (fun h=>by kernel_rfl) trivial)))
def j0U:Con:=⟨342,[.rl 338 ty13,.clo 343 []],[ty13],⟨[],[.rl ty13]⟩,[ty13],fun h=>Pw.j0a h⟩
def j3T:FnD where
 N:=9
 np:=2
 cs:=[j27]
 ds:=[]
 modes:=[(385,[true,false,false])]
theorem j3I:Con.OK Tryz.prog j0U:=
 cOf j0n j04 j3T j0U Tryz.func342 (j9 j6z trivial) trivial
def j71:Con:=⟨299,[.v ty65],[ty65],⟨[.own 338 ty13,.v iT],[]⟩,[ty13,iT],fun h=>Pw.j3P h⟩
def jgk:FnD where
 N:=86
 np:=1
 cs:=[jaQ,jd1,jd2,j0U]
 ds:=[⟨0,[.s (.one (.bp 64 0)),sI,.s (.one (.d ty58)),sI,sI,.b (.cell [.d .str,.d iT,.d ty58] false)],[iT,ty58,iT,iT,.str,iT,ty58],[⟨.ret,[.s (.one (.nil)),sI],[iT]⟩,⟨.exit 0,[.s (.one (.bp 64 0)),sI,.b (.cell [.d .str,.d iT,.d ty58] false)],[iT,.str,iT,ty58]⟩],Pw.unc7 (Pw.j2P)⟩,
  ⟨2,[.s (.one (.ol 1002000)),.s (.one (.d ty58)),sI,sI,.b (.lst 338 ty8 false)],[ty58,iT,iT,ty13],[⟨.exit 2,[.s (.one (.ol 1502300)),.b (.lst 338 ty8 false)],[ty13]⟩],Pw.unc4 (Pw.j14)⟩,
  ⟨4,[.s (.one (.ol 1004000)),.s (.one (.bp 640 0)),sI,.s (.one (.d ty58)),sI,sI,.b (.cell [.d iT,.d iT,.d iT,.d iT,.d iT,.d iT,.d iT] false),.b (.lst 338 ty8 false)],[iT,ty58,iT,iT,iT,iT,iT,iT,iT,iT,iT,ty13],[⟨.exit 4,[.s (.one (.ol 1504500)),.s (.one (.d ty58)),sI,sI,.b (.lst 338 ty8 false)],[ty58,iT,iT,ty13]⟩],Pw.jtF (Pw.j13)⟩]
 modes:=[(300,[false,false,false]),(340,[false]),(341,[false,false,false,false]),(342,[true,false])]
 keep:=[(0,⟨[1,4,23,24,25],[64],[],[]⟩),
  (2,⟨[8,46,47,48],[],[⟨1002000,338,ty8,[.slot 8],false⟩],[]⟩),
  (4,⟨[8,10,11,46,47,48],[640],[⟨1004000,338,ty8,[.slot 8],false⟩],[]⟩)]
 keepX:=[(0,.ret,⟨[2,3],[],[],[]⟩),
  (0,.exit 0,⟨[1,4],[64],[],[]⟩),
  (2,.exit 2,⟨[8],[],[⟨1502300,338,ty8,[.slot 8],false⟩],[]⟩),
  (4,.exit 4,⟨[8,46,47,48],[],[⟨1504500,338,ty8,[.slot 8],false⟩],[]⟩)]
 ro:=[true,false]
theorem jfq:Con.OK Tryz.prog j71:=
 cOf j0n j04 jgk j71 Tryz.func299 (j9 jhg (j9 jnp (j9 jns (j9 j3I trivial)))) (j9 (fun h=>by kernel_rfl) (j9 (fun h=>by kernel_rfl) (j9 (fun h=>by kernel_rfl) trivial)))
def j5d:Con:=⟨208,[.v ty65],[ty65],⟨[.own 186 ty13,.v iT],[]⟩,[ty13,iT],fun h=>Pw.j2m h⟩
def jgl:FnD where
 N:=79
 np:=1
 cs:=[jaQ,j71]
 ds:=[⟨0,[.s (.one (.ol 1000000)),sI,.s (.one (.ol 1000001)),sI,sI,.b (.lst 186 ty8 false),.b (.lst 338 ty8 false)],[iT,iT,iT,ty13,ty13],[⟨.ret,[.s (.one (.nil)),sI],[iT]⟩,⟨.exit 0,[.s (.one (.ol 1500100)),.b (.lst 186 ty8 false)],[ty13]⟩],Pw.unc5 (Pw.j2Q)⟩]
 modes:=[(299,[false]),(300,[false,false,false])]
 keep:=[(0,⟨[6,7,22,23,24],[],[⟨1000000,186,ty8,[.slot 6],false⟩,⟨1000001,338,ty8,[.slot 22],false⟩],[]⟩)]
 keepX:=[(0,.ret,⟨[2,3],[],[],[]⟩),
  (0,.exit 0,⟨[6],[],[⟨1500100,186,ty8,[.slot 6],false⟩],[]⟩)]
 ro:=[true,false]
theorem jaS:Con.OK Tryz.prog j5d:=
 cOf j0n j04 jgl j5d Tryz.func208 (j9 jhg (j9 jfq trivial)) (j9 (fun h=>by kernel_rfl) trivial)
def jbX:Con:=⟨246,[.v ty65],[ty65],⟨[.v iT],[]⟩,[iT],fun h=>Pw.j7T h⟩
def jnt:FnD where
 N:=11
 np:=1
 cs:=[j5d]
 ds:=[]
 modes:=[(208,[false])]
 ro:=[false]
theorem jlW:Con.OK Tryz.prog jbX:=
 cOf j0n j04 jnt jbX Tryz.func246 (j9 jaS trivial) trivial
def j5t:Con:=⟨248,[.v ty55],[ty55],⟨[.v .bool],[]⟩,[.bool],fun h=>Pw.j6Y h⟩
def jdA:FnD where
 N:=7
 np:=1
 cs:=[]
 ds:=[]
 ro:=[false]
theorem jd3:Con.OK Tryz.prog j5t:=
 cOf j0n j04 jdA j5t Tryz.func248 trivial trivial
def j1w:Con:=⟨319,[.v ty58,.clo 248 []],[ty58],⟨[.v iT],[]⟩,[iT],fun h=>Pw.j0t h⟩
def j5w:FnD where
 N:=19
 np:=2
 cs:=[j5t]
 ds:=[⟨0,[.s (.one (.d ty58)),.s (.one (.clo 248 [])),sI,sI],[ty58,iT,iT],[⟨.ret,[sI],[iT]⟩,⟨.exit 0,[],[]⟩],Pw.unc3 (Pw.j0q)⟩]
 modes:=[(248,[false])]
 keep:=[(0,⟨[0,1,7,8],[],[],[]⟩)]
 keepX:=[(0,.ret,⟨[4],[],[],[]⟩),
  (0,.exit 0,⟨[],[],[],[]⟩)]
 ro:=[false]
theorem j5u:Con.OK Tryz.prog j1w:=
 cOf j0n j04 j5w j1w Tryz.func319 (j9 jd3 trivial) (j9 (fun h=>by kernel_rfl) trivial)
def j1h:Con:=⟨247,[.v ty58,.clo 248 []],[ty58],⟨[.v .bool],[]⟩,[.bool],fun h=>Pw.j0m h⟩
def j50:FnD where
 N:=9
 np:=2
 cs:=[j1w]
 ds:=[]
 modes:=[(319,[false,false])]
 ro:=[false]
theorem j4P:Con.OK Tryz.prog j1h:=
 cOf j0n j04 j50 j1h Tryz.func247 (j9 j5u trivial) trivial
def j6A:Con:=⟨167,[.v ty65],[ty65],⟨[.v iT],[]⟩,[iT],fun h=>Pw.j2R h⟩
def jfr:FnD where
 N:=17
 np:=1
 cs:=[jbX,j1h]
 ds:=[]
 modes:=[(246,[false]),(247,[false,false])]
 ro:=[false]
theorem jeH:Con.OK Tryz.prog j6A:=
 cOf j0n j04 jfr j6A Tryz.func167 (j9 jlW (j9 j4P trivial)) trivial
def j4w:Con:=⟨165,[.v ty66,.clo 166 [],.clo 167 []],[ty66],⟨[.v iT],[]⟩,[iT],fun h=>Pw.j23 h⟩
def jcu:FnD where
 N:=34
 np:=3
 cs:=[j70,j3S,j6A]
 ds:=[⟨0,[.s (.one (.clo 166 [])),.s (.one (.clo 167 [])),.s (.one (.ol 1000000)),.s (.one (.d ty66)),sI,sI,.b (.lst 4294967523 (.pair .str .bool) false)],[ty66,iT,iT,(.list (.pair .str .bool))],[⟨.ret,[sI],[iT]⟩,⟨.exit 0,[],[]⟩],Pw.unc4 (Pw.j0E)⟩]
 modes:=[(166,[false]),(167,[false]),(168,[false,true])]
 keep:=[(0,⟨[1,2,7,13,14,15],[],[⟨1000000,4294967523,(.pair .str .bool),[.slot 7],false⟩],[]⟩)]
 keepX:=[(0,.ret,⟨[6],[],[],[]⟩),
  (0,.exit 0,⟨[],[],[],[]⟩)]
 ro:=[false]
theorem jbY:Con.OK Tryz.prog j4w:=
 cOf j0n j04 jcu j4w Tryz.func165 (j9 jfp (j9 j6x (j9 jeH trivial))) (j9 (fun h=>by kernel_rfl) trivial)
def j3p:Con:=⟨250,[.v iT,.v iT],[iT,iT],⟨[.v .bool],[]⟩,[.bool],Pw.unc2 Pw.j2n⟩
def jjo:FnD where
 N:=12
 np:=2
 cs:=[]
 ds:=[]
 ro:=[false]
theorem j5W:Con.OK Tryz.prog j3p:=
 cOf j0n j04 jjo j3p Tryz.func250 trivial trivial
def j9g:Con:=⟨204,[.v ty13],[ty13],⟨[.v iT],[]⟩,[iT],fun h=>Pw.j7U h⟩
def jnu:FnD where
 N:=46
 np:=1
 cs:=[]
 ds:=[⟨0,[.s (.one (.d ty13)),.s (.one (.d ty13)),sI,sI],[ty13,ty13,iT,iT],[⟨.ret,[sI],[iT]⟩,⟨.exit 0,[],[]⟩],Pw.unc4 (Pw.j4F)⟩]
 keep:=[(0,⟨[0,8,9,10],[],[],[]⟩)]
 keepX:=[(0,.ret,⟨[2],[],[],[]⟩),
  (0,.exit 0,⟨[],[],[],[]⟩)]
 ro:=[false]
theorem jgm:Con.OK Tryz.prog j9g:=
 cOf j0n j04 jnu j9g Tryz.func204 trivial (j9 (fun h=>by kernel_rfl) trivial)
def j7u:Con:=⟨322,[.v iT,.v iT,.v iT],[iT,iT,iT],⟨[.v .bool],[]⟩,[.bool],Pw.unc3 Pw.j6K⟩
def jnv:FnD where
 N:=15
 np:=3
 cs:=[]
 ds:=[]
 ro:=[false]
theorem jd4:Con.OK Tryz.prog j7u:=
 cOf j0n j04 jnv j7u Tryz.func322 trivial trivial
def j93:Con:=⟨251,[.v iT],[iT],⟨[.v .bool],[]⟩,[.bool],fun h=>Pw.j5D h⟩
def jjp:FnD where
 N:=10
 np:=1
 cs:=[j7u]
 ds:=[]
 modes:=[(322,[false,false,false])]
 ro:=[false]
theorem jhW:Con.OK Tryz.prog j93:=
 cOf j0n j04 jjp j93 Tryz.func251 (j9 jd4 trivial) trivial
def j5L:Con:=⟨169,[.v ty84,.v ty53],[ty84,ty53],⟨[.v iT],[]⟩,[iT],Pw.unc2 Pw.j1Q⟩
def je7:FnD where
 N:=29
 np:=2
 cs:=[j3p,j9g,j93]
 ds:=[]
 modes:=[(204,[false]),(250,[false,false]),(251,[false])]
 ro:=[false]
theorem jdB:Con.OK Tryz.prog j5L:=
 cOf j0n j04 je7 j5L Tryz.func169 (j9 j5W (j9 jgm (j9 jhW trivial))) trivial
def j72:Con:=⟨171,[.v ty24],[ty24],⟨[.v .str],[]⟩,[.str],fun h=>Pw.j9M h⟩
def jgn:FnD where
 N:=5
 np:=1
 cs:=[]
 ds:=[]
 ro:=[false]
theorem jfs:Con.OK Tryz.prog j72:=
 cOf j0n j04 jgn j72 Tryz.func171 trivial trivial
def jbZ:Con:=⟨367,[.v iT],[iT],⟨[.v iT],[]⟩,[iT],fun h=>Pw.jco h⟩
def jnw:FnD where
 N:=15
 np:=1
 cs:=[j8d,j6y]
 ds:=[⟨0,[sI,sI],[iT,iT],[⟨.exit 0,[sI],[iT]⟩],Pw.unc2 (Pw.jbB)⟩]
 modes:=[(366,[false]),(393,[false,false])]
 keep:=[(0,⟨[0,3],[],[],[]⟩)]
 keepX:=[(0,.exit 0,⟨[3],[],[],[]⟩)]
 ro:=[false]
theorem jlX:Con.OK Tryz.prog jbZ:=
 cOf j0n j04 jnw jbZ Tryz.func367 (j9 jeZ (j9 jbW trivial)) (j9 (fun h=>by kernel_rfl) trivial)
def j9Q:Con:=⟨323,[.v iT],[iT],⟨[.v ty21,.v iT],[]⟩,[ty21,iT],fun h=>Pw.j6p h⟩
def jk9:FnD where
 N:=45
 np:=1
 cs:=[j63,j6y,jbZ]
 ds:=[⟨0,[.s (.one (.bp 128 0)),.s (.one (.bp 256 0)),sI,.b (.cell [.d iT,.d iT,.d iT] false),.b (.cell [.d iT,.d iT,.d iT] false)],[iT,iT,iT,iT,iT,iT,iT],[⟨.exit 0,[.s (.one (.bp 128 0)),.s (.one (.bp 256 0)),sI,.b (.cell [.d iT,.d iT,.d iT] false),.b (.cell [.d iT,.d iT,.d iT] false)],[iT,iT,iT,iT,iT,iT,iT]⟩],Pw.unc7 (Pw.jaa)⟩]
 modes:=[(366,[false]),(367,[false]),(368,[false,false])]
 keep:=[(0,⟨[2,4,5],[128,256],[],[]⟩)]
 keepX:=[(0,.exit 0,⟨[2,4,5],[128,256],[],[]⟩)]
 ro:=[false,false]
theorem jjq:Con.OK Tryz.prog j9Q:=
 cOf j0n j04 jk9 j9Q Tryz.func323 (j9 jak (j9 jbW (j9 jlX trivial))) (j9 (fun h=>by kernel_rfl) trivial)
def j6B:Con:=⟨254,[.v iT],[iT],⟨[.v .bool],[]⟩,[.bool],fun h=>Pw.j1z h⟩
def jlY:FnD where
 N:=12
 np:=1
 cs:=[j9Q]
 ds:=[]
 modes:=[(323,[false])]
 ro:=[false]
theorem jc0:Con.OK Tryz.prog j6B:=
 cOf j0n j04 jlY j6B Tryz.func254 (j9 jjq trivial) trivial
def j45:Con:=⟨253,[.v iT],[iT],⟨[.v .bool],[]⟩,[.bool],fun h=>Pw.j28 h⟩
def jbk:FnD where
 N:=6
 np:=1
 cs:=[j6B]
 ds:=[]
 modes:=[(254,[false])]
 ro:=[false]
theorem jaT:Con.OK Tryz.prog j45:=
 cOf j0n j04 jbk j45 Tryz.func253 (j9 jc0 trivial) trivial
end Go.Proofs.Pk
