/- Contracts: each given function is its plain function, printed by a program. -/
import Derived.Test.YtcegmhnnglcgeaaGreatHCon0
noncomputable section
open Go Go.Lft
set_option linter.unusedVariables false
set_option maxRecDepth 100000
namespace Go.Proofs.Pk
def j0H:Con:=⟨299,[.rl 322 ty12,.clo 300 []],[ty12],⟨[],[.rl ty12]⟩,[ty12],fun h=>Pw.j0a h⟩
def j3y:FnD where
 N:=9
 np:=2
 cs:=[j1E]
 ds:=[]
 modes:=[(307,[true,false,false])]
theorem j3p:Con.OK Tryz.prog j0H:=
 cOf j0c j00 j3y j0H Tryz.func299 (j9 j6o trivial) trivial
def j6X:Con:=⟨287,[.v ty61],[ty61],⟨[.own 322 ty12,.v iT],[]⟩,[ty12,iT],fun h=>Pw.j3v h⟩
def jhR:FnD where
 N:=86
 np:=1
 cs:=[jbF,je2,je3,j0H]
 ds:=[⟨0,[.s (.one (.bp 64 0)),sI,.s (.one (.d ty54)),sI,sI,.b (.cell [.d .str,.d iT,.d ty54] false)],[iT,ty54,iT,iT,.str,iT,ty54],[⟨.ret,[.s (.one (.nil)),sI],[iT]⟩,⟨.exit 0,[.s (.one (.bp 64 0)),sI,.b (.cell [.d .str,.d iT,.d ty54] false)],[iT,.str,iT,ty54]⟩],fun h=>Pw.j2m h.1 h.2.1 h.2.2.1 h.2.2.2.1 h.2.2.2.2.1 h.2.2.2.2.2.1 h.2.2.2.2.2.2⟩,
  ⟨2,[.s (.one (.ol 1002000)),.s (.one (.d ty54)),sI,sI,.b (.lst 322 ty7 false)],[ty54,iT,iT,ty12],[⟨.exit 2,[.s (.one (.ol 1502300)),.b (.lst 322 ty7 false)],[ty12]⟩],fun h=>Pw.j0V h.1 h.2.1 h.2.2.1 h.2.2.2⟩,
  ⟨4,[.s (.one (.ol 1004000)),.s (.one (.bp 640 0)),sI,.s (.one (.d ty54)),sI,sI,.b (.cell [.d iT,.d iT,.d iT,.d iT,.d iT,.d iT,.d iT] false),.b (.lst 322 ty7 false)],[iT,ty54,iT,iT,iT,iT,iT,iT,iT,iT,iT,ty12],[⟨.exit 4,[.s (.one (.ol 1504500)),.s (.one (.d ty54)),sI,sI,.b (.lst 322 ty7 false)],[ty54,iT,iT,ty12]⟩],fun h=>Pw.j0U h.1 h.2.1 h.2.2.1 h.2.2.2.1 h.2.2.2.2.1 h.2.2.2.2.2.1 h.2.2.2.2.2.2.1 h.2.2.2.2.2.2.2.1 h.2.2.2.2.2.2.2.2.1 h.2.2.2.2.2.2.2.2.2.1 h.2.2.2.2.2.2.2.2.2.2.1 h.2.2.2.2.2.2.2.2.2.2.2⟩]
 modes:=[(288,[false,false,false]),(297,[false]),(298,[false,false,false,false]),(299,[true,false])]
 keep:=[(0,⟨[1,4,23,24,25],[64],[],[]⟩),
  (2,⟨[8,46,47,48],[],[⟨1002000,322,ty7,[.slot 8],false⟩],[]⟩),
  (4,⟨[8,10,11,46,47,48],[640],[⟨1004000,322,ty7,[.slot 8],false⟩],[]⟩)]
 keepX:=[(0,.ret,⟨[2,3],[],[],[]⟩),
  (0,.exit 0,⟨[1,4],[64],[],[]⟩),
  (2,.exit 2,⟨[8],[],[⟨1502300,322,ty7,[.slot 8],false⟩],[]⟩),
  (4,.exit 4,⟨[8,46,47,48],[],[⟨1504500,322,ty7,[.slot 8],false⟩],[]⟩)]
 ro:=[true,false]
theorem jgM:Con.OK Tryz.prog j6X:=
 cOf j0c j00 jhR j6X Tryz.func287 (j9 jiQ (j9 joB (j9 joE (j9 j3p trivial)))) (j9 (fun h=>by kernel_rfl) (j9 (fun h=>by kernel_rfl) (j9 (fun h=>by kernel_rfl) trivial)))
def j4Y:Con:=⟨266,[.v ty61],[ty61],⟨[.own 227 ty12,.v iT],[]⟩,[ty12,iT],fun h=>Pw.j1S h⟩
def jhS:FnD where
 N:=79
 np:=1
 cs:=[jbF,j6X]
 ds:=[⟨0,[.s (.one (.ol 1000000)),sI,.s (.one (.ol 1000001)),sI,sI,.b (.lst 227 ty7 false),.b (.lst 322 ty7 false)],[iT,iT,iT,ty12,ty12],[⟨.ret,[.s (.one (.nil)),sI],[iT]⟩,⟨.exit 0,[.s (.one (.ol 1500100)),.b (.lst 227 ty7 false)],[ty12]⟩],fun h=>Pw.j2n h.1 h.2.1 h.2.2.1 h.2.2.2.1 h.2.2.2.2⟩]
 modes:=[(287,[false]),(288,[false,false,false])]
 keep:=[(0,⟨[6,7,22,23,24],[],[⟨1000000,227,ty7,[.slot 6],false⟩,⟨1000001,322,ty7,[.slot 22],false⟩],[]⟩)]
 keepX:=[(0,.ret,⟨[2,3],[],[],[]⟩),
  (0,.exit 0,⟨[6],[],[⟨1500100,227,ty7,[.slot 6],false⟩],[]⟩)]
 ro:=[true,false]
theorem jbH:Con.OK Tryz.prog j4Y:=
 cOf j0c j00 jhS j4Y Tryz.func266 (j9 jiQ (j9 jgM trivial)) (j9 (fun h=>by kernel_rfl) trivial)
def jcN:Con:=⟨208,[.v ty61],[ty61],⟨[.v iT],[]⟩,[iT],fun h=>Pw.j7X h⟩
def joF:FnD where
 N:=11
 np:=1
 cs:=[j4Y]
 ds:=[]
 modes:=[(266,[false])]
 ro:=[false]
theorem jnk:Con.OK Tryz.prog jcN:=
 cOf j0c j00 joF jcN Tryz.func208 (j9 jbH trivial) trivial
def j59:Con:=⟨210,[.v ty51],[ty51],⟨[.v .bool],[]⟩,[.bool],fun h=>Pw.j6T h⟩
def jeG:FnD where
 N:=7
 np:=1
 cs:=[]
 ds:=[]
 ro:=[false]
theorem je4:Con.OK Tryz.prog j59:=
 cOf j0c j00 jeG j59 Tryz.func210 trivial trivial
def j1d:Con:=⟨267,[.v ty54,.clo 210 []],[ty54],⟨[.v iT],[]⟩,[iT],fun h=>Pw.j0s h⟩
def j5f:FnD where
 N:=19
 np:=2
 cs:=[j59]
 ds:=[⟨0,[.s (.one (.d ty54)),.s (.one (.clo 210 [])),sI,sI],[ty54,iT,iT],[⟨.ret,[sI],[iT]⟩,⟨.exit 0,[],[]⟩],fun h=>Pw.j0o h.1 h.2.1 h.2.2⟩]
 modes:=[(210,[false])]
 keep:=[(0,⟨[0,1,7,8],[],[],[]⟩)]
 keepX:=[(0,.ret,⟨[4],[],[],[]⟩),
  (0,.exit 0,⟨[],[],[],[]⟩)]
 ro:=[false]
theorem j5a:Con.OK Tryz.prog j1d:=
 cOf j0c j00 j5f j1d Tryz.func267 (j9 je4 trivial) (j9 (fun h=>by kernel_rfl) trivial)
def j16:Con:=⟨209,[.v ty54,.clo 210 []],[ty54],⟨[.v .bool],[]⟩,[.bool],fun h=>Pw.j0m h⟩
def j4O:FnD where
 N:=9
 np:=2
 cs:=[j1d]
 ds:=[]
 modes:=[(267,[false,false])]
 ro:=[false]
theorem j4B:Con.OK Tryz.prog j16:=
 cOf j0c j00 j4O j16 Tryz.func209 (j9 j5a trivial) trivial
def j6p:Con:=⟨147,[.v ty61],[ty61],⟨[.v iT],[]⟩,[iT],fun h=>Pw.j2o h⟩
def jgN:FnD where
 N:=17
 np:=1
 cs:=[jcN,j16]
 ds:=[]
 modes:=[(208,[false]),(209,[false,false])]
 ro:=[false]
theorem jg7:Con.OK Tryz.prog j6p:=
 cOf j0c j00 jgN j6p Tryz.func147 (j9 jnk (j9 j4B trivial)) trivial
def j4f:Con:=⟨145,[.v ty62,.clo 146 [],.clo 147 []],[ty62],⟨[.v iT],[]⟩,[iT],fun h=>Pw.j1A h⟩
def jdq:FnD where
 N:=34
 np:=3
 cs:=[j6W,j3x,j6p]
 ds:=[⟨0,[.s (.one (.clo 146 [])),.s (.one (.clo 147 [])),.s (.one (.ol 1000000)),.s (.one (.d ty62)),sI,sI,.b (.lst 4294967504 (.pair .str .bool) false)],[ty62,iT,iT,(.list (.pair .str .bool))],[⟨.ret,[sI],[iT]⟩,⟨.exit 0,[],[]⟩],fun h=>Pw.j0y h.1 h.2.1 h.2.2.1 h.2.2.2⟩]
 modes:=[(146,[false]),(147,[false]),(148,[false,true])]
 keep:=[(0,⟨[1,2,7,13,14,15],[],[⟨1000000,4294967504,(.pair .str .bool),[.slot 7],false⟩],[]⟩)]
 keepX:=[(0,.ret,⟨[6],[],[],[]⟩),
  (0,.exit 0,⟨[],[],[],[]⟩)]
 ro:=[false]
theorem jcO:Con.OK Tryz.prog j4f:=
 cOf j0c j00 jdq j4f Tryz.func145 (j9 jgL (j9 j6m (j9 jg7 trivial))) (j9 (fun h=>by kernel_rfl) trivial)
def j36:Con:=⟨212,[.v iT,.v iT],[iT,iT],⟨[.v .bool],[]⟩,[.bool],fun h=>Pw.j1V h.1 h.2⟩
def jkR:FnD where
 N:=12
 np:=2
 cs:=[]
 ds:=[]
 ro:=[false]
theorem j5L:Con.OK Tryz.prog j36:=
 cOf j0c j00 jkR j36 Tryz.func212 trivial trivial
def j9x:Con:=⟨213,[.v ty12],[ty12],⟨[.v iT],[]⟩,[iT],fun h=>Pw.j7Y h⟩
def joG:FnD where
 N:=46
 np:=1
 cs:=[]
 ds:=[⟨0,[.s (.one (.d ty12)),.s (.one (.d ty12)),sI,sI],[ty12,ty12,iT,iT],[⟨.ret,[sI],[iT]⟩,⟨.exit 0,[],[]⟩],fun h=>Pw.j4n h.1 h.2.1 h.2.2.1 h.2.2.2⟩]
 keep:=[(0,⟨[0,8,9,10],[],[],[]⟩)]
 keepX:=[(0,.ret,⟨[2],[],[],[]⟩),
  (0,.exit 0,⟨[],[],[],[]⟩)]
 ro:=[false]
theorem jhT:Con.OK Tryz.prog j9x:=
 cOf j0c j00 joG j9x Tryz.func213 trivial (j9 (fun h=>by kernel_rfl) trivial)
def j7l:Con:=⟨270,[.v iT,.v iT,.v iT],[iT,iT,iT],⟨[.v .bool],[]⟩,[.bool],fun h=>Pw.j6B h.1 h.2.1 h.2.2⟩
def joH:FnD where
 N:=15
 np:=3
 cs:=[]
 ds:=[]
 ro:=[false]
theorem je5:Con.OK Tryz.prog j7l:=
 cOf j0c j00 joH j7l Tryz.func270 trivial trivial
def j9h:Con:=⟨214,[.v iT],[iT],⟨[.v .bool],[]⟩,[.bool],fun h=>Pw.j5q h⟩
def jkS:FnD where
 N:=10
 np:=1
 cs:=[j7l]
 ds:=[]
 modes:=[(270,[false,false,false])]
 ro:=[false]
theorem jju:Con.OK Tryz.prog j9h:=
 cOf j0c j00 jkS j9h Tryz.func214 (j9 je5 trivial) trivial
def j5v:Con:=⟨149,[.v ty80,.v ty49],[ty80,ty49],⟨[.v iT],[]⟩,[iT],fun h=>Pw.j1u h.1 h.2⟩
def jfo:FnD where
 N:=29
 np:=2
 cs:=[j36,j9x,j9h]
 ds:=[]
 modes:=[(212,[false,false]),(213,[false]),(214,[false])]
 ro:=[false]
theorem jeH:Con.OK Tryz.prog j5v:=
 cOf j0c j00 jfo j5v Tryz.func149 (j9 j5L (j9 jhT (j9 jju trivial))) trivial
def j6Y:Con:=⟨151,[.v ty22],[ty22],⟨[.v .str],[]⟩,[.str],fun h=>Pw.jad h⟩
def jhU:FnD where
 N:=5
 np:=1
 cs:=[]
 ds:=[]
 ro:=[false]
theorem jgO:Con.OK Tryz.prog j6Y:=
 cOf j0c j00 jhU j6Y Tryz.func151 trivial trivial
def jcP:Con:=⟨290,[.v iT],[iT],⟨[.v iT],[]⟩,[iT],fun h=>Pw.jdk h⟩
def joI:FnD where
 N:=15
 np:=1
 cs:=[j8q,j6n]
 ds:=[⟨0,[sI,sI],[iT,iT],[⟨.exit 0,[sI],[iT]⟩],fun h=>Pw.jcu h.1 h.2⟩]
 modes:=[(289,[false]),(301,[false,false])]
 keep:=[(0,⟨[0,3],[],[],[]⟩)]
 keepX:=[(0,.exit 0,⟨[3],[],[],[]⟩)]
 ro:=[false]
theorem jnl:Con.OK Tryz.prog jcP:=
 cOf j0c j00 joI jcP Tryz.func290 (j9 jgp (j9 jcM trivial)) (j9 (fun h=>by kernel_rfl) trivial)
def jan:Con:=⟨271,[.v iT],[iT],⟨[.v ty20,.v iT],[]⟩,[ty20,iT],fun h=>Pw.j9G h⟩
def jlE:FnD where
 N:=45
 np:=1
 cs:=[j5T,j6n,jcP]
 ds:=[⟨0,[.s (.one (.bp 128 0)),.s (.one (.bp 256 0)),sI,.b (.cell [.d iT,.d iT,.d iT] false),.b (.cell [.d iT,.d iT,.d iT] false)],[iT,iT,iT,iT,iT,iT,iT],[⟨.exit 0,[.s (.one (.bp 128 0)),.s (.one (.bp 256 0)),sI,.b (.cell [.d iT,.d iT,.d iT] false),.b (.cell [.d iT,.d iT,.d iT] false)],[iT,iT,iT,iT,iT,iT,iT]⟩],fun h=>Pw.jaH h.1 h.2.1 h.2.2.1 h.2.2.2.1 h.2.2.2.2.1 h.2.2.2.2.2.1 h.2.2.2.2.2.2⟩]
 modes:=[(289,[false]),(290,[false]),(291,[false,false])]
 keep:=[(0,⟨[2,4,5],[128,256],[],[]⟩)]
 keepX:=[(0,.exit 0,⟨[2,4,5],[128,256],[],[]⟩)]
 ro:=[false,false]
theorem jkT:Con.OK Tryz.prog jan:=
 cOf j0c j00 jlE jan Tryz.func271 (j9 jaX (j9 jcM (j9 jnl trivial))) (j9 (fun h=>by kernel_rfl) trivial)
def j6q:Con:=⟨217,[.v iT],[iT],⟨[.v .bool],[]⟩,[.bool],fun h=>Pw.j22 h⟩
def jnm:FnD where
 N:=12
 np:=1
 cs:=[jan]
 ds:=[]
 modes:=[(271,[false])]
 ro:=[false]
theorem jcQ:Con.OK Tryz.prog j6q:=
 cOf j0c j00 jnm j6q Tryz.func217 (j9 jkT trivial) trivial
def j3N:Con:=⟨216,[.v iT],[iT],⟨[.v .bool],[]⟩,[.bool],fun h=>Pw.j1F h⟩
def jce:FnD where
 N:=6
 np:=1
 cs:=[j6q]
 ds:=[]
 modes:=[(217,[false])]
 ro:=[false]
theorem jbI:Con.OK Tryz.prog j3N:=
 cOf j0c j00 jce j3N Tryz.func216 (j9 jcQ trivial) trivial
def j3O:Con:=⟨192,[.v (.list iT),.clo 216 []],[(.list iT)],⟨[.v iT],[]⟩,[iT],fun h=>Pw.j1G h⟩
def jcf:FnD where
 N:=19
 np:=2
 cs:=[j3N]
 ds:=[⟨0,[.s (.one (.d (.list iT))),.s (.one (.clo 216 [])),sI,sI],[(.list iT),iT,iT],[⟨.ret,[sI],[iT]⟩,⟨.exit 0,[],[]⟩],fun h=>Pw.j0t h.1 h.2.1 h.2.2⟩]
 modes:=[(216,[false])]
 keep:=[(0,⟨[0,1,7,8],[],[],[]⟩)]
 keepX:=[(0,.ret,⟨[4],[],[],[]⟩),
  (0,.exit 0,⟨[],[],[],[]⟩)]
 ro:=[false]
theorem jbJ:Con.OK Tryz.prog j3O:=
 cOf j0c j00 jcf j3O Tryz.func192 (j9 jbI trivial) (j9 (fun h=>by kernel_rfl) trivial)
end Go.Proofs.Pk
