/- Contracts: each given function is its plain function, printed by a program. -/
import Derived.Test.YtcegmhnnglcgeaaGreatICon0
noncomputable section
open Go Go.Lft
set_option linter.unusedVariables false
set_option maxRecDepth 100000
namespace Go.Proofs.Pk
def j2g:Con:=⟨307,[.rl 322 ty12,.v iT,.clo 300 []],[ty12,iT],⟨[],[.rl ty12]⟩,[ty12],fun h=>Pw.j0P h.1 h.2⟩
def j75:FnD where
 N:=63
 np:=3
 cs:=[j1B]
 ds:=[⟨0,[.s (.one (.ol 0)),sI,.s (.one (.clo 300 [])),sI,sI,sI,.b (.lst 322 ty7 false)],[iT,iT,iT,iT,ty12],[⟨.exit 0,[.s (.one (.ol 0)),sI,.s (.one (.clo 300 [])),sI,sI,.b (.lst 322 ty7 false)],[iT,iT,iT,ty12]⟩],fun h=>Pw.j0f h.1 h.2.1 h.2.2.1 h.2.2.2.1 h.2.2.2.2⟩,
  ⟨2,[.s (.one (.ol 0)),sI,.s (.one (.clo 300 [])),sI,.b (.lst 322 ty7 false)],[iT,iT,ty12],[⟨.exit 2,[.b (.lst 322 ty7 false)],[ty12]⟩],fun h=>Pw.j0g h.1 h.2.1 h.2.2⟩,
  ⟨4,[.s (.one (.ol 0)),sI,.s (.one (.clo 300 [])),sI,sI,sI,.b (.lst 322 ty7 false)],[iT,iT,iT,iT,ty12],[⟨.exit 4,[.s (.one (.ol 0)),sI,.s (.one (.clo 300 [])),sI,sI,.b (.lst 322 ty7 false)],[iT,iT,iT,ty12]⟩],fun h=>Pw.j39 h.1 h.2.1 h.2.2.1 h.2.2.2.1 h.2.2.2.2⟩]
 modes:=[(308,[true,false,false,false])]
 keep:=[(0,⟨[0,1,2,6,7,8],[0],[],[]⟩),
  (2,⟨[0,1,2,6],[0],[],[]⟩),
  (4,⟨[0,1,2,6,7,8],[0],[],[]⟩)]
 keepX:=[(0,.exit 0,⟨[0,1,2,6,7],[0],[],[]⟩),
  (2,.exit 2,⟨[],[0],[],[]⟩),
  (4,.exit 4,⟨[0,1,2,6,7],[0],[],[]⟩)]
theorem j6Q:Con.OK Tryz.prog j2g:=
 cOf j0i j03 j75 j2g Tryz.func307 (j9 j5m trivial) (j9 (fun h=>by kernel_rfl) (j9 (fun h=>by kernel_rfl) (j9 (fun h=>by kernel_rfl) trivial)))
def j10:Con:=⟨299,[.rl 322 ty12,.clo 300 []],[ty12],⟨[],[.rl ty12]⟩,[ty12],fun h=>Pw.j0b h⟩
def j45:FnD where
 N:=9
 np:=2
 cs:=[j2g]
 ds:=[]
 modes:=[(307,[true,false,false])]
theorem j3U:Con.OK Tryz.prog j10:=
 cOf j0i j03 j45 j10 Tryz.func299 (j9 j6Q trivial) trivial
def j7j:Con:=⟨287,[.v ty61],[ty61],⟨[.own 322 ty12,.v iT],[]⟩,[ty12,iT],fun h=>Pw.j41 h⟩
def jh1:FnD where
 N:=86
 np:=1
 cs:=[jbk,jdy,jdz,j10]
 ds:=[⟨0,[.s (.one (.bp 64 0)),sI,.s (.one (.d ty54)),sI,sI,.b (.cell [.d .str,.d iT,.d ty54] false)],[iT,ty54,iT,iT,.str,iT,ty54],[⟨.ret,[.s (.one (.nil)),sI],[iT]⟩,⟨.exit 0,[.s (.one (.bp 64 0)),sI,.b (.cell [.d .str,.d iT,.d ty54] false)],[iT,.str,iT,ty54]⟩],fun h=>Pw.j2Z h.1 h.2.1 h.2.2.1 h.2.2.2.1 h.2.2.2.2.1 h.2.2.2.2.2.1 h.2.2.2.2.2.2⟩,
  ⟨2,[.s (.one (.ol 1002000)),.s (.one (.d ty54)),sI,sI,.b (.lst 322 ty7 false)],[ty54,iT,iT,ty12],[⟨.exit 2,[.s (.one (.ol 1502300)),.b (.lst 322 ty7 false)],[ty12]⟩],fun h=>Pw.j1d h.1 h.2.1 h.2.2.1 h.2.2.2⟩,
  ⟨4,[.s (.one (.ol 1004000)),.s (.one (.bp 640 0)),sI,.s (.one (.d ty54)),sI,sI,.b (.cell [.d iT,.d iT,.d iT,.d iT,.d iT,.d iT,.d iT] false),.b (.lst 322 ty7 false)],[iT,ty54,iT,iT,iT,iT,iT,iT,iT,iT,iT,ty12],[⟨.exit 4,[.s (.one (.ol 1504500)),.s (.one (.d ty54)),sI,sI,.b (.lst 322 ty7 false)],[ty54,iT,iT,ty12]⟩],fun h=>Pw.j1c h.1 h.2.1 h.2.2.1 h.2.2.2.1 h.2.2.2.2.1 h.2.2.2.2.2.1 h.2.2.2.2.2.2.1 h.2.2.2.2.2.2.2.1 h.2.2.2.2.2.2.2.2.1 h.2.2.2.2.2.2.2.2.2.1 h.2.2.2.2.2.2.2.2.2.2.1 h.2.2.2.2.2.2.2.2.2.2.2⟩]
 modes:=[(288,[false,false,false]),(297,[false]),(298,[false,false,false,false]),(299,[true,false])]
 keep:=[(0,⟨[1,4,23,24,25],[64],[],[]⟩),
  (2,⟨[8,46,47,48],[],[⟨1002000,322,ty7,[.slot 8],false⟩],[]⟩),
  (4,⟨[8,10,11,46,47,48],[640],[⟨1004000,322,ty7,[.slot 8],false⟩],[]⟩)]
 keepX:=[(0,.ret,⟨[2,3],[],[],[]⟩),
  (0,.exit 0,⟨[1,4],[64],[],[]⟩),
  (2,.exit 2,⟨[8],[],[⟨1502300,322,ty7,[.slot 8],false⟩],[]⟩),
  (4,.exit 4,⟨[8,46,47,48],[],[⟨1504500,322,ty7,[.slot 8],false⟩],[]⟩)]
 ro:=[true,false]
theorem jg5:Con.OK Tryz.prog j7j:=
 cOf j0i j03 jh1 j7j Tryz.func287 (j9 jhZ (j9 jod (j9 jog (j9 j3U trivial)))) (j9 (fun h=>by kernel_rfl) (j9 (fun h=>by kernel_rfl) (j9 (fun h=>by kernel_rfl) trivial)))
def j5p:Con:=⟨266,[.v ty61],[ty61],⟨[.own 227 ty12,.v iT],[]⟩,[ty12,iT],fun h=>Pw.j2v h⟩
def jh2:FnD where
 N:=79
 np:=1
 cs:=[jbk,j7j]
 ds:=[⟨0,[.s (.one (.ol 1000000)),sI,.s (.one (.ol 1000001)),sI,sI,.b (.lst 227 ty7 false),.b (.lst 322 ty7 false)],[iT,iT,iT,ty12,ty12],[⟨.ret,[.s (.one (.nil)),sI],[iT]⟩,⟨.exit 0,[.s (.one (.ol 1500100)),.b (.lst 227 ty7 false)],[ty12]⟩],fun h=>Pw.j30 h.1 h.2.1 h.2.2.1 h.2.2.2.1 h.2.2.2.2⟩]
 modes:=[(287,[false]),(288,[false,false,false])]
 keep:=[(0,⟨[6,7,22,23,24],[],[⟨1000000,227,ty7,[.slot 6],false⟩,⟨1000001,322,ty7,[.slot 22],false⟩],[]⟩)]
 keepX:=[(0,.ret,⟨[2,3],[],[],[]⟩),
  (0,.exit 0,⟨[6],[],[⟨1500100,227,ty7,[.slot 6],false⟩],[]⟩)]
 ro:=[true,false]
theorem jbm:Con.OK Tryz.prog j5p:=
 cOf j0i j03 jh2 j5p Tryz.func266 (j9 jhZ (j9 jg5 trivial)) (j9 (fun h=>by kernel_rfl) trivial)
def jct:Con:=⟨208,[.v ty61],[ty61],⟨[.v iT],[]⟩,[iT],fun h=>Pw.j8d h⟩
def joh:FnD where
 N:=11
 np:=1
 cs:=[j5p]
 ds:=[]
 modes:=[(266,[false])]
 ro:=[false]
theorem jmM:Con.OK Tryz.prog jct:=
 cOf j0i j03 joh jct Tryz.func208 (j9 jbm trivial) trivial
def j5G:Con:=⟨210,[.v ty51],[ty51],⟨[.v .bool],[]⟩,[.bool],fun h=>Pw.j7g h⟩
def je9:FnD where
 N:=7
 np:=1
 cs:=[]
 ds:=[]
 ro:=[false]
theorem jdA:Con.OK Tryz.prog j5G:=
 cOf j0i j03 je9 j5G Tryz.func210 trivial trivial
def j1D:Con:=⟨267,[.v ty54,.clo 210 []],[ty54],⟨[.v iT],[]⟩,[iT],fun h=>Pw.j0u h⟩
def j5J:FnD where
 N:=19
 np:=2
 cs:=[j5G]
 ds:=[⟨0,[.s (.one (.d ty54)),.s (.one (.clo 210 [])),sI,sI],[ty54,iT,iT],[⟨.ret,[sI],[iT]⟩,⟨.exit 0,[],[]⟩],fun h=>Pw.j0r h.1 h.2.1 h.2.2⟩]
 modes:=[(210,[false])]
 keep:=[(0,⟨[0,1,7,8],[],[],[]⟩)]
 keepX:=[(0,.ret,⟨[4],[],[],[]⟩),
  (0,.exit 0,⟨[],[],[],[]⟩)]
 ro:=[false]
theorem j5H:Con.OK Tryz.prog j1D:=
 cOf j0i j03 j5J j1D Tryz.func267 (j9 jdA trivial) (j9 (fun h=>by kernel_rfl) trivial)
def j1p:Con:=⟨209,[.v ty54,.clo 210 []],[ty54],⟨[.v .bool],[]⟩,[.bool],fun h=>Pw.j0o h⟩
def j5d:FnD where
 N:=9
 np:=2
 cs:=[j1D]
 ds:=[]
 modes:=[(267,[false,false])]
 ro:=[false]
theorem j53:Con.OK Tryz.prog j1p:=
 cOf j0i j03 j5d j1p Tryz.func209 (j9 j5H trivial) trivial
def j6R:Con:=⟨147,[.v ty61],[ty61],⟨[.v iT],[]⟩,[iT],fun h=>Pw.j31 h⟩
def jg6:FnD where
 N:=17
 np:=1
 cs:=[jct,j1p]
 ds:=[]
 modes:=[(208,[false]),(209,[false,false])]
 ro:=[false]
theorem jfp:Con.OK Tryz.prog j6R:=
 cOf j0i j03 jg6 j6R Tryz.func147 (j9 jmM (j9 j53 trivial)) trivial
def j4I:Con:=⟨145,[.v ty62,.clo 146 [],.clo 147 []],[ty62],⟨[.v iT],[]⟩,[iT],fun h=>Pw.j2c h⟩
def jd2:FnD where
 N:=34
 np:=3
 cs:=[j7i,j44,j6R]
 ds:=[⟨0,[.s (.one (.clo 146 [])),.s (.one (.clo 147 [])),.s (.one (.ol 1000000)),.s (.one (.d ty62)),sI,sI,.b (.lst 4294967504 (.pair .str .bool) false)],[ty62,iT,iT,(.list (.pair .str .bool))],[⟨.ret,[sI],[iT]⟩,⟨.exit 0,[],[]⟩],fun h=>Pw.j0F h.1 h.2.1 h.2.2.1 h.2.2.2⟩]
 modes:=[(146,[false]),(147,[false]),(148,[false,true])]
 keep:=[(0,⟨[1,2,7,13,14,15],[],[⟨1000000,4294967504,(.pair .str .bool),[.slot 7],false⟩],[]⟩)]
 keepX:=[(0,.ret,⟨[6],[],[],[]⟩),
  (0,.exit 0,⟨[],[],[],[]⟩)]
 ro:=[false]
theorem jcu:Con.OK Tryz.prog j4I:=
 cOf j0i j03 jd2 j4I Tryz.func145 (j9 jg4 (j9 j6O (j9 jfp trivial))) (j9 (fun h=>by kernel_rfl) trivial)
def j3A:Con:=⟨212,[.v iT,.v iT],[iT,iT],⟨[.v .bool],[]⟩,[.bool],fun h=>Pw.j2w h.1 h.2⟩
def jk6:FnD where
 N:=12
 np:=2
 cs:=[]
 ds:=[]
 ro:=[false]
theorem j6a:Con.OK Tryz.prog j3A:=
 cOf j0i j03 jk6 j3A Tryz.func212 trivial trivial
def j9H:Con:=⟨213,[.v ty12],[ty12],⟨[.v iT],[]⟩,[iT],fun h=>Pw.j8e h⟩
def joi:FnD where
 N:=46
 np:=1
 cs:=[]
 ds:=[⟨0,[.s (.one (.d ty12)),.s (.one (.d ty12)),sI,sI],[ty12,ty12,iT,iT],[⟨.ret,[sI],[iT]⟩,⟨.exit 0,[],[]⟩],fun h=>Pw.j4S h.1 h.2.1 h.2.2.1 h.2.2.2⟩]
 keep:=[(0,⟨[0,8,9,10],[],[],[]⟩)]
 keepX:=[(0,.ret,⟨[2],[],[],[]⟩),
  (0,.exit 0,⟨[],[],[],[]⟩)]
 ro:=[false]
theorem jh3:Con.OK Tryz.prog j9H:=
 cOf j0i j03 joi j9H Tryz.func213 trivial (j9 (fun h=>by kernel_rfl) trivial)
def j7L:Con:=⟨270,[.v iT,.v iT,.v iT],[iT,iT,iT],⟨[.v .bool],[]⟩,[.bool],fun h=>Pw.j71 h.1 h.2.1 h.2.2⟩
def joj:FnD where
 N:=15
 np:=3
 cs:=[]
 ds:=[]
 ro:=[false]
theorem jdB:Con.OK Tryz.prog j7L:=
 cOf j0i j03 joj j7L Tryz.func270 trivial trivial
def j9r:Con:=⟨214,[.v iT],[iT],⟨[.v .bool],[]⟩,[.bool],fun h=>Pw.j5Q h⟩
def jk7:FnD where
 N:=10
 np:=1
 cs:=[j7L]
 ds:=[]
 modes:=[(270,[false,false,false])]
 ro:=[false]
theorem jiI:Con.OK Tryz.prog j9r:=
 cOf j0i j03 jk7 j9r Tryz.func214 (j9 jdB trivial) trivial
def j5Y:Con:=⟨149,[.v ty80,.v ty49],[ty80,ty49],⟨[.v iT],[]⟩,[iT],fun h=>Pw.j1Y h.1 h.2⟩
def jeJ:FnD where
 N:=29
 np:=2
 cs:=[j3A,j9H,j9r]
 ds:=[]
 modes:=[(212,[false,false]),(213,[false]),(214,[false])]
 ro:=[false]
theorem jea:Con.OK Tryz.prog j5Y:=
 cOf j0i j03 jeJ j5Y Tryz.func149 (j9 j6a (j9 jh3 (j9 jiI trivial))) trivial
def j7k:Con:=⟨151,[.v ty22],[ty22],⟨[.v .str],[]⟩,[.str],fun h=>Pw.jac h⟩
def jh4:FnD where
 N:=5
 np:=1
 cs:=[]
 ds:=[]
 ro:=[false]
theorem jg7:Con.OK Tryz.prog j7k:=
 cOf j0i j03 jh4 j7k Tryz.func151 trivial trivial
def jcv:Con:=⟨290,[.v iT],[iT],⟨[.v iT],[]⟩,[iT],fun h=>Pw.jcW h⟩
def jok:FnD where
 N:=15
 np:=1
 cs:=[j8w,j6P]
 ds:=[⟨0,[sI,sI],[iT,iT],[⟨.exit 0,[sI],[iT]⟩],fun h=>Pw.jc6 h.1 h.2⟩]
 modes:=[(289,[false]),(301,[false,false])]
 keep:=[(0,⟨[0,3],[],[],[]⟩)]
 keepX:=[(0,.exit 0,⟨[3],[],[],[]⟩)]
 ro:=[false]
theorem jmN:Con.OK Tryz.prog jcv:=
 cOf j0i j03 jok jcv Tryz.func290 (j9 jfG (j9 jcs trivial)) (j9 (fun h=>by kernel_rfl) trivial)
def jag:Con:=⟨271,[.v iT],[iT],⟨[.v ty20,.v iT],[]⟩,[ty20,iT],fun h=>Pw.j6F h⟩
def jl1:FnD where
 N:=45
 np:=1
 cs:=[j6j,j6P,jcv]
 ds:=[⟨0,[.s (.one (.bp 128 0)),.s (.one (.bp 256 0)),sI,.b (.cell [.d iT,.d iT,.d iT] false),.b (.cell [.d iT,.d iT,.d iT] false)],[iT,iT,iT,iT,iT,iT,iT],[⟨.exit 0,[.s (.one (.bp 128 0)),.s (.one (.bp 256 0)),sI,.b (.cell [.d iT,.d iT,.d iT] false),.b (.cell [.d iT,.d iT,.d iT] false)],[iT,iT,iT,iT,iT,iT,iT]⟩],fun h=>Pw.jax h.1 h.2.1 h.2.2.1 h.2.2.2.1 h.2.2.2.2.1 h.2.2.2.2.2.1 h.2.2.2.2.2.2⟩]
 modes:=[(289,[false]),(290,[false]),(291,[false,false])]
 keep:=[(0,⟨[2,4,5],[128,256],[],[]⟩)]
 keepX:=[(0,.exit 0,⟨[2,4,5],[128,256],[],[]⟩)]
 ro:=[false,false]
theorem jk8:Con.OK Tryz.prog jag:=
 cOf j0i j03 jl1 jag Tryz.func271 (j9 jaI (j9 jcs (j9 jmN trivial))) (j9 (fun h=>by kernel_rfl) trivial)
def j6S:Con:=⟨217,[.v iT],[iT],⟨[.v .bool],[]⟩,[.bool],fun h=>Pw.j1H h⟩
def jmO:FnD where
 N:=12
 np:=1
 cs:=[jag]
 ds:=[]
 modes:=[(271,[false])]
 ro:=[false]
theorem jcw:Con.OK Tryz.prog j6S:=
 cOf j0i j03 jmO j6S Tryz.func217 (j9 jk8 trivial) trivial
def j4h:Con:=⟨216,[.v iT],[iT],⟨[.v .bool],[]⟩,[.bool],fun h=>Pw.j2h h⟩
def jbQ:FnD where
 N:=6
 np:=1
 cs:=[j6S]
 ds:=[]
 modes:=[(217,[false])]
 ro:=[false]
theorem jbn:Con.OK Tryz.prog j4h:=
 cOf j0i j03 jbQ j4h Tryz.func216 (j9 jcw trivial) trivial
end Go.Proofs.Pk
