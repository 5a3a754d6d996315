/- Contracts: each given function is its plain function, printed by a program. -/
import Derived.Test.YtcegmhnnglcgeaaGreatFCon0
noncomputable section
open Go Go.Lft
set_option linter.unusedVariables false
set_option maxRecDepth 100000
namespace Go.Proofs.Pk
def j0m:Con:=⟨299,[.rl 322 ty12,.clo 300 []],[ty12],⟨[],[.rl ty12]⟩,[ty12],fun h=>Pw.j07 h⟩
def j2y:FnD where
 N:=9
 np:=2
 cs:=[j11]
 ds:=[]
 modes:=[(307,[true,false,false])]
theorem j2q:Con.OK Tryz.prog j0m:=
 cOf j0c j01 j2y j0m Tryz.func299 (j6 j4N trivial) trivial
def j5e:Con:=⟨287,[.v ty61],[ty61],⟨[.own 322 ty12,.v iT],[]⟩,[ty12,iT],fun h=>Pw.j4k h⟩
def jeT:FnD where
 N:=86
 np:=1
 cs:=[j9p,jbB,jbC,j0m]
 ds:=[⟨0,[.s (.one (.bp 64 0)),sI,.s (.one (.d ty54)),sI,sI,.b (.cell [.d .str,.d iT,.d ty54] false)],[iT,ty54,iT,iT,.str,iT,ty54],[⟨.ret,[.s (.one (.nil)),sI],[iT]⟩,⟨.exit 0,[.s (.one (.bp 64 0)),sI,.b (.cell [.d .str,.d iT,.d ty54] false)],[iT,.str,iT,ty54]⟩],fun h=>Pw.j69 h.1 h.2.1 h.2.2.1 h.2.2.2.1 h.2.2.2.2.1 h.2.2.2.2.2.1 h.2.2.2.2.2.2⟩,
  ⟨2,[.s (.one (.ol 1002000)),.s (.one (.d ty54)),sI,sI,.b (.lst 322 ty7 false)],[ty54,iT,iT,ty12],[⟨.exit 2,[.s (.one (.ol 1502300)),.b (.lst 322 ty7 false)],[ty12]⟩],fun h=>Pw.j1y h.1 h.2.1 h.2.2.1 h.2.2.2⟩,
  ⟨4,[.s (.one (.ol 1004000)),.s (.one (.bp 640 0)),sI,.s (.one (.d ty54)),sI,sI,.b (.cell [.d iT,.d iT,.d iT,.d iT,.d iT,.d iT,.d iT] false),.b (.lst 322 ty7 false)],[iT,ty54,iT,iT,iT,iT,iT,iT,iT,iT,iT,ty12],[⟨.exit 4,[.s (.one (.ol 1504500)),.s (.one (.d ty54)),sI,sI,.b (.lst 322 ty7 false)],[ty54,iT,iT,ty12]⟩],fun h=>Pw.j1x h.1 h.2.1 h.2.2.1 h.2.2.2.1 h.2.2.2.2.1 h.2.2.2.2.2.1 h.2.2.2.2.2.2.1 h.2.2.2.2.2.2.2.1 h.2.2.2.2.2.2.2.2.1 h.2.2.2.2.2.2.2.2.2.1 h.2.2.2.2.2.2.2.2.2.2.1 h.2.2.2.2.2.2.2.2.2.2.2⟩]
 modes:=[(288,[false,false,false]),(297,[false]),(298,[false,false,false,false]),(299,[true,false])]
 keep:=[(0,⟨[1,4,23,24,25],[64],[],[]⟩),
  (2,⟨[8,46,47,48],[],[⟨1002000,322,ty7,[.slot 8],false⟩],[]⟩),
  (4,⟨[8,10,11,46,47,48],[640],[⟨1004000,322,ty7,[.slot 8],false⟩],[]⟩)]
 keepX:=[(0,.ret,⟨[2,3],[],[],[]⟩),
  (0,.exit 0,⟨[1,4],[64],[],[]⟩),
  (2,.exit 2,⟨[8],[],[⟨1502300,322,ty7,[.slot 8],false⟩],[]⟩),
  (4,.exit 4,⟨[8,46,47,48],[],[⟨1504500,322,ty7,[.slot 8],false⟩],[]⟩)]
 ro:=[true,false]
theorem jdZ:Con.OK Tryz.prog j5e:=
 cOf j0c j01 jeT j5e Tryz.func287 (j6 jfM (j6 jkG (j6 jkJ (j6 j2q trivial)))) (j6 (fun h=>by kernel_rfl) (j6 (fun h=>by kernel_rfl) (j6 (fun h=>by kernel_rfl) trivial)))
def j3J:Con:=⟨266,[.v ty61],[ty61],⟨[.own 227 ty12,.v iT],[]⟩,[ty12,iT],fun h=>Pw.j3e h⟩
def jeU:FnD where
 N:=79
 np:=1
 cs:=[j9p,j5e]
 ds:=[⟨0,[.s (.one (.ol 1000000)),sI,.s (.one (.ol 1000001)),sI,sI,.b (.lst 227 ty7 false),.b (.lst 322 ty7 false)],[iT,iT,iT,ty12,ty12],[⟨.ret,[.s (.one (.nil)),sI],[iT]⟩,⟨.exit 0,[.s (.one (.ol 1500100)),.b (.lst 227 ty7 false)],[ty12]⟩],fun h=>Pw.j6a h.1 h.2.1 h.2.2.1 h.2.2.2.1 h.2.2.2.2⟩]
 modes:=[(287,[false]),(288,[false,false,false])]
 keep:=[(0,⟨[6,7,22,23,24],[],[⟨1000000,227,ty7,[.slot 6],false⟩,⟨1000001,322,ty7,[.slot 22],false⟩],[]⟩)]
 keepX:=[(0,.ret,⟨[2,3],[],[],[]⟩),
  (0,.exit 0,⟨[6],[],[⟨1500100,227,ty7,[.slot 6],false⟩],[]⟩)]
 ro:=[true,false]
theorem j9r:Con.OK Tryz.prog j3J:=
 cOf j0c j01 jeU j3J Tryz.func266 (j6 jfM (j6 jdZ trivial)) (j6 (fun h=>by kernel_rfl) trivial)
def jat:Con:=⟨208,[.v ty61],[ty61],⟨[.v iT],[]⟩,[iT],fun h=>Pw.jaZ h⟩
def jkK:FnD where
 N:=11
 np:=1
 cs:=[j3J]
 ds:=[]
 modes:=[(266,[false])]
 ro:=[false]
theorem jjC:Con.OK Tryz.prog jat:=
 cOf j0c j01 jkK jat Tryz.func208 (j6 j9r trivial) trivial
def j3U:Con:=⟨210,[.v ty51],[ty51],⟨[.v .bool],[]⟩,[.bool],fun h=>Pw.j8n h⟩
def jcd:FnD where
 N:=7
 np:=1
 cs:=[]
 ds:=[]
 ro:=[false]
theorem jbD:Con.OK Tryz.prog j3U:=
 cOf j0c j01 jcd j3U Tryz.func210 trivial trivial
def j0I:Con:=⟨267,[.v ty54,.clo 210 []],[ty54],⟨[.v iT],[]⟩,[iT],fun h=>Pw.j0j h⟩
def j3Z:FnD where
 N:=19
 np:=2
 cs:=[j3U]
 ds:=[⟨0,[.s (.one (.d ty54)),.s (.one (.clo 210 [])),sI,sI],[ty54,iT,iT],[⟨.ret,[sI],[iT]⟩,⟨.exit 0,[],[]⟩],fun h=>Pw.j1e h.1 h.2.1 h.2.2⟩]
 modes:=[(210,[false])]
 keep:=[(0,⟨[0,1,7,8],[],[],[]⟩)]
 keepX:=[(0,.ret,⟨[4],[],[],[]⟩),
  (0,.exit 0,⟨[],[],[],[]⟩)]
 ro:=[false]
theorem j3V:Con.OK Tryz.prog j0I:=
 cOf j0c j01 j3Z j0I Tryz.func267 (j6 jbD trivial) (j6 (fun h=>by kernel_rfl) trivial)
def j0A:Con:=⟨209,[.v ty54,.clo 210 []],[ty54],⟨[.v .bool],[]⟩,[.bool],fun h=>Pw.j0d h⟩
def j3C:FnD where
 N:=9
 np:=2
 cs:=[j0I]
 ds:=[]
 modes:=[(267,[false,false])]
 ro:=[false]
theorem j3q:Con.OK Tryz.prog j0A:=
 cOf j0c j01 j3C j0A Tryz.func209 (j6 j3V trivial) trivial
def j4O:Con:=⟨147,[.v ty61],[ty61],⟨[.v iT],[]⟩,[iT],fun h=>Pw.j3N h⟩
def je0:FnD where
 N:=17
 np:=1
 cs:=[jat,j0A]
 ds:=[]
 modes:=[(208,[false]),(209,[false,false])]
 ro:=[false]
theorem jdn:Con.OK Tryz.prog j4O:=
 cOf j0c j01 je0 j4O Tryz.func147 (j6 jjC (j6 j3q trivial)) trivial
def j39:Con:=⟨145,[.v ty62,.clo 146 [],.clo 147 []],[ty62],⟨[.v iT],[]⟩,[iT],fun h=>Pw.j1Z h⟩
def jb3:FnD where
 N:=34
 np:=3
 cs:=[j5d,j2x,j4O]
 ds:=[⟨0,[.s (.one (.clo 146 [])),.s (.one (.clo 147 [])),.s (.one (.ol 1000000)),.s (.one (.d ty62)),sI,sI,.b (.lst 4294967504 (.pair .str .bool) false)],[ty62,iT,iT,(.list (.pair .str .bool))],[⟨.ret,[sI],[iT]⟩,⟨.exit 0,[],[]⟩],fun h=>Pw.j0S h.1 h.2.1 h.2.2.1 h.2.2.2⟩]
 modes:=[(146,[false]),(147,[false]),(148,[false,true])]
 keep:=[(0,⟨[1,2,7,13,14,15],[],[⟨1000000,4294967504,(.pair .str .bool),[.slot 7],false⟩],[]⟩)]
 keepX:=[(0,.ret,⟨[6],[],[],[]⟩),
  (0,.exit 0,⟨[],[],[],[]⟩)]
 ro:=[false]
theorem jau:Con.OK Tryz.prog j39:=
 cOf j0c j01 jb3 j39 Tryz.func145 (j6 jdY (j6 j4L (j6 jdn trivial))) (j6 (fun h=>by kernel_rfl) trivial)
def j24:Con:=⟨212,[.v iT,.v iT],[iT,iT],⟨[.v .bool],[]⟩,[.bool],fun h=>Pw.j3j h.1 h.2⟩
def jht:FnD where
 N:=12
 np:=2
 cs:=[]
 ds:=[]
 ro:=[false]
theorem j4q:Con.OK Tryz.prog j24:=
 cOf j0c j01 jht j24 Tryz.func212 trivial trivial
def j7r:Con:=⟨213,[.v ty12],[ty12],⟨[.v iT],[]⟩,[iT],fun h=>Pw.j8T h⟩
def jkL:FnD where
 N:=46
 np:=1
 cs:=[]
 ds:=[⟨0,[.s (.one (.d ty12)),.s (.one (.d ty12)),sI,sI],[ty12,ty12,iT,iT],[⟨.ret,[sI],[iT]⟩,⟨.exit 0,[],[]⟩],fun h=>Pw.jab h.1 h.2.1 h.2.2.1 h.2.2.2⟩]
 keep:=[(0,⟨[0,8,9,10],[],[],[]⟩)]
 keepX:=[(0,.ret,⟨[2],[],[],[]⟩),
  (0,.exit 0,⟨[],[],[],[]⟩)]
 ro:=[false]
theorem jeV:Con.OK Tryz.prog j7r:=
 cOf j0c j01 jkL j7r Tryz.func213 trivial (j6 (fun h=>by kernel_rfl) trivial)
def j5C:Con:=⟨270,[.v iT,.v iT,.v iT],[iT,iT,iT],⟨[.v .bool],[]⟩,[.bool],fun h=>Pw.j76 h.1 h.2.1 h.2.2⟩
def jkM:FnD where
 N:=15
 np:=3
 cs:=[]
 ds:=[]
 ro:=[false]
theorem jbE:Con.OK Tryz.prog j5C:=
 cOf j0c j01 jkM j5C Tryz.func270 trivial trivial
def j7c:Con:=⟨214,[.v iT],[iT],⟨[.v .bool],[]⟩,[.bool],fun h=>Pw.jbu h⟩
def jhu:FnD where
 N:=10
 np:=1
 cs:=[j5C]
 ds:=[]
 modes:=[(270,[false,false,false])]
 ro:=[false]
theorem jge:Con.OK Tryz.prog j7c:=
 cOf j0c j01 jhu j7c Tryz.func214 (j6 jbE trivial) trivial
def j4a:Con:=⟨149,[.v ty80,.v ty49],[ty80,ty49],⟨[.v iT],[]⟩,[iT],fun h=>Pw.j22 h.1 h.2⟩
def jcU:FnD where
 N:=29
 np:=2
 cs:=[j24,j7r,j7c]
 ds:=[]
 modes:=[(212,[false,false]),(213,[false]),(214,[false])]
 ro:=[false]
theorem jce:Con.OK Tryz.prog j4a:=
 cOf j0c j01 jcU j4a Tryz.func149 (j6 j4q (j6 jeV (j6 jge trivial))) trivial
def j5f:Con:=⟨151,[.v ty22],[ty22],⟨[.v .str],[]⟩,[.str],fun h=>Pw.jc4 h⟩
def jeW:FnD where
 N:=5
 np:=1
 cs:=[]
 ds:=[]
 ro:=[false]
theorem je1:Con.OK Tryz.prog j5f:=
 cOf j0c j01 jeW j5f Tryz.func151 trivial trivial
def jav:Con:=⟨290,[.v iT],[iT],⟨[.v iT],[]⟩,[iT],fun h=>Pw.jb0 h⟩
def jkN:FnD where
 N:=15
 np:=1
 cs:=[j6z,j4M]
 ds:=[⟨0,[sI,sI],[iT,iT],[⟨.exit 0,[sI],[iT]⟩],fun h=>Pw.jac h.1 h.2⟩]
 modes:=[(289,[false]),(301,[false,false])]
 keep:=[(0,⟨[0,3],[],[],[]⟩)]
 keepX:=[(0,.exit 0,⟨[3],[],[],[]⟩)]
 ro:=[false]
theorem jjD:Con.OK Tryz.prog jav:=
 cOf j0c j01 jkN jav Tryz.func290 (j6 jdD (j6 jas trivial)) (j6 (fun h=>by kernel_rfl) trivial)
def j83:Con:=⟨271,[.v iT],[iT],⟨[.v ty20,.v iT],[]⟩,[ty20,iT],fun h=>Pw.j7z h⟩
def ji5:FnD where
 N:=45
 np:=1
 cs:=[j4x,j4M,jav]
 ds:=[⟨0,[.s (.one (.bp 128 0)),.s (.one (.bp 256 0)),sI,.b (.cell [.d iT,.d iT,.d iT] false),.b (.cell [.d iT,.d iT,.d iT] false)],[iT,iT,iT,iT,iT,iT,iT],[⟨.exit 0,[.s (.one (.bp 128 0)),.s (.one (.bp 256 0)),sI,.b (.cell [.d iT,.d iT,.d iT] false),.b (.cell [.d iT,.d iT,.d iT] false)],[iT,iT,iT,iT,iT,iT,iT]⟩],fun h=>Pw.j8o h.1 h.2.1 h.2.2.1 h.2.2.2.1 h.2.2.2.2.1 h.2.2.2.2.2.1 h.2.2.2.2.2.2⟩]
 modes:=[(289,[false]),(290,[false]),(291,[false,false])]
 keep:=[(0,⟨[2,4,5],[128,256],[],[]⟩)]
 keepX:=[(0,.exit 0,⟨[2,4,5],[128,256],[],[]⟩)]
 ro:=[false,false]
theorem jhv:Con.OK Tryz.prog j83:=
 cOf j0c j01 ji5 j83 Tryz.func271 (j6 j8C (j6 jas (j6 jjD trivial))) (j6 (fun h=>by kernel_rfl) trivial)
def j4P:Con:=⟨217,[.v iT],[iT],⟨[.v .bool],[]⟩,[.bool],fun h=>Pw.j47 h⟩
def jjE:FnD where
 N:=12
 np:=1
 cs:=[j83]
 ds:=[]
 modes:=[(271,[false])]
 ro:=[false]
theorem jaw:Con.OK Tryz.prog j4P:=
 cOf j0c j01 jjE j4P Tryz.func217 (j6 jhv trivial) trivial
def j2L:Con:=⟨216,[.v iT],[iT],⟨[.v .bool],[]⟩,[.bool],fun h=>Pw.j1z h⟩
def j9W:FnD where
 N:=6
 np:=1
 cs:=[j4P]
 ds:=[]
 modes:=[(217,[false])]
 ro:=[false]
theorem j9s:Con.OK Tryz.prog j2L:=
 cOf j0c j01 j9W j2L Tryz.func216 (j6 jaw trivial) trivial
def j2M:Con:=⟨192,[.v (.list iT),.clo 216 []],[(.list iT)],⟨[.v iT],[]⟩,[iT],fun h=>Pw.j1A h⟩
def j9X:FnD where
 N:=19
 np:=2
 cs:=[j2L]
 ds:=[⟨0,[.s (.one (.d (.list iT))),.s (.one (.clo 216 [])),sI,sI],[(.list iT),iT,iT],[⟨.ret,[sI],[iT]⟩,⟨.exit 0,[],[]⟩],fun h=>Pw.j0F h.1 h.2.1 h.2.2⟩]
 modes:=[(216,[false])]
 keep:=[(0,⟨[0,1,7,8],[],[],[]⟩)]
 keepX:=[(0,.ret,⟨[4],[],[],[]⟩),
  (0,.exit 0,⟨[],[],[],[]⟩)]
 ro:=[false]
theorem j9t:Con.OK Tryz.prog j2M:=
 cOf j0c j01 j9X j2M Tryz.func192 (j6 j9s trivial) (j6 (fun h=>by kernel_rfl) trivial)
end Go.Proofs.Pk
