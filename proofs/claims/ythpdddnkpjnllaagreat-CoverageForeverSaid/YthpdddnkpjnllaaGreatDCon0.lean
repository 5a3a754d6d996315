/- Contracts: each given function is its plain function, printed by a program. -/
import Derived.Test.YthpdddnkpjnllaaGreatDTab
import Derived.Test.YthpdddnkpjnllaaGreatDSrt
noncomputable section
open Go Go.Lft
set_option linter.unusedVariables false
set_option maxRecDepth 100000
namespace Go.Proofs.Pk
abbrev ty8:Ty:=(.pair iT iT)
abbrev ty12:Ty:=(.list ty8)
abbrev ty20:Ty:=(.pair iT ty8)
abbrev ty22:Ty:=(.pair .str (.pair iT (.list iT)))
abbrev ty25:Ty:=(.pair iT ty12)
abbrev ty24:Ty:=(.list ty20)
abbrev ty26:Ty:=(.list ty22)
abbrev ty29:Ty:=(.list ty25)
abbrev ty37:Ty:=(.pair iT (.pair iT ty20))
abbrev ty39:Ty:=(.list ty37)
abbrev ty48:Ty:=(.pair .str (.pair iT (.pair ty12 (.pair iT (.pair iT .bool)))))
abbrev ty50:Ty:=(.pair iT (.pair iT ty37))
abbrev ty51:Ty:=(.list ty48)
abbrev ty53:Ty:=(.list ty50)
abbrev ty60:Ty:=(.pair .str (.pair iT ty53))
abbrev ty61:Ty:=(.list ty60)
abbrev ty67:Ty:=(.pair .str (.pair iT (.pair ty8 (.pair iT (.pair iT (.pair (.list iT) (.pair ty12 ty8)))))))
abbrev ty68:Ty:=(.list ty67)
abbrev ty72:Ty:=(.pair .str (.pair ty68 ty39))
abbrev ty73:Ty:=(.list ty72)
abbrev ty79:Ty:=(.pair ty61 (.pair ty51 (.pair ty26 ty73)))
abbrev ty81:Ty:=(.pair ty79 ty29)
def je6:Con:=⟨10,[.v (.list iT)],[(.list iT)],⟨[.v .bool],[]⟩,[.bool],fun h=>Pw.jl4 h⟩
def jrH:FnD where
 N:=6
 np:=1
 cs:=[]
 ds:=[]
 ro:=[false]
theorem jq1:Con.OK Tryz.prog je6:=
 cOf j0a j03 jrH je6 Tryz.func10 trivial trivial
def je7:Con:=⟨62,[.v .bool],[.bool],⟨[.v ty79],[]⟩,[ty79],fun h=>Pw.jl5 h⟩
def jrI:FnD where
 N:=35
 np:=1
 cs:=[]
 ds:=[]
 ro:=[false]
theorem jq2:Con.OK Tryz.prog je7:=
 cOf j0a j03 jrI je7 Tryz.func62 trivial trivial
def j8n:Con:=⟨73,[.v ty60],[ty60],⟨[.v .str],[]⟩,[.str],fun h=>Pw.jby h⟩
def jk6:FnD where
 N:=5
 np:=1
 cs:=[]
 ds:=[]
 ro:=[false]
theorem jiR:Con.OK Tryz.prog j8n:=
 cOf j0a j03 jk6 j8n Tryz.func73 trivial trivial
def jcU:Con:=⟨172,[.v (.int .u8)],[(.int .u8)],⟨[.v .bool],[]⟩,[.bool],fun h=>Pw.jcy h⟩
def jq3:FnD where
 N:=9
 np:=1
 cs:=[]
 ds:=[]
 ro:=[false]
theorem joe:Con.OK Tryz.prog jcU:=
 cOf j0a j03 jq3 jcU Tryz.func172 trivial trivial
def jcV:Con:=⟨173,[.v (.int .u8)],[(.int .u8)],⟨[.v .bool],[]⟩,[.bool],fun h=>Pw.jiN h⟩
def jq4:FnD where
 N:=9
 np:=1
 cs:=[]
 ds:=[]
 ro:=[false]
theorem jof:Con.OK Tryz.prog jcV:=
 cOf j0a j03 jq4 jcV Tryz.func173 trivial trivial
def je8:Con:=⟨126,[.v .str],[.str],⟨[.v .bool],[]⟩,[.bool],fun h=>Pw.j7a h⟩
def jrJ:FnD where
 N:=43
 np:=1
 cs:=[jcU,jcV]
 ds:=[⟨0,[.s (.one (.d .str)),sI,sI],[.str,iT,iT],[⟨.ret,[.s (.one (.d .bool))],[.bool]⟩,⟨.exit 0,[],[]⟩],fun h=>Pw.j7i h.1 h.2.1 h.2.2⟩]
 modes:=[(172,[false]),(173,[false])]
 keep:=[(0,⟨[0,19,20],[],[],[]⟩)]
 keepX:=[(0,.ret,⟨[2],[],[],[]⟩),
  (0,.exit 0,⟨[],[],[],[]⟩)]
 ro:=[false]
theorem jq5:Con.OK Tryz.prog je8:=
 cOf j0a j03 jrJ je8 Tryz.func126 (j9 joe (j9 jof trivial)) (j9 (fun h=>by kernel_rfl) trivial)
def j4r:Con:=⟨75,[.v .str,.rl 4294967424 (.list (.pair .str .bool))],[.str,(.list (.pair .str .bool))],⟨[.v iT],[.rl (.list (.pair .str .bool))]⟩,[iT,(.list (.pair .str .bool))],fun h=>Pw.j40 h.1 h.2⟩
def jog:FnD where
 N:=13
 np:=2
 cs:=[je8]
 ds:=[]
 modes:=[(126,[false])]
 ro:=[false]
theorem j7P:Con.OK Tryz.prog j4r:=
 cOf j0a j03 jog j4r Tryz.func75 (j9 jq5 trivial) trivial
def jcW:Con:=⟨220,[.v iT,.v iT,.v iT],[iT,iT,iT],⟨[.v .bool],[]⟩,[.bool],fun h=>Pw.jbz h.1 h.2.1 h.2.2⟩
def jxz:FnD where
 N:=15
 np:=3
 cs:=[]
 ds:=[]
 ro:=[false]
theorem jla:Con.OK Tryz.prog jcW:=
 cOf j0a j03 jxz jcW Tryz.func220 trivial trivial
def jfw:Con:=⟨244,[.v ty50],[ty50],⟨[.v iT],[]⟩,[iT],fun h=>Pw.jgV h⟩
def jtk:FnD where
 N:=45
 np:=1
 cs:=[jcW]
 ds:=[]
 modes:=[(220,[false,false,false])]
 ro:=[false]
theorem jrK:Con.OK Tryz.prog jfw:=
 cOf j0a j03 jtk jfw Tryz.func244 (j9 jla trivial) trivial
def je9:Con:=⟨249,[.v iT],[iT],⟨[.v .bool],[]⟩,[.bool],fun h=>Pw.jl6 h⟩
def jrL:FnD where
 N:=16
 np:=1
 cs:=[]
 ds:=[]
 ro:=[false]
theorem jq6:Con.OK Tryz.prog je9:=
 cOf j0a j03 jrL je9 Tryz.func249 trivial trivial
def j7d:Con:=⟨223,[.v iT,.v iT],[iT,iT],⟨[.v iT],[]⟩,[iT],fun h=>Pw.j83 h.1 h.2⟩
def jrM:FnD where
 N:=24
 np:=2
 cs:=[je9]
 ds:=[]
 modes:=[(249,[false])]
 ro:=[false]
theorem jcb:Con.OK Tryz.prog j7d:=
 cOf j0a j03 jrM j7d Tryz.func223 (j9 jq6 trivial) trivial
def jcX:Con:=⟨269,[.v ty20],[ty20],⟨[.v .bool],[]⟩,[.bool],fun h=>Pw.jcz h⟩
def jq7:FnD where
 N:=26
 np:=1
 cs:=[j7d]
 ds:=[]
 modes:=[(223,[false,false])]
 ro:=[false]
theorem joh:Con.OK Tryz.prog jcX:=
 cOf j0a j03 jq7 jcX Tryz.func269 (j9 jcb trivial) trivial
def j9H:Con:=⟨248,[.v iT,.v iT],[iT,iT],⟨[.v iT],[]⟩,[iT],fun h=>Pw.j93 h.1 h.2⟩
def jq8:FnD where
 N:=16
 np:=2
 cs:=[]
 ds:=[]
 ro:=[false]
theorem jir:Con.OK Tryz.prog j9H:=
 cOf j0a j03 jq8 j9H Tryz.func248 trivial trivial
def j7Q:Con:=⟨221,[.v iT],[iT],⟨[.v iT],[]⟩,[iT],fun h=>Pw.j5I h⟩
def jq9:FnD where
 N:=19
 np:=1
 cs:=[j9H]
 ds:=[]
 modes:=[(248,[false,false])]
 ro:=[false]
theorem jea:Con.OK Tryz.prog j7Q:=
 cOf j0a j03 jq9 j7Q Tryz.func221 (j9 jir trivial) trivial
def jbD:Con:=⟨270,[.v ty20],[ty20],⟨[.v iT],[]⟩,[iT],fun h=>Pw.j7v h⟩
def joi:FnD where
 N:=25
 np:=1
 cs:=[j7d,j7Q]
 ds:=[⟨0,[.s (.one (.bp 64 0)),sI,sI,.b (.cell [.d iT,.d iT,.d iT] false)],[iT,iT,iT,iT,iT],[⟨.exit 0,[sI],[iT]⟩],fun h=>Pw.j4w h.1 h.2.1 h.2.2.1 h.2.2.2.1 h.2.2.2.2⟩]
 modes:=[(221,[false]),(223,[false,false])]
 keep:=[(0,⟨[1,3,4],[64],[],[]⟩)]
 keepX:=[(0,.exit 0,⟨[3],[],[],[]⟩)]
 ro:=[false]
theorem jni:Con.OK Tryz.prog jbD:=
 cOf j0a j03 joi jbD Tryz.func270 (j9 jcb (j9 jea trivial)) (j9 (fun h=>by kernel_rfl) trivial)
def j89:Con:=⟨230,[.v iT],[iT],⟨[.v iT],[]⟩,[iT],fun h=>Pw.j6u h⟩
def jnj:FnD where
 N:=7
 np:=1
 cs:=[]
 ds:=[]
 ro:=[false]
theorem jgh:Con.OK Tryz.prog j89:=
 cOf j0a j03 jnj j89 Tryz.func230 trivial trivial
def jfx:Con:=⟨245,[.v iT,.v iT,.v iT,.v iT],[iT,iT,iT,iT],⟨[.v iT,.v iT],[]⟩,[iT,iT],fun h=>Pw.jcA h.1 h.2.1 h.2.2.1 h.2.2.2⟩
def jtl:FnD where
 N:=59
 np:=4
 cs:=[j7d,jcX,jbD,j89]
 ds:=[]
 modes:=[(223,[false,false]),(230,[false]),(269,[false]),(270,[false])]
 ro:=[false,false]
theorem jrN:Con.OK Tryz.prog jfx:=
 cOf j0a j03 jtl jfx Tryz.func245 (j9 jcb (j9 joh (j9 jni (j9 jgh trivial)))) trivial
def j6A:Con:=⟨247,[.v ty8,.v ty8],[ty8,ty8],⟨[.v iT],[]⟩,[iT],fun h=>Pw.j94 h.1 h.2⟩
def jh9:FnD where
 N:=10
 np:=2
 cs:=[]
 ds:=[]
 ro:=[false]
theorem jgn:Con.OK Tryz.prog j6A:=
 cOf j0a j03 jh9 j6A Tryz.func247 trivial trivial
def j1D:Con:=⟨278,[.rl 256 ty12,.v iT,.v iT,.clo 247 []],[ty12,iT,iT],⟨[],[.rl ty12]⟩,[ty12],fun h=>Pw.j0e h.1 h.2.1 h.2.2⟩
def j6j:FnD where
 N:=53
 np:=4
 cs:=[j6A]
 ds:=[⟨0,[.s (.one (.ol 0)),sI,sI,.s (.one (.clo 247 [])),sI,.b (.lst 256 ty8 false)],[iT,iT,iT,ty12],[⟨.exit 0,[.b (.lst 256 ty8 false)],[ty12]⟩],fun h=>Pw.j09 h.1 h.2.1 h.2.2.1 h.2.2.2⟩,
  ⟨2,[.s (.one (.ol 0)),sI,sI,.s (.one (.clo 247 [])),sI,sI,.b (.lst 256 ty8 false)],[iT,iT,iT,iT,ty12],[⟨.exit 2,[.s (.one (.ol 0)),sI,sI,.s (.one (.clo 247 [])),sI,.b (.lst 256 ty8 false)],[iT,iT,iT,ty12]⟩],fun h=>Pw.j0r h.1 h.2.1 h.2.2.1 h.2.2.2.1 h.2.2.2.2⟩]
 modes:=[(247,[false,false])]
 keep:=[(0,⟨[0,1,2,3,8],[0],[],[]⟩),
  (2,⟨[0,1,2,3,8,9],[0],[],[]⟩)]
 keepX:=[(0,.exit 0,⟨[],[0],[],[]⟩),
  (2,.exit 2,⟨[0,1,2,3,8],[0],[],[]⟩)]
 dw:=[(6,[[],[],[],[],[],[],[],[],[],[],[],[],[],[],[],[0],[],[0]])]
theorem j5U:Con.OK Tryz.prog j1D:=
 cOf j0a j03 j6j j1D Tryz.func278 (j9 jgn trivial) (j9 (fun h=>by kernel_rfl) (j9 (fun h=>by kernel_rfl) trivial))
def j2i:Con:=⟨271,[.rl 256 ty12,.v iT,.clo 247 []],[ty12,iT],⟨[],[.rl ty12]⟩,[ty12],fun h=>Pw.j0P h.1 h.2⟩
def j8a:FnD where
 N:=63
 np:=3
 cs:=[j1D]
 ds:=[⟨0,[.s (.one (.ol 0)),sI,.s (.one (.clo 247 [])),sI,sI,sI,.b (.lst 256 ty8 false)],[iT,iT,iT,iT,ty12],[⟨.exit 0,[.s (.one (.ol 0)),sI,.s (.one (.clo 247 [])),sI,sI,.b (.lst 256 ty8 false)],[iT,iT,iT,ty12]⟩],fun h=>Pw.j0f h.1 h.2.1 h.2.2.1 h.2.2.2.1 h.2.2.2.2⟩,
  ⟨2,[.s (.one (.ol 0)),sI,.s (.one (.clo 247 [])),sI,.b (.lst 256 ty8 false)],[iT,iT,ty12],[⟨.exit 2,[.b (.lst 256 ty8 false)],[ty12]⟩],fun h=>Pw.j0g h.1 h.2.1 h.2.2⟩,
  ⟨4,[.s (.one (.ol 0)),sI,.s (.one (.clo 247 [])),sI,sI,sI,.b (.lst 256 ty8 false)],[iT,iT,iT,iT,ty12],[⟨.exit 4,[.s (.one (.ol 0)),sI,.s (.one (.clo 247 [])),sI,sI,.b (.lst 256 ty8 false)],[iT,iT,iT,ty12]⟩],fun h=>Pw.j3j h.1 h.2.1 h.2.2.1 h.2.2.2.1 h.2.2.2.2⟩]
 modes:=[(278,[true,false,false,false])]
 keep:=[(0,⟨[0,1,2,6,7,8],[0],[],[]⟩),
  (2,⟨[0,1,2,6],[0],[],[]⟩),
  (4,⟨[0,1,2,6,7,8],[0],[],[]⟩)]
 keepX:=[(0,.exit 0,⟨[0,1,2,6,7],[0],[],[]⟩),
  (2,.exit 2,⟨[],[0],[],[]⟩),
  (4,.exit 4,⟨[0,1,2,6,7],[0],[],[]⟩)]
theorem j7R:Con.OK Tryz.prog j2i:=
 cOf j0a j03 j8a j2i Tryz.func271 (j9 j5U trivial) (j9 (fun h=>by kernel_rfl) (j9 (fun h=>by kernel_rfl) (j9 (fun h=>by kernel_rfl) trivial)))
end Go.Proofs.Pk
