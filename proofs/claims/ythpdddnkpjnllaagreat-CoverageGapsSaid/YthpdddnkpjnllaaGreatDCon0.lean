/- Contracts: each given function is its plain function, printed by a program. -/
import Derived.Test.YthpdddnkpjnllaaGreatDTab
import Derived.Test.YthpdddnkpjnllaaGreatDSrt
noncomputable section
open Go Go.Lft
set_option linter.unusedVariables false
set_option maxRecDepth 100000
namespace Go.Proofs.Pk
abbrev ty8:Ty:=(.pair iT iT)
abbrev ty12:Ty:=(.list ty8)
abbrev ty20:Ty:=(.pair iT ty8)
abbrev ty22:Ty:=(.pair .str (.pair iT (.list iT)))
abbrev ty25:Ty:=(.pair iT ty12)
abbrev ty24:Ty:=(.list ty20)
abbrev ty26:Ty:=(.list ty22)
abbrev ty29:Ty:=(.list ty25)
abbrev ty37:Ty:=(.pair iT (.pair iT ty20))
abbrev ty39:Ty:=(.list ty37)
abbrev ty48:Ty:=(.pair .str (.pair iT (.pair ty12 (.pair iT (.pair iT .bool)))))
abbrev ty50:Ty:=(.pair iT (.pair iT ty37))
abbrev ty51:Ty:=(.list ty48)
abbrev ty53:Ty:=(.list ty50)
abbrev ty60:Ty:=(.pair .str (.pair iT ty53))
abbrev ty61:Ty:=(.list ty60)
abbrev ty67:Ty:=(.pair .str (.pair iT (.pair ty8 (.pair iT (.pair iT (.pair (.list iT) (.pair ty12 ty8)))))))
abbrev ty68:Ty:=(.list ty67)
abbrev ty72:Ty:=(.pair .str (.pair ty68 ty39))
abbrev ty73:Ty:=(.list ty72)
abbrev ty79:Ty:=(.pair ty61 (.pair ty51 (.pair ty26 ty73)))
abbrev ty81:Ty:=(.pair ty79 ty29)
def je1:Con:=⟨10,[.v (.list iT)],[(.list iT)],⟨[.v .bool],[]⟩,[.bool],fun h=>Pw.jl5 h⟩
def jrK:FnD where
 N:=6
 np:=1
 cs:=[]
 ds:=[]
 ro:=[false]
theorem jq5:Con.OK Tryz.prog je1:=
 cOf j0a j03 jrK je1 Tryz.func10 trivial trivial
def je2:Con:=⟨62,[.v .bool],[.bool],⟨[.v ty79],[]⟩,[ty79],fun h=>Pw.jl6 h⟩
def jrL:FnD where
 N:=35
 np:=1
 cs:=[]
 ds:=[]
 ro:=[false]
theorem jq6:Con.OK Tryz.prog je2:=
 cOf j0a j03 jrL je2 Tryz.func62 trivial trivial
def j8c:Con:=⟨73,[.v ty60],[ty60],⟨[.v .str],[]⟩,[.str],fun h=>Pw.jbn h⟩
def jk3:FnD where
 N:=5
 np:=1
 cs:=[]
 ds:=[]
 ro:=[false]
theorem jiK:Con.OK Tryz.prog j8c:=
 cOf j0a j03 jk3 j8c Tryz.func73 trivial trivial
def jcO:Con:=⟨172,[.v (.int .u8)],[(.int .u8)],⟨[.v .bool],[]⟩,[.bool],fun h=>Pw.jcq h⟩
def jq7:FnD where
 N:=9
 np:=1
 cs:=[]
 ds:=[]
 ro:=[false]
theorem joj:Con.OK Tryz.prog jcO:=
 cOf j0a j03 jq7 jcO Tryz.func172 trivial trivial
def jcP:Con:=⟨173,[.v (.int .u8)],[(.int .u8)],⟨[.v .bool],[]⟩,[.bool],fun h=>Pw.jiG h⟩
def jq8:FnD where
 N:=9
 np:=1
 cs:=[]
 ds:=[]
 ro:=[false]
theorem jok:Con.OK Tryz.prog jcP:=
 cOf j0a j03 jq8 jcP Tryz.func173 trivial trivial
def je3:Con:=⟨126,[.v .str],[.str],⟨[.v .bool],[]⟩,[.bool],fun h=>Pw.j73 h⟩
def jrM:FnD where
 N:=43
 np:=1
 cs:=[jcO,jcP]
 ds:=[⟨0,[.s (.one (.d .str)),sI,sI],[.str,iT,iT],[⟨.ret,[.s (.one (.d .bool))],[.bool]⟩,⟨.exit 0,[],[]⟩],fun h=>Pw.j7c h.1 h.2.1 h.2.2⟩]
 modes:=[(172,[false]),(173,[false])]
 keep:=[(0,⟨[0,19,20],[],[],[]⟩)]
 keepX:=[(0,.ret,⟨[2],[],[],[]⟩),
  (0,.exit 0,⟨[],[],[],[]⟩)]
 ro:=[false]
theorem jq9:Con.OK Tryz.prog je3:=
 cOf j0a j03 jrM je3 Tryz.func126 (j9 joj (j9 jok trivial)) (j9 (fun h=>by kernel_rfl) trivial)
def j4i:Con:=⟨75,[.v .str,.rl 4294967424 (.list (.pair .str .bool))],[.str,(.list (.pair .str .bool))],⟨[.v iT],[.rl (.list (.pair .str .bool))]⟩,[iT,(.list (.pair .str .bool))],fun h=>Pw.j3Q h.1 h.2⟩
def jol:FnD where
 N:=13
 np:=2
 cs:=[je3]
 ds:=[]
 modes:=[(126,[false])]
 ro:=[false]
theorem j7H:Con.OK Tryz.prog j4i:=
 cOf j0a j03 jol j4i Tryz.func75 (j9 jq9 trivial) trivial
def jcQ:Con:=⟨220,[.v iT,.v iT,.v iT],[iT,iT,iT],⟨[.v .bool],[]⟩,[.bool],fun h=>Pw.jbo h.1 h.2.1 h.2.2⟩
def jxI:FnD where
 N:=15
 np:=3
 cs:=[]
 ds:=[]
 ro:=[false]
theorem jlb:Con.OK Tryz.prog jcQ:=
 cOf j0a j03 jxI jcQ Tryz.func220 trivial trivial
def jfp:Con:=⟨244,[.v ty50],[ty50],⟨[.v iT],[]⟩,[iT],fun h=>Pw.jgM h⟩
def jtq:FnD where
 N:=45
 np:=1
 cs:=[jcQ]
 ds:=[]
 modes:=[(220,[false,false,false])]
 ro:=[false]
theorem jrN:Con.OK Tryz.prog jfp:=
 cOf j0a j03 jtq jfp Tryz.func244 (j9 jlb trivial) trivial
def je4:Con:=⟨249,[.v iT],[iT],⟨[.v .bool],[]⟩,[.bool],fun h=>Pw.jl7 h⟩
def jrO:FnD where
 N:=16
 np:=1
 cs:=[]
 ds:=[]
 ro:=[false]
theorem jqa:Con.OK Tryz.prog je4:=
 cOf j0a j03 jrO je4 Tryz.func249 trivial trivial
def j77:Con:=⟨223,[.v iT,.v iT],[iT,iT],⟨[.v iT],[]⟩,[iT],fun h=>Pw.j7U h.1 h.2⟩
def jrP:FnD where
 N:=24
 np:=2
 cs:=[je4]
 ds:=[]
 modes:=[(249,[false])]
 ro:=[false]
theorem jc2:Con.OK Tryz.prog j77:=
 cOf j0a j03 jrP j77 Tryz.func223 (j9 jqa trivial) trivial
def jcR:Con:=⟨269,[.v ty20],[ty20],⟨[.v .bool],[]⟩,[.bool],fun h=>Pw.jcr h⟩
def jqb:FnD where
 N:=26
 np:=1
 cs:=[j77]
 ds:=[]
 modes:=[(223,[false,false])]
 ro:=[false]
theorem jom:Con.OK Tryz.prog jcR:=
 cOf j0a j03 jqb jcR Tryz.func269 (j9 jc2 trivial) trivial
def j9x:Con:=⟨248,[.v iT,.v iT],[iT,iT],⟨[.v iT],[]⟩,[iT],fun h=>Pw.j8R h.1 h.2⟩
def jqc:FnD where
 N:=16
 np:=2
 cs:=[]
 ds:=[]
 ro:=[false]
theorem jik:Con.OK Tryz.prog j9x:=
 cOf j0a j03 jqc j9x Tryz.func248 trivial trivial
def j7I:Con:=⟨221,[.v iT],[iT],⟨[.v iT],[]⟩,[iT],fun h=>Pw.j5y h⟩
def jqd:FnD where
 N:=19
 np:=1
 cs:=[j9x]
 ds:=[]
 modes:=[(248,[false,false])]
 ro:=[false]
theorem je5:Con.OK Tryz.prog j7I:=
 cOf j0a j03 jqd j7I Tryz.func221 (j9 jik trivial) trivial
def jbs:Con:=⟨270,[.v ty20],[ty20],⟨[.v iT],[]⟩,[iT],fun h=>Pw.j7p h⟩
def jon:FnD where
 N:=25
 np:=1
 cs:=[j77,j7I]
 ds:=[⟨0,[.s (.one (.bp 64 0)),sI,sI,.b (.cell [.d iT,.d iT,.d iT] false)],[iT,iT,iT,iT,iT],[⟨.exit 0,[sI],[iT]⟩],fun h=>Pw.j4n h.1 h.2.1 h.2.2.1 h.2.2.2.1 h.2.2.2.2⟩]
 modes:=[(221,[false]),(223,[false,false])]
 keep:=[(0,⟨[1,3,4],[64],[],[]⟩)]
 keepX:=[(0,.exit 0,⟨[3],[],[],[]⟩)]
 ro:=[false]
theorem jno:Con.OK Tryz.prog jbs:=
 cOf j0a j03 jon jbs Tryz.func270 (j9 jc2 (j9 je5 trivial)) (j9 (fun h=>by kernel_rfl) trivial)
def j7Y:Con:=⟨230,[.v iT],[iT],⟨[.v iT],[]⟩,[iT],fun h=>Pw.j6n h⟩
def jnp:FnD where
 N:=7
 np:=1
 cs:=[]
 ds:=[]
 ro:=[false]
theorem jg9:Con.OK Tryz.prog j7Y:=
 cOf j0a j03 jnp j7Y Tryz.func230 trivial trivial
def jfq:Con:=⟨245,[.v iT,.v iT,.v iT,.v iT],[iT,iT,iT,iT],⟨[.v iT,.v iT],[]⟩,[iT,iT],fun h=>Pw.jcs h.1 h.2.1 h.2.2.1 h.2.2.2⟩
def jtr:FnD where
 N:=59
 np:=4
 cs:=[j77,jcR,jbs,j7Y]
 ds:=[]
 modes:=[(223,[false,false]),(230,[false]),(269,[false]),(270,[false])]
 ro:=[false,false]
theorem jrQ:Con.OK Tryz.prog jfq:=
 cOf j0a j03 jtr jfq Tryz.func245 (j9 jc2 (j9 jom (j9 jno (j9 jg9 trivial)))) trivial
def j6u:Con:=⟨247,[.v ty8,.v ty8],[ty8,ty8],⟨[.v iT],[]⟩,[iT],fun h=>Pw.j8S h.1 h.2⟩
def jh3:FnD where
 N:=10
 np:=2
 cs:=[]
 ds:=[]
 ro:=[false]
theorem jge:Con.OK Tryz.prog j6u:=
 cOf j0a j03 jh3 j6u Tryz.func247 trivial trivial
def j1A:Con:=⟨278,[.rl 256 ty12,.v iT,.v iT,.clo 247 []],[ty12,iT,iT],⟨[],[.rl ty12]⟩,[ty12],fun h=>Pw.j0e h.1 h.2.1 h.2.2⟩
def j6b:FnD where
 N:=53
 np:=4
 cs:=[j6u]
 ds:=[⟨0,[.s (.one (.ol 0)),sI,sI,.s (.one (.clo 247 [])),sI,.b (.lst 256 ty8 false)],[iT,iT,iT,ty12],[⟨.exit 0,[.b (.lst 256 ty8 false)],[ty12]⟩],fun h=>Pw.j09 h.1 h.2.1 h.2.2.1 h.2.2.2⟩,
  ⟨2,[.s (.one (.ol 0)),sI,sI,.s (.one (.clo 247 [])),sI,sI,.b (.lst 256 ty8 false)],[iT,iT,iT,iT,ty12],[⟨.exit 2,[.s (.one (.ol 0)),sI,sI,.s (.one (.clo 247 [])),sI,.b (.lst 256 ty8 false)],[iT,iT,iT,ty12]⟩],fun h=>Pw.j0p h.1 h.2.1 h.2.2.1 h.2.2.2.1 h.2.2.2.2⟩]
 modes:=[(247,[false,false])]
 keep:=[(0,⟨[0,1,2,3,8],[0],[],[]⟩),
  (2,⟨[0,1,2,3,8,9],[0],[],[]⟩)]
 keepX:=[(0,.exit 0,⟨[],[0],[],[]⟩),
  (2,.exit 2,⟨[0,1,2,3,8],[0],[],[]⟩)]
 dw:=[(6,[[],[],[],[],[],[],[],[],[],[],[],[],[],[],[],[0],[],[0]])]
theorem j5K:Con.OK Tryz.prog j1A:=
 cOf j0a j03 j6b j1A Tryz.func278 (j9 jge trivial) (j9 (fun h=>by kernel_rfl) (j9 (fun h=>by kernel_rfl) trivial))
def j2e:Con:=⟨271,[.rl 256 ty12,.v iT,.clo 247 []],[ty12,iT],⟨[],[.rl ty12]⟩,[ty12],fun h=>Pw.j0P h.1 h.2⟩
def j7Z:FnD where
 N:=63
 np:=3
 cs:=[j1A]
 ds:=[⟨0,[.s (.one (.ol 0)),sI,.s (.one (.clo 247 [])),sI,sI,sI,.b (.lst 256 ty8 false)],[iT,iT,iT,iT,ty12],[⟨.exit 0,[.s (.one (.ol 0)),sI,.s (.one (.clo 247 [])),sI,sI,.b (.lst 256 ty8 false)],[iT,iT,iT,ty12]⟩],fun h=>Pw.j0f h.1 h.2.1 h.2.2.1 h.2.2.2.1 h.2.2.2.2⟩,
  ⟨2,[.s (.one (.ol 0)),sI,.s (.one (.clo 247 [])),sI,.b (.lst 256 ty8 false)],[iT,iT,ty12],[⟨.exit 2,[.b (.lst 256 ty8 false)],[ty12]⟩],fun h=>Pw.j0g h.1 h.2.1 h.2.2⟩,
  ⟨4,[.s (.one (.ol 0)),sI,.s (.one (.clo 247 [])),sI,sI,sI,.b (.lst 256 ty8 false)],[iT,iT,iT,iT,ty12],[⟨.exit 4,[.s (.one (.ol 0)),sI,.s (.one (.clo 247 [])),sI,sI,.b (.lst 256 ty8 false)],[iT,iT,iT,ty12]⟩],fun h=>Pw.j3a h.1 h.2.1 h.2.2.1 h.2.2.2.1 h.2.2.2.2⟩]
 modes:=[(278,[true,false,false,false])]
 keep:=[(0,⟨[0,1,2,6,7,8],[0],[],[]⟩),
  (2,⟨[0,1,2,6],[0],[],[]⟩),
  (4,⟨[0,1,2,6,7,8],[0],[],[]⟩)]
 keepX:=[(0,.exit 0,⟨[0,1,2,6,7],[0],[],[]⟩),
  (2,.exit 2,⟨[],[0],[],[]⟩),
  (4,.exit 4,⟨[0,1,2,6,7],[0],[],[]⟩)]
theorem j7J:Con.OK Tryz.prog j2e:=
 cOf j0a j03 j7Z j2e Tryz.func271 (j9 j5K trivial) (j9 (fun h=>by kernel_rfl) (j9 (fun h=>by kernel_rfl) (j9 (fun h=>by kernel_rfl) trivial)))
end Go.Proofs.Pk
