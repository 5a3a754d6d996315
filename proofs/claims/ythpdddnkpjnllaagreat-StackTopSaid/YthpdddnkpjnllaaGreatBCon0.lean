/- Contracts: each given function is its plain function, printed by a program. -/
import Derived.Test.YthpdddnkpjnllaaGreatBTab
import Derived.Test.YthpdddnkpjnllaaGreatBSrt
noncomputable section
open Go Go.Lft
set_option linter.unusedVariables false
set_option maxRecDepth 100000
namespace Go.Proofs.Pk
abbrev ty8:Ty:=(.pair iT iT)
abbrev ty12:Ty:=(.list ty8)
abbrev ty20:Ty:=(.pair iT ty8)
abbrev ty22:Ty:=(.pair .str (.pair iT (.list iT)))
abbrev ty25:Ty:=(.pair iT ty12)
abbrev ty24:Ty:=(.list ty20)
abbrev ty26:Ty:=(.list ty22)
abbrev ty29:Ty:=(.list ty25)
abbrev ty37:Ty:=(.pair iT (.pair iT ty20))
abbrev ty39:Ty:=(.list ty37)
abbrev ty48:Ty:=(.pair .str (.pair iT (.pair ty12 (.pair iT (.pair iT .bool)))))
abbrev ty50:Ty:=(.pair iT (.pair iT ty37))
abbrev ty51:Ty:=(.list ty48)
abbrev ty53:Ty:=(.list ty50)
abbrev ty60:Ty:=(.pair .str (.pair iT ty53))
abbrev ty61:Ty:=(.list ty60)
abbrev ty67:Ty:=(.pair .str (.pair iT (.pair ty8 (.pair iT (.pair iT (.pair (.list iT) (.pair ty12 ty8)))))))
abbrev ty68:Ty:=(.list ty67)
abbrev ty72:Ty:=(.pair .str (.pair ty68 ty39))
abbrev ty73:Ty:=(.list ty72)
abbrev ty79:Ty:=(.pair ty61 (.pair ty51 (.pair ty26 ty73)))
abbrev ty81:Ty:=(.pair ty79 ty29)
def j0ay:Con:=⟨10,[.v (.list iT)],[(.list iT)],⟨[.v .bool],[]⟩,[.bool],fun h=>Pw.j0g2 h⟩
def j0jY:FnD where
 N:=6
 np:=1
 cs:=[]
 ds:=[]
 ro:=[false]
theorem j0iT:Con.OK Tryz.prog j0ay:=
 cOf tabOk mixedOk j0jY j0ay Tryz.func10 trivial trivial
def j09J:Con:=⟨51,[],[],⟨[.so [(some 77,ty61),(some 79,ty51),(some 94,ty26),(some 48,ty73)]],[]⟩,[ty61,ty51,ty26,ty73],fun h=>Pw.j0ex⟩
def j0iU:FnD where
 N:=26
 np:=0
 cs:=[]
 ds:=[]
 ro:=[true]
 so:=[.own 77 ty60,.own 79 ty48,.own 94 ty22,.own 48 ty72]
theorem j0hS:Con.OK Tryz.prog j09J:=
 cOf tabOk mixedOk j0iU j09J Tryz.func51 trivial trivial
def j05O:Con:=⟨73,[.v ty60],[ty60],⟨[.v .str],[]⟩,[.str],fun h=>Pw.j08d h⟩
def j0ez:FnD where
 N:=5
 np:=1
 cs:=[]
 ds:=[]
 ro:=[false]
theorem j0dJ:Con.OK Tryz.prog j05O:=
 cOf tabOk mixedOk j0ez j05O Tryz.func73 trivial trivial
def j09K:Con:=⟨172,[.v (.int .u8)],[(.int .u8)],⟨[.v .bool],[]⟩,[.bool],fun h=>Pw.j0a4 h⟩
def j0iV:FnD where
 N:=9
 np:=1
 cs:=[]
 ds:=[]
 ro:=[false]
theorem j0hT:Con.OK Tryz.prog j09K:=
 cOf tabOk mixedOk j0iV j09K Tryz.func172 trivial trivial
def j09L:Con:=⟨173,[.v (.int .u8)],[(.int .u8)],⟨[.v .bool],[]⟩,[.bool],fun h=>Pw.j0ey h⟩
def j0iW:FnD where
 N:=9
 np:=1
 cs:=[]
 ds:=[]
 ro:=[false]
theorem j0hU:Con.OK Tryz.prog j09L:=
 cOf tabOk mixedOk j0iW j09L Tryz.func173 trivial trivial
def j0az:Con:=⟨126,[.v .str],[.str],⟨[.v .bool],[]⟩,[.bool],fun h=>Pw.j047 h⟩
def j0jZ:FnD where
 N:=43
 np:=1
 cs:=[j09K,j09L]
 ds:=[⟨0,[.s (.one (.d .str)),sI,sI],[.str,iT,iT],[⟨.ret,[.s (.one (.d .bool))],[.bool]⟩,⟨.exit 0,[],[]⟩],fun h=>Pw.j04W h.1 h.2.1 h.2.2⟩]
 modes:=[(172,[false]),(173,[false])]
 keep:=[(0,⟨[0,19,20],[],[],[]⟩)]
 keepX:=[(0,.ret,⟨[2],[],[],[]⟩),
  (0,.exit 0,⟨[],[],[],[]⟩)]
 ro:=[false]
theorem j0iX:Con.OK Tryz.prog j0az:=
 cOf tabOk mixedOk j0jZ j0az Tryz.func126 (And.intro j0hT (And.intro j0hU trivial)) (And.intro (fun h=>by kernel_rfl) trivial)
def j02T:Con:=⟨75,[.v .str,.rl 4294967424 (.list (.pair .str .bool))],[.str,(.list (.pair .str .bool))],⟨[.v iT],[.rl (.list (.pair .str .bool))]⟩,[iT,(.list (.pair .str .bool))],fun h=>Pw.j02L h.1 h.2⟩
def j0hV:FnD where
 N:=13
 np:=2
 cs:=[j0az]
 ds:=[]
 modes:=[(126,[false])]
 ro:=[false]
theorem j05q:Con.OK Tryz.prog j02T:=
 cOf tabOk mixedOk j0hV j02T Tryz.func75 (And.intro j0iX trivial) trivial
def j0ah:Con:=⟨220,[.v iT,.v iT,.v iT],[iT,iT,iT],⟨[.v .bool],[]⟩,[.bool],fun h=>Pw.zone_in h.1 h.2.1 h.2.2⟩
def j0o3:FnD where
 N:=15
 np:=3
 cs:=[]
 ds:=[]
 ro:=[false]
theorem j0g9:Con.OK Tryz.prog j0ah:=
 cOf tabOk mixedOk j0o3 j0ah Tryz.func220 trivial trivial
def j0bF:Con:=⟨244,[.v ty50],[ty50],⟨[.v iT],[]⟩,[iT],fun h=>Pw.j0do h⟩
def j0lF:FnD where
 N:=45
 np:=1
 cs:=[j0ah]
 ds:=[]
 modes:=[(220,[false,false,false])]
 ro:=[false]
theorem j0k0:Con.OK Tryz.prog j0bF:=
 cOf tabOk mixedOk j0lF j0bF Tryz.func244 (And.intro j0g9 trivial) trivial
def j0aA:Con:=⟨249,[.v iT],[iT],⟨[.v .bool],[]⟩,[.bool],fun h=>Pw.j0g4 h⟩
def j0k1:FnD where
 N:=16
 np:=1
 cs:=[]
 ds:=[]
 ro:=[false]
theorem j0iY:Con.OK Tryz.prog j0aA:=
 cOf tabOk mixedOk j0k1 j0aA Tryz.func249 trivial trivial
def j054:Con:=⟨223,[.v iT,.v iT],[iT,iT],⟨[.v iT],[]⟩,[iT],fun h=>Pw.j067 h.1 h.2⟩
def j0k2:FnD where
 N:=24
 np:=2
 cs:=[j0aA]
 ds:=[]
 modes:=[(249,[false])]
 ro:=[false]
theorem j09l:Con.OK Tryz.prog j054:=
 cOf tabOk mixedOk j0k2 j054 Tryz.func223 (And.intro j0iY trivial) trivial
def j09M:Con:=⟨269,[.v ty20],[ty20],⟨[.v .bool],[]⟩,[.bool],fun h=>Pw.j0a5 h⟩
def j0iZ:FnD where
 N:=26
 np:=1
 cs:=[j054]
 ds:=[]
 modes:=[(223,[false,false])]
 ro:=[false]
theorem j0hW:Con.OK Tryz.prog j09M:=
 cOf tabOk mixedOk j0iZ j09M Tryz.func269 (And.intro j09l trivial) trivial
def j06W:Con:=⟨248,[.v iT,.v iT],[iT,iT],⟨[.v iT],[]⟩,[iT],fun h=>Pw.j06F h.1 h.2⟩
def j0j0:FnD where
 N:=16
 np:=2
 cs:=[]
 ds:=[]
 ro:=[false]
theorem j0dK:Con.OK Tryz.prog j06W:=
 cOf tabOk mixedOk j0j0 j06W Tryz.func248 trivial trivial
def j05r:Con:=⟨221,[.v iT],[iT],⟨[.v iT],[]⟩,[iT],fun h=>Pw.j04g h⟩
def j0j1:FnD where
 N:=19
 np:=1
 cs:=[j06W]
 ds:=[]
 modes:=[(248,[false,false])]
 ro:=[false]
theorem j0aB:Con.OK Tryz.prog j05r:=
 cOf tabOk mixedOk j0j1 j05r Tryz.func221 (And.intro j0dK trivial) trivial
def j08z:Con:=⟨270,[.v ty20],[ty20],⟨[.v iT],[]⟩,[iT],fun h=>Pw.j05L h⟩
def j0hX:FnD where
 N:=25
 np:=1
 cs:=[j054,j05r]
 ds:=[⟨0,[.s (.one (.bp 64 0)),sI,sI,.b (.cell [.d iT,.d iT,.d iT] false)],[iT,iT,iT,iT,iT],[⟨.exit 0,[sI],[iT]⟩],fun h=>Pw.j02M h.1 h.2.1 h.2.2.1 h.2.2.2.1 h.2.2.2.2⟩]
 modes:=[(221,[false]),(223,[false,false])]
 keep:=[(0,⟨[1,3,4],[64],[],[]⟩)]
 keepX:=[(0,.exit 0,⟨[3],[],[],[]⟩)]
 ro:=[false]
theorem j0gI:Con.OK Tryz.prog j08z:=
 cOf tabOk mixedOk j0hX j08z Tryz.func270 (And.intro j09l (And.intro j0aB trivial)) (And.intro (fun h=>by kernel_rfl) trivial)
def j05E:Con:=⟨230,[.v iT],[iT],⟨[.v iT],[]⟩,[iT],fun h=>Pw.j04A h⟩
def j0gJ:FnD where
 N:=7
 np:=1
 cs:=[]
 ds:=[]
 ro:=[false]
theorem j0bG:Con.OK Tryz.prog j05E:=
 cOf tabOk mixedOk j0gJ j05E Tryz.func230 trivial trivial
def j0bH:Con:=⟨245,[.v iT,.v iT,.v iT,.v iT],[iT,iT,iT,iT],⟨[.v iT,.v iT],[]⟩,[iT,iT],fun h=>Pw.j0ar h.1 h.2.1 h.2.2.1 h.2.2.2⟩
def j0lG:FnD where
 N:=59
 np:=4
 cs:=[j054,j09M,j08z,j05E]
 ds:=[]
 modes:=[(223,[false,false]),(230,[false]),(269,[false]),(270,[false])]
 ro:=[false,false]
theorem j0k3:Con.OK Tryz.prog j0bH:=
 cOf tabOk mixedOk j0lG j0bH Tryz.func245 (And.intro j09l (And.intro j0hW (And.intro j0gI (And.intro j0bG trivial)))) trivial
def j04l:Con:=⟨247,[.v ty8,.v ty8],[ty8,ty8],⟨[.v iT],[]⟩,[iT],fun h=>Pw.j068 h.1 h.2⟩
def j0cy:FnD where
 N:=10
 np:=2
 cs:=[]
 ds:=[]
 ro:=[false]
theorem j0bI:Con.OK Tryz.prog j04l:=
 cOf tabOk mixedOk j0cy j04l Tryz.func247 trivial trivial
def j00R:Con:=⟨278,[.rl 256 ty12,.v iT,.v iT,.clo 247 []],[ty12,iT,iT],⟨[],[.rl ty12]⟩,[ty12],fun h=>Pw.j006 h.1 h.2.1 h.2.2⟩
def j03Q:FnD where
 N:=53
 np:=4
 cs:=[j04l]
 ds:=[⟨0,[.s (.one (.ol 0)),sI,sI,.s (.one (.clo 247 [])),sI,.b (.lst 256 ty8 false)],[iT,iT,iT,ty12],[⟨.exit 0,[.b (.lst 256 ty8 false)],[ty12]⟩],fun h=>Pw.j003 h.1 h.2.1 h.2.2.1 h.2.2.2⟩,
  ⟨2,[.s (.one (.ol 0)),sI,sI,.s (.one (.clo 247 [])),sI,sI,.b (.lst 256 ty8 false)],[iT,iT,iT,iT,ty12],[⟨.exit 2,[.s (.one (.ol 0)),sI,sI,.s (.one (.clo 247 [])),sI,.b (.lst 256 ty8 false)],[iT,iT,iT,ty12]⟩],fun h=>Pw.j00e h.1 h.2.1 h.2.2.1 h.2.2.2.1 h.2.2.2.2⟩]
 modes:=[(247,[false,false])]
 keep:=[(0,⟨[0,1,2,3,8],[0],[],[]⟩),
  (2,⟨[0,1,2,3,8,9],[0],[],[]⟩)]
 keepX:=[(0,.exit 0,⟨[],[0],[],[]⟩),
  (2,.exit 2,⟨[0,1,2,3,8],[0],[],[]⟩)]
 dw:=[(6,[[],[],[],[],[],[],[],[],[],[],[],[],[],[],[],[0],[],[0]])]
theorem j03L:Con.OK Tryz.prog j00R:=
 cOf tabOk mixedOk j03Q j00R Tryz.func278 (And.intro j0bI trivial) (And.intro (fun h=>by kernel_rfl) (And.intro (fun h=>by kernel_rfl) trivial))
def j01k:Con:=⟨271,[.rl 256 ty12,.v iT,.clo 247 []],[ty12,iT],⟨[],[.rl ty12]⟩,[ty12],fun h=>Pw.j00u h.1 h.2⟩
def j05f:FnD where
 N:=63
 np:=3
 cs:=[j00R]
 ds:=[⟨0,[.s (.one (.ol 0)),sI,.s (.one (.clo 247 [])),sI,sI,sI,.b (.lst 256 ty8 false)],[iT,iT,iT,iT,ty12],[⟨.exit 0,[.s (.one (.ol 0)),sI,.s (.one (.clo 247 [])),sI,sI,.b (.lst 256 ty8 false)],[iT,iT,iT,ty12]⟩],fun h=>Pw.j008 h.1 h.2.1 h.2.2.1 h.2.2.2.1 h.2.2.2.2⟩,
  ⟨2,[.s (.one (.ol 0)),sI,.s (.one (.clo 247 [])),sI,.b (.lst 256 ty8 false)],[iT,iT,ty12],[⟨.exit 2,[.b (.lst 256 ty8 false)],[ty12]⟩],fun h=>Pw.j009 h.1 h.2.1 h.2.2⟩,
  ⟨4,[.s (.one (.ol 0)),sI,.s (.one (.clo 247 [])),sI,sI,sI,.b (.lst 256 ty8 false)],[iT,iT,iT,iT,ty12],[⟨.exit 4,[.s (.one (.ol 0)),sI,.s (.one (.clo 247 [])),sI,sI,.b (.lst 256 ty8 false)],[iT,iT,iT,ty12]⟩],fun h=>Pw.j01S h.1 h.2.1 h.2.2.1 h.2.2.2.1 h.2.2.2.2⟩]
 modes:=[(278,[true,false,false,false])]
 keep:=[(0,⟨[0,1,2,6,7,8],[0],[],[]⟩),
  (2,⟨[0,1,2,6],[0],[],[]⟩),
  (4,⟨[0,1,2,6,7,8],[0],[],[]⟩)]
 keepX:=[(0,.exit 0,⟨[0,1,2,6,7],[0],[],[]⟩),
  (2,.exit 2,⟨[],[0],[],[]⟩),
  (4,.exit 4,⟨[0,1,2,6,7],[0],[],[]⟩)]
theorem j055:Con.OK Tryz.prog j01k:=
 cOf tabOk mixedOk j05f j01k Tryz.func271 (And.intro j03L trivial) (And.intro (fun h=>by kernel_rfl) (And.intro (fun h=>by kernel_rfl) (And.intro (fun h=>by kernel_rfl) trivial)))
end Go.Proofs.Pk
