/- Contracts: each given function is its plain function, printed by a program. -/
import Derived.Test.YthpdddnkpjnllaaGreatATab
noncomputable section
open Go Go.Lft
set_option linter.unusedVariables false
set_option maxRecDepth 100000
namespace Go.Proofs.Pk
abbrev ty8:Ty:=(.pair iT iT)
abbrev ty12:Ty:=(.list ty8)
abbrev ty20:Ty:=(.pair iT ty8)
abbrev ty22:Ty:=(.pair .str (.pair iT (.list iT)))
abbrev ty25:Ty:=(.pair iT ty12)
abbrev ty24:Ty:=(.list ty20)
abbrev ty26:Ty:=(.list ty22)
abbrev ty29:Ty:=(.list ty25)
abbrev ty37:Ty:=(.pair iT (.pair iT ty20))
abbrev ty39:Ty:=(.list ty37)
abbrev ty48:Ty:=(.pair .str (.pair iT (.pair ty12 (.pair iT (.pair iT .bool)))))
abbrev ty50:Ty:=(.pair iT (.pair iT ty37))
abbrev ty51:Ty:=(.list ty48)
abbrev ty53:Ty:=(.list ty50)
abbrev ty60:Ty:=(.pair .str (.pair iT ty53))
abbrev ty61:Ty:=(.list ty60)
abbrev ty67:Ty:=(.pair .str (.pair iT (.pair ty8 (.pair iT (.pair iT (.pair (.list iT) (.pair ty12 ty8)))))))
abbrev ty68:Ty:=(.list ty67)
abbrev ty72:Ty:=(.pair .str (.pair ty68 ty39))
abbrev ty73:Ty:=(.list ty72)
abbrev ty79:Ty:=(.pair ty61 (.pair ty51 (.pair ty26 ty73)))
abbrev ty81:Ty:=(.pair ty79 ty29)
def j09E:Con:=⟨10,[.v (.list iT)],[(.list iT)],⟨[.v .bool],[]⟩,[.bool],fun h=>Pw.j0eY h⟩
def j0iF:FnD where
 N:=6
 np:=1
 cs:=[]
 ds:=[]
 ro:=[false]
theorem j0hB:Con.OK Tryz.prog j09E:=
 cOf tabOk mixedOk j0iF j09E Tryz.func10 trivial trivial
def j06u:Con:=⟨35,[.v ty67],[ty67],⟨[.v iT,.v iT],[]⟩,[iT,iT],fun h=>Pw.j07y h⟩
def j0hC:FnD where
 N:=47
 np:=1
 cs:=[]
 ds:=[]
 ro:=[false,false]
theorem j0cQ:Con.OK Tryz.prog j06u:=
 cOf tabOk mixedOk j0hC j06u Tryz.func35 trivial trivial
def j05v:Con:=⟨73,[.v ty60],[ty60],⟨[.v .str],[]⟩,[.str],fun h=>Pw.j07F h⟩
def j0dH:FnD where
 N:=5
 np:=1
 cs:=[]
 ds:=[]
 ro:=[false]
theorem j0cR:Con.OK Tryz.prog j05v:=
 cOf tabOk mixedOk j0dH j05v Tryz.func73 trivial trivial
def j08P:Con:=⟨172,[.v (.int .u8)],[(.int .u8)],⟨[.v .bool],[]⟩,[.bool],fun h=>Pw.j09a h⟩
def j0hD:FnD where
 N:=9
 np:=1
 cs:=[]
 ds:=[]
 ro:=[false]
theorem j0gH:Con.OK Tryz.prog j08P:=
 cOf tabOk mixedOk j0hD j08P Tryz.func172 trivial trivial
def j08Q:Con:=⟨173,[.v (.int .u8)],[(.int .u8)],⟨[.v .bool],[]⟩,[.bool],fun h=>Pw.j0dD h⟩
def j0hE:FnD where
 N:=9
 np:=1
 cs:=[]
 ds:=[]
 ro:=[false]
theorem j0gI:Con.OK Tryz.prog j08Q:=
 cOf tabOk mixedOk j0hE j08Q Tryz.func173 trivial trivial
def j09F:Con:=⟨126,[.v .str],[.str],⟨[.v .bool],[]⟩,[.bool],fun h=>Pw.j054 h⟩
def j0iG:FnD where
 N:=43
 np:=1
 cs:=[j08P,j08Q]
 ds:=[⟨0,[.s (.one (.d .str)),sI,sI],[.str,iT,iT],[⟨.ret,[.s (.one (.d .bool))],[.bool]⟩,⟨.exit 0,[],[]⟩],fun h=>Pw.j04I h.1 h.2.1 h.2.2⟩]
 modes:=[(172,[false]),(173,[false])]
 keep:=[(0,⟨[0,19,20],[],[],[]⟩)]
 keepX:=[(0,.ret,⟨[2],[],[],[]⟩),
  (0,.exit 0,⟨[],[],[],[]⟩)]
 ro:=[false]
theorem j0hF:Con.OK Tryz.prog j09F:=
 cOf tabOk mixedOk j0iG j09F Tryz.func126 (And.intro j0gH (And.intro j0gI trivial)) (And.intro (fun h=>by kernel_rfl) trivial)
def j02H:Con:=⟨75,[.v .str,.rl 4294967424 (.list (.pair .str .bool))],[.str,(.list (.pair .str .bool))],⟨[.v iT],[.rl (.list (.pair .str .bool))]⟩,[iT,(.list (.pair .str .bool))],fun h=>Pw.j02B h.1 h.2⟩
def j0gJ:FnD where
 N:=13
 np:=2
 cs:=[j09F]
 ds:=[]
 modes:=[(126,[false])]
 ro:=[false]
theorem j059:Con.OK Tryz.prog j02H:=
 cOf tabOk mixedOk j0gJ j02H Tryz.func75 (And.intro j0hF trivial) trivial
def j09m:Con:=⟨220,[.v iT,.v iT,.v iT],[iT,iT,iT],⟨[.v .bool],[]⟩,[.bool],fun h=>Pw.zone_in h.1 h.2.1 h.2.2⟩
def j0mU:FnD where
 N:=15
 np:=3
 cs:=[]
 ds:=[]
 ro:=[false]
theorem j0f5:Con.OK Tryz.prog j09m:=
 cOf tabOk mixedOk j0mU j09m Tryz.func220 trivial trivial
def j0aG:Con:=⟨244,[.v ty50],[ty50],⟨[.v iT],[]⟩,[iT],fun h=>Pw.j0ct h⟩
def j0ki:FnD where
 N:=45
 np:=1
 cs:=[j09m]
 ds:=[]
 modes:=[(220,[false,false,false])]
 ro:=[false]
theorem j0iH:Con.OK Tryz.prog j0aG:=
 cOf tabOk mixedOk j0ki j0aG Tryz.func244 (And.intro j0f5 trivial) trivial
def j09G:Con:=⟨249,[.v iT],[iT],⟨[.v .bool],[]⟩,[.bool],fun h=>Pw.j0f0 h⟩
def j0iI:FnD where
 N:=16
 np:=1
 cs:=[]
 ds:=[]
 ro:=[false]
theorem j0hG:Con.OK Tryz.prog j09G:=
 cOf tabOk mixedOk j0iI j09G Tryz.func249 trivial trivial
def j04P:Con:=⟨223,[.v iT,.v iT],[iT,iT],⟨[.v iT],[]⟩,[iT],fun h=>Pw.j05M h.1 h.2⟩
def j0iJ:FnD where
 N:=24
 np:=2
 cs:=[j09G]
 ds:=[]
 modes:=[(249,[false])]
 ro:=[false]
theorem j08w:Con.OK Tryz.prog j04P:=
 cOf tabOk mixedOk j0iJ j04P Tryz.func223 (And.intro j0hG trivial) trivial
def j08R:Con:=⟨269,[.v ty20],[ty20],⟨[.v .bool],[]⟩,[.bool],fun h=>Pw.j09b h⟩
def j0hH:FnD where
 N:=26
 np:=1
 cs:=[j04P]
 ds:=[]
 modes:=[(223,[false,false])]
 ro:=[false]
theorem j0gK:Con.OK Tryz.prog j08R:=
 cOf tabOk mixedOk j0hH j08R Tryz.func269 (And.intro j08w trivial) trivial
def j06v:Con:=⟨248,[.v iT,.v iT],[iT,iT],⟨[.v iT],[]⟩,[iT],fun h=>Pw.j06e h.1 h.2⟩
def j0hI:FnD where
 N:=16
 np:=2
 cs:=[]
 ds:=[]
 ro:=[false]
theorem j0cS:Con.OK Tryz.prog j06v:=
 cOf tabOk mixedOk j0hI j06v Tryz.func248 trivial trivial
def j05a:Con:=⟨221,[.v iT],[iT],⟨[.v iT],[]⟩,[iT],fun h=>Pw.j043 h⟩
def j0hJ:FnD where
 N:=19
 np:=1
 cs:=[j06v]
 ds:=[]
 modes:=[(248,[false,false])]
 ro:=[false]
theorem j09H:Con.OK Tryz.prog j05a:=
 cOf tabOk mixedOk j0hJ j05a Tryz.func221 (And.intro j0cS trivial) trivial
def j07P:Con:=⟨270,[.v ty20],[ty20],⟨[.v iT],[]⟩,[iT],fun h=>Pw.j05q h⟩
def j0gL:FnD where
 N:=25
 np:=1
 cs:=[j04P,j05a]
 ds:=[⟨0,[.s (.one (.bp 64 0)),sI,sI,.b (.cell [.d iT,.d iT,.d iT] false)],[iT,iT,iT,iT,iT],[⟨.exit 0,[sI],[iT]⟩],fun h=>Pw.j02C h.1 h.2.1 h.2.2.1 h.2.2.2.1 h.2.2.2.2⟩]
 modes:=[(221,[false]),(223,[false,false])]
 keep:=[(0,⟨[1,3,4],[64],[],[]⟩)]
 keepX:=[(0,.exit 0,⟨[3],[],[],[]⟩)]
 ro:=[false]
theorem j0fD:Con.OK Tryz.prog j07P:=
 cOf tabOk mixedOk j0gL j07P Tryz.func270 (And.intro j08w (And.intro j09H trivial)) (And.intro (fun h=>by kernel_rfl) trivial)
def j05m:Con:=⟨230,[.v iT],[iT],⟨[.v iT],[]⟩,[iT],fun h=>Pw.j04m h⟩
def j0fE:FnD where
 N:=7
 np:=1
 cs:=[]
 ds:=[]
 ro:=[false]
theorem j0aH:Con.OK Tryz.prog j05m:=
 cOf tabOk mixedOk j0fE j05m Tryz.func230 trivial trivial
def j0aI:Con:=⟨245,[.v iT,.v iT,.v iT,.v iT],[iT,iT,iT,iT],⟨[.v iT,.v iT],[]⟩,[iT,iT],fun h=>Pw.j09w h.1 h.2.1 h.2.2.1 h.2.2.2⟩
def j0kj:FnD where
 N:=59
 np:=4
 cs:=[j04P,j08R,j07P,j05m]
 ds:=[]
 modes:=[(223,[false,false]),(230,[false]),(269,[false]),(270,[false])]
 ro:=[false,false]
theorem j0iK:Con.OK Tryz.prog j0aI:=
 cOf tabOk mixedOk j0kj j0aI Tryz.func245 (And.intro j08w (And.intro j0gK (And.intro j0fD (And.intro j0aH trivial)))) trivial
def j048:Con:=⟨247,[.v ty8,.v ty8],[ty8,ty8],⟨[.v iT],[]⟩,[iT],fun h=>Pw.j05N h.1 h.2⟩
def j0bv:FnD where
 N:=10
 np:=2
 cs:=[]
 ds:=[]
 ro:=[false]
theorem j0aJ:Con.OK Tryz.prog j048:=
 cOf tabOk mixedOk j0bv j048 Tryz.func247 trivial trivial
def j00R:Con:=⟨278,[.rl 256 ty12,.v iT,.v iT,.clo 247 []],[ty12,iT,iT],⟨[],[.rl ty12]⟩,[ty12],fun h=>Pw.j006 h.1 h.2.1 h.2.2⟩
def j03F:FnD where
 N:=53
 np:=4
 cs:=[j048]
 ds:=[⟨0,[.s (.one (.ol 0)),sI,sI,.s (.one (.clo 247 [])),sI,.b (.lst 256 ty8 false)],[iT,iT,iT,ty12],[⟨.exit 0,[.b (.lst 256 ty8 false)],[ty12]⟩],fun h=>Pw.j004 h.1 h.2.1 h.2.2.1 h.2.2.2⟩,
  ⟨2,[.s (.one (.ol 0)),sI,sI,.s (.one (.clo 247 [])),sI,sI,.b (.lst 256 ty8 false)],[iT,iT,iT,iT,ty12],[⟨.exit 2,[.s (.one (.ol 0)),sI,sI,.s (.one (.clo 247 [])),sI,.b (.lst 256 ty8 false)],[iT,iT,iT,ty12]⟩],fun h=>Pw.j00e h.1 h.2.1 h.2.2.1 h.2.2.2.1 h.2.2.2.2⟩]
 modes:=[(247,[false,false])]
 keep:=[(0,⟨[0,1,2,3,8],[0],[],[]⟩),
  (2,⟨[0,1,2,3,8,9],[0],[],[]⟩)]
 keepX:=[(0,.exit 0,⟨[],[0],[],[]⟩),
  (2,.exit 2,⟨[0,1,2,3,8],[0],[],[]⟩)]
 dw:=[(6,[[],[],[],[],[],[],[],[],[],[],[],[],[],[],[],[0],[],[0]])]
theorem j03z:Con.OK Tryz.prog j00R:=
 cOf tabOk mixedOk j03F j00R Tryz.func278 (And.intro j0aJ trivial) (And.intro (fun h=>by kernel_rfl) (And.intro (fun h=>by kernel_rfl) trivial))
def j01g:Con:=⟨271,[.rl 256 ty12,.v iT,.clo 247 []],[ty12,iT],⟨[],[.rl ty12]⟩,[ty12],fun h=>Pw.j00v h.1 h.2⟩
def j04X:FnD where
 N:=63
 np:=3
 cs:=[j00R]
 ds:=[⟨0,[.s (.one (.ol 0)),sI,.s (.one (.clo 247 [])),sI,sI,sI,.b (.lst 256 ty8 false)],[iT,iT,iT,iT,ty12],[⟨.exit 0,[.s (.one (.ol 0)),sI,.s (.one (.clo 247 [])),sI,sI,.b (.lst 256 ty8 false)],[iT,iT,iT,ty12]⟩],fun h=>Pw.j008 h.1 h.2.1 h.2.2.1 h.2.2.2.1 h.2.2.2.2⟩,
  ⟨2,[.s (.one (.ol 0)),sI,.s (.one (.clo 247 [])),sI,.b (.lst 256 ty8 false)],[iT,iT,ty12],[⟨.exit 2,[.b (.lst 256 ty8 false)],[ty12]⟩],fun h=>Pw.j009 h.1 h.2.1 h.2.2⟩,
  ⟨4,[.s (.one (.ol 0)),sI,.s (.one (.clo 247 [])),sI,sI,sI,.b (.lst 256 ty8 false)],[iT,iT,iT,iT,ty12],[⟨.exit 4,[.s (.one (.ol 0)),sI,.s (.one (.clo 247 [])),sI,sI,.b (.lst 256 ty8 false)],[iT,iT,iT,ty12]⟩],fun h=>Pw.j01H h.1 h.2.1 h.2.2.1 h.2.2.2.1 h.2.2.2.2⟩]
 modes:=[(278,[true,false,false,false])]
 keep:=[(0,⟨[0,1,2,6,7,8],[0],[],[]⟩),
  (2,⟨[0,1,2,6],[0],[],[]⟩),
  (4,⟨[0,1,2,6,7,8],[0],[],[]⟩)]
 keepX:=[(0,.exit 0,⟨[0,1,2,6,7],[0],[],[]⟩),
  (2,.exit 2,⟨[],[0],[],[]⟩),
  (4,.exit 4,⟨[0,1,2,6,7],[0],[],[]⟩)]
theorem j04Q:Con.OK Tryz.prog j01g:=
 cOf tabOk mixedOk j04X j01g Tryz.func271 (And.intro j03z trivial) (And.intro (fun h=>by kernel_rfl) (And.intro (fun h=>by kernel_rfl) (And.intro (fun h=>by kernel_rfl) trivial)))
end Go.Proofs.Pk
