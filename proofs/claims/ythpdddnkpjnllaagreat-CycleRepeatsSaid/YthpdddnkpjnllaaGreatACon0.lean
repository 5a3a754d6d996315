/- Contracts: each given function is its plain function, printed by a program. -/
import Derived.Test.YthpdddnkpjnllaaGreatATab
noncomputable section
open Go Go.Lft
set_option linter.unusedVariables false
set_option maxRecDepth 100000
namespace Go.Proofs.Pk
abbrev ty8:Ty:=(.pair iT iT)
abbrev ty12:Ty:=(.list ty8)
abbrev ty20:Ty:=(.pair iT ty8)
abbrev ty22:Ty:=(.pair .str (.pair iT (.list iT)))
abbrev ty25:Ty:=(.pair iT ty12)
abbrev ty24:Ty:=(.list ty20)
abbrev ty26:Ty:=(.list ty22)
abbrev ty29:Ty:=(.list ty25)
abbrev ty37:Ty:=(.pair iT (.pair iT ty20))
abbrev ty39:Ty:=(.list ty37)
abbrev ty48:Ty:=(.pair .str (.pair iT (.pair ty12 (.pair iT (.pair iT .bool)))))
abbrev ty50:Ty:=(.pair iT (.pair iT ty37))
abbrev ty51:Ty:=(.list ty48)
abbrev ty53:Ty:=(.list ty50)
abbrev ty60:Ty:=(.pair .str (.pair iT ty53))
abbrev ty61:Ty:=(.list ty60)
abbrev ty67:Ty:=(.pair .str (.pair iT (.pair ty8 (.pair iT (.pair iT (.pair (.list iT) (.pair ty12 ty8)))))))
abbrev ty68:Ty:=(.list ty67)
abbrev ty72:Ty:=(.pair .str (.pair ty68 ty39))
abbrev ty73:Ty:=(.list ty72)
abbrev ty79:Ty:=(.pair ty61 (.pair ty51 (.pair ty26 ty73)))
abbrev ty81:Ty:=(.pair ty79 ty29)
def j09t:Con:=⟨10,[.v (.list iT)],[(.list iT)],⟨[.v .bool],[]⟩,[.bool],fun h=>Pw.j0eU h⟩
def j0iz:FnD where
 N:=6
 np:=1
 cs:=[]
 ds:=[]
 ro:=[false]
theorem j0hv:Con.OK Tryz.prog j09t:=
 cOf tabOk mixedOk j0iz j09t Tryz.func10 trivial trivial
def j06q:Con:=⟨35,[.v ty67],[ty67],⟨[.v iT,.v iT],[]⟩,[iT,iT],fun h=>Pw.j07s h⟩
def j0hw:FnD where
 N:=47
 np:=1
 cs:=[]
 ds:=[]
 ro:=[false,false]
theorem j0cN:Con.OK Tryz.prog j06q:=
 cOf tabOk mixedOk j0hw j06q Tryz.func35 trivial trivial
def j05n:Con:=⟨73,[.v ty60],[ty60],⟨[.v .str],[]⟩,[.str],fun h=>Pw.j07y h⟩
def j0dC:FnD where
 N:=5
 np:=1
 cs:=[]
 ds:=[]
 ro:=[false]
theorem j0cO:Con.OK Tryz.prog j05n:=
 cOf tabOk mixedOk j0dC j05n Tryz.func73 trivial trivial
def j08F:Con:=⟨172,[.v (.int .u8)],[(.int .u8)],⟨[.v .bool],[]⟩,[.bool],fun h=>Pw.j08Z h⟩
def j0hx:FnD where
 N:=9
 np:=1
 cs:=[]
 ds:=[]
 ro:=[false]
theorem j0gC:Con.OK Tryz.prog j08F:=
 cOf tabOk mixedOk j0hx j08F Tryz.func172 trivial trivial
def j08G:Con:=⟨173,[.v (.int .u8)],[(.int .u8)],⟨[.v .bool],[]⟩,[.bool],fun h=>Pw.j0dA h⟩
def j0hy:FnD where
 N:=9
 np:=1
 cs:=[]
 ds:=[]
 ro:=[false]
theorem j0gD:Con.OK Tryz.prog j08G:=
 cOf tabOk mixedOk j0hy j08G Tryz.func173 trivial trivial
def j09u:Con:=⟨126,[.v .str],[.str],⟨[.v .bool],[]⟩,[.bool],fun h=>Pw.j04V h⟩
def j0iA:FnD where
 N:=43
 np:=1
 cs:=[j08F,j08G]
 ds:=[⟨0,[.s (.one (.d .str)),sI,sI],[.str,iT,iT],[⟨.ret,[.s (.one (.d .bool))],[.bool]⟩,⟨.exit 0,[],[]⟩],fun h=>Pw.j04z h.1 h.2.1 h.2.2⟩]
 modes:=[(172,[false]),(173,[false])]
 keep:=[(0,⟨[0,19,20],[],[],[]⟩)]
 keepX:=[(0,.ret,⟨[2],[],[],[]⟩),
  (0,.exit 0,⟨[],[],[],[]⟩)]
 ro:=[false]
theorem j0hz:Con.OK Tryz.prog j09u:=
 cOf tabOk mixedOk j0iA j09u Tryz.func126 (And.intro j0gC (And.intro j0gD trivial)) (And.intro (fun h=>by kernel_rfl) trivial)
def j02x:Con:=⟨75,[.v .str,.rl 4294967424 (.list (.pair .str .bool))],[.str,(.list (.pair .str .bool))],⟨[.v iT],[.rl (.list (.pair .str .bool))]⟩,[iT,(.list (.pair .str .bool))],fun h=>Pw.j02t h.1 h.2⟩
def j0gE:FnD where
 N:=13
 np:=2
 cs:=[j09u]
 ds:=[]
 modes:=[(126,[false])]
 ro:=[false]
theorem j052:Con.OK Tryz.prog j02x:=
 cOf tabOk mixedOk j0gE j02x Tryz.func75 (And.intro j0hz trivial) trivial
def j09d:Con:=⟨220,[.v iT,.v iT,.v iT],[iT,iT,iT],⟨[.v .bool],[]⟩,[.bool],fun h=>Pw.zone_in h.1 h.2.1 h.2.2⟩
def j0mM:FnD where
 N:=15
 np:=3
 cs:=[]
 ds:=[]
 ro:=[false]
theorem j0f3:Con.OK Tryz.prog j09d:=
 cOf tabOk mixedOk j0mM j09d Tryz.func220 trivial trivial
def j0ax:Con:=⟨244,[.v ty50],[ty50],⟨[.v iT],[]⟩,[iT],fun h=>Pw.j0cn h⟩
def j0kd:FnD where
 N:=45
 np:=1
 cs:=[j09d]
 ds:=[]
 modes:=[(220,[false,false,false])]
 ro:=[false]
theorem j0iB:Con.OK Tryz.prog j0ax:=
 cOf tabOk mixedOk j0kd j0ax Tryz.func244 (And.intro j0f3 trivial) trivial
def j09v:Con:=⟨249,[.v iT],[iT],⟨[.v .bool],[]⟩,[.bool],fun h=>Pw.j0eW h⟩
def j0iC:FnD where
 N:=16
 np:=1
 cs:=[]
 ds:=[]
 ro:=[false]
theorem j0hA:Con.OK Tryz.prog j09v:=
 cOf tabOk mixedOk j0iC j09v Tryz.func249 trivial trivial
def j04G:Con:=⟨223,[.v iT,.v iT],[iT,iT],⟨[.v iT],[]⟩,[iT],fun h=>Pw.j05E h.1 h.2⟩
def j0iD:FnD where
 N:=24
 np:=2
 cs:=[j09v]
 ds:=[]
 modes:=[(249,[false])]
 ro:=[false]
theorem j08o:Con.OK Tryz.prog j04G:=
 cOf tabOk mixedOk j0iD j04G Tryz.func223 (And.intro j0hA trivial) trivial
def j08H:Con:=⟨269,[.v ty20],[ty20],⟨[.v .bool],[]⟩,[.bool],fun h=>Pw.j090 h⟩
def j0hB:FnD where
 N:=26
 np:=1
 cs:=[j04G]
 ds:=[]
 modes:=[(223,[false,false])]
 ro:=[false]
theorem j0gF:Con.OK Tryz.prog j08H:=
 cOf tabOk mixedOk j0hB j08H Tryz.func269 (And.intro j08o trivial) trivial
def j06r:Con:=⟨248,[.v iT,.v iT],[iT,iT],⟨[.v iT],[]⟩,[iT],fun h=>Pw.j06a h.1 h.2⟩
def j0hC:FnD where
 N:=16
 np:=2
 cs:=[]
 ds:=[]
 ro:=[false]
theorem j0cP:Con.OK Tryz.prog j06r:=
 cOf tabOk mixedOk j0hC j06r Tryz.func248 trivial trivial
def j053:Con:=⟨221,[.v iT],[iT],⟨[.v iT],[]⟩,[iT],fun h=>Pw.j03S h⟩
def j0hD:FnD where
 N:=19
 np:=1
 cs:=[j06r]
 ds:=[]
 modes:=[(248,[false,false])]
 ro:=[false]
theorem j09w:Con.OK Tryz.prog j053:=
 cOf tabOk mixedOk j0hD j053 Tryz.func221 (And.intro j0cP trivial) trivial
def j07I:Con:=⟨270,[.v ty20],[ty20],⟨[.v iT],[]⟩,[iT],fun h=>Pw.j05j h⟩
def j0gG:FnD where
 N:=25
 np:=1
 cs:=[j04G,j053]
 ds:=[⟨0,[.s (.one (.bp 64 0)),sI,sI,.b (.cell [.d iT,.d iT,.d iT] false)],[iT,iT,iT,iT,iT],[⟨.exit 0,[sI],[iT]⟩],fun h=>Pw.j02u h.1 h.2.1 h.2.2.1 h.2.2.2.1 h.2.2.2.2⟩]
 modes:=[(221,[false]),(223,[false,false])]
 keep:=[(0,⟨[1,3,4],[64],[],[]⟩)]
 keepX:=[(0,.exit 0,⟨[3],[],[],[]⟩)]
 ro:=[false]
theorem j0fz:Con.OK Tryz.prog j07I:=
 cOf tabOk mixedOk j0gG j07I Tryz.func270 (And.intro j08o (And.intro j09w trivial)) (And.intro (fun h=>by kernel_rfl) trivial)
def j05f:Con:=⟨230,[.v iT],[iT],⟨[.v iT],[]⟩,[iT],fun h=>Pw.j04c h⟩
def j0fA:FnD where
 N:=7
 np:=1
 cs:=[]
 ds:=[]
 ro:=[false]
theorem j0ay:Con.OK Tryz.prog j05f:=
 cOf tabOk mixedOk j0fA j05f Tryz.func230 trivial trivial
def j0az:Con:=⟨245,[.v iT,.v iT,.v iT,.v iT],[iT,iT,iT,iT],⟨[.v iT,.v iT],[]⟩,[iT,iT],fun h=>Pw.j09m h.1 h.2.1 h.2.2.1 h.2.2.2⟩
def j0ke:FnD where
 N:=59
 np:=4
 cs:=[j04G,j08H,j07I,j05f]
 ds:=[]
 modes:=[(223,[false,false]),(230,[false]),(269,[false]),(270,[false])]
 ro:=[false,false]
theorem j0iE:Con.OK Tryz.prog j0az:=
 cOf tabOk mixedOk j0ke j0az Tryz.func245 (And.intro j08o (And.intro j0gF (And.intro j0fz (And.intro j0ay trivial)))) trivial
def j03X:Con:=⟨247,[.v ty8,.v ty8],[ty8,ty8],⟨[.v iT],[]⟩,[iT],fun h=>Pw.j05F h.1 h.2⟩
def j0bm:FnD where
 N:=10
 np:=2
 cs:=[]
 ds:=[]
 ro:=[false]
theorem j0aA:Con.OK Tryz.prog j03X:=
 cOf tabOk mixedOk j0bm j03X Tryz.func247 trivial trivial
def j00O:Con:=⟨278,[.rl 256 ty12,.v iT,.v iT,.clo 247 []],[ty12,iT,iT],⟨[],[.rl ty12]⟩,[ty12],fun h=>Pw.j006 h.1 h.2.1 h.2.2⟩
def j03w:FnD where
 N:=53
 np:=4
 cs:=[j03X]
 ds:=[⟨0,[.s (.one (.ol 0)),sI,sI,.s (.one (.clo 247 [])),sI,.b (.lst 256 ty8 false)],[iT,iT,iT,ty12],[⟨.exit 0,[.b (.lst 256 ty8 false)],[ty12]⟩],fun h=>Pw.j004 h.1 h.2.1 h.2.2.1 h.2.2.2⟩,
  ⟨2,[.s (.one (.ol 0)),sI,sI,.s (.one (.clo 247 [])),sI,sI,.b (.lst 256 ty8 false)],[iT,iT,iT,iT,ty12],[⟨.exit 2,[.s (.one (.ol 0)),sI,sI,.s (.one (.clo 247 [])),sI,.b (.lst 256 ty8 false)],[iT,iT,iT,ty12]⟩],fun h=>Pw.j00e h.1 h.2.1 h.2.2.1 h.2.2.2.1 h.2.2.2.2⟩]
 modes:=[(247,[false,false])]
 keep:=[(0,⟨[0,1,2,3,8],[0],[],[]⟩),
  (2,⟨[0,1,2,3,8,9],[0],[],[]⟩)]
 keepX:=[(0,.exit 0,⟨[],[0],[],[]⟩),
  (2,.exit 2,⟨[0,1,2,3,8],[0],[],[]⟩)]
 dw:=[(6,[[],[],[],[],[],[],[],[],[],[],[],[],[],[],[],[0],[],[0]])]
theorem j03q:Con.OK Tryz.prog j00O:=
 cOf tabOk mixedOk j03w j00O Tryz.func278 (And.intro j0aA trivial) (And.intro (fun h=>by kernel_rfl) (And.intro (fun h=>by kernel_rfl) trivial))
def j01e:Con:=⟨271,[.rl 256 ty12,.v iT,.clo 247 []],[ty12,iT],⟨[],[.rl ty12]⟩,[ty12],fun h=>Pw.j00v h.1 h.2⟩
def j04O:FnD where
 N:=63
 np:=3
 cs:=[j00O]
 ds:=[⟨0,[.s (.one (.ol 0)),sI,.s (.one (.clo 247 [])),sI,sI,sI,.b (.lst 256 ty8 false)],[iT,iT,iT,iT,ty12],[⟨.exit 0,[.s (.one (.ol 0)),sI,.s (.one (.clo 247 [])),sI,sI,.b (.lst 256 ty8 false)],[iT,iT,iT,ty12]⟩],fun h=>Pw.j008 h.1 h.2.1 h.2.2.1 h.2.2.2.1 h.2.2.2.2⟩,
  ⟨2,[.s (.one (.ol 0)),sI,.s (.one (.clo 247 [])),sI,.b (.lst 256 ty8 false)],[iT,iT,ty12],[⟨.exit 2,[.b (.lst 256 ty8 false)],[ty12]⟩],fun h=>Pw.j009 h.1 h.2.1 h.2.2⟩,
  ⟨4,[.s (.one (.ol 0)),sI,.s (.one (.clo 247 [])),sI,sI,sI,.b (.lst 256 ty8 false)],[iT,iT,iT,iT,ty12],[⟨.exit 4,[.s (.one (.ol 0)),sI,.s (.one (.clo 247 [])),sI,sI,.b (.lst 256 ty8 false)],[iT,iT,iT,ty12]⟩],fun h=>Pw.j01D h.1 h.2.1 h.2.2.1 h.2.2.2.1 h.2.2.2.2⟩]
 modes:=[(278,[true,false,false,false])]
 keep:=[(0,⟨[0,1,2,6,7,8],[0],[],[]⟩),
  (2,⟨[0,1,2,6],[0],[],[]⟩),
  (4,⟨[0,1,2,6,7,8],[0],[],[]⟩)]
 keepX:=[(0,.exit 0,⟨[0,1,2,6,7],[0],[],[]⟩),
  (2,.exit 2,⟨[],[0],[],[]⟩),
  (4,.exit 4,⟨[0,1,2,6,7],[0],[],[]⟩)]
theorem j04H:Con.OK Tryz.prog j01e:=
 cOf tabOk mixedOk j04O j01e Tryz.func271 (And.intro j03q trivial) (And.intro (fun h=>by kernel_rfl) (And.intro (fun h=>by kernel_rfl) (And.intro (fun h=>by kernel_rfl) trivial)))
end Go.Proofs.Pk
