/- Contracts: each given function is its plain function, printed by a program. -/
import Derived.Test.YthpdddnkpjnllaaGreatCTab
import Derived.Test.YthpdddnkpjnllaaGreatCSrt
noncomputable section
open Go Go.Lft
set_option linter.unusedVariables false
set_option maxRecDepth 100000
namespace Go.Proofs.Pk
abbrev ty8:Ty:=(.pair iT iT)
abbrev ty12:Ty:=(.list ty8)
abbrev ty20:Ty:=(.pair iT ty8)
abbrev ty22:Ty:=(.pair .str (.pair iT (.list iT)))
abbrev ty25:Ty:=(.pair iT ty12)
abbrev ty24:Ty:=(.list ty20)
abbrev ty26:Ty:=(.list ty22)
abbrev ty29:Ty:=(.list ty25)
abbrev ty37:Ty:=(.pair iT (.pair iT ty20))
abbrev ty39:Ty:=(.list ty37)
abbrev ty48:Ty:=(.pair .str (.pair iT (.pair ty12 (.pair iT (.pair iT .bool)))))
abbrev ty50:Ty:=(.pair iT (.pair iT ty37))
abbrev ty51:Ty:=(.list ty48)
abbrev ty53:Ty:=(.list ty50)
abbrev ty60:Ty:=(.pair .str (.pair iT ty53))
abbrev ty61:Ty:=(.list ty60)
abbrev ty67:Ty:=(.pair .str (.pair iT (.pair ty8 (.pair iT (.pair iT (.pair (.list iT) (.pair ty12 ty8)))))))
abbrev ty68:Ty:=(.list ty67)
abbrev ty72:Ty:=(.pair .str (.pair ty68 ty39))
abbrev ty73:Ty:=(.list ty72)
abbrev ty79:Ty:=(.pair ty61 (.pair ty51 (.pair ty26 ty73)))
abbrev ty81:Ty:=(.pair ty79 ty29)
def j09n:Con:=⟨10,[.v (.list iT)],[(.list iT)],⟨[.v .bool],[]⟩,[.bool],fun h=>Pw.j0dA h⟩
def j0gY:FnD where
 N:=6
 np:=1
 cs:=[]
 ds:=[]
 ro:=[false]
theorem j0g4:Con.OK Tryz.prog j09n:=
 cOf tabOk mixedOk j0gY j09n Tryz.func10 trivial trivial
def j08C:Con:=⟨51,[],[],⟨[.so [(some 77,ty61),(some 79,ty51),(some 94,ty26),(some 48,ty73)]],[]⟩,[ty61,ty51,ty26,ty73],fun h=>Pw.j0ci⟩
def j0g5:FnD where
 N:=26
 np:=0
 cs:=[]
 ds:=[]
 ro:=[true]
 so:=[.own 77 ty60,.own 79 ty48,.own 94 ty22,.own 48 ty72]
theorem j0f6:Con.OK Tryz.prog j08C:=
 cOf tabOk mixedOk j0g5 j08C Tryz.func51 trivial trivial
def j05B:Con:=⟨73,[.v ty60],[ty60],⟨[.v .str],[]⟩,[.str],fun h=>Pw.j07E h⟩
def j0cm:FnD where
 N:=5
 np:=1
 cs:=[]
 ds:=[]
 ro:=[false]
theorem j0bw:Con.OK Tryz.prog j05B:=
 cOf tabOk mixedOk j0cm j05B Tryz.func73 trivial trivial
def j08D:Con:=⟨172,[.v (.int .u8)],[(.int .u8)],⟨[.v .bool],[]⟩,[.bool],fun h=>Pw.j0cj h⟩
def j0g6:FnD where
 N:=9
 np:=1
 cs:=[]
 ds:=[]
 ro:=[false]
theorem j0f7:Con.OK Tryz.prog j08D:=
 cOf tabOk mixedOk j0g6 j08D Tryz.func172 trivial trivial
def j08E:Con:=⟨173,[.v (.int .u8)],[(.int .u8)],⟨[.v .bool],[]⟩,[.bool],fun h=>Pw.j0eH h⟩
def j0g7:FnD where
 N:=9
 np:=1
 cs:=[]
 ds:=[]
 ro:=[false]
theorem j0f8:Con.OK Tryz.prog j08E:=
 cOf tabOk mixedOk j0g7 j08E Tryz.func173 trivial trivial
def j09o:Con:=⟨126,[.v .str],[.str],⟨[.v .bool],[]⟩,[.bool],fun h=>Pw.j06C h⟩
def j0gZ:FnD where
 N:=43
 np:=1
 cs:=[j08D,j08E]
 ds:=[⟨0,[.s (.one (.d .str)),sI,sI],[.str,iT,iT],[⟨.ret,[.s (.one (.d .bool))],[.bool]⟩,⟨.exit 0,[],[]⟩],fun h=>Pw.j08X h.1 h.2.1 h.2.2⟩]
 modes:=[(172,[false]),(173,[false])]
 keep:=[(0,⟨[0,19,20],[],[],[]⟩)]
 keepX:=[(0,.ret,⟨[2],[],[],[]⟩),
  (0,.exit 0,⟨[],[],[],[]⟩)]
 ro:=[false]
theorem j0g8:Con.OK Tryz.prog j09o:=
 cOf tabOk mixedOk j0gZ j09o Tryz.func126 (And.intro j0f7 (And.intro j0f8 trivial)) (And.intro (fun h=>by kernel_rfl) trivial)
def j03e:Con:=⟨75,[.v .str,.rl 4294967424 (.list (.pair .str .bool))],[.str,(.list (.pair .str .bool))],⟨[.v iT],[.rl (.list (.pair .str .bool))]⟩,[iT,(.list (.pair .str .bool))],fun h=>Pw.j033 h.1 h.2⟩
def j0f9:FnD where
 N:=13
 np:=2
 cs:=[j09o]
 ds:=[]
 modes:=[(126,[false])]
 ro:=[false]
theorem j05f:Con.OK Tryz.prog j03e:=
 cOf tabOk mixedOk j0f9 j03e Tryz.func75 (And.intro j0g8 trivial) trivial
def j099:Con:=⟨220,[.v iT,.v iT,.v iT],[iT,iT,iT],⟨[.v .bool],[]⟩,[.bool],fun h=>Pw.zone_in h.1 h.2.1 h.2.2⟩
def j0kk:FnD where
 N:=15
 np:=3
 cs:=[]
 ds:=[]
 ro:=[false]
theorem j0dD:Con.OK Tryz.prog j099:=
 cOf tabOk mixedOk j0kk j099 Tryz.func220 trivial trivial
def j0ae:Con:=⟨244,[.v ty50],[ty50],⟨[.v iT],[]⟩,[iT],fun h=>Pw.j0br h⟩
def j0im:FnD where
 N:=45
 np:=1
 cs:=[j099]
 ds:=[]
 modes:=[(220,[false,false,false])]
 ro:=[false]
theorem j0h0:Con.OK Tryz.prog j0ae:=
 cOf tabOk mixedOk j0im j0ae Tryz.func244 (And.intro j0dD trivial) trivial
def j09p:Con:=⟨249,[.v iT],[iT],⟨[.v .bool],[]⟩,[.bool],fun h=>Pw.j0dB h⟩
def j0h1:FnD where
 N:=16
 np:=1
 cs:=[]
 ds:=[]
 ro:=[false]
theorem j0g9:Con.OK Tryz.prog j09p:=
 cOf tabOk mixedOk j0h1 j09p Tryz.func249 trivial trivial
def j04Y:Con:=⟨223,[.v iT,.v iT],[iT,iT],⟨[.v iT],[]⟩,[iT],fun h=>Pw.j05Z h.1 h.2⟩
def j0h2:FnD where
 N:=24
 np:=2
 cs:=[j09p]
 ds:=[]
 modes:=[(249,[false])]
 ro:=[false]
theorem j08p:Con.OK Tryz.prog j04Y:=
 cOf tabOk mixedOk j0h2 j04Y Tryz.func223 (And.intro j0g9 trivial) trivial
def j08F:Con:=⟨269,[.v ty20],[ty20],⟨[.v .bool],[]⟩,[.bool],fun h=>Pw.j08Y h⟩
def j0ga:FnD where
 N:=26
 np:=1
 cs:=[j04Y]
 ds:=[]
 modes:=[(223,[false,false])]
 ro:=[false]
theorem j0fa:Con.OK Tryz.prog j08F:=
 cOf tabOk mixedOk j0ga j08F Tryz.func269 (And.intro j08p trivial) trivial
def j06z:Con:=⟨248,[.v iT,.v iT],[iT,iT],⟨[.v iT],[]⟩,[iT],fun h=>Pw.j06n h.1 h.2⟩
def j0gb:FnD where
 N:=16
 np:=2
 cs:=[]
 ds:=[]
 ro:=[false]
theorem j0bx:Con.OK Tryz.prog j06z:=
 cOf tabOk mixedOk j0gb j06z Tryz.func248 trivial trivial
def j05g:Con:=⟨221,[.v iT],[iT],⟨[.v iT],[]⟩,[iT],fun h=>Pw.j04l h⟩
def j0gc:FnD where
 N:=19
 np:=1
 cs:=[j06z]
 ds:=[]
 modes:=[(248,[false,false])]
 ro:=[false]
theorem j09q:Con.OK Tryz.prog j05g:=
 cOf tabOk mixedOk j0gc j05g Tryz.func221 (And.intro j0bx trivial) trivial
def j07N:Con:=⟨270,[.v ty20],[ty20],⟨[.v iT],[]⟩,[iT],fun h=>Pw.j05x h⟩
def j0fb:FnD where
 N:=25
 np:=1
 cs:=[j04Y,j05g]
 ds:=[⟨0,[.s (.one (.bp 64 0)),sI,sI,.b (.cell [.d iT,.d iT,.d iT] false)],[iT,iT,iT,iT,iT],[⟨.exit 0,[sI],[iT]⟩],fun h=>Pw.j034 h.1 h.2.1 h.2.2.1 h.2.2.2.1 h.2.2.2.2⟩]
 modes:=[(221,[false]),(223,[false,false])]
 keep:=[(0,⟨[1,3,4],[64],[],[]⟩)]
 keepX:=[(0,.exit 0,⟨[3],[],[],[]⟩)]
 ro:=[false]
theorem j0e7:Con.OK Tryz.prog j07N:=
 cOf tabOk mixedOk j0fb j07N Tryz.func270 (And.intro j08p (And.intro j09q trivial)) (And.intro (fun h=>by kernel_rfl) trivial)
def j05r:Con:=⟨230,[.v iT],[iT],⟨[.v iT],[]⟩,[iT],fun h=>Pw.j05R h⟩
def j0e8:FnD where
 N:=7
 np:=1
 cs:=[]
 ds:=[]
 ro:=[false]
theorem j0af:Con.OK Tryz.prog j05r:=
 cOf tabOk mixedOk j0e8 j05r Tryz.func230 trivial trivial
def j0ag:Con:=⟨245,[.v iT,.v iT,.v iT,.v iT],[iT,iT,iT,iT],⟨[.v iT,.v iT],[]⟩,[iT,iT],fun h=>Pw.j09j h.1 h.2.1 h.2.2.1 h.2.2.2⟩
def j0in:FnD where
 N:=59
 np:=4
 cs:=[j04Y,j08F,j07N,j05r]
 ds:=[]
 modes:=[(223,[false,false]),(230,[false]),(269,[false]),(270,[false])]
 ro:=[false,false]
theorem j0h3:Con.OK Tryz.prog j0ag:=
 cOf tabOk mixedOk j0in j0ag Tryz.func245 (And.intro j08p (And.intro j0fa (And.intro j0e7 (And.intro j0af trivial)))) trivial
def j04u:Con:=⟨247,[.v ty8,.v ty8],[ty8,ty8],⟨[.v iT],[]⟩,[iT],fun h=>Pw.j060 h.1 h.2⟩
def j0aK:FnD where
 N:=10
 np:=2
 cs:=[]
 ds:=[]
 ro:=[false]
theorem j0ah:Con.OK Tryz.prog j04u:=
 cOf tabOk mixedOk j0aK j04u Tryz.func247 trivial trivial
def j00Z:Con:=⟨278,[.rl 256 ty12,.v iT,.v iT,.clo 247 []],[ty12,iT,iT],⟨[],[.rl ty12]⟩,[ty12],fun h=>Pw.j006 h.1 h.2.1 h.2.2⟩
def j041:FnD where
 N:=53
 np:=4
 cs:=[j04u]
 ds:=[⟨0,[.s (.one (.ol 0)),sI,sI,.s (.one (.clo 247 [])),sI,.b (.lst 256 ty8 false)],[iT,iT,iT,ty12],[⟨.exit 0,[.b (.lst 256 ty8 false)],[ty12]⟩],fun h=>Pw.j003 h.1 h.2.1 h.2.2.1 h.2.2.2⟩,
  ⟨2,[.s (.one (.ol 0)),sI,sI,.s (.one (.clo 247 [])),sI,sI,.b (.lst 256 ty8 false)],[iT,iT,iT,iT,ty12],[⟨.exit 2,[.s (.one (.ol 0)),sI,sI,.s (.one (.clo 247 [])),sI,.b (.lst 256 ty8 false)],[iT,iT,iT,ty12]⟩],fun h=>Pw.j00e h.1 h.2.1 h.2.2.1 h.2.2.2.1 h.2.2.2.2⟩]
 modes:=[(247,[false,false])]
 keep:=[(0,⟨[0,1,2,3,8],[0],[],[]⟩),
  (2,⟨[0,1,2,3,8,9],[0],[],[]⟩)]
 keepX:=[(0,.exit 0,⟨[],[0],[],[]⟩),
  (2,.exit 2,⟨[0,1,2,3,8],[0],[],[]⟩)]
 dw:=[(6,[[],[],[],[],[],[],[],[],[],[],[],[],[],[],[],[0],[],[0]])]
theorem j03X:Con.OK Tryz.prog j00Z:=
 cOf tabOk mixedOk j041 j00Z Tryz.func278 (And.intro j0ah trivial) (And.intro (fun h=>by kernel_rfl) (And.intro (fun h=>by kernel_rfl) trivial))
def j01B:Con:=⟨271,[.rl 256 ty12,.v iT,.clo 247 []],[ty12,iT],⟨[],[.rl ty12]⟩,[ty12],fun h=>Pw.j00B h.1 h.2⟩
def j058:FnD where
 N:=63
 np:=3
 cs:=[j00Z]
 ds:=[⟨0,[.s (.one (.ol 0)),sI,.s (.one (.clo 247 [])),sI,sI,sI,.b (.lst 256 ty8 false)],[iT,iT,iT,iT,ty12],[⟨.exit 0,[.s (.one (.ol 0)),sI,.s (.one (.clo 247 [])),sI,sI,.b (.lst 256 ty8 false)],[iT,iT,iT,ty12]⟩],fun h=>Pw.j008 h.1 h.2.1 h.2.2.1 h.2.2.2.1 h.2.2.2.2⟩,
  ⟨2,[.s (.one (.ol 0)),sI,.s (.one (.clo 247 [])),sI,.b (.lst 256 ty8 false)],[iT,iT,ty12],[⟨.exit 2,[.b (.lst 256 ty8 false)],[ty12]⟩],fun h=>Pw.j009 h.1 h.2.1 h.2.2⟩,
  ⟨4,[.s (.one (.ol 0)),sI,.s (.one (.clo 247 [])),sI,sI,sI,.b (.lst 256 ty8 false)],[iT,iT,iT,iT,ty12],[⟨.exit 4,[.s (.one (.ol 0)),sI,.s (.one (.clo 247 [])),sI,sI,.b (.lst 256 ty8 false)],[iT,iT,iT,ty12]⟩],fun h=>Pw.j026 h.1 h.2.1 h.2.2.1 h.2.2.2.1 h.2.2.2.2⟩]
 modes:=[(278,[true,false,false,false])]
 keep:=[(0,⟨[0,1,2,6,7,8],[0],[],[]⟩),
  (2,⟨[0,1,2,6],[0],[],[]⟩),
  (4,⟨[0,1,2,6,7,8],[0],[],[]⟩)]
 keepX:=[(0,.exit 0,⟨[0,1,2,6,7],[0],[],[]⟩),
  (2,.exit 2,⟨[],[0],[],[]⟩),
  (4,.exit 4,⟨[0,1,2,6,7],[0],[],[]⟩)]
theorem j04Z:Con.OK Tryz.prog j01B:=
 cOf tabOk mixedOk j058 j01B Tryz.func271 (And.intro j03X trivial) (And.intro (fun h=>by kernel_rfl) (And.intro (fun h=>by kernel_rfl) (And.intro (fun h=>by kernel_rfl) trivial)))
end Go.Proofs.Pk
