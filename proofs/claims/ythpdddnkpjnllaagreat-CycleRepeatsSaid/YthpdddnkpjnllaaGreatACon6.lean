/- Contracts: each given function is its plain function, printed by a program. -/
import Derived.Test.YthpdddnkpjnllaaGreatACon5
noncomputable section
open Go Go.Lft
set_option linter.unusedVariables false
set_option maxRecDepth 100000
namespace Go.Proofs.Pk
def j0bU:Con:=⟨178,[.v .str],[.str],⟨[.v .bool],[]⟩,[.bool],fun h=>Pw.j0gz h⟩
def j0lI:FnD where
 N:=57
 np:=1
 cs:=[j0aM]
 ds:=[⟨0,[.s (.one (.d .str)),sI],[.str,iT],[⟨.ret,[.s (.one (.d .bool))],[.bool]⟩,⟨.exit 0,[],[]⟩],fun h=>Pw.j04h h.1 h.2⟩]
 modes:=[(224,[false])]
 keep:=[(0,⟨[0,3],[],[],[]⟩)]
 keepX:=[(0,.ret,⟨[2],[],[],[]⟩),
  (0,.exit 0,⟨[],[],[],[]⟩)]
 ro:=[false]
theorem j0kn:Con.OK Tryz.prog j0bU:=
 cOf tabOk mixedOk j0lI j0bU Tryz.func178 (And.intro j0iV trivial) (And.intro (fun h=>by kernel_rfl) trivial)
def j06i:Con:=⟨138,[.v (.list .str),.v iT],[(.list .str),iT],⟨[.v iT],[]⟩,[iT],fun h=>Pw.j09q h.1 h.2⟩
def j0lJ:FnD where
 N:=26
 np:=2
 cs:=[j0bU]
 ds:=[⟨0,[.s (.one (.d (.list .str))),sI,sI],[(.list .str),iT,iT],[⟨.ret,[sI],[iT]⟩,⟨.exit 0,[],[]⟩],fun h=>Pw.j04i h.1 h.2.1 h.2.2⟩]
 modes:=[(178,[false])]
 keep:=[(0,⟨[0,1,5],[],[],[]⟩)]
 keepX:=[(0,.ret,⟨[4],[],[],[]⟩),
  (0,.exit 0,⟨[],[],[],[]⟩)]
 ro:=[false]
theorem j0bj:Con.OK Tryz.prog j06i:=
 cOf tabOk mixedOk j0lJ j06i Tryz.func138 (And.intro j0kn trivial) (And.intro (fun h=>by kernel_rfl) trivial)
def j07R:Con:=⟨93,[.v iT,.v iT,.v iT],[iT,iT,iT],⟨[.v .bool],[]⟩,[.bool],fun h=>Pw.r04_in h.1 h.2.1 h.2.2⟩
def j0nG:FnD where
 N:=15
 np:=3
 cs:=[]
 ds:=[]
 ro:=[false]
theorem j0d7:Con.OK Tryz.prog j07R:=
 cOf tabOk mixedOk j0nG j07R Tryz.func93 trivial trivial
def j0aN:Con:=⟨147,[.v ty50],[ty50],⟨[.v .bool],[]⟩,[.bool],fun h=>Pw.j0cx h⟩
def j0ko:FnD where
 N:=38
 np:=1
 cs:=[j07R]
 ds:=[]
 modes:=[(93,[false,false,false])]
 ro:=[false]
theorem j0iW:Con.OK Tryz.prog j0aN:=
 cOf tabOk mixedOk j0ko j0aN Tryz.func147 (And.intro j0d7 trivial) trivial
def j0bV:Con:=⟨251,[.v iT],[iT],⟨[.v .bool],[]⟩,[.bool],fun h=>Pw.j01x h⟩
def j0lK:FnD where
 N:=16
 np:=1
 cs:=[]
 ds:=[]
 ro:=[false]
theorem j0kp:Con.OK Tryz.prog j0bV:=
 cOf tabOk mixedOk j0lK j0bV Tryz.func251 trivial trivial
def j07S:Con:=⟨227,[.v iT,.v iT],[iT,iT],⟨[.v iT],[]⟩,[iT],fun h=>Pw.j0bK h.1 h.2⟩
def j0lL:FnD where
 N:=23
 np:=2
 cs:=[j0bV]
 ds:=[]
 modes:=[(251,[false])]
 ro:=[false]
theorem j0dX:Con.OK Tryz.prog j07S:=
 cOf tabOk mixedOk j0lL j07S Tryz.func227 (And.intro j0kp trivial) trivial
def j0aO:Con:=⟨250,[.v ty20],[ty20],⟨[.v .bool],[]⟩,[.bool],fun h=>Pw.j0eB h⟩
def j0kq:FnD where
 N:=36
 np:=1
 cs:=[j07S]
 ds:=[]
 modes:=[(227,[false,false])]
 ro:=[false]
theorem j0iX:Con.OK Tryz.prog j0aO:=
 cOf tabOk mixedOk j0kq j0aO Tryz.func250 (And.intro j0dX trivial) trivial
def j09K:Con:=⟨179,[.v iT],[iT],⟨[.v iT],[]⟩,[iT],fun h=>Pw.j0eY h⟩
def j0lM:FnD where
 N:=18
 np:=1
 cs:=[]
 ds:=[]
 ro:=[false]
theorem j0g7:Con.OK Tryz.prog j09K:=
 cOf tabOk mixedOk j0lM j09K Tryz.func179 trivial trivial
def j0dY:Con:=⟨225,[.v ty20],[ty20],⟨[.v iT,.v iT],[]⟩,[iT,iT],fun h=>Pw.r01_Day h⟩
def j0mP:FnD where
 N:=29
 np:=1
 cs:=[j07S,j0aO,j09K]
 ds:=[⟨0,[.s (.one (.bp 64 0)),sI,sI,.b (.cell [.d iT,.d iT,.d iT] false)],[iT,iT,iT,iT,iT],[⟨.exit 0,[.s (.one (.bp 64 0)),sI,.b (.cell [.d iT,.d iT,.d iT] false)],[iT,iT,iT,iT]⟩],fun h=>Pw.j04Y h.1 h.2.1 h.2.2.1 h.2.2.2.1 h.2.2.2.2⟩]
 modes:=[(179,[false]),(227,[false,false]),(250,[false])]
 keep:=[(0,⟨[1,4,5],[64],[],[]⟩)]
 keepX:=[(0,.exit 0,⟨[1,4],[64],[],[]⟩)]
 ro:=[false,false]
theorem r01_Day_ok:Con.OK Tryz.prog j0dY:=
 cOf tabOk mixedOk j0mP j0dY Tryz.func225 (And.intro j0dX (And.intro j0iX (And.intro j0g7 trivial))) (And.intro (fun h=>by kernel_rfl) trivial)
def j06s:Con:=⟨226,[.v iT],[iT],⟨[.v iT],[]⟩,[iT],fun h=>Pw.j0bg h⟩
def j0hR:FnD where
 N:=7
 np:=1
 cs:=[]
 ds:=[]
 ro:=[false]
theorem j0d8:Con.OK Tryz.prog j06s:=
 cOf tabOk mixedOk j0hR j06s Tryz.func226 trivial trivial
def j0dZ:Con:=⟨180,[.v iT,.v iT,.v iT,.v iT],[iT,iT,iT,iT],⟨[.v iT,.v iT],[]⟩,[iT,iT],fun h=>Pw.r01_Nth h.1 h.2.1 h.2.2.1 h.2.2.2⟩
def j0mQ:FnD where
 N:=63
 np:=4
 cs:=[j07S,j0dY,j06s]
 ds:=[⟨0,[sI,sI,sI,sI,sI,sI],[iT,iT,iT,iT,iT,iT],[⟨.exit 0,[sI,sI,sI,sI,sI],[iT,iT,iT,iT,iT]⟩],fun h=>Pw.j04Z h.1 h.2.1 h.2.2.1 h.2.2.2.1 h.2.2.2.2.1 h.2.2.2.2.2⟩,
  ⟨2,[sI,sI,sI,sI],[iT,iT,iT,iT],[⟨.exit 2,[sI],[iT]⟩],fun h=>Pw.j050 h.1 h.2.1 h.2.2.1 h.2.2.2⟩]
 modes:=[(225,[false]),(226,[false]),(227,[false,false])]
 keep:=[(0,⟨[0,1,2,3,10,12],[],[],[]⟩),
  (2,⟨[0,1,10,12],[],[],[]⟩)]
 keepX:=[(0,.exit 0,⟨[0,1,2,10,12],[],[],[]⟩),
  (2,.exit 2,⟨[12],[],[],[]⟩)]
 ro:=[false,false]
theorem r01_Nth_ok:Con.OK Tryz.prog j0dZ:=
 cOf tabOk mixedOk j0mQ j0dZ Tryz.func180 (And.intro j0dX (And.intro r01_Day_ok (And.intro j0d8 trivial))) (And.intro (fun h=>by kernel_rfl) (And.intro (fun h=>by kernel_rfl) trivial))
def j05X:Con:=⟨148,[.v ty53],[ty53],⟨[.own 189 ty12],[]⟩,[ty12],fun h=>Pw.j06p h⟩
def j0eq:FnD where
 N:=98
 np:=1
 cs:=[j0dZ]
 ds:=[⟨0,[.s (.one (.d ty53)),.s (.one (.ol 1000000)),sI,.b (.lst 189 ty8 false)],[ty53,iT,ty12],[⟨.exit 0,[.s (.one (.ol 1500100)),.b (.lst 189 ty8 false)],[ty12]⟩],fun h=>Pw.j020 h.1 h.2.1 h.2.2⟩,
  ⟨2,[.s (.one (.d ty53)),.s (.one (.ol 1002000)),sI,sI,.b (.lst 189 ty8 false)],[ty53,iT,iT,ty12],[⟨.exit 2,[.s (.one (.d ty53)),.s (.one (.ol 1502300)),sI,.b (.lst 189 ty8 false)],[ty53,iT,ty12]⟩],fun h=>Pw.j01Z h.1 h.2.1 h.2.2.1 h.2.2.2⟩,
  ⟨4,[.s (.one (.d ty53)),.s (.one (.ol 1004000)),sI,sI,.s (.one (.bp 512 0)),sI,.b (.cell [.d iT,.d iT] false),.b (.lst 189 ty8 false)],[ty53,iT,iT,iT,iT,iT,ty12],[⟨.exit 4,[.s (.one (.d ty53)),.s (.one (.ol 1504500)),sI,sI,.s (.one (.bp 512 0)),sI,.b (.cell [.d iT,.d iT] false),.b (.lst 189 ty8 false)],[ty53,iT,iT,iT,iT,iT,ty12]⟩],fun h=>Pw.j01Y h.1 h.2.1 h.2.2.1 h.2.2.2.1 h.2.2.2.2.1 h.2.2.2.2.2.1 h.2.2.2.2.2.2⟩]
 modes:=[(180,[false,false,false,false])]
 keep:=[(0,⟨[0,3,4],[],[⟨1000000,189,ty8,[.slot 3],false⟩],[]⟩),
  (2,⟨[0,3,4,5],[],[⟨1002000,189,ty8,[.slot 3],false⟩],[]⟩),
  (4,⟨[0,3,4,5,8,9],[512],[⟨1004000,189,ty8,[.slot 3],false⟩],[]⟩)]
 keepX:=[(0,.exit 0,⟨[3],[],[⟨1500100,189,ty8,[.slot 3],false⟩],[]⟩),
  (2,.exit 2,⟨[0,3,4],[],[⟨1502300,189,ty8,[.slot 3],false⟩],[]⟩),
  (4,.exit 4,⟨[0,3,4,5,8,9],[512],[⟨1504500,189,ty8,[.slot 3],false⟩],[]⟩)]
 ro:=[true]
 dw:=[(9,[[],[],[],[],[],[],[],[],[],[],[],[],[],[],[512],[512]]),(14,[[],[],[],[],[],[],[],[5376]])]
theorem j0e0:Con.OK Tryz.prog j05X:=
 cOf tabOk mixedOk j0eq j05X Tryz.func148 (And.intro r01_Nth_ok trivial) (And.intro (fun h=>by kernel_rfl) (And.intro (fun h=>by kernel_rfl) (And.intro (fun h=>by kernel_rfl) trivial)))
def j01Q:Con:=⟨89,[.v ty60],[ty60],⟨[.own 146 ty12,.v iT],[]⟩,[ty12,iT],fun h=>Pw.j00C h⟩
def j0er:FnD where
 N:=119
 np:=1
 cs:=[j07R,j0aN,j05X]
 ds:=[⟨0,[.s (.one (.bp 64 0)),sI,sI,.b (.cell [.d .str,.d iT,.d ty53] false)],[iT,iT,.str,iT,ty53],[⟨.ret,[.s (.one (.nil)),sI],[iT]⟩,⟨.exit 0,[.s (.one (.bp 64 0)),sI,.b (.cell [.d .str,.d iT,.d ty53] false)],[iT,.str,iT,ty53]⟩],fun h=>Pw.j021 h.1 h.2.1 h.2.2.1 h.2.2.2.1 h.2.2.2.2⟩,
  ⟨2,[.s (.one (.ol 1002000)),.s (.one (.ol 1002001)),sI,sI,.b (.lst 146 ty8 false),.b (.lst 189 ty8 false)],[iT,iT,ty12,ty12],[⟨.ret,[.s (.one (.nil)),sI],[iT]⟩,⟨.exit 2,[.s (.one (.ol 1502300)),.b (.lst 146 ty8 false)],[ty12]⟩],fun h=>Pw.j022 h.1 h.2.1 h.2.2.1 h.2.2.2⟩]
 modes:=[(93,[false,false,false]),(147,[false]),(148,[false])]
 keep:=[(0,⟨[1,4,5],[64],[],[]⟩),
  (2,⟨[6,7,8,9],[],[⟨1002000,146,ty8,[.slot 6],false⟩,⟨1002001,189,ty8,[.slot 7],false⟩],[]⟩)]
 keepX:=[(0,.ret,⟨[2,3],[],[],[]⟩),
  (0,.exit 0,⟨[1,4],[64],[],[]⟩),
  (2,.ret,⟨[2,3],[],[],[]⟩),
  (2,.exit 2,⟨[6],[],[⟨1502300,146,ty8,[.slot 6],false⟩],[]⟩)]
 ro:=[true,false]
 dw:=[(21,[[],[],[],[],[],[],[],[],[],[],[],[],[],[640],[640]]),(24,[[],[],[7296],[7360,1002000],[],[],[],[]])]
theorem j03u:Con.OK Tryz.prog j01Q:=
 cOf tabOk mixedOk j0er j01Q Tryz.func89 (And.intro j0d7 (And.intro j0iW (And.intro j0e0 trivial))) (And.intro (fun h=>by kernel_rfl) (And.intro (fun h=>by kernel_rfl) trivial))
def j08u:Con:=⟨139,[.v ty60],[ty60],⟨[.v iT],[]⟩,[iT],fun h=>Pw.j05N h⟩
def j0kr:FnD where
 N:=11
 np:=1
 cs:=[j01Q]
 ds:=[]
 modes:=[(89,[false])]
 ro:=[false]
theorem j0ff:Con.OK Tryz.prog j08u:=
 cOf tabOk mixedOk j0kr j08u Tryz.func139 (And.intro j03u trivial) trivial
def j08S:Con:=⟨140,[.v ty60],[ty60],⟨[.v .bool],[]⟩,[.bool],fun h=>Pw.j097 h⟩
def j0hS:FnD where
 N:=28
 np:=1
 cs:=[]
 ds:=[⟨0,[.s (.one (.bp 64 0)),.s (.one (.d .bool)),sI,.b (.cell [.d .str,.d iT,.d ty53] false)],[.bool,iT,.str,iT,ty53],[⟨.exit 0,[.s (.one (.d .bool))],[.bool]⟩],fun h=>Pw.j02Q h.1 h.2.1 h.2.2.1 h.2.2.2.1 h.2.2.2.2⟩]
 keep:=[(0,⟨[1,3,4],[64],[],[]⟩)]
 keepX:=[(0,.exit 0,⟨[3],[],[],[]⟩)]
 ro:=[false]
theorem j0gQ:Con.OK Tryz.prog j08S:=
 cOf tabOk mixedOk j0hS j08S Tryz.func140 trivial (And.intro (fun h=>by kernel_rfl) trivial)
def j0aP:Con:=⟨85,[.v ty79],[ty79],⟨[.v iT],[]⟩,[iT],fun h=>Pw.j0gA h⟩
def j0ks:FnD where
 N:=44
 np:=1
 cs:=[j06i,j08u,j08S]
 ds:=[⟨0,[.s (.one (.bp 64 0)),.s (.one (.ol 1000000)),sI,.b (.cell [.d ty61,.d ty51,.d ty26,.d ty73] false),.b (.lst 9 .str false)],[iT,ty61,ty51,ty26,ty73,(.list .str)],[⟨.ret,[sI],[iT]⟩,⟨.exit 0,[],[]⟩],fun h=>Pw.j03O h.1 h.2.1 h.2.2.1 h.2.2.2.1 h.2.2.2.2.1 h.2.2.2.2.2⟩]
 modes:=[(138,[false,false]),(139,[false]),(140,[false])]
 keep:=[(0,⟨[1,3,4],[64],[⟨1000000,9,.str,[.slot 3],false⟩],[]⟩)]
 keepX:=[(0,.ret,⟨[2],[],[],[]⟩),
  (0,.exit 0,⟨[],[],[],[]⟩)]
 ro:=[false]
theorem j0iY:Con.OK Tryz.prog j0aP:=
 cOf tabOk mixedOk j0ks j0aP Tryz.func85 (And.intro j0bj (And.intro j0ff (And.intro j0gQ trivial))) (And.intro (fun h=>by kernel_rfl) trivial)
def j07T:Con:=⟨141,[.v iT,.v iT,.v iT],[iT,iT,iT],⟨[.v .bool],[]⟩,[.bool],fun h=>Pw.r08_in h.1 h.2.1 h.2.2⟩
def j0nH:FnD where
 N:=15
 np:=3
 cs:=[]
 ds:=[]
 ro:=[false]
theorem j0d9:Con.OK Tryz.prog j07T:=
 cOf tabOk mixedOk j0nH j07T Tryz.func141 trivial trivial
def j06H:Con:=⟨142,[.v ty12],[ty12],⟨[.v iT],[]⟩,[iT],fun h=>Pw.j0bh h⟩
def j0kt:FnD where
 N:=56
 np:=1
 cs:=[]
 ds:=[⟨0,[.s (.one (.d ty12)),sI],[ty12,iT],[⟨.ret,[sI],[iT]⟩,⟨.exit 0,[],[]⟩],fun h=>Pw.j03P h.1 h.2⟩]
 keep:=[(0,⟨[0,3],[],[],[]⟩)]
 keepX:=[(0,.ret,⟨[2],[],[],[]⟩),
  (0,.exit 0,⟨[],[],[],[]⟩)]
 ro:=[false]
theorem j0bW:Con.OK Tryz.prog j06H:=
 cOf tabOk mixedOk j0kt j06H Tryz.func142 trivial (And.intro (fun h=>by kernel_rfl) trivial)
def j0aQ:Con:=⟨143,[.v iT],[iT],⟨[.v .bool],[]⟩,[.bool],fun h=>Pw.j0eC h⟩
def j0ku:FnD where
 N:=10
 np:=1
 cs:=[j07T]
 ds:=[]
 modes:=[(141,[false,false,false])]
 ro:=[false]
theorem j0iZ:Con.OK Tryz.prog j0aQ:=
 cOf tabOk mixedOk j0ku j0aQ Tryz.func143 (And.intro j0d9 trivial) trivial
def j09L:Con:=⟨86,[.v ty79],[ty79],⟨[.v iT],[]⟩,[iT],fun h=>Pw.j0eZ h⟩
def j0j0:FnD where
 N:=58
 np:=1
 cs:=[j06i,j07T,j06H,j0aQ]
 ds:=[⟨0,[.s (.one (.bp 64 0)),.s (.one (.ol 1000000)),sI,.b (.cell [.d ty61,.d ty51,.d ty26,.d ty73] false),.b (.lst 9 .str false)],[iT,ty61,ty51,ty26,ty73,(.list .str)],[⟨.ret,[sI],[iT]⟩,⟨.exit 0,[],[]⟩],fun h=>Pw.j03n h.1 h.2.1 h.2.2.1 h.2.2.2.1 h.2.2.2.2.1 h.2.2.2.2.2⟩]
 modes:=[(138,[false,false]),(141,[false,false,false]),(142,[false]),(143,[false])]
 keep:=[(0,⟨[1,3,4],[64],[⟨1000000,9,.str,[.slot 3],false⟩],[]⟩)]
 keepX:=[(0,.ret,⟨[2],[],[],[]⟩),
  (0,.exit 0,⟨[],[],[],[]⟩)]
 ro:=[false]
theorem j0hT:Con.OK Tryz.prog j09L:=
 cOf tabOk mixedOk j0j0 j09L Tryz.func86 (And.intro j0bj (And.intro j0d9 (And.intro j0bW (And.intro j0iZ trivial)))) (And.intro (fun h=>by kernel_rfl) trivial)
end Go.Proofs.Pk
