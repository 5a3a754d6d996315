/- Contracts: each given function is its plain function, printed by a program. -/
import Derived.Test.YthpdddnkpjnllaaGreatACon5
noncomputable section
open Go Go.Lft
set_option linter.unusedVariables false
set_option maxRecDepth 100000
namespace Go.Proofs.Pk
def j0aU:Con:=⟨224,[.v (.int .u8)],[(.int .u8)],⟨[.v .bool],[]⟩,[.bool],fun h=>Pw.j0gD h⟩
def j0ks:FnD where
 N:=9
 np:=1
 cs:=[]
 ds:=[]
 ro:=[false]
theorem j0j0:Con.OK Tryz.prog j0aU:=
 cOf tabOk mixedOk j0ks j0aU Tryz.func224 trivial trivial
def j0c2:Con:=⟨178,[.v .str],[.str],⟨[.v .bool],[]⟩,[.bool],fun h=>Pw.j0gE h⟩
def j0lO:FnD where
 N:=57
 np:=1
 cs:=[j0aU]
 ds:=[⟨0,[.s (.one (.d .str)),sI],[.str,iT],[⟨.ret,[.s (.one (.d .bool))],[.bool]⟩,⟨.exit 0,[],[]⟩],fun h=>Pw.j04p h.1 h.2⟩]
 modes:=[(224,[false])]
 keep:=[(0,⟨[0,3],[],[],[]⟩)]
 keepX:=[(0,.ret,⟨[2],[],[],[]⟩),
  (0,.exit 0,⟨[],[],[],[]⟩)]
 ro:=[false]
theorem j0kt:Con.OK Tryz.prog j0c2:=
 cOf tabOk mixedOk j0lO j0c2 Tryz.func178 (And.intro j0j0 trivial) (And.intro (fun h=>by kernel_rfl) trivial)
def j06m:Con:=⟨138,[.v (.list .str),.v iT],[(.list .str),iT],⟨[.v iT],[]⟩,[iT],fun h=>Pw.j09A h.1 h.2⟩
def j0lP:FnD where
 N:=26
 np:=2
 cs:=[j0c2]
 ds:=[⟨0,[.s (.one (.d (.list .str))),sI,sI],[(.list .str),iT,iT],[⟨.ret,[sI],[iT]⟩,⟨.exit 0,[],[]⟩],fun h=>Pw.j04q h.1 h.2.1 h.2.2⟩]
 modes:=[(178,[false])]
 keep:=[(0,⟨[0,1,5],[],[],[]⟩)]
 keepX:=[(0,.ret,⟨[4],[],[],[]⟩),
  (0,.exit 0,⟨[],[],[],[]⟩)]
 ro:=[false]
theorem j0bs:Con.OK Tryz.prog j06m:=
 cOf tabOk mixedOk j0lP j06m Tryz.func138 (And.intro j0kt trivial) (And.intro (fun h=>by kernel_rfl) trivial)
def j07Y:Con:=⟨93,[.v iT,.v iT,.v iT],[iT,iT,iT],⟨[.v .bool],[]⟩,[.bool],fun h=>Pw.r04_in h.1 h.2.1 h.2.2⟩
def j0nN:FnD where
 N:=15
 np:=3
 cs:=[]
 ds:=[]
 ro:=[false]
theorem j0da:Con.OK Tryz.prog j07Y:=
 cOf tabOk mixedOk j0nN j07Y Tryz.func93 trivial trivial
def j0aV:Con:=⟨147,[.v ty50],[ty50],⟨[.v .bool],[]⟩,[.bool],fun h=>Pw.j0cA h⟩
def j0ku:FnD where
 N:=38
 np:=1
 cs:=[j07Y]
 ds:=[]
 modes:=[(93,[false,false,false])]
 ro:=[false]
theorem j0j1:Con.OK Tryz.prog j0aV:=
 cOf tabOk mixedOk j0ku j0aV Tryz.func147 (And.intro j0da trivial) trivial
def j0c3:Con:=⟨251,[.v iT],[iT],⟨[.v .bool],[]⟩,[.bool],fun h=>Pw.j01A h⟩
def j0lQ:FnD where
 N:=16
 np:=1
 cs:=[]
 ds:=[]
 ro:=[false]
theorem j0kv:Con.OK Tryz.prog j0c3:=
 cOf tabOk mixedOk j0lQ j0c3 Tryz.func251 trivial trivial
def j07Z:Con:=⟨227,[.v iT,.v iT],[iT,iT],⟨[.v iT],[]⟩,[iT],fun h=>Pw.j0bR h.1 h.2⟩
def j0lR:FnD where
 N:=23
 np:=2
 cs:=[j0c3]
 ds:=[]
 modes:=[(251,[false])]
 ro:=[false]
theorem j0e2:Con.OK Tryz.prog j07Z:=
 cOf tabOk mixedOk j0lR j07Z Tryz.func227 (And.intro j0kv trivial) trivial
def j0aW:Con:=⟨250,[.v ty20],[ty20],⟨[.v .bool],[]⟩,[.bool],fun h=>Pw.j0eF h⟩
def j0kw:FnD where
 N:=36
 np:=1
 cs:=[j07Z]
 ds:=[]
 modes:=[(227,[false,false])]
 ro:=[false]
theorem j0j2:Con.OK Tryz.prog j0aW:=
 cOf tabOk mixedOk j0kw j0aW Tryz.func250 (And.intro j0e2 trivial) trivial
def j09V:Con:=⟨179,[.v iT],[iT],⟨[.v iT],[]⟩,[iT],fun h=>Pw.j0f1 h⟩
def j0lS:FnD where
 N:=18
 np:=1
 cs:=[]
 ds:=[]
 ro:=[false]
theorem j0ga:Con.OK Tryz.prog j09V:=
 cOf tabOk mixedOk j0lS j09V Tryz.func179 trivial trivial
def j0e3:Con:=⟨225,[.v ty20],[ty20],⟨[.v iT,.v iT],[]⟩,[iT,iT],fun h=>Pw.r01_Day h⟩
def j0mX:FnD where
 N:=29
 np:=1
 cs:=[j07Z,j0aW,j09V]
 ds:=[⟨0,[.s (.one (.bp 64 0)),sI,sI,.b (.cell [.d iT,.d iT,.d iT] false)],[iT,iT,iT,iT,iT],[⟨.exit 0,[.s (.one (.bp 64 0)),sI,.b (.cell [.d iT,.d iT,.d iT] false)],[iT,iT,iT,iT]⟩],fun h=>Pw.j055 h.1 h.2.1 h.2.2.1 h.2.2.2.1 h.2.2.2.2⟩]
 modes:=[(179,[false]),(227,[false,false]),(250,[false])]
 keep:=[(0,⟨[1,4,5],[64],[],[]⟩)]
 keepX:=[(0,.exit 0,⟨[1,4],[64],[],[]⟩)]
 ro:=[false,false]
theorem r01_Day_ok:Con.OK Tryz.prog j0e3:=
 cOf tabOk mixedOk j0mX j0e3 Tryz.func225 (And.intro j0e2 (And.intro j0j2 (And.intro j0ga trivial))) (And.intro (fun h=>by kernel_rfl) trivial)
def j06w:Con:=⟨226,[.v iT],[iT],⟨[.v iT],[]⟩,[iT],fun h=>Pw.j0bp h⟩
def j0hX:FnD where
 N:=7
 np:=1
 cs:=[]
 ds:=[]
 ro:=[false]
theorem j0db:Con.OK Tryz.prog j06w:=
 cOf tabOk mixedOk j0hX j06w Tryz.func226 trivial trivial
def j0e4:Con:=⟨180,[.v iT,.v iT,.v iT,.v iT],[iT,iT,iT,iT],⟨[.v iT,.v iT],[]⟩,[iT,iT],fun h=>Pw.r01_Nth h.1 h.2.1 h.2.2.1 h.2.2.2⟩
def j0mY:FnD where
 N:=63
 np:=4
 cs:=[j07Z,j0e3,j06w]
 ds:=[⟨0,[sI,sI,sI,sI,sI,sI],[iT,iT,iT,iT,iT,iT],[⟨.exit 0,[sI,sI,sI,sI,sI],[iT,iT,iT,iT,iT]⟩],fun h=>Pw.j056 h.1 h.2.1 h.2.2.1 h.2.2.2.1 h.2.2.2.2.1 h.2.2.2.2.2⟩,
  ⟨2,[sI,sI,sI,sI],[iT,iT,iT,iT],[⟨.exit 2,[sI],[iT]⟩],fun h=>Pw.j057 h.1 h.2.1 h.2.2.1 h.2.2.2⟩]
 modes:=[(225,[false]),(226,[false]),(227,[false,false])]
 keep:=[(0,⟨[0,1,2,3,10,12],[],[],[]⟩),
  (2,⟨[0,1,10,12],[],[],[]⟩)]
 keepX:=[(0,.exit 0,⟨[0,1,2,10,12],[],[],[]⟩),
  (2,.exit 2,⟨[12],[],[],[]⟩)]
 ro:=[false,false]
theorem r01_Nth_ok:Con.OK Tryz.prog j0e4:=
 cOf tabOk mixedOk j0mY j0e4 Tryz.func180 (And.intro j0e2 (And.intro r01_Day_ok (And.intro j0db trivial))) (And.intro (fun h=>by kernel_rfl) (And.intro (fun h=>by kernel_rfl) trivial))
def j061:Con:=⟨148,[.v ty53],[ty53],⟨[.own 189 ty12],[]⟩,[ty12],fun h=>Pw.j06t h⟩
def j0ev:FnD where
 N:=98
 np:=1
 cs:=[j0e4]
 ds:=[⟨0,[.s (.one (.d ty53)),.s (.one (.ol 1000000)),sI,.b (.lst 189 ty8 false)],[ty53,iT,ty12],[⟨.exit 0,[.s (.one (.ol 1500100)),.b (.lst 189 ty8 false)],[ty12]⟩],fun h=>Pw.j025 h.1 h.2.1 h.2.2⟩,
  ⟨2,[.s (.one (.d ty53)),.s (.one (.ol 1002000)),sI,sI,.b (.lst 189 ty8 false)],[ty53,iT,iT,ty12],[⟨.exit 2,[.s (.one (.d ty53)),.s (.one (.ol 1502300)),sI,.b (.lst 189 ty8 false)],[ty53,iT,ty12]⟩],fun h=>Pw.j024 h.1 h.2.1 h.2.2.1 h.2.2.2⟩,
  ⟨4,[.s (.one (.d ty53)),.s (.one (.ol 1004000)),sI,sI,.s (.one (.bp 512 0)),sI,.b (.cell [.d iT,.d iT] false),.b (.lst 189 ty8 false)],[ty53,iT,iT,iT,iT,iT,ty12],[⟨.exit 4,[.s (.one (.d ty53)),.s (.one (.ol 1504500)),sI,sI,.s (.one (.bp 512 0)),sI,.b (.cell [.d iT,.d iT] false),.b (.lst 189 ty8 false)],[ty53,iT,iT,iT,iT,iT,ty12]⟩],fun h=>Pw.j023 h.1 h.2.1 h.2.2.1 h.2.2.2.1 h.2.2.2.2.1 h.2.2.2.2.2.1 h.2.2.2.2.2.2⟩]
 modes:=[(180,[false,false,false,false])]
 keep:=[(0,⟨[0,3,4],[],[⟨1000000,189,ty8,[.slot 3],false⟩],[]⟩),
  (2,⟨[0,3,4,5],[],[⟨1002000,189,ty8,[.slot 3],false⟩],[]⟩),
  (4,⟨[0,3,4,5,8,9],[512],[⟨1004000,189,ty8,[.slot 3],false⟩],[]⟩)]
 keepX:=[(0,.exit 0,⟨[3],[],[⟨1500100,189,ty8,[.slot 3],false⟩],[]⟩),
  (2,.exit 2,⟨[0,3,4],[],[⟨1502300,189,ty8,[.slot 3],false⟩],[]⟩),
  (4,.exit 4,⟨[0,3,4,5,8,9],[512],[⟨1504500,189,ty8,[.slot 3],false⟩],[]⟩)]
 ro:=[true]
 dw:=[(9,[[],[],[],[],[],[],[],[],[],[],[],[],[],[],[512],[512]]),(14,[[],[],[],[],[],[],[],[5376]])]
theorem j0e5:Con.OK Tryz.prog j061:=
 cOf tabOk mixedOk j0ev j061 Tryz.func148 (And.intro r01_Nth_ok trivial) (And.intro (fun h=>by kernel_rfl) (And.intro (fun h=>by kernel_rfl) (And.intro (fun h=>by kernel_rfl) trivial)))
def j01V:Con:=⟨89,[.v ty60],[ty60],⟨[.own 146 ty12,.v iT],[]⟩,[ty12,iT],fun h=>Pw.j00D h⟩
def j0ew:FnD where
 N:=119
 np:=1
 cs:=[j07Y,j0aV,j061]
 ds:=[⟨0,[.s (.one (.bp 64 0)),sI,sI,.b (.cell [.d .str,.d iT,.d ty53] false)],[iT,iT,.str,iT,ty53],[⟨.ret,[.s (.one (.nil)),sI],[iT]⟩,⟨.exit 0,[.s (.one (.bp 64 0)),sI,.b (.cell [.d .str,.d iT,.d ty53] false)],[iT,.str,iT,ty53]⟩],fun h=>Pw.j026 h.1 h.2.1 h.2.2.1 h.2.2.2.1 h.2.2.2.2⟩,
  ⟨2,[.s (.one (.ol 1002000)),.s (.one (.ol 1002001)),sI,sI,.b (.lst 146 ty8 false),.b (.lst 189 ty8 false)],[iT,iT,ty12,ty12],[⟨.ret,[.s (.one (.nil)),sI],[iT]⟩,⟨.exit 2,[.s (.one (.ol 1502300)),.b (.lst 146 ty8 false)],[ty12]⟩],fun h=>Pw.j027 h.1 h.2.1 h.2.2.1 h.2.2.2⟩]
 modes:=[(93,[false,false,false]),(147,[false]),(148,[false])]
 keep:=[(0,⟨[1,4,5],[64],[],[]⟩),
  (2,⟨[6,7,8,9],[],[⟨1002000,146,ty8,[.slot 6],false⟩,⟨1002001,189,ty8,[.slot 7],false⟩],[]⟩)]
 keepX:=[(0,.ret,⟨[2,3],[],[],[]⟩),
  (0,.exit 0,⟨[1,4],[64],[],[]⟩),
  (2,.ret,⟨[2,3],[],[],[]⟩),
  (2,.exit 2,⟨[6],[],[⟨1502300,146,ty8,[.slot 6],false⟩],[]⟩)]
 ro:=[true,false]
 dw:=[(21,[[],[],[],[],[],[],[],[],[],[],[],[],[],[640],[640]]),(24,[[],[],[7296],[7360,1002000],[],[],[],[]])]
theorem j03D:Con.OK Tryz.prog j01V:=
 cOf tabOk mixedOk j0ew j01V Tryz.func89 (And.intro j0da (And.intro j0j1 (And.intro j0e5 trivial))) (And.intro (fun h=>by kernel_rfl) (And.intro (fun h=>by kernel_rfl) trivial))
def j08D:Con:=⟨139,[.v ty60],[ty60],⟨[.v iT],[]⟩,[iT],fun h=>Pw.j05S h⟩
def j0kx:FnD where
 N:=11
 np:=1
 cs:=[j01V]
 ds:=[]
 modes:=[(89,[false])]
 ro:=[false]
theorem j0fi:Con.OK Tryz.prog j08D:=
 cOf tabOk mixedOk j0kx j08D Tryz.func139 (And.intro j03D trivial) trivial
def j093:Con:=⟨140,[.v ty60],[ty60],⟨[.v .bool],[]⟩,[.bool],fun h=>Pw.j09g h⟩
def j0hY:FnD where
 N:=28
 np:=1
 cs:=[]
 ds:=[⟨0,[.s (.one (.bp 64 0)),.s (.one (.d .bool)),sI,.b (.cell [.d .str,.d iT,.d ty53] false)],[.bool,iT,.str,iT,ty53],[⟨.exit 0,[.s (.one (.d .bool))],[.bool]⟩],fun h=>Pw.j02Y h.1 h.2.1 h.2.2.1 h.2.2.2.1 h.2.2.2.2⟩]
 keep:=[(0,⟨[1,3,4],[64],[],[]⟩)]
 keepX:=[(0,.exit 0,⟨[3],[],[],[]⟩)]
 ro:=[false]
theorem j0gV:Con.OK Tryz.prog j093:=
 cOf tabOk mixedOk j0hY j093 Tryz.func140 trivial (And.intro (fun h=>by kernel_rfl) trivial)
def j0aX:Con:=⟨85,[.v ty79],[ty79],⟨[.v iT],[]⟩,[iT],fun h=>Pw.j0gF h⟩
def j0ky:FnD where
 N:=44
 np:=1
 cs:=[j06m,j08D,j093]
 ds:=[⟨0,[.s (.one (.bp 64 0)),.s (.one (.ol 1000000)),sI,.b (.cell [.d ty61,.d ty51,.d ty26,.d ty73] false),.b (.lst 9 .str false)],[iT,ty61,ty51,ty26,ty73,(.list .str)],[⟨.ret,[sI],[iT]⟩,⟨.exit 0,[],[]⟩],fun h=>Pw.j03Z h.1 h.2.1 h.2.2.1 h.2.2.2.1 h.2.2.2.2.1 h.2.2.2.2.2⟩]
 modes:=[(138,[false,false]),(139,[false]),(140,[false])]
 keep:=[(0,⟨[1,3,4],[64],[⟨1000000,9,.str,[.slot 3],false⟩],[]⟩)]
 keepX:=[(0,.ret,⟨[2],[],[],[]⟩),
  (0,.exit 0,⟨[],[],[],[]⟩)]
 ro:=[false]
theorem j0j3:Con.OK Tryz.prog j0aX:=
 cOf tabOk mixedOk j0ky j0aX Tryz.func85 (And.intro j0bs (And.intro j0fi (And.intro j0gV trivial))) (And.intro (fun h=>by kernel_rfl) trivial)
def j080:Con:=⟨141,[.v iT,.v iT,.v iT],[iT,iT,iT],⟨[.v .bool],[]⟩,[.bool],fun h=>Pw.r08_in h.1 h.2.1 h.2.2⟩
def j0nO:FnD where
 N:=15
 np:=3
 cs:=[]
 ds:=[]
 ro:=[false]
theorem j0dc:Con.OK Tryz.prog j080:=
 cOf tabOk mixedOk j0nO j080 Tryz.func141 trivial trivial
def j06O:Con:=⟨142,[.v ty12],[ty12],⟨[.v iT],[]⟩,[iT],fun h=>Pw.j0bq h⟩
def j0kz:FnD where
 N:=56
 np:=1
 cs:=[]
 ds:=[⟨0,[.s (.one (.d ty12)),sI],[ty12,iT],[⟨.ret,[sI],[iT]⟩,⟨.exit 0,[],[]⟩],fun h=>Pw.j040 h.1 h.2⟩]
 keep:=[(0,⟨[0,3],[],[],[]⟩)]
 keepX:=[(0,.ret,⟨[2],[],[],[]⟩),
  (0,.exit 0,⟨[],[],[],[]⟩)]
 ro:=[false]
theorem j0c4:Con.OK Tryz.prog j06O:=
 cOf tabOk mixedOk j0kz j06O Tryz.func142 trivial (And.intro (fun h=>by kernel_rfl) trivial)
def j0aY:Con:=⟨143,[.v iT],[iT],⟨[.v .bool],[]⟩,[.bool],fun h=>Pw.j0eG h⟩
def j0kA:FnD where
 N:=10
 np:=1
 cs:=[j080]
 ds:=[]
 modes:=[(141,[false,false,false])]
 ro:=[false]
theorem j0j4:Con.OK Tryz.prog j0aY:=
 cOf tabOk mixedOk j0kA j0aY Tryz.func143 (And.intro j0dc trivial) trivial
end Go.Proofs.Pk
