/- Contracts: each given function is its plain function, printed by a program. -/
import Derived.Test.YthpdddnkpjnllaaGreatCCon0
noncomputable section
open Go Go.Lft
set_option linter.unusedVariables false
set_option maxRecDepth 100000
namespace Go.Proofs.Pk
def j00D:Con:=⟨246,[.rl 256 ty12,.clo 247 []],[ty12],⟨[],[.rl ty12]⟩,[ty12],fun h=>Pw.j004 h⟩
def j02Q:FnD where
 N:=9
 np:=2
 cs:=[j01B]
 ds:=[]
 modes:=[(271,[true,false,false])]
theorem j02K:Con.OK Tryz.prog j00D:=
 cOf tabOk mixedOk j02Q j00D Tryz.func246 (And.intro j04Z trivial) trivial
def j05C:Con:=⟨219,[.v ty60],[ty60],⟨[.own 256 ty12,.v iT],[]⟩,[ty12,iT],fun h=>Pw.j035 h⟩
def j0cn:FnD where
 N:=86
 np:=1
 cs:=[j099,j0ae,j0ag,j00D]
 ds:=[⟨0,[.s (.one (.bp 64 0)),sI,.s (.one (.d ty53)),sI,sI,.b (.cell [.d .str,.d iT,.d ty53] false)],[iT,ty53,iT,iT,.str,iT,ty53],[⟨.ret,[.s (.one (.nil)),sI],[iT]⟩,⟨.exit 0,[.s (.one (.bp 64 0)),sI,.b (.cell [.d .str,.d iT,.d ty53] false)],[iT,.str,iT,ty53]⟩],fun h=>Pw.j027 h.1 h.2.1 h.2.2.1 h.2.2.2.1 h.2.2.2.2.1 h.2.2.2.2.2.1 h.2.2.2.2.2.2⟩,
  ⟨2,[.s (.one (.ol 1002000)),.s (.one (.d ty53)),sI,sI,.b (.lst 256 ty8 false)],[ty53,iT,iT,ty12],[⟨.exit 2,[.s (.one (.ol 1502300)),.b (.lst 256 ty8 false)],[ty12]⟩],fun h=>Pw.j00S h.1 h.2.1 h.2.2.1 h.2.2.2⟩,
  ⟨4,[.s (.one (.ol 1004000)),.s (.one (.bp 640 0)),sI,.s (.one (.d ty53)),sI,sI,.b (.cell [.d iT,.d iT,.d iT,.d iT,.d iT,.d iT,.d iT] false),.b (.lst 256 ty8 false)],[iT,ty53,iT,iT,iT,iT,iT,iT,iT,iT,iT,ty12],[⟨.exit 4,[.s (.one (.ol 1504500)),.s (.one (.d ty53)),sI,sI,.b (.lst 256 ty8 false)],[ty53,iT,iT,ty12]⟩],fun h=>Pw.j00R h.1 h.2.1 h.2.2.1 h.2.2.2.1 h.2.2.2.2.1 h.2.2.2.2.2.1 h.2.2.2.2.2.2.1 h.2.2.2.2.2.2.2.1 h.2.2.2.2.2.2.2.2.1 h.2.2.2.2.2.2.2.2.2.1 h.2.2.2.2.2.2.2.2.2.2.1 h.2.2.2.2.2.2.2.2.2.2.2⟩]
 modes:=[(220,[false,false,false]),(244,[false]),(245,[false,false,false,false]),(246,[true,false])]
 keep:=[(0,⟨[1,4,23,24,25],[64],[],[]⟩),
  (2,⟨[8,46,47,48],[],[⟨1002000,256,ty8,[.slot 8],false⟩],[]⟩),
  (4,⟨[8,10,11,46,47,48],[640],[⟨1004000,256,ty8,[.slot 8],false⟩],[]⟩)]
 keepX:=[(0,.ret,⟨[2,3],[],[],[]⟩),
  (0,.exit 0,⟨[1,4],[64],[],[]⟩),
  (2,.exit 2,⟨[8],[],[⟨1502300,256,ty8,[.slot 8],false⟩],[]⟩),
  (4,.exit 4,⟨[8,46,47,48],[],[⟨1504500,256,ty8,[.slot 8],false⟩],[]⟩)]
 ro:=[true,false]
theorem j0by:Con.OK Tryz.prog j05C:=
 cOf tabOk mixedOk j0cn j05C Tryz.func219 (And.intro j0dD (And.intro j0h0 (And.intro j0h3 (And.intro j02K trivial)))) (And.intro (fun h=>by kernel_rfl) (And.intro (fun h=>by kernel_rfl) (And.intro (fun h=>by kernel_rfl) trivial)))
def j04d:Con:=⟨170,[.v ty60],[ty60],⟨[.own 146 ty12,.v iT],[]⟩,[ty12,iT],fun h=>Pw.j01V h⟩
def j0co:FnD where
 N:=79
 np:=1
 cs:=[j099,j05C]
 ds:=[⟨0,[.s (.one (.ol 1000000)),sI,.s (.one (.ol 1000001)),sI,sI,.b (.lst 146 ty8 false),.b (.lst 256 ty8 false)],[iT,iT,iT,ty12,ty12],[⟨.ret,[.s (.one (.nil)),sI],[iT]⟩,⟨.exit 0,[.s (.one (.ol 1500100)),.b (.lst 146 ty8 false)],[ty12]⟩],fun h=>Pw.j02a h.1 h.2.1 h.2.2.1 h.2.2.2.1 h.2.2.2.2⟩]
 modes:=[(219,[false]),(220,[false,false,false])]
 keep:=[(0,⟨[6,7,22,23,24],[],[⟨1000000,146,ty8,[.slot 6],false⟩,⟨1000001,256,ty8,[.slot 22],false⟩],[]⟩)]
 keepX:=[(0,.ret,⟨[2,3],[],[],[]⟩),
  (0,.exit 0,⟨[6],[],[⟨1500100,146,ty8,[.slot 6],false⟩],[]⟩)]
 ro:=[true,false]
theorem j08q:Con.OK Tryz.prog j04d:=
 cOf tabOk mixedOk j0co j04d Tryz.func170 (And.intro j0dD (And.intro j0by trivial)) (And.intro (fun h=>by kernel_rfl) trivial)
def j09r:Con:=⟨123,[.v ty60],[ty60],⟨[.v iT],[]⟩,[iT],fun h=>Pw.j06H h⟩
def j0h4:FnD where
 N:=11
 np:=1
 cs:=[j04d]
 ds:=[]
 modes:=[(170,[false])]
 ro:=[false]
theorem j0gd:Con.OK Tryz.prog j09r:=
 cOf tabOk mixedOk j0h4 j09r Tryz.func123 (And.intro j08q trivial) trivial
def j04e:Con:=⟨125,[.v ty50],[ty50],⟨[.v .bool],[]⟩,[.bool],fun h=>Pw.j05y h⟩
def j0ai:FnD where
 N:=7
 np:=1
 cs:=[]
 ds:=[]
 ro:=[false]
theorem j09O:Con.OK Tryz.prog j04e:=
 cOf tabOk mixedOk j0ai j04e Tryz.func125 trivial trivial
def j015:Con:=⟨171,[.v ty53,.clo 125 []],[ty53],⟨[.v iT],[]⟩,[iT],fun h=>Pw.j00j h⟩
def j04f:FnD where
 N:=19
 np:=2
 cs:=[j04e]
 ds:=[⟨0,[.s (.one (.d ty53)),.s (.one (.clo 125 [])),sI,sI],[ty53,iT,iT],[⟨.ret,[sI],[iT]⟩,⟨.exit 0,[],[]⟩],fun h=>Pw.j00f h.1 h.2.1 h.2.2⟩]
 modes:=[(125,[false])]
 keep:=[(0,⟨[0,1,7,8],[],[],[]⟩)]
 keepX:=[(0,.ret,⟨[4],[],[],[]⟩),
  (0,.exit 0,⟨[],[],[],[]⟩)]
 ro:=[false]
theorem j042:Con.OK Tryz.prog j015:=
 cOf tabOk mixedOk j04f j015 Tryz.func171 (And.intro j09O trivial) (And.intro (fun h=>by kernel_rfl) trivial)
def j00U:Con:=⟨124,[.v ty53,.clo 125 []],[ty53],⟨[.v .bool],[]⟩,[.bool],fun h=>Pw.j00d h⟩
def j03I:FnD where
 N:=9
 np:=2
 cs:=[j015]
 ds:=[]
 modes:=[(171,[false,false])]
 ro:=[false]
theorem j03D:Con.OK Tryz.prog j00U:=
 cOf tabOk mixedOk j03I j00U Tryz.func124 (And.intro j042 trivial) trivial
def j059:Con:=⟨74,[.v ty60],[ty60],⟨[.v iT],[]⟩,[iT],fun h=>Pw.j02m h⟩
def j0bz:FnD where
 N:=17
 np:=1
 cs:=[j09r,j00U]
 ds:=[]
 modes:=[(123,[false]),(124,[false,false])]
 ro:=[false]
theorem j0aZ:Con.OK Tryz.prog j059:=
 cOf tabOk mixedOk j0bz j059 Tryz.func74 (And.intro j0gd (And.intro j03D trivial)) trivial
def j03E:Con:=⟨72,[.v ty61,.clo 73 [],.clo 74 []],[ty61],⟨[.v iT],[]⟩,[iT],fun h=>Pw.j01u h⟩
def j09s:FnD where
 N:=34
 np:=3
 cs:=[j05B,j03e,j059]
 ds:=[⟨0,[.s (.one (.clo 73 [])),.s (.one (.clo 74 [])),.s (.one (.ol 1000000)),.s (.one (.d ty61)),sI,sI,.b (.lst 4294967424 (.pair .str .bool) false)],[ty61,iT,iT,(.list (.pair .str .bool))],[⟨.ret,[sI],[iT]⟩,⟨.exit 0,[],[]⟩],fun h=>Pw.j00t h.1 h.2.1 h.2.2.1 h.2.2.2⟩]
 modes:=[(73,[false]),(74,[false]),(75,[false,true])]
 keep:=[(0,⟨[1,2,7,13,14,15],[],[⟨1000000,4294967424,(.pair .str .bool),[.slot 7],false⟩],[]⟩)]
 keepX:=[(0,.ret,⟨[6],[],[],[]⟩),
  (0,.exit 0,⟨[],[],[],[]⟩)]
 ro:=[false]
theorem j09a:Con.OK Tryz.prog j03E:=
 cOf tabOk mixedOk j09s j03E Tryz.func72 (And.intro j0bw (And.intro j05f (And.intro j0aZ trivial))) (And.intro (fun h=>by kernel_rfl) trivial)
def j02L:Con:=⟨127,[.v iT,.v iT],[iT,iT],⟨[.v .bool],[]⟩,[.bool],fun h=>Pw.j01Z h.1 h.2⟩
def j0e9:FnD where
 N:=12
 np:=2
 cs:=[]
 ds:=[]
 ro:=[false]
theorem j04L:Con.OK Tryz.prog j02L:=
 cOf tabOk mixedOk j0e9 j02L Tryz.func127 trivial trivial
def j07g:Con:=⟨128,[.v ty12],[ty12],⟨[.v iT],[]⟩,[iT],fun h=>Pw.j06I h⟩
def j0h5:FnD where
 N:=46
 np:=1
 cs:=[]
 ds:=[⟨0,[.s (.one (.d ty12)),.s (.one (.d ty12)),sI,sI],[ty12,ty12,iT,iT],[⟨.ret,[sI],[iT]⟩,⟨.exit 0,[],[]⟩],fun h=>Pw.j03O h.1 h.2.1 h.2.2.1 h.2.2.2⟩]
 keep:=[(0,⟨[0,8,9,10],[],[],[]⟩)]
 keepX:=[(0,.ret,⟨[2],[],[],[]⟩),
  (0,.exit 0,⟨[],[],[],[]⟩)]
 ro:=[false]
theorem j0cQ:Con.OK Tryz.prog j07g:=
 cOf tabOk mixedOk j0h5 j07g Tryz.func128 trivial (And.intro (fun h=>by kernel_rfl) trivial)
def j067:Con:=⟨174,[.v iT,.v iT,.v iT],[iT,iT,iT],⟨[.v .bool],[]⟩,[.bool],fun h=>Pw.j061 h.1 h.2.1 h.2.2⟩
def j0h6:FnD where
 N:=15
 np:=3
 cs:=[]
 ds:=[]
 ro:=[false]
theorem j0aj:Con.OK Tryz.prog j067:=
 cOf tabOk mixedOk j0h6 j067 Tryz.func174 trivial trivial
def j06W:Con:=⟨129,[.v iT],[iT],⟨[.v .bool],[]⟩,[.bool],fun h=>Pw.j04I h⟩
def j0ea:FnD where
 N:=10
 np:=1
 cs:=[j067]
 ds:=[]
 modes:=[(174,[false,false,false])]
 ro:=[false]
theorem j0dE:Con.OK Tryz.prog j06W:=
 cOf tabOk mixedOk j0ea j06W Tryz.func129 (And.intro j0aj trivial) trivial
def j04v:Con:=⟨76,[.v ty79,.v ty48],[ty79,ty48],⟨[.v iT],[]⟩,[iT],fun h=>Pw.j01o h.1 h.2⟩
def j0aL:FnD where
 N:=29
 np:=2
 cs:=[j02L,j07g,j06W]
 ds:=[]
 modes:=[(127,[false,false]),(128,[false]),(129,[false])]
 ro:=[false]
theorem j0ak:Con.OK Tryz.prog j04v:=
 cOf tabOk mixedOk j0aL j04v Tryz.func76 (And.intro j04L (And.intro j0cQ (And.intro j0dE trivial))) trivial
def j05D:Con:=⟨78,[.v ty22],[ty22],⟨[.v .str],[]⟩,[.str],fun h=>Pw.j07F h⟩
def j0cp:FnD where
 N:=5
 np:=1
 cs:=[]
 ds:=[]
 ro:=[false]
theorem j0bA:Con.OK Tryz.prog j05D:=
 cOf tabOk mixedOk j0cp j05D Tryz.func78 trivial trivial
def j09t:Con:=⟨222,[.v iT],[iT],⟨[.v iT],[]⟩,[iT],fun h=>Pw.j0ab h⟩
def j0h7:FnD where
 N:=15
 np:=1
 cs:=[j06z,j05g]
 ds:=[⟨0,[sI,sI],[iT,iT],[⟨.exit 0,[sI],[iT]⟩],fun h=>Pw.j090 h.1 h.2⟩]
 modes:=[(221,[false]),(248,[false,false])]
 keep:=[(0,⟨[0,3],[],[],[]⟩)]
 keepX:=[(0,.exit 0,⟨[3],[],[],[]⟩)]
 ro:=[false]
theorem j0ge:Con.OK Tryz.prog j09t:=
 cOf tabOk mixedOk j0h7 j09t Tryz.func222 (And.intro j0bx (And.intro j09q trivial)) (And.intro (fun h=>by kernel_rfl) trivial)
def j07O:Con:=⟨176,[.v iT],[iT],⟨[.v ty20,.v iT],[]⟩,[ty20,iT],fun h=>Pw.j05z h⟩
def j0fc:FnD where
 N:=45
 np:=1
 cs:=[j04Y,j05g,j09t]
 ds:=[⟨0,[.s (.one (.bp 128 0)),.s (.one (.bp 256 0)),sI,.b (.cell [.d iT,.d iT,.d iT] false),.b (.cell [.d iT,.d iT,.d iT] false)],[iT,iT,iT,iT,iT,iT,iT],[⟨.exit 0,[.s (.one (.bp 128 0)),.s (.one (.bp 256 0)),sI,.b (.cell [.d iT,.d iT,.d iT] false),.b (.cell [.d iT,.d iT,.d iT] false)],[iT,iT,iT,iT,iT,iT,iT]⟩],fun h=>Pw.j07G h.1 h.2.1 h.2.2.1 h.2.2.2.1 h.2.2.2.2.1 h.2.2.2.2.2.1 h.2.2.2.2.2.2⟩]
 modes:=[(221,[false]),(222,[false]),(223,[false,false])]
 keep:=[(0,⟨[2,4,5],[128,256],[],[]⟩)]
 keepX:=[(0,.exit 0,⟨[2,4,5],[128,256],[],[]⟩)]
 ro:=[false,false]
theorem j0eb:Con.OK Tryz.prog j07O:=
 cOf tabOk mixedOk j0fc j07O Tryz.func176 (And.intro j08p (And.intro j09q (And.intro j0ge trivial))) (And.intro (fun h=>by kernel_rfl) trivial)
def j05h:Con:=⟨132,[.v iT],[iT],⟨[.v .bool],[]⟩,[.bool],fun h=>Pw.j01t h⟩
def j0gf:FnD where
 N:=12
 np:=1
 cs:=[j07O]
 ds:=[]
 modes:=[(176,[false])]
 ro:=[false]
theorem j09u:Con.OK Tryz.prog j05h:=
 cOf tabOk mixedOk j0gf j05h Tryz.func132 (And.intro j0eb trivial) trivial
def j03f:Con:=⟨131,[.v iT],[iT],⟨[.v .bool],[]⟩,[.bool],fun h=>Pw.j01F h⟩
def j08G:FnD where
 N:=6
 np:=1
 cs:=[j05h]
 ds:=[]
 modes:=[(132,[false])]
 ro:=[false]
theorem j084:Con.OK Tryz.prog j03f:=
 cOf tabOk mixedOk j08G j03f Tryz.func131 (And.intro j09u trivial) trivial
def j03g:Con:=⟨175,[.v (.list iT),.clo 131 []],[(.list iT)],⟨[.v iT],[]⟩,[iT],fun h=>Pw.j01G h⟩
def j08H:FnD where
 N:=19
 np:=2
 cs:=[j03f]
 ds:=[⟨0,[.s (.one (.d (.list iT))),.s (.one (.clo 131 [])),sI,sI],[(.list iT),iT,iT],[⟨.ret,[sI],[iT]⟩,⟨.exit 0,[],[]⟩],fun h=>Pw.j00m h.1 h.2.1 h.2.2⟩]
 modes:=[(131,[false])]
 keep:=[(0,⟨[0,1,7,8],[],[],[]⟩)]
 keepX:=[(0,.ret,⟨[4],[],[],[]⟩),
  (0,.exit 0,⟨[],[],[],[]⟩)]
 ro:=[false]
theorem j085:Con.OK Tryz.prog j03g:=
 cOf tabOk mixedOk j08H j03g Tryz.func175 (And.intro j084 trivial) (And.intro (fun h=>by kernel_rfl) trivial)
end Go.Proofs.Pk
