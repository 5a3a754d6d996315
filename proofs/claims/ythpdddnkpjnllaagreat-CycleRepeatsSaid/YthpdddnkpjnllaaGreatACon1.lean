/- Contracts: each given function is its plain function, printed by a program. -/
import Derived.Test.YthpdddnkpjnllaaGreatACon0
noncomputable section
open Go Go.Lft
set_option linter.unusedVariables false
set_option maxRecDepth 100000
namespace Go.Proofs.Pk
def j00w:Con:=⟨246,[.rl 256 ty12,.clo 247 []],[ty12],⟨[],[.rl ty12]⟩,[ty12],fun h=>Pw.j005 h⟩
def j02o:FnD where
 N:=9
 np:=2
 cs:=[j01e]
 ds:=[]
 modes:=[(271,[true,false,false])]
theorem j02e:Con.OK Tryz.prog j00w:=
 cOf tabOk mixedOk j02o j00w Tryz.func246 (And.intro j04H trivial) trivial
def j05o:Con:=⟨219,[.v ty60],[ty60],⟨[.own 256 ty12,.v iT],[]⟩,[ty12,iT],fun h=>Pw.j02v h⟩
def j0dD:FnD where
 N:=86
 np:=1
 cs:=[j09d,j0ax,j0az,j00w]
 ds:=[⟨0,[.s (.one (.bp 64 0)),sI,.s (.one (.d ty53)),sI,sI,.b (.cell [.d .str,.d iT,.d ty53] false)],[iT,ty53,iT,iT,.str,iT,ty53],[⟨.ret,[.s (.one (.nil)),sI],[iT]⟩,⟨.exit 0,[.s (.one (.bp 64 0)),sI,.b (.cell [.d .str,.d iT,.d ty53] false)],[iT,.str,iT,ty53]⟩],fun h=>Pw.j01E h.1 h.2.1 h.2.2.1 h.2.2.2.1 h.2.2.2.2.1 h.2.2.2.2.2.1 h.2.2.2.2.2.2⟩,
  ⟨2,[.s (.one (.ol 1002000)),.s (.one (.d ty53)),sI,sI,.b (.lst 256 ty8 false)],[ty53,iT,iT,ty12],[⟨.exit 2,[.s (.one (.ol 1502300)),.b (.lst 256 ty8 false)],[ty12]⟩],fun h=>Pw.j00K h.1 h.2.1 h.2.2.1 h.2.2.2⟩,
  ⟨4,[.s (.one (.ol 1004000)),.s (.one (.bp 640 0)),sI,.s (.one (.d ty53)),sI,sI,.b (.cell [.d iT,.d iT,.d iT,.d iT,.d iT,.d iT,.d iT] false),.b (.lst 256 ty8 false)],[iT,ty53,iT,iT,iT,iT,iT,iT,iT,iT,iT,ty12],[⟨.exit 4,[.s (.one (.ol 1504500)),.s (.one (.d ty53)),sI,sI,.b (.lst 256 ty8 false)],[ty53,iT,iT,ty12]⟩],fun h=>Pw.j00J h.1 h.2.1 h.2.2.1 h.2.2.2.1 h.2.2.2.2.1 h.2.2.2.2.2.1 h.2.2.2.2.2.2.1 h.2.2.2.2.2.2.2.1 h.2.2.2.2.2.2.2.2.1 h.2.2.2.2.2.2.2.2.2.1 h.2.2.2.2.2.2.2.2.2.2.1 h.2.2.2.2.2.2.2.2.2.2.2⟩]
 modes:=[(220,[false,false,false]),(244,[false]),(245,[false,false,false,false]),(246,[true,false])]
 keep:=[(0,⟨[1,4,23,24,25],[64],[],[]⟩),
  (2,⟨[8,46,47,48],[],[⟨1002000,256,ty8,[.slot 8],false⟩],[]⟩),
  (4,⟨[8,10,11,46,47,48],[640],[⟨1004000,256,ty8,[.slot 8],false⟩],[]⟩)]
 keepX:=[(0,.ret,⟨[2,3],[],[],[]⟩),
  (0,.exit 0,⟨[1,4],[64],[],[]⟩),
  (2,.exit 2,⟨[8],[],[⟨1502300,256,ty8,[.slot 8],false⟩],[]⟩),
  (4,.exit 4,⟨[8,46,47,48],[],[⟨1504500,256,ty8,[.slot 8],false⟩],[]⟩)]
 ro:=[true,false]
theorem j0cQ:Con.OK Tryz.prog j05o:=
 cOf tabOk mixedOk j0dD j05o Tryz.func219 (And.intro j0f3 (And.intro j0iB (And.intro j0iE (And.intro j02e trivial)))) (And.intro (fun h=>by kernel_rfl) (And.intro (fun h=>by kernel_rfl) (And.intro (fun h=>by kernel_rfl) trivial)))
def j03E:Con:=⟨170,[.v ty60],[ty60],⟨[.own 146 ty12,.v iT],[]⟩,[ty12,iT],fun h=>Pw.j01J h⟩
def j0dE:FnD where
 N:=79
 np:=1
 cs:=[j09d,j05o]
 ds:=[⟨0,[.s (.one (.ol 1000000)),sI,.s (.one (.ol 1000001)),sI,sI,.b (.lst 146 ty8 false),.b (.lst 256 ty8 false)],[iT,iT,iT,ty12,ty12],[⟨.ret,[.s (.one (.nil)),sI],[iT]⟩,⟨.exit 0,[.s (.one (.ol 1500100)),.b (.lst 146 ty8 false)],[ty12]⟩],fun h=>Pw.j01H h.1 h.2.1 h.2.2.1 h.2.2.2.1 h.2.2.2.2⟩]
 modes:=[(219,[false]),(220,[false,false,false])]
 keep:=[(0,⟨[6,7,22,23,24],[],[⟨1000000,146,ty8,[.slot 6],false⟩,⟨1000001,256,ty8,[.slot 22],false⟩],[]⟩)]
 keepX:=[(0,.ret,⟨[2,3],[],[],[]⟩),
  (0,.exit 0,⟨[6],[],[⟨1500100,146,ty8,[.slot 6],false⟩],[]⟩)]
 ro:=[true,false]
theorem j08p:Con.OK Tryz.prog j03E:=
 cOf tabOk mixedOk j0dE j03E Tryz.func170 (And.intro j0f3 (And.intro j0cQ trivial)) (And.intro (fun h=>by kernel_rfl) trivial)
def j09x:Con:=⟨123,[.v ty60],[ty60],⟨[.v iT],[]⟩,[iT],fun h=>Pw.j06y h⟩
def j0iF:FnD where
 N:=11
 np:=1
 cs:=[j03E]
 ds:=[]
 modes:=[(170,[false])]
 ro:=[false]
theorem j0hE:Con.OK Tryz.prog j09x:=
 cOf tabOk mixedOk j0iF j09x Tryz.func123 (And.intro j08p trivial) trivial
def j03F:Con:=⟨125,[.v ty50],[ty50],⟨[.v .bool],[]⟩,[.bool],fun h=>Pw.j05k h⟩
def j0aB:FnD where
 N:=7
 np:=1
 cs:=[]
 ds:=[]
 ro:=[false]
theorem j0a3:Con.OK Tryz.prog j03F:=
 cOf tabOk mixedOk j0aB j03F Tryz.func125 trivial trivial
def j00U:Con:=⟨171,[.v ty53,.clo 125 []],[ty53],⟨[.v iT],[]⟩,[iT],fun h=>Pw.j00i h⟩
def j03G:FnD where
 N:=19
 np:=2
 cs:=[j03F]
 ds:=[⟨0,[.s (.one (.d ty53)),.s (.one (.clo 125 [])),sI,sI],[ty53,iT,iT],[⟨.ret,[sI],[iT]⟩,⟨.exit 0,[],[]⟩],fun h=>Pw.j00f h.1 h.2.1 h.2.2⟩]
 modes:=[(125,[false])]
 keep:=[(0,⟨[0,1,7,8],[],[],[]⟩)]
 keepX:=[(0,.ret,⟨[4],[],[],[]⟩),
  (0,.exit 0,⟨[],[],[],[]⟩)]
 ro:=[false]
theorem j03x:Con.OK Tryz.prog j00U:=
 cOf tabOk mixedOk j03G j00U Tryz.func171 (And.intro j0a3 trivial) (And.intro (fun h=>by kernel_rfl) trivial)
def j00L:Con:=⟨124,[.v ty53,.clo 125 []],[ty53],⟨[.v .bool],[]⟩,[.bool],fun h=>Pw.j00d h⟩
def j034:FnD where
 N:=9
 np:=2
 cs:=[j00U]
 ds:=[]
 modes:=[(171,[false,false])]
 ro:=[false]
theorem j02Z:Con.OK Tryz.prog j00L:=
 cOf tabOk mixedOk j034 j00L Tryz.func124 (And.intro j03x trivial) trivial
def j04P:Con:=⟨74,[.v ty60],[ty60],⟨[.v iT],[]⟩,[iT],fun h=>Pw.j01R h⟩
def j0cR:FnD where
 N:=17
 np:=1
 cs:=[j09x,j00L]
 ds:=[]
 modes:=[(123,[false]),(124,[false,false])]
 ro:=[false]
theorem j0bL:Con.OK Tryz.prog j04P:=
 cOf tabOk mixedOk j0cR j04P Tryz.func74 (And.intro j0hE (And.intro j02Z trivial)) trivial
def j030:Con:=⟨72,[.v ty61,.clo 73 [],.clo 74 []],[ty61],⟨[.v iT],[]⟩,[iT],fun h=>Pw.j01d h⟩
def j09y:FnD where
 N:=34
 np:=3
 cs:=[j05n,j02x,j04P]
 ds:=[⟨0,[.s (.one (.clo 73 [])),.s (.one (.clo 74 [])),.s (.one (.ol 1000000)),.s (.one (.d ty61)),sI,sI,.b (.lst 4294967424 (.pair .str .bool) false)],[ty61,iT,iT,(.list (.pair .str .bool))],[⟨.ret,[sI],[iT]⟩,⟨.exit 0,[],[]⟩],fun h=>Pw.j00q h.1 h.2.1 h.2.2.1 h.2.2.2⟩]
 modes:=[(73,[false]),(74,[false]),(75,[false,true])]
 keep:=[(0,⟨[1,2,7,13,14,15],[],[⟨1000000,4294967424,(.pair .str .bool),[.slot 7],false⟩],[]⟩)]
 keepX:=[(0,.ret,⟨[6],[],[],[]⟩),
  (0,.exit 0,⟨[],[],[],[]⟩)]
 ro:=[false]
theorem j09e:Con.OK Tryz.prog j030:=
 cOf tabOk mixedOk j09y j030 Tryz.func72 (And.intro j0cO (And.intro j052 (And.intro j0bL trivial))) (And.intro (fun h=>by kernel_rfl) trivial)
def j02f:Con:=⟨127,[.v iT,.v iT],[iT,iT],⟨[.v .bool],[]⟩,[.bool],fun h=>Pw.j01y h.1 h.2⟩
def j0fB:FnD where
 N:=12
 np:=2
 cs:=[]
 ds:=[]
 ro:=[false]
theorem j04s:Con.OK Tryz.prog j02f:=
 cOf tabOk mixedOk j0fB j02f Tryz.func127 trivial trivial
def j07e:Con:=⟨128,[.v ty12],[ty12],⟨[.v iT],[]⟩,[iT],fun h=>Pw.j06z h⟩
def j0iG:FnD where
 N:=46
 np:=1
 cs:=[]
 ds:=[⟨0,[.s (.one (.d ty12)),.s (.one (.d ty12)),sI,sI],[ty12,ty12,iT,iT],[⟨.ret,[sI],[iT]⟩,⟨.exit 0,[],[]⟩],fun h=>Pw.j03a h.1 h.2.1 h.2.2.1 h.2.2.2⟩]
 keep:=[(0,⟨[0,8,9,10],[],[],[]⟩)]
 keepX:=[(0,.ret,⟨[2],[],[],[]⟩),
  (0,.exit 0,⟨[],[],[],[]⟩)]
 ro:=[false]
theorem j0ef:Con.OK Tryz.prog j07e:=
 cOf tabOk mixedOk j0iG j07e Tryz.func128 trivial (And.intro (fun h=>by kernel_rfl) trivial)
def j05R:Con:=⟨174,[.v iT,.v iT,.v iT],[iT,iT,iT],⟨[.v .bool],[]⟩,[.bool],fun h=>Pw.j05G h.1 h.2.1 h.2.2⟩
def j0iH:FnD where
 N:=15
 np:=3
 cs:=[]
 ds:=[]
 ro:=[false]
theorem j0aC:Con.OK Tryz.prog j05R:=
 cOf tabOk mixedOk j0iH j05R Tryz.func174 trivial trivial
def j06O:Con:=⟨129,[.v iT],[iT],⟨[.v .bool],[]⟩,[.bool],fun h=>Pw.j03z h⟩
def j0fC:FnD where
 N:=10
 np:=1
 cs:=[j05R]
 ds:=[]
 modes:=[(174,[false,false,false])]
 ro:=[false]
theorem j0f4:Con.OK Tryz.prog j06O:=
 cOf tabOk mixedOk j0fC j06O Tryz.func129 (And.intro j0aC trivial) trivial
def j03Y:Con:=⟨76,[.v ty79,.v ty48],[ty79,ty48],⟨[.v iT],[]⟩,[iT],fun h=>Pw.j01a h.1 h.2⟩
def j0bn:FnD where
 N:=29
 np:=2
 cs:=[j02f,j07e,j06O]
 ds:=[]
 modes:=[(127,[false,false]),(128,[false]),(129,[false])]
 ro:=[false]
theorem j0aD:Con.OK Tryz.prog j03Y:=
 cOf tabOk mixedOk j0bn j03Y Tryz.func76 (And.intro j04s (And.intro j0ef (And.intro j0f4 trivial))) trivial
def j05p:Con:=⟨78,[.v ty22],[ty22],⟨[.v .str],[]⟩,[.str],fun h=>Pw.j07z h⟩
def j0dF:FnD where
 N:=5
 np:=1
 cs:=[]
 ds:=[]
 ro:=[false]
theorem j0cS:Con.OK Tryz.prog j05p:=
 cOf tabOk mixedOk j0dF j05p Tryz.func78 trivial trivial
def j09z:Con:=⟨222,[.v iT],[iT],⟨[.v iT],[]⟩,[iT],fun h=>Pw.j0am h⟩
def j0iI:FnD where
 N:=15
 np:=1
 cs:=[j06r,j053]
 ds:=[⟨0,[sI,sI],[iT,iT],[⟨.exit 0,[sI],[iT]⟩],fun h=>Pw.j092 h.1 h.2⟩]
 modes:=[(221,[false]),(248,[false,false])]
 keep:=[(0,⟨[0,3],[],[],[]⟩)]
 keepX:=[(0,.exit 0,⟨[3],[],[],[]⟩)]
 ro:=[false]
theorem j0hF:Con.OK Tryz.prog j09z:=
 cOf tabOk mixedOk j0iI j09z Tryz.func222 (And.intro j0cP (And.intro j09w trivial)) (And.intro (fun h=>by kernel_rfl) trivial)
def j07J:Con:=⟨176,[.v iT],[iT],⟨[.v ty20,.v iT],[]⟩,[ty20,iT],fun h=>Pw.j02V h⟩
def j0gH:FnD where
 N:=45
 np:=1
 cs:=[j04G,j053,j09z]
 ds:=[⟨0,[.s (.one (.bp 128 0)),.s (.one (.bp 256 0)),sI,.b (.cell [.d iT,.d iT,.d iT] false),.b (.cell [.d iT,.d iT,.d iT] false)],[iT,iT,iT,iT,iT,iT,iT],[⟨.exit 0,[.s (.one (.bp 128 0)),.s (.one (.bp 256 0)),sI,.b (.cell [.d iT,.d iT,.d iT] false),.b (.cell [.d iT,.d iT,.d iT] false)],[iT,iT,iT,iT,iT,iT,iT]⟩],fun h=>Pw.j07A h.1 h.2.1 h.2.2.1 h.2.2.2.1 h.2.2.2.2.1 h.2.2.2.2.2.1 h.2.2.2.2.2.2⟩]
 modes:=[(221,[false]),(222,[false]),(223,[false,false])]
 keep:=[(0,⟨[2,4,5],[128,256],[],[]⟩)]
 keepX:=[(0,.exit 0,⟨[2,4,5],[128,256],[],[]⟩)]
 ro:=[false,false]
theorem j0fD:Con.OK Tryz.prog j07J:=
 cOf tabOk mixedOk j0gH j07J Tryz.func176 (And.intro j08o (And.intro j09w (And.intro j0hF trivial))) (And.intro (fun h=>by kernel_rfl) trivial)
def j054:Con:=⟨132,[.v iT],[iT],⟨[.v .bool],[]⟩,[.bool],fun h=>Pw.j00A h⟩
def j0hG:FnD where
 N:=12
 np:=1
 cs:=[j07J]
 ds:=[]
 modes:=[(176,[false])]
 ro:=[false]
theorem j09A:Con.OK Tryz.prog j054:=
 cOf tabOk mixedOk j0hG j054 Tryz.func132 (And.intro j0fD trivial) trivial
def j02y:Con:=⟨131,[.v iT],[iT],⟨[.v .bool],[]⟩,[.bool],fun h=>Pw.j01h h⟩
def j08I:FnD where
 N:=6
 np:=1
 cs:=[j054]
 ds:=[]
 modes:=[(132,[false])]
 ro:=[false]
theorem j07Y:Con.OK Tryz.prog j02y:=
 cOf tabOk mixedOk j08I j02y Tryz.func131 (And.intro j09A trivial) trivial
def j02z:Con:=⟨175,[.v (.list iT),.clo 131 []],[(.list iT)],⟨[.v iT],[]⟩,[iT],fun h=>Pw.j01i h⟩
def j08J:FnD where
 N:=19
 np:=2
 cs:=[j02y]
 ds:=[⟨0,[.s (.one (.d (.list iT))),.s (.one (.clo 131 [])),sI,sI],[(.list iT),iT,iT],[⟨.ret,[sI],[iT]⟩,⟨.exit 0,[],[]⟩],fun h=>Pw.j00k h.1 h.2.1 h.2.2⟩]
 modes:=[(131,[false])]
 keep:=[(0,⟨[0,1,7,8],[],[],[]⟩)]
 keepX:=[(0,.ret,⟨[4],[],[],[]⟩),
  (0,.exit 0,⟨[],[],[],[]⟩)]
 ro:=[false]
theorem j07Z:Con.OK Tryz.prog j02z:=
 cOf tabOk mixedOk j08J j02z Tryz.func175 (And.intro j07Y trivial) (And.intro (fun h=>by kernel_rfl) trivial)
end Go.Proofs.Pk
