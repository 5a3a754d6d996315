/- Contracts: each given function is its plain function, printed by a program. -/
import Derived.Test.YthpdddnkpjnllaaGreatBCon0
noncomputable section
open Go Go.Lft
set_option linter.unusedVariables false
set_option maxRecDepth 100000
namespace Go.Proofs.Pk
def j00v:Con:=⟨246,[.rl 256 ty12,.clo 247 []],[ty12],⟨[],[.rl ty12]⟩,[ty12],fun h=>Pw.j005 h⟩
def j02E:FnD where
 N:=9
 np:=2
 cs:=[j01k]
 ds:=[]
 modes:=[(271,[true,false,false])]
theorem j02t:Con.OK Tryz.prog j00v:=
 cOf tabOk mixedOk j02E j00v Tryz.func246 (And.intro j055 trivial) trivial
def j05P:Con:=⟨219,[.v ty60],[ty60],⟨[.own 256 ty12,.v iT],[]⟩,[ty12,iT],fun h=>Pw.j02N h⟩
def j0eA:FnD where
 N:=86
 np:=1
 cs:=[j0ah,j0bF,j0bH,j00v]
 ds:=[⟨0,[.s (.one (.bp 64 0)),sI,.s (.one (.d ty53)),sI,sI,.b (.cell [.d .str,.d iT,.d ty53] false)],[iT,ty53,iT,iT,.str,iT,ty53],[⟨.ret,[.s (.one (.nil)),sI],[iT]⟩,⟨.exit 0,[.s (.one (.bp 64 0)),sI,.b (.cell [.d .str,.d iT,.d ty53] false)],[iT,.str,iT,ty53]⟩],fun h=>Pw.j01T h.1 h.2.1 h.2.2.1 h.2.2.2.1 h.2.2.2.2.1 h.2.2.2.2.2.1 h.2.2.2.2.2.2⟩,
  ⟨2,[.s (.one (.ol 1002000)),.s (.one (.d ty53)),sI,sI,.b (.lst 256 ty8 false)],[ty53,iT,iT,ty12],[⟨.exit 2,[.s (.one (.ol 1502300)),.b (.lst 256 ty8 false)],[ty12]⟩],fun h=>Pw.j00J h.1 h.2.1 h.2.2.1 h.2.2.2⟩,
  ⟨4,[.s (.one (.ol 1004000)),.s (.one (.bp 640 0)),sI,.s (.one (.d ty53)),sI,sI,.b (.cell [.d iT,.d iT,.d iT,.d iT,.d iT,.d iT,.d iT] false),.b (.lst 256 ty8 false)],[iT,ty53,iT,iT,iT,iT,iT,iT,iT,iT,iT,ty12],[⟨.exit 4,[.s (.one (.ol 1504500)),.s (.one (.d ty53)),sI,sI,.b (.lst 256 ty8 false)],[ty53,iT,iT,ty12]⟩],fun h=>Pw.j00I h.1 h.2.1 h.2.2.1 h.2.2.2.1 h.2.2.2.2.1 h.2.2.2.2.2.1 h.2.2.2.2.2.2.1 h.2.2.2.2.2.2.2.1 h.2.2.2.2.2.2.2.2.1 h.2.2.2.2.2.2.2.2.2.1 h.2.2.2.2.2.2.2.2.2.2.1 h.2.2.2.2.2.2.2.2.2.2.2⟩]
 modes:=[(220,[false,false,false]),(244,[false]),(245,[false,false,false,false]),(246,[true,false])]
 keep:=[(0,⟨[1,4,23,24,25],[64],[],[]⟩),
  (2,⟨[8,46,47,48],[],[⟨1002000,256,ty8,[.slot 8],false⟩],[]⟩),
  (4,⟨[8,10,11,46,47,48],[640],[⟨1004000,256,ty8,[.slot 8],false⟩],[]⟩)]
 keepX:=[(0,.ret,⟨[2,3],[],[],[]⟩),
  (0,.exit 0,⟨[1,4],[64],[],[]⟩),
  (2,.exit 2,⟨[8],[],[⟨1502300,256,ty8,[.slot 8],false⟩],[]⟩),
  (4,.exit 4,⟨[8,46,47,48],[],[⟨1504500,256,ty8,[.slot 8],false⟩],[]⟩)]
 ro:=[true,false]
theorem j0dL:Con.OK Tryz.prog j05P:=
 cOf tabOk mixedOk j0eA j05P Tryz.func219 (And.intro j0g9 (And.intro j0k0 (And.intro j0k3 (And.intro j02t trivial)))) (And.intro (fun h=>by kernel_rfl) (And.intro (fun h=>by kernel_rfl) (And.intro (fun h=>by kernel_rfl) trivial)))
def j041:Con:=⟨170,[.v ty60],[ty60],⟨[.own 146 ty12,.v iT],[]⟩,[ty12,iT],fun h=>Pw.j01D h⟩
def j0eB:FnD where
 N:=79
 np:=1
 cs:=[j0ah,j05P]
 ds:=[⟨0,[.s (.one (.ol 1000000)),sI,.s (.one (.ol 1000001)),sI,sI,.b (.lst 146 ty8 false),.b (.lst 256 ty8 false)],[iT,iT,iT,ty12,ty12],[⟨.ret,[.s (.one (.nil)),sI],[iT]⟩,⟨.exit 0,[.s (.one (.ol 1500100)),.b (.lst 146 ty8 false)],[ty12]⟩],fun h=>Pw.j01W h.1 h.2.1 h.2.2.1 h.2.2.2.1 h.2.2.2.2⟩]
 modes:=[(219,[false]),(220,[false,false,false])]
 keep:=[(0,⟨[6,7,22,23,24],[],[⟨1000000,146,ty8,[.slot 6],false⟩,⟨1000001,256,ty8,[.slot 22],false⟩],[]⟩)]
 keepX:=[(0,.ret,⟨[2,3],[],[],[]⟩),
  (0,.exit 0,⟨[6],[],[⟨1500100,146,ty8,[.slot 6],false⟩],[]⟩)]
 ro:=[true,false]
theorem j09m:Con.OK Tryz.prog j041:=
 cOf tabOk mixedOk j0eB j041 Tryz.func170 (And.intro j0g9 (And.intro j0dL trivial)) (And.intro (fun h=>by kernel_rfl) trivial)
def j0aC:Con:=⟨123,[.v ty60],[ty60],⟨[.v iT],[]⟩,[iT],fun h=>Pw.j075 h⟩
def j0k4:FnD where
 N:=11
 np:=1
 cs:=[j041]
 ds:=[]
 modes:=[(170,[false])]
 ro:=[false]
theorem j0j2:Con.OK Tryz.prog j0aC:=
 cOf tabOk mixedOk j0k4 j0aC Tryz.func123 (And.intro j09m trivial) trivial
def j042:Con:=⟨125,[.v ty50],[ty50],⟨[.v .bool],[]⟩,[.bool],fun h=>Pw.j05M h⟩
def j0bJ:FnD where
 N:=7
 np:=1
 cs:=[]
 ds:=[]
 ro:=[false]
theorem j0b8:Con.OK Tryz.prog j042:=
 cOf tabOk mixedOk j0bJ j042 Tryz.func125 trivial trivial
def j00W:Con:=⟨171,[.v ty53,.clo 125 []],[ty53],⟨[.v iT],[]⟩,[iT],fun h=>Pw.j00i h⟩
def j043:FnD where
 N:=19
 np:=2
 cs:=[j042]
 ds:=[⟨0,[.s (.one (.d ty53)),.s (.one (.clo 125 [])),sI,sI],[ty53,iT,iT],[⟨.ret,[sI],[iT]⟩,⟨.exit 0,[],[]⟩],fun h=>Pw.j00f h.1 h.2.1 h.2.2⟩]
 modes:=[(125,[false])]
 keep:=[(0,⟨[0,1,7,8],[],[],[]⟩)]
 keepX:=[(0,.ret,⟨[4],[],[],[]⟩),
  (0,.exit 0,⟨[],[],[],[]⟩)]
 ro:=[false]
theorem j03R:Con.OK Tryz.prog j00W:=
 cOf tabOk mixedOk j043 j00W Tryz.func171 (And.intro j0b8 trivial) (And.intro (fun h=>by kernel_rfl) trivial)
def j00M:Con:=⟨124,[.v ty53,.clo 125 []],[ty53],⟨[.v .bool],[]⟩,[.bool],fun h=>Pw.j00d h⟩
def j03o:FnD where
 N:=9
 np:=2
 cs:=[j00W]
 ds:=[]
 modes:=[(171,[false,false])]
 ro:=[false]
theorem j03j:Con.OK Tryz.prog j00M:=
 cOf tabOk mixedOk j03o j00M Tryz.func124 (And.intro j03R trivial) trivial
def j05g:Con:=⟨74,[.v ty60],[ty60],⟨[.v iT],[]⟩,[iT],fun h=>Pw.j024 h⟩
def j0dM:FnD where
 N:=17
 np:=1
 cs:=[j0aC,j00M]
 ds:=[]
 modes:=[(123,[false]),(124,[false,false])]
 ro:=[false]
theorem j0cT:Con.OK Tryz.prog j05g:=
 cOf tabOk mixedOk j0dM j05g Tryz.func74 (And.intro j0j2 (And.intro j03j trivial)) trivial
def j03k:Con:=⟨72,[.v ty61,.clo 73 [],.clo 74 []],[ty61],⟨[.v iT],[]⟩,[iT],fun h=>Pw.j01i h⟩
def j0aD:FnD where
 N:=34
 np:=3
 cs:=[j05O,j02T,j05g]
 ds:=[⟨0,[.s (.one (.clo 73 [])),.s (.one (.clo 74 [])),.s (.one (.ol 1000000)),.s (.one (.d ty61)),sI,sI,.b (.lst 4294967424 (.pair .str .bool) false)],[ty61,iT,iT,(.list (.pair .str .bool))],[⟨.ret,[sI],[iT]⟩,⟨.exit 0,[],[]⟩],fun h=>Pw.j00p h.1 h.2.1 h.2.2.1 h.2.2.2⟩]
 modes:=[(73,[false]),(74,[false]),(75,[false,true])]
 keep:=[(0,⟨[1,2,7,13,14,15],[],[⟨1000000,4294967424,(.pair .str .bool),[.slot 7],false⟩],[]⟩)]
 keepX:=[(0,.ret,⟨[6],[],[],[]⟩),
  (0,.exit 0,⟨[],[],[],[]⟩)]
 ro:=[false]
theorem j0ai:Con.OK Tryz.prog j03k:=
 cOf tabOk mixedOk j0aD j03k Tryz.func72 (And.intro j0dJ (And.intro j05q (And.intro j0cT trivial))) (And.intro (fun h=>by kernel_rfl) trivial)
def j02u:Con:=⟨127,[.v iT,.v iT],[iT,iT],⟨[.v .bool],[]⟩,[.bool],fun h=>Pw.j01L h.1 h.2⟩
def j0gK:FnD where
 N:=12
 np:=2
 cs:=[]
 ds:=[]
 ro:=[false]
theorem j04O:Con.OK Tryz.prog j02u:=
 cOf tabOk mixedOk j0gK j02u Tryz.func127 trivial trivial
def j07O:Con:=⟨128,[.v ty12],[ty12],⟨[.v iT],[]⟩,[iT],fun h=>Pw.j076 h⟩
def j0k5:FnD where
 N:=46
 np:=1
 cs:=[]
 ds:=[⟨0,[.s (.one (.d ty12)),.s (.one (.d ty12)),sI,sI],[ty12,ty12,iT,iT],[⟨.ret,[sI],[iT]⟩,⟨.exit 0,[],[]⟩],fun h=>Pw.j03v h.1 h.2.1 h.2.2.1 h.2.2.2⟩]
 keep:=[(0,⟨[0,8,9,10],[],[],[]⟩)]
 keepX:=[(0,.ret,⟨[2],[],[],[]⟩),
  (0,.exit 0,⟨[],[],[],[]⟩)]
 ro:=[false]
theorem j0fe:Con.OK Tryz.prog j07O:=
 cOf tabOk mixedOk j0k5 j07O Tryz.func128 trivial (And.intro (fun h=>by kernel_rfl) trivial)
def j06l:Con:=⟨174,[.v iT,.v iT,.v iT],[iT,iT,iT],⟨[.v .bool],[]⟩,[.bool],fun h=>Pw.j069 h.1 h.2.1 h.2.2⟩
def j0k6:FnD where
 N:=15
 np:=3
 cs:=[]
 ds:=[]
 ro:=[false]
theorem j0bK:Con.OK Tryz.prog j06l:=
 cOf tabOk mixedOk j0k6 j06l Tryz.func174 trivial trivial
def j07n:Con:=⟨129,[.v iT],[iT],⟨[.v .bool],[]⟩,[.bool],fun h=>Pw.j03T h⟩
def j0gL:FnD where
 N:=10
 np:=1
 cs:=[j06l]
 ds:=[]
 modes:=[(174,[false,false,false])]
 ro:=[false]
theorem j0ga:Con.OK Tryz.prog j07n:=
 cOf tabOk mixedOk j0gL j07n Tryz.func129 (And.intro j0bK trivial) trivial
def j04m:Con:=⟨76,[.v ty79,.v ty48],[ty79,ty48],⟨[.v iT],[]⟩,[iT],fun h=>Pw.j01e h.1 h.2⟩
def j0cz:FnD where
 N:=29
 np:=2
 cs:=[j02u,j07O,j07n]
 ds:=[]
 modes:=[(127,[false,false]),(128,[false]),(129,[false])]
 ro:=[false]
theorem j0bL:Con.OK Tryz.prog j04m:=
 cOf tabOk mixedOk j0cz j04m Tryz.func76 (And.intro j04O (And.intro j0fe (And.intro j0ga trivial))) trivial
def j05Q:Con:=⟨78,[.v ty22],[ty22],⟨[.v .str],[]⟩,[.str],fun h=>Pw.j08e h⟩
def j0eC:FnD where
 N:=5
 np:=1
 cs:=[]
 ds:=[]
 ro:=[false]
theorem j0dN:Con.OK Tryz.prog j05Q:=
 cOf tabOk mixedOk j0eC j05Q Tryz.func78 trivial trivial
def j0aE:Con:=⟨222,[.v iT],[iT],⟨[.v iT],[]⟩,[iT],fun h=>Pw.j0bu h⟩
def j0k7:FnD where
 N:=15
 np:=1
 cs:=[j06W,j05r]
 ds:=[⟨0,[sI,sI],[iT,iT],[⟨.exit 0,[sI],[iT]⟩],fun h=>Pw.j0a7 h.1 h.2⟩]
 modes:=[(221,[false]),(248,[false,false])]
 keep:=[(0,⟨[0,3],[],[],[]⟩)]
 keepX:=[(0,.exit 0,⟨[3],[],[],[]⟩)]
 ro:=[false]
theorem j0j3:Con.OK Tryz.prog j0aE:=
 cOf tabOk mixedOk j0k7 j0aE Tryz.func222 (And.intro j0dK (And.intro j0aB trivial)) (And.intro (fun h=>by kernel_rfl) trivial)
def j08A:Con:=⟨176,[.v iT],[iT],⟨[.v ty20,.v iT],[]⟩,[ty20,iT],fun h=>Pw.j04C h⟩
def j0hY:FnD where
 N:=45
 np:=1
 cs:=[j054,j05r,j0aE]
 ds:=[⟨0,[.s (.one (.bp 128 0)),.s (.one (.bp 256 0)),sI,.b (.cell [.d iT,.d iT,.d iT] false),.b (.cell [.d iT,.d iT,.d iT] false)],[iT,iT,iT,iT,iT,iT,iT],[⟨.exit 0,[.s (.one (.bp 128 0)),.s (.one (.bp 256 0)),sI,.b (.cell [.d iT,.d iT,.d iT] false),.b (.cell [.d iT,.d iT,.d iT] false)],[iT,iT,iT,iT,iT,iT,iT]⟩],fun h=>Pw.j08f h.1 h.2.1 h.2.2.1 h.2.2.2.1 h.2.2.2.2.1 h.2.2.2.2.2.1 h.2.2.2.2.2.2⟩]
 modes:=[(221,[false]),(222,[false]),(223,[false,false])]
 keep:=[(0,⟨[2,4,5],[128,256],[],[]⟩)]
 keepX:=[(0,.exit 0,⟨[2,4,5],[128,256],[],[]⟩)]
 ro:=[false,false]
theorem j0gM:Con.OK Tryz.prog j08A:=
 cOf tabOk mixedOk j0hY j08A Tryz.func176 (And.intro j09l (And.intro j0aB (And.intro j0j3 trivial))) (And.intro (fun h=>by kernel_rfl) trivial)
def j05s:Con:=⟨132,[.v iT],[iT],⟨[.v .bool],[]⟩,[.bool],fun h=>Pw.j00V h⟩
def j0j4:FnD where
 N:=12
 np:=1
 cs:=[j08A]
 ds:=[]
 modes:=[(176,[false])]
 ro:=[false]
theorem j0aF:Con.OK Tryz.prog j05s:=
 cOf tabOk mixedOk j0j4 j05s Tryz.func132 (And.intro j0gM trivial) trivial
def j02U:Con:=⟨131,[.v iT],[iT],⟨[.v .bool],[]⟩,[.bool],fun h=>Pw.j01o h⟩
def j09N:FnD where
 N:=6
 np:=1
 cs:=[j05s]
 ds:=[]
 modes:=[(132,[false])]
 ro:=[false]
theorem j08U:Con.OK Tryz.prog j02U:=
 cOf tabOk mixedOk j09N j02U Tryz.func131 (And.intro j0aF trivial) trivial
def j02V:Con:=⟨175,[.v (.list iT),.clo 131 []],[(.list iT)],⟨[.v iT],[]⟩,[iT],fun h=>Pw.j01p h⟩
def j09O:FnD where
 N:=19
 np:=2
 cs:=[j02U]
 ds:=[⟨0,[.s (.one (.d (.list iT))),.s (.one (.clo 131 [])),sI,sI],[(.list iT),iT,iT],[⟨.ret,[sI],[iT]⟩,⟨.exit 0,[],[]⟩],fun h=>Pw.j00k h.1 h.2.1 h.2.2⟩]
 modes:=[(131,[false])]
 keep:=[(0,⟨[0,1,7,8],[],[],[]⟩)]
 keepX:=[(0,.ret,⟨[4],[],[],[]⟩),
  (0,.exit 0,⟨[],[],[],[]⟩)]
 ro:=[false]
theorem j08V:Con.OK Tryz.prog j02V:=
 cOf tabOk mixedOk j09O j02V Tryz.func175 (And.intro j08U trivial) (And.intro (fun h=>by kernel_rfl) trivial)
end Go.Proofs.Pk
