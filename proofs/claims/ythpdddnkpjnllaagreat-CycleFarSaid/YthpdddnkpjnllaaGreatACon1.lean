/- Contracts: each given function is its plain function, printed by a program. -/
import Derived.Test.YthpdddnkpjnllaaGreatACon0
noncomputable section
open Go Go.Lft
set_option linter.unusedVariables false
set_option maxRecDepth 100000
namespace Go.Proofs.Pk
def j00w:Con:=⟨246,[.rl 256 ty12,.clo 247 []],[ty12],⟨[],[.rl ty12]⟩,[ty12],fun h=>Pw.j005 h⟩
def j02v:FnD where
 N:=9
 np:=2
 cs:=[j01g]
 ds:=[]
 modes:=[(271,[true,false,false])]
theorem j02l:Con.OK Tryz.prog j00w:=
 cOf tabOk mixedOk j02v j00w Tryz.func246 (And.intro j04Q trivial) trivial
def j05w:Con:=⟨219,[.v ty60],[ty60],⟨[.own 256 ty12,.v iT],[]⟩,[ty12,iT],fun h=>Pw.j02D h⟩
def j0dI:FnD where
 N:=86
 np:=1
 cs:=[j09m,j0aG,j0aI,j00w]
 ds:=[⟨0,[.s (.one (.bp 64 0)),sI,.s (.one (.d ty53)),sI,sI,.b (.cell [.d .str,.d iT,.d ty53] false)],[iT,ty53,iT,iT,.str,iT,ty53],[⟨.ret,[.s (.one (.nil)),sI],[iT]⟩,⟨.exit 0,[.s (.one (.bp 64 0)),sI,.b (.cell [.d .str,.d iT,.d ty53] false)],[iT,.str,iT,ty53]⟩],fun h=>Pw.j01I h.1 h.2.1 h.2.2.1 h.2.2.2.1 h.2.2.2.2.1 h.2.2.2.2.2.1 h.2.2.2.2.2.2⟩,
  ⟨2,[.s (.one (.ol 1002000)),.s (.one (.d ty53)),sI,sI,.b (.lst 256 ty8 false)],[ty53,iT,iT,ty12],[⟨.exit 2,[.s (.one (.ol 1502300)),.b (.lst 256 ty8 false)],[ty12]⟩],fun h=>Pw.j00L h.1 h.2.1 h.2.2.1 h.2.2.2⟩,
  ⟨4,[.s (.one (.ol 1004000)),.s (.one (.bp 640 0)),sI,.s (.one (.d ty53)),sI,sI,.b (.cell [.d iT,.d iT,.d iT,.d iT,.d iT,.d iT,.d iT] false),.b (.lst 256 ty8 false)],[iT,ty53,iT,iT,iT,iT,iT,iT,iT,iT,iT,ty12],[⟨.exit 4,[.s (.one (.ol 1504500)),.s (.one (.d ty53)),sI,sI,.b (.lst 256 ty8 false)],[ty53,iT,iT,ty12]⟩],fun h=>Pw.j00K h.1 h.2.1 h.2.2.1 h.2.2.2.1 h.2.2.2.2.1 h.2.2.2.2.2.1 h.2.2.2.2.2.2.1 h.2.2.2.2.2.2.2.1 h.2.2.2.2.2.2.2.2.1 h.2.2.2.2.2.2.2.2.2.1 h.2.2.2.2.2.2.2.2.2.2.1 h.2.2.2.2.2.2.2.2.2.2.2⟩]
 modes:=[(220,[false,false,false]),(244,[false]),(245,[false,false,false,false]),(246,[true,false])]
 keep:=[(0,⟨[1,4,23,24,25],[64],[],[]⟩),
  (2,⟨[8,46,47,48],[],[⟨1002000,256,ty8,[.slot 8],false⟩],[]⟩),
  (4,⟨[8,10,11,46,47,48],[640],[⟨1004000,256,ty8,[.slot 8],false⟩],[]⟩)]
 keepX:=[(0,.ret,⟨[2,3],[],[],[]⟩),
  (0,.exit 0,⟨[1,4],[64],[],[]⟩),
  (2,.exit 2,⟨[8],[],[⟨1502300,256,ty8,[.slot 8],false⟩],[]⟩),
  (4,.exit 4,⟨[8,46,47,48],[],[⟨1504500,256,ty8,[.slot 8],false⟩],[]⟩)]
 ro:=[true,false]
theorem j0cT:Con.OK Tryz.prog j05w:=
 cOf tabOk mixedOk j0dI j05w Tryz.func219 (And.intro j0f5 (And.intro j0iH (And.intro j0iK (And.intro j02l trivial)))) (And.intro (fun h=>by kernel_rfl) (And.intro (fun h=>by kernel_rfl) (And.intro (fun h=>by kernel_rfl) trivial)))
def j03O:Con:=⟨170,[.v ty60],[ty60],⟨[.own 146 ty12,.v iT],[]⟩,[ty12,iT],fun h=>Pw.j01w h⟩
def j0dJ:FnD where
 N:=79
 np:=1
 cs:=[j09m,j05w]
 ds:=[⟨0,[.s (.one (.ol 1000000)),sI,.s (.one (.ol 1000001)),sI,sI,.b (.lst 146 ty8 false),.b (.lst 256 ty8 false)],[iT,iT,iT,ty12,ty12],[⟨.ret,[.s (.one (.nil)),sI],[iT]⟩,⟨.exit 0,[.s (.one (.ol 1500100)),.b (.lst 146 ty8 false)],[ty12]⟩],fun h=>Pw.j01L h.1 h.2.1 h.2.2.1 h.2.2.2.1 h.2.2.2.2⟩]
 modes:=[(219,[false]),(220,[false,false,false])]
 keep:=[(0,⟨[6,7,22,23,24],[],[⟨1000000,146,ty8,[.slot 6],false⟩,⟨1000001,256,ty8,[.slot 22],false⟩],[]⟩)]
 keepX:=[(0,.ret,⟨[2,3],[],[],[]⟩),
  (0,.exit 0,⟨[6],[],[⟨1500100,146,ty8,[.slot 6],false⟩],[]⟩)]
 ro:=[true,false]
theorem j08x:Con.OK Tryz.prog j03O:=
 cOf tabOk mixedOk j0dJ j03O Tryz.func170 (And.intro j0f5 (And.intro j0cT trivial)) (And.intro (fun h=>by kernel_rfl) trivial)
def j09I:Con:=⟨123,[.v ty60],[ty60],⟨[.v iT],[]⟩,[iT],fun h=>Pw.j06C h⟩
def j0iL:FnD where
 N:=11
 np:=1
 cs:=[j03O]
 ds:=[]
 modes:=[(170,[false])]
 ro:=[false]
theorem j0hK:Con.OK Tryz.prog j09I:=
 cOf tabOk mixedOk j0iL j09I Tryz.func123 (And.intro j08x trivial) trivial
def j03P:Con:=⟨125,[.v ty50],[ty50],⟨[.v .bool],[]⟩,[.bool],fun h=>Pw.j05r h⟩
def j0aK:FnD where
 N:=7
 np:=1
 cs:=[]
 ds:=[]
 ro:=[false]
theorem j0ae:Con.OK Tryz.prog j03P:=
 cOf tabOk mixedOk j0aK j03P Tryz.func125 trivial trivial
def j00V:Con:=⟨171,[.v ty53,.clo 125 []],[ty53],⟨[.v iT],[]⟩,[iT],fun h=>Pw.j00i h⟩
def j03Q:FnD where
 N:=19
 np:=2
 cs:=[j03P]
 ds:=[⟨0,[.s (.one (.d ty53)),.s (.one (.clo 125 [])),sI,sI],[ty53,iT,iT],[⟨.ret,[sI],[iT]⟩,⟨.exit 0,[],[]⟩],fun h=>Pw.j00f h.1 h.2.1 h.2.2⟩]
 modes:=[(125,[false])]
 keep:=[(0,⟨[0,1,7,8],[],[],[]⟩)]
 keepX:=[(0,.ret,⟨[4],[],[],[]⟩),
  (0,.exit 0,⟨[],[],[],[]⟩)]
 ro:=[false]
theorem j03G:Con.OK Tryz.prog j00V:=
 cOf tabOk mixedOk j03Q j00V Tryz.func171 (And.intro j0ae trivial) (And.intro (fun h=>by kernel_rfl) trivial)
def j00O:Con:=⟨124,[.v ty53,.clo 125 []],[ty53],⟨[.v .bool],[]⟩,[.bool],fun h=>Pw.j00d h⟩
def j03d:FnD where
 N:=9
 np:=2
 cs:=[j00V]
 ds:=[]
 modes:=[(171,[false,false])]
 ro:=[false]
theorem j038:Con.OK Tryz.prog j00O:=
 cOf tabOk mixedOk j03d j00O Tryz.func124 (And.intro j03G trivial) trivial
def j04Y:Con:=⟨74,[.v ty60],[ty60],⟨[.v iT],[]⟩,[iT],fun h=>Pw.j01W h⟩
def j0cU:FnD where
 N:=17
 np:=1
 cs:=[j09I,j00O]
 ds:=[]
 modes:=[(123,[false]),(124,[false,false])]
 ro:=[false]
theorem j0bS:Con.OK Tryz.prog j04Y:=
 cOf tabOk mixedOk j0cU j04Y Tryz.func74 (And.intro j0hK (And.intro j038 trivial)) trivial
def j039:Con:=⟨72,[.v ty61,.clo 73 [],.clo 74 []],[ty61],⟨[.v iT],[]⟩,[iT],fun h=>Pw.j01e h⟩
def j09J:FnD where
 N:=34
 np:=3
 cs:=[j05v,j02H,j04Y]
 ds:=[⟨0,[.s (.one (.clo 73 [])),.s (.one (.clo 74 [])),.s (.one (.ol 1000000)),.s (.one (.d ty61)),sI,sI,.b (.lst 4294967424 (.pair .str .bool) false)],[ty61,iT,iT,(.list (.pair .str .bool))],[⟨.ret,[sI],[iT]⟩,⟨.exit 0,[],[]⟩],fun h=>Pw.j00q h.1 h.2.1 h.2.2.1 h.2.2.2⟩]
 modes:=[(73,[false]),(74,[false]),(75,[false,true])]
 keep:=[(0,⟨[1,2,7,13,14,15],[],[⟨1000000,4294967424,(.pair .str .bool),[.slot 7],false⟩],[]⟩)]
 keepX:=[(0,.ret,⟨[6],[],[],[]⟩),
  (0,.exit 0,⟨[],[],[],[]⟩)]
 ro:=[false]
theorem j09n:Con.OK Tryz.prog j039:=
 cOf tabOk mixedOk j09J j039 Tryz.func72 (And.intro j0cR (And.intro j059 (And.intro j0bS trivial))) (And.intro (fun h=>by kernel_rfl) trivial)
def j02m:Con:=⟨127,[.v iT,.v iT],[iT,iT],⟨[.v .bool],[]⟩,[.bool],fun h=>Pw.j01B h.1 h.2⟩
def j0fF:FnD where
 N:=12
 np:=2
 cs:=[]
 ds:=[]
 ro:=[false]
theorem j04A:Con.OK Tryz.prog j02m:=
 cOf tabOk mixedOk j0fF j02m Tryz.func127 trivial trivial
def j07k:Con:=⟨128,[.v ty12],[ty12],⟨[.v iT],[]⟩,[iT],fun h=>Pw.j06D h⟩
def j0iM:FnD where
 N:=46
 np:=1
 cs:=[]
 ds:=[⟨0,[.s (.one (.d ty12)),.s (.one (.d ty12)),sI,sI],[ty12,ty12,iT,iT],[⟨.ret,[sI],[iT]⟩,⟨.exit 0,[],[]⟩],fun h=>Pw.j03j h.1 h.2.1 h.2.2.1 h.2.2.2⟩]
 keep:=[(0,⟨[0,8,9,10],[],[],[]⟩)]
 keepX:=[(0,.ret,⟨[2],[],[],[]⟩),
  (0,.exit 0,⟨[],[],[],[]⟩)]
 ro:=[false]
theorem j0ek:Con.OK Tryz.prog j07k:=
 cOf tabOk mixedOk j0iM j07k Tryz.func128 trivial (And.intro (fun h=>by kernel_rfl) trivial)
def j05W:Con:=⟨174,[.v iT,.v iT,.v iT],[iT,iT,iT],⟨[.v .bool],[]⟩,[.bool],fun h=>Pw.j05O h.1 h.2.1 h.2.2⟩
def j0iN:FnD where
 N:=15
 np:=3
 cs:=[]
 ds:=[]
 ro:=[false]
theorem j0aL:Con.OK Tryz.prog j05W:=
 cOf tabOk mixedOk j0iN j05W Tryz.func174 trivial trivial
def j06U:Con:=⟨129,[.v iT],[iT],⟨[.v .bool],[]⟩,[.bool],fun h=>Pw.j03I h⟩
def j0fG:FnD where
 N:=10
 np:=1
 cs:=[j05W]
 ds:=[]
 modes:=[(174,[false,false,false])]
 ro:=[false]
theorem j0f6:Con.OK Tryz.prog j06U:=
 cOf tabOk mixedOk j0fG j06U Tryz.func129 (And.intro j0aL trivial) trivial
def j049:Con:=⟨76,[.v ty79,.v ty48],[ty79,ty48],⟨[.v iT],[]⟩,[iT],fun h=>Pw.j01b h.1 h.2⟩
def j0bw:FnD where
 N:=29
 np:=2
 cs:=[j02m,j07k,j06U]
 ds:=[]
 modes:=[(127,[false,false]),(128,[false]),(129,[false])]
 ro:=[false]
theorem j0aM:Con.OK Tryz.prog j049:=
 cOf tabOk mixedOk j0bw j049 Tryz.func76 (And.intro j04A (And.intro j0ek (And.intro j0f6 trivial))) trivial
def j05x:Con:=⟨78,[.v ty22],[ty22],⟨[.v .str],[]⟩,[.str],fun h=>Pw.j07G h⟩
def j0dK:FnD where
 N:=5
 np:=1
 cs:=[]
 ds:=[]
 ro:=[false]
theorem j0cV:Con.OK Tryz.prog j05x:=
 cOf tabOk mixedOk j0dK j05x Tryz.func78 trivial trivial
def j09K:Con:=⟨222,[.v iT],[iT],⟨[.v iT],[]⟩,[iT],fun h=>Pw.j0ax h⟩
def j0iO:FnD where
 N:=15
 np:=1
 cs:=[j06v,j05a]
 ds:=[⟨0,[sI,sI],[iT,iT],[⟨.exit 0,[sI],[iT]⟩],fun h=>Pw.j09d h.1 h.2⟩]
 modes:=[(221,[false]),(248,[false,false])]
 keep:=[(0,⟨[0,3],[],[],[]⟩)]
 keepX:=[(0,.exit 0,⟨[3],[],[],[]⟩)]
 ro:=[false]
theorem j0hL:Con.OK Tryz.prog j09K:=
 cOf tabOk mixedOk j0iO j09K Tryz.func222 (And.intro j0cS (And.intro j09H trivial)) (And.intro (fun h=>by kernel_rfl) trivial)
def j07Q:Con:=⟨176,[.v iT],[iT],⟨[.v ty20,.v iT],[]⟩,[ty20,iT],fun h=>Pw.j033 h⟩
def j0gM:FnD where
 N:=45
 np:=1
 cs:=[j04P,j05a,j09K]
 ds:=[⟨0,[.s (.one (.bp 128 0)),.s (.one (.bp 256 0)),sI,.b (.cell [.d iT,.d iT,.d iT] false),.b (.cell [.d iT,.d iT,.d iT] false)],[iT,iT,iT,iT,iT,iT,iT],[⟨.exit 0,[.s (.one (.bp 128 0)),.s (.one (.bp 256 0)),sI,.b (.cell [.d iT,.d iT,.d iT] false),.b (.cell [.d iT,.d iT,.d iT] false)],[iT,iT,iT,iT,iT,iT,iT]⟩],fun h=>Pw.j07H h.1 h.2.1 h.2.2.1 h.2.2.2.1 h.2.2.2.2.1 h.2.2.2.2.2.1 h.2.2.2.2.2.2⟩]
 modes:=[(221,[false]),(222,[false]),(223,[false,false])]
 keep:=[(0,⟨[2,4,5],[128,256],[],[]⟩)]
 keepX:=[(0,.exit 0,⟨[2,4,5],[128,256],[],[]⟩)]
 ro:=[false,false]
theorem j0fH:Con.OK Tryz.prog j07Q:=
 cOf tabOk mixedOk j0gM j07Q Tryz.func176 (And.intro j08w (And.intro j09H (And.intro j0hL trivial))) (And.intro (fun h=>by kernel_rfl) trivial)
def j05b:Con:=⟨132,[.v iT],[iT],⟨[.v .bool],[]⟩,[.bool],fun h=>Pw.j00B h⟩
def j0hM:FnD where
 N:=12
 np:=1
 cs:=[j07Q]
 ds:=[]
 modes:=[(176,[false])]
 ro:=[false]
theorem j09L:Con.OK Tryz.prog j05b:=
 cOf tabOk mixedOk j0hM j05b Tryz.func132 (And.intro j0fH trivial) trivial
def j02I:Con:=⟨131,[.v iT],[iT],⟨[.v .bool],[]⟩,[.bool],fun h=>Pw.j01j h⟩
def j08S:FnD where
 N:=6
 np:=1
 cs:=[j05b]
 ds:=[]
 modes:=[(132,[false])]
 ro:=[false]
theorem j085:Con.OK Tryz.prog j02I:=
 cOf tabOk mixedOk j08S j02I Tryz.func131 (And.intro j09L trivial) trivial
def j02J:Con:=⟨175,[.v (.list iT),.clo 131 []],[(.list iT)],⟨[.v iT],[]⟩,[iT],fun h=>Pw.j01k h⟩
def j08T:FnD where
 N:=19
 np:=2
 cs:=[j02I]
 ds:=[⟨0,[.s (.one (.d (.list iT))),.s (.one (.clo 131 [])),sI,sI],[(.list iT),iT,iT],[⟨.ret,[sI],[iT]⟩,⟨.exit 0,[],[]⟩],fun h=>Pw.j00k h.1 h.2.1 h.2.2⟩]
 modes:=[(131,[false])]
 keep:=[(0,⟨[0,1,7,8],[],[],[]⟩)]
 keepX:=[(0,.ret,⟨[4],[],[],[]⟩),
  (0,.exit 0,⟨[],[],[],[]⟩)]
 ro:=[false]
theorem j086:Con.OK Tryz.prog j02J:=
 cOf tabOk mixedOk j08T j02J Tryz.func175 (And.intro j085 trivial) (And.intro (fun h=>by kernel_rfl) trivial)
end Go.Proofs.Pk
