/- Contracts: each given function is its plain function, printed by a program. -/
import Derived.Test.YthpdddnkpjnllaaGreatDCon0
noncomputable section
open Go Go.Lft
set_option linter.unusedVariables false
set_option maxRecDepth 100000
namespace Go.Proofs.Pk
def j0Z:Con:=⟨246,[.rl 256 ty12,.clo 247 []],[ty12],⟨[],[.rl ty12]⟩,[ty12],fun h=>Pw.j0c h⟩
def j4s:FnD where
 N:=9
 np:=2
 cs:=[j2i]
 ds:=[]
 modes:=[(271,[true,false,false])]
theorem j4f:Con.OK Tryz.prog j0Z:=
 cOf j0a j03 j4s j0Z Tryz.func246 (j9 j7R trivial) trivial
def j8o:Con:=⟨219,[.v ty60],[ty60],⟨[.own 256 ty12,.v iT],[]⟩,[ty12,iT],fun h=>Pw.j4n h⟩
def jk7:FnD where
 N:=86
 np:=1
 cs:=[jcW,jfw,jfx,j0Z]
 ds:=[⟨0,[.s (.one (.bp 64 0)),sI,.s (.one (.d ty53)),sI,sI,.b (.cell [.d .str,.d iT,.d ty53] false)],[iT,ty53,iT,iT,.str,iT,ty53],[⟨.ret,[.s (.one (.nil)),sI],[iT]⟩,⟨.exit 0,[.s (.one (.bp 64 0)),sI,.b (.cell [.d .str,.d iT,.d ty53] false)],[iT,.str,iT,ty53]⟩],fun h=>Pw.j35 h.1 h.2.1 h.2.2.1 h.2.2.2.1 h.2.2.2.2.1 h.2.2.2.2.2.1 h.2.2.2.2.2.2⟩,
  ⟨2,[.s (.one (.ol 1002000)),.s (.one (.d ty53)),sI,sI,.b (.lst 256 ty8 false)],[ty53,iT,iT,ty12],[⟨.exit 2,[.s (.one (.ol 1502300)),.b (.lst 256 ty8 false)],[ty12]⟩],fun h=>Pw.j1c h.1 h.2.1 h.2.2.1 h.2.2.2⟩,
  ⟨4,[.s (.one (.ol 1004000)),.s (.one (.bp 640 0)),sI,.s (.one (.d ty53)),sI,sI,.b (.cell [.d iT,.d iT,.d iT,.d iT,.d iT,.d iT,.d iT] false),.b (.lst 256 ty8 false)],[iT,ty53,iT,iT,iT,iT,iT,iT,iT,iT,iT,ty12],[⟨.exit 4,[.s (.one (.ol 1504500)),.s (.one (.d ty53)),sI,sI,.b (.lst 256 ty8 false)],[ty53,iT,iT,ty12]⟩],fun h=>Pw.j1b h.1 h.2.1 h.2.2.1 h.2.2.2.1 h.2.2.2.2.1 h.2.2.2.2.2.1 h.2.2.2.2.2.2.1 h.2.2.2.2.2.2.2.1 h.2.2.2.2.2.2.2.2.1 h.2.2.2.2.2.2.2.2.2.1 h.2.2.2.2.2.2.2.2.2.2.1 h.2.2.2.2.2.2.2.2.2.2.2⟩]
 modes:=[(220,[false,false,false]),(244,[false]),(245,[false,false,false,false]),(246,[true,false])]
 keep:=[(0,⟨[1,4,23,24,25],[64],[],[]⟩),
  (2,⟨[8,46,47,48],[],[⟨1002000,256,ty8,[.slot 8],false⟩],[]⟩),
  (4,⟨[8,10,11,46,47,48],[640],[⟨1004000,256,ty8,[.slot 8],false⟩],[]⟩)]
 keepX:=[(0,.ret,⟨[2,3],[],[],[]⟩),
  (0,.exit 0,⟨[1,4],[64],[],[]⟩),
  (2,.exit 2,⟨[8],[],[⟨1502300,256,ty8,[.slot 8],false⟩],[]⟩),
  (4,.exit 4,⟨[8,46,47,48],[],[⟨1504500,256,ty8,[.slot 8],false⟩],[]⟩)]
 ro:=[true,false]
theorem jiS:Con.OK Tryz.prog j8o:=
 cOf j0a j03 jk7 j8o Tryz.func219 (j9 jla (j9 jrK (j9 jrN (j9 j4f trivial)))) (j9 (fun h=>by kernel_rfl) (j9 (fun h=>by kernel_rfl) (j9 (fun h=>by kernel_rfl) trivial)))
def j5X:Con:=⟨170,[.v ty60],[ty60],⟨[.own 146 ty12,.v iT],[]⟩,[ty12,iT],fun h=>Pw.j2A h⟩
def jk8:FnD where
 N:=79
 np:=1
 cs:=[jcW,j8o]
 ds:=[⟨0,[.s (.one (.ol 1000000)),sI,.s (.one (.ol 1000001)),sI,sI,.b (.lst 146 ty8 false),.b (.lst 256 ty8 false)],[iT,iT,iT,ty12,ty12],[⟨.ret,[.s (.one (.nil)),sI],[iT]⟩,⟨.exit 0,[.s (.one (.ol 1500100)),.b (.lst 146 ty8 false)],[ty12]⟩],fun h=>Pw.j36 h.1 h.2.1 h.2.2.1 h.2.2.2.1 h.2.2.2.2⟩]
 modes:=[(219,[false]),(220,[false,false,false])]
 keep:=[(0,⟨[6,7,22,23,24],[],[⟨1000000,146,ty8,[.slot 6],false⟩,⟨1000001,256,ty8,[.slot 22],false⟩],[]⟩)]
 keepX:=[(0,.ret,⟨[2,3],[],[],[]⟩),
  (0,.exit 0,⟨[6],[],[⟨1500100,146,ty8,[.slot 6],false⟩],[]⟩)]
 ro:=[true,false]
theorem jcY:Con.OK Tryz.prog j5X:=
 cOf j0a j03 jk8 j5X Tryz.func170 (j9 jla (j9 jiS trivial)) (j9 (fun h=>by kernel_rfl) trivial)
def jeb:Con:=⟨123,[.v ty60],[ty60],⟨[.v iT],[]⟩,[iT],fun h=>Pw.j9i h⟩
def jrO:FnD where
 N:=11
 np:=1
 cs:=[j5X]
 ds:=[]
 modes:=[(170,[false])]
 ro:=[false]
theorem jqa:Con.OK Tryz.prog jeb:=
 cOf j0a j03 jrO jeb Tryz.func123 (j9 jcY trivial) trivial
def j6k:Con:=⟨125,[.v ty50],[ty50],⟨[.v .bool],[]⟩,[.bool],fun h=>Pw.j8l h⟩
def jgo:FnD where
 N:=7
 np:=1
 cs:=[]
 ds:=[]
 ro:=[false]
theorem jfy:Con.OK Tryz.prog j6k:=
 cOf j0a j03 jgo j6k Tryz.func125 trivial trivial
def j1F:Con:=⟨171,[.v ty53,.clo 125 []],[ty53],⟨[.v iT],[]⟩,[iT],fun h=>Pw.j0x h⟩
def j6n:FnD where
 N:=19
 np:=2
 cs:=[j6k]
 ds:=[⟨0,[.s (.one (.d ty53)),.s (.one (.clo 125 [])),sI,sI],[ty53,iT,iT],[⟨.ret,[sI],[iT]⟩,⟨.exit 0,[],[]⟩],fun h=>Pw.j0u h.1 h.2.1 h.2.2⟩]
 modes:=[(125,[false])]
 keep:=[(0,⟨[0,1,7,8],[],[],[]⟩)]
 keepX:=[(0,.ret,⟨[4],[],[],[]⟩),
  (0,.exit 0,⟨[],[],[],[]⟩)]
 ro:=[false]
theorem j6l:Con.OK Tryz.prog j1F:=
 cOf j0a j03 j6n j1F Tryz.func171 (j9 jfy trivial) (j9 (fun h=>by kernel_rfl) trivial)
def j1o:Con:=⟨124,[.v ty53,.clo 125 []],[ty53],⟨[.v .bool],[]⟩,[.bool],fun h=>Pw.j0p h⟩
def j5L:FnD where
 N:=9
 np:=2
 cs:=[j1F]
 ds:=[]
 modes:=[(171,[false,false])]
 ro:=[false]
theorem j5C:Con.OK Tryz.prog j1o:=
 cOf j0a j03 j5L j1o Tryz.func124 (j9 j6l trivial) trivial
def j7S:Con:=⟨74,[.v ty60],[ty60],⟨[.v iT],[]⟩,[iT],fun h=>Pw.j37 h⟩
def jiT:FnD where
 N:=17
 np:=1
 cs:=[jeb,j1o]
 ds:=[]
 modes:=[(123,[false]),(124,[false,false])]
 ro:=[false]
theorem ji4:Con.OK Tryz.prog j7S:=
 cOf j0a j03 jiT j7S Tryz.func74 (j9 jqa (j9 j5C trivial)) trivial
def j5a:Con:=⟨72,[.v ty61,.clo 73 [],.clo 74 []],[ty61],⟨[.v iT],[]⟩,[iT],fun h=>Pw.j2e h⟩
def jeV:FnD where
 N:=34
 np:=3
 cs:=[j8n,j4r,j7S]
 ds:=[⟨0,[.s (.one (.clo 73 [])),.s (.one (.clo 74 [])),.s (.one (.ol 1000000)),.s (.one (.d ty61)),sI,sI,.b (.lst 4294967424 (.pair .str .bool) false)],[ty61,iT,iT,(.list (.pair .str .bool))],[⟨.ret,[sI],[iT]⟩,⟨.exit 0,[],[]⟩],fun h=>Pw.j0G h.1 h.2.1 h.2.2.1 h.2.2.2⟩]
 modes:=[(73,[false]),(74,[false]),(75,[false,true])]
 keep:=[(0,⟨[1,2,7,13,14,15],[],[⟨1000000,4294967424,(.pair .str .bool),[.slot 7],false⟩],[]⟩)]
 keepX:=[(0,.ret,⟨[6],[],[],[]⟩),
  (0,.exit 0,⟨[],[],[],[]⟩)]
 ro:=[false]
theorem jec:Con.OK Tryz.prog j5a:=
 cOf j0a j03 jeV j5a Tryz.func72 (j9 jiR (j9 j7P (j9 ji4 trivial))) (j9 (fun h=>by kernel_rfl) trivial)
def j3P:Con:=⟨127,[.v iT,.v iT],[iT,iT],⟨[.v .bool],[]⟩,[.bool],fun h=>Pw.j2C h.1 h.2⟩
def jnk:FnD where
 N:=12
 np:=2
 cs:=[]
 ds:=[]
 ro:=[false]
theorem j73:Con.OK Tryz.prog j3P:=
 cOf j0a j03 jnk j3P Tryz.func127 trivial trivial
def jaS:Con:=⟨128,[.v ty12],[ty12],⟨[.v iT],[]⟩,[iT],fun h=>Pw.j9j h⟩
def jrP:FnD where
 N:=46
 np:=1
 cs:=[]
 ds:=[⟨0,[.s (.one (.d ty12)),.s (.one (.d ty12)),sI,sI],[ty12,ty12,iT,iT],[⟨.ret,[sI],[iT]⟩,⟨.exit 0,[],[]⟩],fun h=>Pw.j5j h.1 h.2.1 h.2.2.1 h.2.2.2⟩]
 keep:=[(0,⟨[0,8,9,10],[],[],[]⟩)]
 keepX:=[(0,.ret,⟨[2],[],[],[]⟩),
  (0,.exit 0,⟨[],[],[],[]⟩)]
 ro:=[false]
theorem jk9:Con.OK Tryz.prog jaS:=
 cOf j0a j03 jrP jaS Tryz.func128 trivial (j9 (fun h=>by kernel_rfl) trivial)
def j8O:Con:=⟨174,[.v iT,.v iT,.v iT],[iT,iT,iT],⟨[.v .bool],[]⟩,[.bool],fun h=>Pw.j85 h.1 h.2.1 h.2.2⟩
def jrQ:FnD where
 N:=15
 np:=3
 cs:=[]
 ds:=[]
 ro:=[false]
theorem jfz:Con.OK Tryz.prog j8O:=
 cOf j0a j03 jrQ j8O Tryz.func174 trivial trivial
def jaA:Con:=⟨129,[.v iT],[iT],⟨[.v .bool],[]⟩,[.bool],fun h=>Pw.j5k h⟩
def jnl:FnD where
 N:=10
 np:=1
 cs:=[j8O]
 ds:=[]
 modes:=[(174,[false,false,false])]
 ro:=[false]
theorem jlY:Con.OK Tryz.prog jaA:=
 cOf j0a j03 jnl jaA Tryz.func129 (j9 jfz trivial) trivial
def j6B:Con:=⟨76,[.v ty79,.v ty48],[ty79,ty48],⟨[.v iT],[]⟩,[iT],fun h=>Pw.j20 h.1 h.2⟩
def jha:FnD where
 N:=29
 np:=2
 cs:=[j3P,jaS,jaA]
 ds:=[]
 modes:=[(127,[false,false]),(128,[false]),(129,[false])]
 ro:=[false]
theorem jgp:Con.OK Tryz.prog j6B:=
 cOf j0a j03 jha j6B Tryz.func76 (j9 j73 (j9 jk9 (j9 jlY trivial))) trivial
def j8p:Con:=⟨78,[.v ty22],[ty22],⟨[.v .str],[]⟩,[.str],fun h=>Pw.jbA h⟩
def jka:FnD where
 N:=5
 np:=1
 cs:=[]
 ds:=[]
 ro:=[false]
theorem jiU:Con.OK Tryz.prog j8p:=
 cOf j0a j03 jka j8p Tryz.func78 trivial trivial
def jed:Con:=⟨222,[.v iT],[iT],⟨[.v iT],[]⟩,[iT],fun h=>Pw.jeN h⟩
def jrR:FnD where
 N:=15
 np:=1
 cs:=[j9H,j7Q]
 ds:=[⟨0,[sI,sI],[iT,iT],[⟨.exit 0,[sI],[iT]⟩],fun h=>Pw.jdP h.1 h.2⟩]
 modes:=[(221,[false]),(248,[false,false])]
 keep:=[(0,⟨[0,3],[],[],[]⟩)]
 keepX:=[(0,.exit 0,⟨[3],[],[],[]⟩)]
 ro:=[false]
theorem jqb:Con.OK Tryz.prog jed:=
 cOf j0a j03 jrR jed Tryz.func222 (j9 jir (j9 jea trivial)) (j9 (fun h=>by kernel_rfl) trivial)
def jbE:Con:=⟨176,[.v iT],[iT],⟨[.v ty20,.v iT],[]⟩,[ty20,iT],fun h=>Pw.j4N h⟩
def joj:FnD where
 N:=45
 np:=1
 cs:=[j7d,j7Q,jed]
 ds:=[⟨0,[.s (.one (.bp 128 0)),.s (.one (.bp 256 0)),sI,.b (.cell [.d iT,.d iT,.d iT] false),.b (.cell [.d iT,.d iT,.d iT] false)],[iT,iT,iT,iT,iT,iT,iT],[⟨.exit 0,[.s (.one (.bp 128 0)),.s (.one (.bp 256 0)),sI,.b (.cell [.d iT,.d iT,.d iT] false),.b (.cell [.d iT,.d iT,.d iT] false)],[iT,iT,iT,iT,iT,iT,iT]⟩],fun h=>Pw.jc0 h.1 h.2.1 h.2.2.1 h.2.2.2.1 h.2.2.2.2.1 h.2.2.2.2.2.1 h.2.2.2.2.2.2⟩]
 modes:=[(221,[false]),(222,[false]),(223,[false,false])]
 keep:=[(0,⟨[2,4,5],[128,256],[],[]⟩)]
 keepX:=[(0,.exit 0,⟨[2,4,5],[128,256],[],[]⟩)]
 ro:=[false,false]
theorem jnm:Con.OK Tryz.prog jbE:=
 cOf j0a j03 joj jbE Tryz.func176 (j9 jcb (j9 jea (j9 jqb trivial))) (j9 (fun h=>by kernel_rfl) trivial)
def j7T:Con:=⟨132,[.v iT],[iT],⟨[.v .bool],[]⟩,[.bool],fun h=>Pw.j0Q h⟩
def jqc:FnD where
 N:=12
 np:=1
 cs:=[jbE]
 ds:=[]
 modes:=[(176,[false])]
 ro:=[false]
theorem jee:Con.OK Tryz.prog j7T:=
 cOf j0a j03 jqc j7T Tryz.func132 (j9 jnm trivial) trivial
def j4G:Con:=⟨131,[.v iT],[iT],⟨[.v .bool],[]⟩,[.bool],fun h=>Pw.j2k h⟩
def jdA:FnD where
 N:=6
 np:=1
 cs:=[j7T]
 ds:=[]
 modes:=[(132,[false])]
 ro:=[false]
theorem jcZ:Con.OK Tryz.prog j4G:=
 cOf j0a j03 jdA j4G Tryz.func131 (j9 jee trivial) trivial
def j4H:Con:=⟨175,[.v (.list iT),.clo 131 []],[(.list iT)],⟨[.v iT],[]⟩,[iT],fun h=>Pw.j2l h⟩
def jdB:FnD where
 N:=19
 np:=2
 cs:=[j4G]
 ds:=[⟨0,[.s (.one (.d (.list iT))),.s (.one (.clo 131 [])),sI,sI],[(.list iT),iT,iT],[⟨.ret,[sI],[iT]⟩,⟨.exit 0,[],[]⟩],fun h=>Pw.j0z h.1 h.2.1 h.2.2⟩]
 modes:=[(131,[false])]
 keep:=[(0,⟨[0,1,7,8],[],[],[]⟩)]
 keepX:=[(0,.ret,⟨[4],[],[],[]⟩),
  (0,.exit 0,⟨[],[],[],[]⟩)]
 ro:=[false]
theorem jd0:Con.OK Tryz.prog j4H:=
 cOf j0a j03 jdB j4H Tryz.func175 (j9 jcZ trivial) (j9 (fun h=>by kernel_rfl) trivial)
end Go.Proofs.Pk
