/- Contracts: each given function is its plain function, printed by a program. -/
import Derived.Test.YtcegmhnnglcgeaaGreatICon4
noncomputable section
open Go Go.Lft
set_option linter.unusedVariables false
set_option maxRecDepth 100000
namespace Go.Proofs.Pk
def j6U:Con:=⟨115,[.v ty25,.v iT],[ty25,iT],⟨[.v iT],[]⟩,[iT],fun h=>Pw.j3x h.1 h.2⟩
def jgg:FnD where
 N:=10
 np:=2
 cs:=[j5q,j54]
 ds:=[]
 modes:=[(168,[false,false]),(169,[false,false])]
 ro:=[false]
theorem jfs:Con.OK Tryz.prog j6U:=
 cOf j0i j03 jgg j6U Tryz.func115 (j9 jbw (j9 jaB trivial)) trivial
def jcA:Con:=⟨114,[.v iT],[iT],⟨[.v ty7],[]⟩,[ty7],fun h=>Pw.jfh h⟩
def joq:FnD where
 N:=17
 np:=1
 cs:=[]
 ds:=[]
 ro:=[false]
theorem jmV:Con.OK Tryz.prog jcA:=
 cOf j0i j03 joq jcA Tryz.func114 trivial trivial
def j5r:Con:=⟨81,[.v ty25,.v iT],[ty25,iT],⟨[.v ty7],[]⟩,[ty7],fun h=>Pw.j0v h.1 h.2⟩
def jhe:FnD where
 N:=11
 np:=2
 cs:=[j6U,jcA]
 ds:=[]
 modes:=[(114,[false]),(115,[false,false])]
 ro:=[false]
theorem jbz:Con.OK Tryz.prog j5r:=
 cOf j0i j03 jhe j5r Tryz.func81 (j9 jfs (j9 jmV trivial)) trivial
def j78:Con:=⟨197,[.v ty25,.v ty68,.v iT],[ty25,ty68,iT],⟨[.v iT],[]⟩,[iT],fun h=>Pw.j20 h.1 h.2.1 h.2.2⟩
def jkg:FnD where
 N:=84
 np:=3
 cs:=[j9I,j4f,j5r]
 ds:=[⟨0,[sI,.s (.one (.bp 192 0)),.s (.one (.bp 256 0)),sI,.b (.cell [.d iT,.d ty12] false),.b (.cell [.d .str,.d iT,.d iT,.d iT,.d iT,.d iT,.d (.list iT),.d ty12,.d iT,.d iT] false)],[iT,iT,iT,ty12,.str,iT,iT,iT,iT,iT,(.list iT),ty12,iT,iT],[⟨.exit 0,[sI,.s (.one (.bp 192 0)),.s (.one (.bp 256 0)),sI,.b (.cell [.d iT,.d ty12] false),.b (.cell [.d .str,.d iT,.d iT,.d iT,.d iT,.d iT,.d (.list iT),.d ty12,.d iT,.d iT] false)],[iT,iT,iT,ty12,.str,iT,iT,iT,iT,iT,(.list iT),ty12,iT,iT]⟩],fun h=>Pw.j1U h.1 h.2.1 h.2.2.1 h.2.2.2.1 h.2.2.2.2.1 h.2.2.2.2.2.1 h.2.2.2.2.2.2.1 h.2.2.2.2.2.2.2.1 h.2.2.2.2.2.2.2.2.1 h.2.2.2.2.2.2.2.2.2.1 h.2.2.2.2.2.2.2.2.2.2.1 h.2.2.2.2.2.2.2.2.2.2.2.1 h.2.2.2.2.2.2.2.2.2.2.2.2.1 h.2.2.2.2.2.2.2.2.2.2.2.2.2⟩,
  ⟨2,[sI,.s (.one (.bp 192 0)),.s (.one (.bp 256 0)),sI,.b (.cell [.d iT,.d ty12] false),.b (.cell [.d .str,.d iT,.d iT,.d iT,.d iT,.d iT,.d (.list iT),.d ty12,.d iT,.d iT] false)],[iT,iT,iT,ty12,.str,iT,iT,iT,iT,iT,(.list iT),ty12,iT,iT],[⟨.ret,[sI],[iT]⟩],fun h=>Pw.j2q h.1 h.2.1 h.2.2.1 h.2.2.2.1 h.2.2.2.2.1 h.2.2.2.2.2.1 h.2.2.2.2.2.2.1 h.2.2.2.2.2.2.2.1 h.2.2.2.2.2.2.2.2.1 h.2.2.2.2.2.2.2.2.2.1 h.2.2.2.2.2.2.2.2.2.2.1 h.2.2.2.2.2.2.2.2.2.2.2.1 h.2.2.2.2.2.2.2.2.2.2.2.2.1 h.2.2.2.2.2.2.2.2.2.2.2.2.2⟩]
 modes:=[(81,[false,false]),(162,[false,false,false]),(224,[false])]
 keep:=[(0,⟨[2,3,4,9],[192,256],[],[]⟩),
  (2,⟨[2,3,4,9],[192,256],[],[]⟩)]
 keepX:=[(0,.exit 0,⟨[2,3,4,9],[192,256],[],[]⟩),
  (2,.ret,⟨[6],[],[],[]⟩)]
 ro:=[false]
theorem je5:Con.OK Tryz.prog j78:=
 cOf j0i j03 jkg j78 Tryz.func197 (j9 jh9 (j9 j84 (j9 jbz trivial))) (j9 (fun h=>by kernel_rfl) (j9 (fun h=>by kernel_rfl) trivial))
def j7N:Con:=⟨92,[.v ty24],[ty24],⟨[.own 41 ty24],[]⟩,[ty24],fun h=>Pw.j6h h⟩
def jor:FnD where
 N:=57
 np:=1
 cs:=[]
 ds:=[⟨0,[.s (.one (.ol 1000000)),.s (.one (.d ty24)),sI,sI,.b (.lst 41 ty20 false)],[ty24,iT,iT,ty24],[⟨.exit 0,[.s (.one (.ol 1500100)),.b (.lst 41 ty20 false)],[ty24]⟩],fun h=>Pw.j4W h.1 h.2.1 h.2.2.1 h.2.2.2⟩]
 keep:=[(0,⟨[3,7,8,9],[],[⟨1000000,41,ty20,[.slot 3],false⟩],[]⟩)]
 keepX:=[(0,.exit 0,⟨[3],[],[⟨1500100,41,ty20,[.slot 3],false⟩],[]⟩)]
 ro:=[true]
theorem jdI:Con.OK Tryz.prog j7N:=
 cOf j0i j03 jor j7N Tryz.func92 trivial (j9 (fun h=>by kernel_rfl) trivial)
def j6l:Con:=⟨128,[.v ty82,.v ty68,.v iT,.v iT],[ty82,ty68,iT,iT],⟨[.own 41 ty24],[]⟩,[ty24],fun h=>Pw.j16 h.1 h.2.1 h.2.2.1 h.2.2.2⟩
def jft:FnD where
 N:=95
 np:=4
 cs:=[j4f,j85,j78,j7N]
 ds:=[⟨0,[sI,.s (.one (.bp 320 0)),.s (.one (.ol 1000000)),.s (.one (.bp 640 0)),sI,sI,sI,.s (.one (.ol 1000001)),sI,sI,.b (.cell [.d .str,.d iT,.d iT,.d iT,.d iT,.d iT,.d (.list iT),.d ty12,.d iT,.d iT] false),.b (.cell [.d iT,.d ty12] false),.b (.lst 41 ty20 false),.b (.lst 118 ty7 false)],[iT,iT,iT,iT,iT,iT,.str,iT,iT,iT,iT,iT,(.list iT),ty12,iT,iT,iT,ty12,ty24,ty12],[⟨.exit 0,[sI,.s (.one (.ol 1500100)),sI,.b (.lst 41 ty20 false)],[iT,iT,ty24]⟩],fun h=>Pw.j13 h.1 h.2.1 h.2.2.1 h.2.2.2.1 h.2.2.2.2.1 h.2.2.2.2.2.1 h.2.2.2.2.2.2.1 h.2.2.2.2.2.2.2.1 h.2.2.2.2.2.2.2.2.1 h.2.2.2.2.2.2.2.2.2.1 h.2.2.2.2.2.2.2.2.2.2.1 h.2.2.2.2.2.2.2.2.2.2.2.1 h.2.2.2.2.2.2.2.2.2.2.2.2.1 h.2.2.2.2.2.2.2.2.2.2.2.2.2.1 h.2.2.2.2.2.2.2.2.2.2.2.2.2.2.1 h.2.2.2.2.2.2.2.2.2.2.2.2.2.2.2.1 h.2.2.2.2.2.2.2.2.2.2.2.2.2.2.2.2.1 h.2.2.2.2.2.2.2.2.2.2.2.2.2.2.2.2.2.1 h.2.2.2.2.2.2.2.2.2.2.2.2.2.2.2.2.2.2.1 h.2.2.2.2.2.2.2.2.2.2.2.2.2.2.2.2.2.2.2⟩,
  ⟨2,[sI,.s (.one (.bp 320 0)),.s (.one (.ol 1002000)),.s (.one (.bp 640 0)),sI,sI,sI,.s (.one (.bp 960 0)),.s (.one (.ol 1002001)),sI,sI,.b (.cell [.d .str,.d iT,.d iT,.d iT,.d iT,.d iT,.d (.list iT),.d ty12,.d iT,.d iT] false),.b (.cell [.d iT,.d ty12] false),.b (.cell [.d iT,.d iT] false),.b (.lst 41 ty20 false),.b (.lst 118 ty7 false)],[iT,iT,iT,iT,iT,iT,.str,iT,iT,iT,iT,iT,(.list iT),ty12,iT,iT,iT,ty12,iT,iT,ty24,ty12],[⟨.exit 2,[sI,.s (.one (.bp 320 0)),.s (.one (.ol 1502300)),.s (.one (.bp 640 0)),sI,sI,sI,.s (.one (.ol 1502301)),sI,sI,.b (.cell [.d .str,.d iT,.d iT,.d iT,.d iT,.d iT,.d (.list iT),.d ty12,.d iT,.d iT] false),.b (.cell [.d iT,.d ty12] false),.b (.lst 41 ty20 false),.b (.lst 118 ty7 false)],[iT,iT,iT,iT,iT,iT,.str,iT,iT,iT,iT,iT,(.list iT),ty12,iT,iT,iT,ty12,ty24,ty12]⟩],fun h=>Pw.j1o h.1 h.2.1 h.2.2.1 h.2.2.2.1 h.2.2.2.2.1 h.2.2.2.2.2.1 h.2.2.2.2.2.2.1 h.2.2.2.2.2.2.2.1 h.2.2.2.2.2.2.2.2.1 h.2.2.2.2.2.2.2.2.2.1 h.2.2.2.2.2.2.2.2.2.2.1 h.2.2.2.2.2.2.2.2.2.2.2.1 h.2.2.2.2.2.2.2.2.2.2.2.2.1 h.2.2.2.2.2.2.2.2.2.2.2.2.2.1 h.2.2.2.2.2.2.2.2.2.2.2.2.2.2.1 h.2.2.2.2.2.2.2.2.2.2.2.2.2.2.2.1 h.2.2.2.2.2.2.2.2.2.2.2.2.2.2.2.2.1 h.2.2.2.2.2.2.2.2.2.2.2.2.2.2.2.2.2.1 h.2.2.2.2.2.2.2.2.2.2.2.2.2.2.2.2.2.2.1 h.2.2.2.2.2.2.2.2.2.2.2.2.2.2.2.2.2.2.2.1 h.2.2.2.2.2.2.2.2.2.2.2.2.2.2.2.2.2.2.2.2.1 h.2.2.2.2.2.2.2.2.2.2.2.2.2.2.2.2.2.2.2.2.2⟩]
 modes:=[(92,[false]),(162,[false,false,false]),(196,[false,false,false,false]),(197,[false,false,false])]
 keep:=[(0,⟨[3,5,9,10,11,12,13,30,31,32],[320,640],[⟨1000000,41,ty20,[.slot 9],false⟩,⟨1000001,118,ty7,[.slot 30],false⟩],[]⟩),
  (2,⟨[3,5,9,10,11,12,13,15,30,31,32],[320,640,960],[⟨1002000,41,ty20,[.slot 9],false⟩,⟨1002001,118,ty7,[.slot 30],false⟩],[]⟩)]
 keepX:=[(0,.exit 0,⟨[3,9,11],[],[⟨1500100,41,ty20,[.slot 9],false⟩],[]⟩),
  (2,.exit 2,⟨[3,5,9,10,11,12,13,30,31,32],[320,640],[⟨1502300,41,ty20,[.slot 9],false⟩,⟨1502301,118,ty7,[.slot 30],false⟩],[]⟩)]
 ro:=[true]
 dw:=[(17,[[],[],[],[],[],[],[],[],[],[],[],[],[],[5376],[5440,1002000],[]])]
theorem jeP:Con.OK Tryz.prog j6l:=
 cOf j0i j03 jft j6l Tryz.func128 (j9 j84 (j9 jhd (j9 je5 (j9 jdI trivial)))) (j9 (fun h=>by kernel_rfl) (j9 (fun h=>by kernel_rfl) trivial))
def jao:Con:=⟨195,[.v ty73,.v iT],[ty73,iT],⟨[.own 118 ty12],[]⟩,[ty12],fun h=>Pw.j4o h.1 h.2⟩
def jla:FnD where
 N:=35
 np:=2
 cs:=[j5h]
 ds:=[⟨0,[sI,.s (.one (.ol 1000000)),.s (.one (.d ty40)),sI,sI,.b (.lst 118 ty7 false)],[iT,ty40,iT,iT,ty12],[⟨.exit 0,[.s (.one (.ol 1500100)),.b (.lst 118 ty7 false)],[ty12]⟩],fun h=>Pw.j4e h.1 h.2.1 h.2.2.1 h.2.2.2.1 h.2.2.2.2⟩]
 modes:=[(98,[false])]
 keep:=[(0,⟨[1,5,9,10,11],[],[⟨1000000,118,ty7,[.slot 5],false⟩],[]⟩)]
 keepX:=[(0,.exit 0,⟨[5],[],[⟨1500100,118,ty7,[.slot 5],false⟩],[]⟩)]
 ro:=[true]
theorem jkh:Con.OK Tryz.prog jao:=
 cOf j0i j03 jla jao Tryz.func195 (j9 j8C trivial) (j9 (fun h=>by kernel_rfl) trivial)
def j9w:Con:=⟨127,[.v ty73,.v ty24],[ty73,ty24],⟨[.own 41 ty24],[]⟩,[ty24],fun h=>Pw.j4Y h.1 h.2⟩
def jki:FnD where
 N:=68
 np:=2
 cs:=[j6b,jao]
 ds:=[⟨0,[.s (.one (.bp 128 0)),.s (.one (.ol 1000000)),.s (.one (.ol 1000001)),.s (.one (.d ty24)),sI,sI,.b (.cell [.d .str,.d ty69,.d ty40] false),.b (.lst 4294967547 ty25 false),.b (.lst 41 ty20 false)],[ty24,iT,iT,.str,ty69,ty40,ty29,ty24],[⟨.exit 0,[.s (.one (.ol 1500100)),.b (.lst 41 ty20 false)],[ty24]⟩],fun h=>Pw.j1V h.1 h.2.1 h.2.2.1 h.2.2.2.1 h.2.2.2.2.1 h.2.2.2.2.2.1 h.2.2.2.2.2.2.1 h.2.2.2.2.2.2.2⟩,
  ⟨2,[.s (.one (.bp 128 0)),.s (.one (.ol 1002000)),.s (.one (.ol 1002001)),.s (.one (.bp 512 0)),.s (.one (.d ty24)),sI,sI,.s (.one (.ol 1002002)),sI,sI,.b (.cell [.d .str,.d ty69,.d ty40] false),.b (.cell [.d iT,.d iT,.d iT] false),.b (.lst 4294967547 ty25 false),.b (.lst 41 ty20 false),.b (.lst 118 ty7 false)],[ty24,iT,iT,iT,iT,.str,ty69,ty40,iT,iT,iT,ty29,ty24,ty12],[⟨.exit 2,[.s (.one (.bp 128 0)),.s (.one (.ol 1502300)),.s (.one (.ol 1502301)),.s (.one (.d ty24)),sI,sI,.b (.cell [.d .str,.d ty69,.d ty40] false),.b (.lst 4294967547 ty25 false),.b (.lst 41 ty20 false)],[ty24,iT,iT,.str,ty69,ty40,ty29,ty24]⟩],fun h=>Pw.j3Q h.1 h.2.1 h.2.2.1 h.2.2.2.1 h.2.2.2.2.1 h.2.2.2.2.2.1 h.2.2.2.2.2.2.1 h.2.2.2.2.2.2.2.1 h.2.2.2.2.2.2.2.2.1 h.2.2.2.2.2.2.2.2.2.1 h.2.2.2.2.2.2.2.2.2.2.1 h.2.2.2.2.2.2.2.2.2.2.2.1 h.2.2.2.2.2.2.2.2.2.2.2.2.1 h.2.2.2.2.2.2.2.2.2.2.2.2.2⟩]
 modes:=[(129,[false,false]),(195,[false,false])]
 keep:=[(0,⟨[2,5,6,14,15,16],[128],[⟨1000000,4294967547,ty25,[.slot 5],false⟩,⟨1000001,41,ty20,[.slot 6],false⟩],[]⟩),
  (2,⟨[2,5,6,8,14,15,16,49,50,51],[128,512],[⟨1002000,4294967547,ty25,[.slot 5],false⟩,⟨1002001,41,ty20,[.slot 6],false⟩,⟨1002002,118,ty7,[.slot 49],false⟩],[]⟩)]
 keepX:=[(0,.exit 0,⟨[6],[],[⟨1500100,41,ty20,[.slot 6],false⟩],[]⟩),
  (2,.exit 2,⟨[2,5,6,14,15,16],[128],[⟨1502300,4294967547,ty25,[.slot 5],false⟩,⟨1502301,41,ty20,[.slot 6],false⟩],[]⟩)]
 ro:=[true]
 dw:=[(9,[[],[],[],[],[],[],[2432],[2432,1000000]])]
theorem jiN:Con.OK Tryz.prog j9w:=
 cOf j0i j03 jki j9w Tryz.func127 (j9 jbx (j9 jkh trivial)) (j9 (fun h=>by kernel_rfl) (j9 (fun h=>by kernel_rfl) trivial))
def jap:Con:=⟨126,[.v ty24,.v ty12],[ty24,ty12],⟨[.own 41 ty24],[]⟩,[ty24],fun h=>Pw.j6K h.1 h.2⟩
def jlb:FnD where
 N:=72
 np:=2
 cs:=[]
 ds:=[⟨0,[.s (.one (.d ty24)),.s (.one (.d ty12)),.s (.one (.ol 1000000)),sI,sI,.b (.lst 41 ty20 false)],[ty24,ty12,iT,iT,ty24],[⟨.exit 0,[.s (.one (.ol 1500100)),.b (.lst 41 ty20 false)],[ty24]⟩],fun h=>Pw.j5n h.1 h.2.1 h.2.2.1 h.2.2.2.1 h.2.2.2.2⟩]
 keep:=[(0,⟨[0,1,5,6,7],[],[⟨1000000,41,ty20,[.slot 5],false⟩],[]⟩)]
 keepX:=[(0,.exit 0,⟨[5],[],[⟨1500100,41,ty20,[.slot 5],false⟩],[]⟩)]
 ro:=[true]
 dw:=[(4,[[],[],[],[],[],[],[],[],[],[],[],[],[],[],[],[],[],[],[],[],[],[],[],[],[],[],[],[],[512],[512]])]
theorem jkj:Con.OK Tryz.prog jap:=
 cOf j0i j03 jlb jap Tryz.func126 trivial (j9 (fun h=>by kernel_rfl) trivial)
def jbA:Con:=⟨130,[.v ty24],[ty24],⟨[.own 118 ty12],[]⟩,[ty12],fun h=>Pw.j6L h⟩
def jmW:FnD where
 N:=23
 np:=1
 cs:=[j5h]
 ds:=[⟨0,[.s (.one (.ol 1000000)),.s (.one (.d ty24)),sI,sI,.b (.lst 118 ty7 false)],[ty24,iT,iT,ty12],[⟨.exit 0,[.s (.one (.ol 1500100)),.b (.lst 118 ty7 false)],[ty12]⟩],fun h=>Pw.j4y h.1 h.2.1 h.2.2.1 h.2.2.2⟩]
 modes:=[(98,[false])]
 keep:=[(0,⟨[3,6,7,8],[],[⟨1000000,118,ty7,[.slot 3],false⟩],[]⟩)]
 keepX:=[(0,.exit 0,⟨[3],[],[⟨1500100,118,ty7,[.slot 3],false⟩],[]⟩)]
 ro:=[true]
theorem jlc:Con.OK Tryz.prog jbA:=
 cOf j0i j03 jmW jbA Tryz.func130 (j9 j8C trivial) (j9 (fun h=>by kernel_rfl) trivial)
def j61:Con:=⟨132,[.v ty20,.v ty20],[ty20,ty20],⟨[.v iT],[]⟩,[iT],fun h=>Pw.j3y h.1 h.2⟩
def jeQ:FnD where
 N:=10
 np:=2
 cs:=[]
 ds:=[]
 ro:=[false]
theorem jno:Con.OK Tryz.prog j61:=
 cOf j0i j03 jeQ j61 Tryz.func132 trivial trivial
def j1i:Con:=⟨131,[.rl 41 ty24,.clo 132 []],[ty24],⟨[],[.rl ty24]⟩,[ty24],fun h=>Pw.j0K h⟩
def j8l:FnD where
 N:=14
 np:=2
 cs:=[j61]
 ds:=[]
 modes:=[(132,[false,false])]
theorem j38:Con.OK Tryz.prog j1i:=
 jqI Tryz.sort131 (ty20) rfl 41 (by kernel_rfl) Tryz.isAgg41 Tryz.sizeOf41 _ 132 (enters_of Tryz.func132 (by kernel_rfl) rfl) jpt jpu 131 rfl
def j7t:Con:=⟨89,[.v ty82,.v ty73,.v iT,.v iT],[ty82,ty73,iT,iT],⟨[.own 41 ty24],[]⟩,[ty24],fun h=>Pw.j2O h.1 h.2.1 h.2.2.1 h.2.2.2⟩
def jhf:FnD where
 N:=63
 np:=4
 cs:=[j1u,j6b,j7N,j6l,j9w,jap,jbA,j1i]
 ds:=[⟨0,[sI,.s (.one (.bp 256 0)),.s (.one (.bp 320 0)),.s (.one (.bp 384 0)),.s (.one (.bp 448 0)),.s (.one (.bp 576 0)),.s (.one (.bp 640 0)),.s (.one (.clo 194 [.p [ty69]])),.b (.cell [.d ty62,.d ty52,.d ty26,.d ty74,.d ty29] false),.b (.cell [.d .str,.d ty69,.d ty40] false),.b (.cell [.d iT] false),.b (.cell [.d iT] false),.b (.cell [.ol 1000000] false),.b (.cell [.ol 1000001] false),.b (.lst 118 ty7 false),.b (.lst 41 ty20 false)],[iT,ty69,ty62,ty52,ty26,ty74,ty29,.str,ty69,ty40,iT,iT,ty12,ty24],[⟨.normal,[.s (.one (.bp 576 0)),.s (.one (.bp 640 0)),.b (.cell [.ol 1500050] false),.b (.cell [.ol 1500051] false),.b (.lst 118 ty7 false),.b (.lst 41 ty20 false)],[ty12,ty24]⟩],fun h=>Pw.j1g h.1 h.2.1 h.2.2.1 h.2.2.2.1 h.2.2.2.2.1 h.2.2.2.2.2.1 h.2.2.2.2.2.2.1 h.2.2.2.2.2.2.2.1 h.2.2.2.2.2.2.2.2.1 h.2.2.2.2.2.2.2.2.2.1 h.2.2.2.2.2.2.2.2.2.2.1 h.2.2.2.2.2.2.2.2.2.2.2.1 h.2.2.2.2.2.2.2.2.2.2.2.2.1 h.2.2.2.2.2.2.2.2.2.2.2.2.2⟩,
  ⟨2,[.s (.one (.bp 640 0)),.s (.one (.ol 1002000)),sI,sI,.b (.cell [.ol 1002001] false),.b (.lst 118 ty7 false),.b (.lst 41 ty20 false)],[iT,iT,ty12,ty24],[⟨.exit 2,[.s (.one (.bp 640 0)),.b (.cell [.ol 1502300] false),.b (.lst 41 ty20 false)],[ty24]⟩],fun h=>Pw.j33 h.1 h.2.1 h.2.2.1 h.2.2.2⟩]
 modes:=[(92,[false]),(125,[false]),(126,[false,false]),(127,[false,false]),(128,[false,false,false,false]),(129,[false,false]),(130,[false]),(131,[true,false])]
 keep:=[(0,⟨[4,5,6,7,9,10,25],[256,320,384,448,576,640],[⟨1000000,118,ty7,[.cell 576 0],false⟩,⟨1000001,41,ty20,[.cell 640 0],false⟩],[]⟩),
  (2,⟨[10,44,45,46],[640],[⟨1002000,118,ty7,[.slot 44],false⟩,⟨1002001,41,ty20,[.cell 640 0],false⟩],[]⟩)]
 keepX:=[(0,.normal,⟨[9,10],[576,640],[⟨1500050,118,ty7,[.cell 576 0],false⟩,⟨1500051,41,ty20,[.cell 640 0],false⟩],[]⟩),
  (2,.exit 2,⟨[10],[640],[⟨1502300,41,ty20,[.cell 640 0],false⟩],[]⟩)]
 ro:=[true]
 dw:=[(7,[[],[],[],[],[],[2112],[2176],[],[2304],[]]),(9,[[],[],[2688],[2752],[576]])]
 bw:=[(194,(false,ty68))]
theorem jqJ:ItOK Tryz.prog 194 false (ty68):=jyi <| jxi j0i Tryz.func194 (fn:=Tryz.f194) (A0:=bwA Tryz.f194 0) (A1:=bwA Tryz.f194 1) (A2:=bwA Tryz.f194 2) (A3:=bwA Tryz.f194 3) (by kernel_rfl) (by kernel_rfl) (by kernel_rfl) (by kernel_rfl) (by kernel_rfl) (by kernel_rfl) (by kernel_rfl) (by kernel_rfl) (by kernel_rfl) (by kernel_rfl) (by kernel_rfl) ⟨(by kernel_rfl),(by kernel_rfl)⟩
 (fun xs=>by kernel_rfl) (fun i=>by kernel_rfl) (fun i=>by kernel_rfl) (fun xs i=>by kernel_rfl) (fun b i=>by kernel_rfl)
theorem jgh:Con.OK Tryz.prog j7t:=
 cOf j0i j03 jhf j7t Tryz.func89 (j9 j3Y (j9 jbx (j9 jdI (j9 jeP (j9 jiN (j9 jkj (j9 jlc (j9 j38 trivial)))))))) (j9 (fun h=>by kernel_rfl) (j9 (fun h=>by kernel_rfl) trivial)) (j9 jqJ trivial)
def j7u:Con:=⟨134,[.v iT],[iT],⟨[.v .bool],[]⟩,[.bool],fun h=>Pw.j68 h⟩
def jhg:FnD where
 N:=6
 np:=1
 cs:=[]
 ds:=[]
 ro:=[false]
theorem jgi:Con.OK Tryz.prog j7u:=
 cOf j0i j03 jhg j7u Tryz.func134 trivial trivial
def j2A:Con:=⟨90,[.v (.list iT),.v iT],[(.list iT),iT],⟨[.v iT,.v .bool],[]⟩,[iT,.bool],fun h=>Pw.j0j h.1 h.2⟩
def jaq:FnD where
 N:=54
 np:=2
 cs:=[j7W,j7u]
 ds:=[⟨0,[.s (.one (.d (.list iT))),sI,sI,sI,sI],[(.list iT),iT,iT,iT,iT],[⟨.exit 0,[.s (.one (.d (.list iT))),sI,sI,sI],[(.list iT),iT,iT,iT]⟩],fun h=>Pw.j21 h.1 h.2.1 h.2.2.1 h.2.2.2.1 h.2.2.2.2⟩]
 modes:=[(133,[false,false]),(134,[false])]
 keep:=[(0,⟨[0,1,6,7,8],[],[],[]⟩)]
 keepX:=[(0,.exit 0,⟨[0,1,6,7],[],[],[]⟩)]
 ro:=[false,false]
theorem j5L:Con.OK Tryz.prog j2A:=
 cOf j0i j03 jaq j2A Tryz.func90 (j9 jeM (j9 jgi trivial)) (j9 (fun h=>by kernel_rfl) trivial)
def jbB:Con:=⟨135,[.v ty38,.v iT],[ty38,iT],⟨[.v .bool],[]⟩,[.bool],fun h=>Pw.jg3 h.1 h.2⟩
def jmX:FnD where
 N:=15
 np:=2
 cs:=[]
 ds:=[]
 ro:=[false]
theorem jld:Con.OK Tryz.prog jbB:=
 cOf j0i j03 jmX jbB Tryz.func135 trivial trivial
def jaN:Con:=⟨91,[.v ty40,.v iT,.v iT],[ty40,iT,iT],⟨[.v iT],[]⟩,[iT],fun h=>Pw.j7I h.1 h.2.1 h.2.2⟩
def jpz:FnD where
 N:=51
 np:=3
 cs:=[jbB]
 ds:=[⟨0,[sI,sI,.s (.one (.d ty40)),sI,sI],[iT,iT,ty40,iT,iT],[⟨.exit 0,[sI],[iT]⟩],fun h=>Pw.j5A h.1 h.2.1 h.2.2.1 h.2.2.2.1 h.2.2.2.2⟩]
 modes:=[(135,[false,false])]
 keep:=[(0,⟨[1,2,9,10,11],[],[],[]⟩)]
 keepX:=[(0,.exit 0,⟨[1],[],[],[]⟩)]
 ro:=[false]
theorem jiC:Con.OK Tryz.prog jaN:=
 cOf j0i j03 jpz jaN Tryz.func91 (j9 jld trivial) (j9 (fun h=>by kernel_rfl) trivial)
def j62:Con:=⟨46,[.v ty82,.v ty73,.v iT,.v iT],[ty82,ty73,iT,iT],⟨[.own 41 ty24],[]⟩,[ty24],fun h=>Pw.j3g h.1 h.2.1 h.2.2.1 h.2.2.2⟩
def ji4:FnD where
 N:=88
 np:=4
 cs:=[jdH,j7N,j7t,j2A,jaN]
 ds:=[⟨0,[sI,sI,.s (.one (.bp 256 0)),.s (.one (.bp 320 0)),.s (.one (.ol 1000000)),.s (.one (.d ty40)),sI,sI,.b (.cell [.d ty62,.d ty52,.d ty26,.d ty74,.d ty29] false),.b (.cell [.d .str,.d ty69,.d ty40] false),.b (.lst 3 iT false)],[iT,iT,ty40,iT,iT,ty62,ty52,ty26,ty74,ty29,.str,ty69,ty40,(.list iT)],[⟨.exit 0,[sI,sI,.s (.one (.bp 256 0)),.s (.one (.bp 320 0)),.s (.one (.ol 1500100)),.b (.cell [.d ty62,.d ty52,.d ty26,.d ty74,.d ty29] false),.b (.cell [.d .str,.d ty69,.d ty40] false),.b (.lst 3 iT false)],[iT,iT,ty62,ty52,ty26,ty74,ty29,.str,ty69,ty40,(.list iT)]⟩],fun h=>Pw.j3d h.1 h.2.1 h.2.2.1 h.2.2.2.1 h.2.2.2.2.1 h.2.2.2.2.2.1 h.2.2.2.2.2.2.1 h.2.2.2.2.2.2.2.1 h.2.2.2.2.2.2.2.2.1 h.2.2.2.2.2.2.2.2.2.1 h.2.2.2.2.2.2.2.2.2.2.1 h.2.2.2.2.2.2.2.2.2.2.2.1 h.2.2.2.2.2.2.2.2.2.2.2.2.1 h.2.2.2.2.2.2.2.2.2.2.2.2.2⟩,
  ⟨2,[.s (.one (.bp 320 0)),.s (.one (.ol 1002000)),.s (.one (.ol 1002001)),.s (.one (.ol 1002002)),sI,sI,.b (.cell [.d .str,.d ty69,.d ty40] false),.b (.lst 3 iT false),.b (.lst 41 ty20 false),.b (.lst 41 ty20 false)],[iT,iT,.str,ty69,ty40,(.list iT),ty24,ty24],[⟨.exit 2,[.s (.one (.ol 1502300)),.b (.lst 41 ty20 false)],[ty24]⟩],fun h=>Pw.j1t h.1 h.2.1 h.2.2.1 h.2.2.2.1 h.2.2.2.2.1 h.2.2.2.2.2.1 h.2.2.2.2.2.2.1 h.2.2.2.2.2.2.2⟩,
  ⟨4,[.s (.one (.bp 320 0)),.s (.one (.ol 1004000)),.s (.one (.ol 1004001)),.s (.one (.bp 960 0)),sI,sI,.s (.one (.ol 1004002)),sI,sI,.b (.cell [.d .str,.d ty69,.d ty40] false),.b (.cell [.d iT,.d iT,.d iT] false),.b (.lst 3 iT false),.b (.lst 41 ty20 false),.b (.lst 41 ty20 false)],[iT,iT,iT,iT,.str,ty69,ty40,iT,iT,iT,(.list iT),ty24,ty24],[⟨.exit 4,[.s (.one (.bp 320 0)),.s (.one (.ol 1504500)),.s (.one (.ol 1504501)),.s (.one (.ol 1504502)),sI,sI,.b (.cell [.d .str,.d ty69,.d ty40] false),.b (.lst 3 iT false),.b (.lst 41 ty20 false),.b (.lst 41 ty20 false)],[iT,iT,.str,ty69,ty40,(.list iT),ty24,ty24]⟩],fun h=>Pw.j1s h.1 h.2.1 h.2.2.1 h.2.2.2.1 h.2.2.2.2.1 h.2.2.2.2.2.1 h.2.2.2.2.2.2.1 h.2.2.2.2.2.2.2.1 h.2.2.2.2.2.2.2.2.1 h.2.2.2.2.2.2.2.2.2.1 h.2.2.2.2.2.2.2.2.2.2.1 h.2.2.2.2.2.2.2.2.2.2.2.1 h.2.2.2.2.2.2.2.2.2.2.2.2⟩]
 modes:=[(88,[false,false,false]),(89,[false,false,false,false]),(90,[false,false]),(91,[false,false,false]),(92,[false])]
 keep:=[(0,⟨[2,3,4,5,9,21,22,23],[256,320],[⟨1000000,3,iT,[.slot 9],false⟩],[]⟩),
  (2,⟨[5,12,13,43,44,45],[320],[⟨1002000,3,iT,[.slot 12],false⟩,⟨1002001,41,ty20,[.slot 13],false⟩,⟨1002002,41,ty20,[.slot 43],false⟩],[]⟩),
  (4,⟨[5,12,13,15,16,18,43,44,45],[320,960],[⟨1004000,3,iT,[.slot 12],false⟩,⟨1004001,41,ty20,[.slot 13],false⟩,⟨1004002,41,ty20,[.slot 43],false⟩],[]⟩)]
 keepX:=[(0,.exit 0,⟨[2,3,4,5,9],[256,320],[⟨1500100,3,iT,[.slot 9],false⟩],[]⟩),
  (2,.exit 2,⟨[13],[],[⟨1502300,41,ty20,[.slot 13],false⟩],[]⟩),
  (4,.exit 4,⟨[5,12,13,43,44,45],[320],[⟨1504500,3,iT,[.slot 12],false⟩,⟨1504501,41,ty20,[.slot 13],false⟩,⟨1504502,41,ty20,[.slot 43],false⟩],[]⟩)]
 ro:=[true]
theorem jcf:Con.OK Tryz.prog j62:=
 cOf j0i j03 ji4 j62 Tryz.func46 (j9 jon (j9 jdI (j9 jgh (j9 j5L (j9 jiC trivial))))) (j9 (fun h=>by kernel_rfl) (j9 (fun h=>by kernel_rfl) (j9 (fun h=>by kernel_rfl) trivial)))
def j4B:Con:=⟨15,[.v ty80,.v iT,.v iT,.v iT],[ty80,iT,iT,iT],⟨[.own 41 ty24,.v iT],[]⟩,[ty24,iT],fun h=>Pw.j2L h.1 h.2.1 h.2.2.1 h.2.2.2⟩
def ji5:FnD where
 N:=37
 np:=4
 cs:=[j8z,j62]
 ds:=[]
 modes:=[(45,[false,false,false,false]),(46,[false,false,false,false])]
 ro:=[true,false]
 dw:=[(4,[[],[],[],[],[],[],[],[],[2048],[]])]
theorem j8E:Con.OK Tryz.prog j4B:=
 cOf j0i j03 ji5 j4B Tryz.func15 (j9 jfI (j9 jcf trivial)) trivial
def j6w:Con:=⟨50,[.v ty24],[ty24],⟨[.clo 96 [.p [ty24]]],[]⟩,[ty24],fun h=>Pw.jcn h⟩
def jiO:FnD where
 N:=4
 np:=1
 cs:=[]
 ds:=[]
 ro:=[false]
theorem jd7:Con.OK Tryz.prog j6w:=
 cOf j0i j03 jiO j6w Tryz.func50 trivial trivial
end Go.Proofs.Pk
