/- Contracts: each given function is its plain function, printed by a program. -/
import Derived.Test.YtcegmhnnglcgeaaGreatHCon4
noncomputable section
open Go Go.Lft
set_option linter.unusedVariables false
set_option maxRecDepth 100000
namespace Go.Proofs.Pk
def j50:Con:=⟨81,[.v ty25,.v iT],[ty25,iT],⟨[.v ty7],[]⟩,[ty7],fun h=>Pw.j0P h.1 h.2⟩
def ji5:FnD where
 N:=11
 np:=2
 cs:=[j6t,jcU]
 ds:=[]
 modes:=[(114,[false]),(115,[false,false])]
 ro:=[false]
theorem jbS:Con.OK Tryz.prog j50:=
 cOf j0c j00 ji5 j50 Tryz.func81 (j9 jga (j9 jnr trivial)) trivial
def j9m:Con:=⟨197,[.v ty25,.v ty68,.v iT],[ty25,ty68,iT],⟨[.v iT],[]⟩,[iT],fun h=>Pw.j8b h.1 h.2.1 h.2.2⟩
def jl0:FnD where
 N:=84
 np:=3
 cs:=[j9z,j3H,j50]
 ds:=[⟨0,[sI,.s (.one (.bp 192 0)),.s (.one (.bp 256 0)),sI,.b (.cell [.d iT,.d ty12] false),.b (.cell [.d .str,.d iT,.d iT,.d iT,.d iT,.d iT,.d (.list iT),.d ty12,.d iT,.d iT] false)],[iT,iT,iT,ty12,.str,iT,iT,iT,iT,iT,(.list iT),ty12,iT,iT],[⟨.exit 0,[sI,.s (.one (.bp 192 0)),.s (.one (.bp 256 0)),sI,.b (.cell [.d iT,.d ty12] false),.b (.cell [.d .str,.d iT,.d iT,.d iT,.d iT,.d iT,.d (.list iT),.d ty12,.d iT,.d iT] false)],[iT,iT,iT,ty12,.str,iT,iT,iT,iT,iT,(.list iT),ty12,iT,iT]⟩],fun h=>Pw.j3h h.1 h.2.1 h.2.2.1 h.2.2.2.1 h.2.2.2.2.1 h.2.2.2.2.2.1 h.2.2.2.2.2.2.1 h.2.2.2.2.2.2.2.1 h.2.2.2.2.2.2.2.2.1 h.2.2.2.2.2.2.2.2.2.1 h.2.2.2.2.2.2.2.2.2.2.1 h.2.2.2.2.2.2.2.2.2.2.2.1 h.2.2.2.2.2.2.2.2.2.2.2.2.1 h.2.2.2.2.2.2.2.2.2.2.2.2.2⟩,
  ⟨2,[sI,.s (.one (.bp 192 0)),.s (.one (.bp 256 0)),sI,.b (.cell [.d iT,.d ty12] false),.b (.cell [.d .str,.d iT,.d iT,.d iT,.d iT,.d iT,.d (.list iT),.d ty12,.d iT,.d iT] false)],[iT,iT,iT,ty12,.str,iT,iT,iT,iT,iT,(.list iT),ty12,iT,iT],[⟨.ret,[sI],[iT]⟩],fun h=>Pw.j3i h.1 h.2.1 h.2.2.1 h.2.2.2.1 h.2.2.2.2.1 h.2.2.2.2.2.1 h.2.2.2.2.2.2.1 h.2.2.2.2.2.2.2.1 h.2.2.2.2.2.2.2.2.1 h.2.2.2.2.2.2.2.2.2.1 h.2.2.2.2.2.2.2.2.2.2.1 h.2.2.2.2.2.2.2.2.2.2.2.1 h.2.2.2.2.2.2.2.2.2.2.2.2.1 h.2.2.2.2.2.2.2.2.2.2.2.2.2⟩]
 modes:=[(81,[false,false]),(162,[false,false,false]),(224,[false])]
 keep:=[(0,⟨[2,3,4,9],[192,256],[],[]⟩),
  (2,⟨[2,3,4,9],[192,256],[],[]⟩)]
 keepX:=[(0,.exit 0,⟨[2,3,4,9],[192,256],[],[]⟩),
  (2,.ret,⟨[6],[],[],[]⟩)]
 ro:=[false]
theorem jjz:Con.OK Tryz.prog j9m:=
 cOf j0c j00 jl0 j9m Tryz.func197 (j9 ji0 (j9 j7L (j9 jbS trivial))) (j9 (fun h=>by kernel_rfl) (j9 (fun h=>by kernel_rfl) trivial))
def j7n:Con:=⟨92,[.v ty24],[ty24],⟨[.own 41 ty24],[]⟩,[ty24],fun h=>Pw.j9b h⟩
def joO:FnD where
 N:=57
 np:=1
 cs:=[]
 ds:=[⟨0,[.s (.one (.ol 1000000)),.s (.one (.d ty24)),sI,sI,.b (.lst 41 ty20 false)],[ty24,iT,iT,ty24],[⟨.exit 0,[.s (.one (.ol 1500100)),.b (.lst 41 ty20 false)],[ty24]⟩],fun h=>Pw.jcw h.1 h.2.1 h.2.2.1 h.2.2.2⟩]
 keep:=[(0,⟨[3,7,8,9],[],[⟨1000000,41,ty20,[.slot 3],false⟩],[]⟩)]
 keepX:=[(0,.exit 0,⟨[3],[],[⟨1500100,41,ty20,[.slot 3],false⟩],[]⟩)]
 ro:=[true]
theorem jec:Con.OK Tryz.prog j7n:=
 cOf j0c j00 joO j7n Tryz.func92 trivial (j9 (fun h=>by kernel_rfl) trivial)
def j5V:Con:=⟨128,[.v ty82,.v ty68,.v iT,.v iT],[ty82,ty68,iT,iT],⟨[.own 41 ty24],[]⟩,[ty24],fun h=>Pw.j4t h.1 h.2.1 h.2.2.1 h.2.2.2⟩
def jgb:FnD where
 N:=95
 np:=4
 cs:=[j3H,j7M,j9m,j7n]
 ds:=[⟨0,[sI,.s (.one (.bp 320 0)),.s (.one (.ol 1000000)),.s (.one (.bp 640 0)),sI,sI,sI,.s (.one (.ol 1000001)),sI,sI,.b (.cell [.d .str,.d iT,.d iT,.d iT,.d iT,.d iT,.d (.list iT),.d ty12,.d iT,.d iT] false),.b (.cell [.d iT,.d ty12] false),.b (.lst 41 ty20 false),.b (.lst 118 ty7 false)],[iT,iT,iT,iT,iT,iT,.str,iT,iT,iT,iT,iT,(.list iT),ty12,iT,iT,iT,ty12,ty24,ty12],[⟨.exit 0,[sI,.s (.one (.ol 1500100)),sI,.b (.lst 41 ty20 false)],[iT,iT,ty24]⟩],fun h=>Pw.j21 h.1 h.2.1 h.2.2.1 h.2.2.2.1 h.2.2.2.2.1 h.2.2.2.2.2.1 h.2.2.2.2.2.2.1 h.2.2.2.2.2.2.2.1 h.2.2.2.2.2.2.2.2.1 h.2.2.2.2.2.2.2.2.2.1 h.2.2.2.2.2.2.2.2.2.2.1 h.2.2.2.2.2.2.2.2.2.2.2.1 h.2.2.2.2.2.2.2.2.2.2.2.2.1 h.2.2.2.2.2.2.2.2.2.2.2.2.2.1 h.2.2.2.2.2.2.2.2.2.2.2.2.2.2.1 h.2.2.2.2.2.2.2.2.2.2.2.2.2.2.2.1 h.2.2.2.2.2.2.2.2.2.2.2.2.2.2.2.2.1 h.2.2.2.2.2.2.2.2.2.2.2.2.2.2.2.2.2.1 h.2.2.2.2.2.2.2.2.2.2.2.2.2.2.2.2.2.2.1 h.2.2.2.2.2.2.2.2.2.2.2.2.2.2.2.2.2.2.2⟩,
  ⟨2,[sI,.s (.one (.bp 320 0)),.s (.one (.ol 1002000)),.s (.one (.bp 640 0)),sI,sI,sI,.s (.one (.bp 960 0)),.s (.one (.ol 1002001)),sI,sI,.b (.cell [.d .str,.d iT,.d iT,.d iT,.d iT,.d iT,.d (.list iT),.d ty12,.d iT,.d iT] false),.b (.cell [.d iT,.d ty12] false),.b (.cell [.d iT,.d iT] false),.b (.lst 41 ty20 false),.b (.lst 118 ty7 false)],[iT,iT,iT,iT,iT,iT,.str,iT,iT,iT,iT,iT,(.list iT),ty12,iT,iT,iT,ty12,iT,iT,ty24,ty12],[⟨.exit 2,[sI,.s (.one (.bp 320 0)),.s (.one (.ol 1502300)),.s (.one (.bp 640 0)),sI,sI,sI,.s (.one (.ol 1502301)),sI,sI,.b (.cell [.d .str,.d iT,.d iT,.d iT,.d iT,.d iT,.d (.list iT),.d ty12,.d iT,.d iT] false),.b (.cell [.d iT,.d ty12] false),.b (.lst 41 ty20 false),.b (.lst 118 ty7 false)],[iT,iT,iT,iT,iT,iT,.str,iT,iT,iT,iT,iT,(.list iT),ty12,iT,iT,iT,ty12,ty24,ty12]⟩],fun h=>Pw.j20 h.1 h.2.1 h.2.2.1 h.2.2.2.1 h.2.2.2.2.1 h.2.2.2.2.2.1 h.2.2.2.2.2.2.1 h.2.2.2.2.2.2.2.1 h.2.2.2.2.2.2.2.2.1 h.2.2.2.2.2.2.2.2.2.1 h.2.2.2.2.2.2.2.2.2.2.1 h.2.2.2.2.2.2.2.2.2.2.2.1 h.2.2.2.2.2.2.2.2.2.2.2.2.1 h.2.2.2.2.2.2.2.2.2.2.2.2.2.1 h.2.2.2.2.2.2.2.2.2.2.2.2.2.2.1 h.2.2.2.2.2.2.2.2.2.2.2.2.2.2.2.1 h.2.2.2.2.2.2.2.2.2.2.2.2.2.2.2.2.1 h.2.2.2.2.2.2.2.2.2.2.2.2.2.2.2.2.2.1 h.2.2.2.2.2.2.2.2.2.2.2.2.2.2.2.2.2.2.1 h.2.2.2.2.2.2.2.2.2.2.2.2.2.2.2.2.2.2.2.1 h.2.2.2.2.2.2.2.2.2.2.2.2.2.2.2.2.2.2.2.2.1 h.2.2.2.2.2.2.2.2.2.2.2.2.2.2.2.2.2.2.2.2.2⟩]
 modes:=[(92,[false]),(162,[false,false,false]),(196,[false,false,false,false]),(197,[false,false,false])]
 keep:=[(0,⟨[3,5,9,10,11,12,13,30,31,32],[320,640],[⟨1000000,41,ty20,[.slot 9],false⟩,⟨1000001,118,ty7,[.slot 30],false⟩],[]⟩),
  (2,⟨[3,5,9,10,11,12,13,15,30,31,32],[320,640,960],[⟨1002000,41,ty20,[.slot 9],false⟩,⟨1002001,118,ty7,[.slot 30],false⟩],[]⟩)]
 keepX:=[(0,.exit 0,⟨[3,9,11],[],[⟨1500100,41,ty20,[.slot 9],false⟩],[]⟩),
  (2,.exit 2,⟨[3,5,9,10,11,12,13,30,31,32],[320,640],[⟨1502300,41,ty20,[.slot 9],false⟩,⟨1502301,118,ty7,[.slot 30],false⟩],[]⟩)]
 ro:=[true]
 dw:=[(17,[[],[],[],[],[],[],[],[],[],[],[],[],[],[5376],[5440,1002000],[]])]
theorem jfv:Con.OK Tryz.prog j5V:=
 cOf j0c j00 jgb j5V Tryz.func128 (j9 j7L (j9 ji4 (j9 jjz (j9 jec trivial)))) (j9 (fun h=>by kernel_rfl) (j9 (fun h=>by kernel_rfl) trivial))
def jau:Con:=⟨195,[.v ty73,.v iT],[ty73,iT],⟨[.own 118 ty12],[]⟩,[ty12],fun h=>Pw.j9H h.1 h.2⟩
def jlM:FnD where
 N:=35
 np:=2
 cs:=[j3V]
 ds:=[⟨0,[sI,.s (.one (.ol 1000000)),.s (.one (.d ty40)),sI,sI,.b (.lst 118 ty7 false)],[iT,ty40,iT,iT,ty12],[⟨.exit 0,[.s (.one (.ol 1500100)),.b (.lst 118 ty7 false)],[ty12]⟩],fun h=>Pw.jaM h.1 h.2.1 h.2.2.1 h.2.2.2.1 h.2.2.2.2⟩]
 modes:=[(98,[false])]
 keep:=[(0,⟨[1,5,9,10,11],[],[⟨1000000,118,ty7,[.slot 5],false⟩],[]⟩)]
 keepX:=[(0,.exit 0,⟨[5],[],[⟨1500100,118,ty7,[.slot 5],false⟩],[]⟩)]
 ro:=[true]
theorem jl1:Con.OK Tryz.prog jau:=
 cOf j0c j00 jlM jau Tryz.func195 (j9 j6J trivial) (j9 (fun h=>by kernel_rfl) trivial)
def j9n:Con:=⟨127,[.v ty73,.v ty24],[ty73,ty24],⟨[.own 41 ty24],[]⟩,[ty24],fun h=>Pw.j8c h.1 h.2⟩
def jl2:FnD where
 N:=68
 np:=2
 cs:=[j5M,jau]
 ds:=[⟨0,[.s (.one (.bp 128 0)),.s (.one (.ol 1000000)),.s (.one (.ol 1000001)),.s (.one (.d ty24)),sI,sI,.b (.cell [.d .str,.d ty69,.d ty40] false),.b (.lst 4294967547 ty25 false),.b (.lst 41 ty20 false)],[ty24,iT,iT,.str,ty69,ty40,ty29,ty24],[⟨.exit 0,[.s (.one (.ol 1500100)),.b (.lst 41 ty20 false)],[ty24]⟩],fun h=>Pw.j3j h.1 h.2.1 h.2.2.1 h.2.2.2.1 h.2.2.2.2.1 h.2.2.2.2.2.1 h.2.2.2.2.2.2.1 h.2.2.2.2.2.2.2⟩,
  ⟨2,[.s (.one (.bp 128 0)),.s (.one (.ol 1002000)),.s (.one (.ol 1002001)),.s (.one (.bp 512 0)),.s (.one (.d ty24)),sI,sI,.s (.one (.ol 1002002)),sI,sI,.b (.cell [.d .str,.d ty69,.d ty40] false),.b (.cell [.d iT,.d iT,.d iT] false),.b (.lst 4294967547 ty25 false),.b (.lst 41 ty20 false),.b (.lst 118 ty7 false)],[ty24,iT,iT,iT,iT,.str,ty69,ty40,iT,iT,iT,ty29,ty24,ty12],[⟨.exit 2,[.s (.one (.bp 128 0)),.s (.one (.ol 1502300)),.s (.one (.ol 1502301)),.s (.one (.d ty24)),sI,sI,.b (.cell [.d .str,.d ty69,.d ty40] false),.b (.lst 4294967547 ty25 false),.b (.lst 41 ty20 false)],[ty24,iT,iT,.str,ty69,ty40,ty29,ty24]⟩],fun h=>Pw.j9I h.1 h.2.1 h.2.2.1 h.2.2.2.1 h.2.2.2.2.1 h.2.2.2.2.2.1 h.2.2.2.2.2.2.1 h.2.2.2.2.2.2.2.1 h.2.2.2.2.2.2.2.2.1 h.2.2.2.2.2.2.2.2.2.1 h.2.2.2.2.2.2.2.2.2.2.1 h.2.2.2.2.2.2.2.2.2.2.2.1 h.2.2.2.2.2.2.2.2.2.2.2.2.1 h.2.2.2.2.2.2.2.2.2.2.2.2.2⟩]
 modes:=[(129,[false,false]),(195,[false,false])]
 keep:=[(0,⟨[2,5,6,14,15,16],[128],[⟨1000000,4294967547,ty25,[.slot 5],false⟩,⟨1000001,41,ty20,[.slot 6],false⟩],[]⟩),
  (2,⟨[2,5,6,8,14,15,16,49,50,51],[128,512],[⟨1002000,4294967547,ty25,[.slot 5],false⟩,⟨1002001,41,ty20,[.slot 6],false⟩,⟨1002002,118,ty7,[.slot 49],false⟩],[]⟩)]
 keepX:=[(0,.exit 0,⟨[6],[],[⟨1500100,41,ty20,[.slot 6],false⟩],[]⟩),
  (2,.exit 2,⟨[2,5,6,14,15,16],[128],[⟨1502300,4294967547,ty25,[.slot 5],false⟩,⟨1502301,41,ty20,[.slot 6],false⟩],[]⟩)]
 ro:=[true]
 dw:=[(9,[[],[],[],[],[],[],[2432],[2432,1000000]])]
theorem jjA:Con.OK Tryz.prog j9n:=
 cOf j0c j00 jl2 j9n Tryz.func127 (j9 jbR (j9 jl1 trivial)) (j9 (fun h=>by kernel_rfl) (j9 (fun h=>by kernel_rfl) trivial))
def jav:Con:=⟨126,[.v ty24,.v ty12],[ty24,ty12],⟨[.own 41 ty24],[]⟩,[ty24],fun h=>Pw.j9J h.1 h.2⟩
def jlN:FnD where
 N:=72
 np:=2
 cs:=[]
 ds:=[⟨0,[.s (.one (.d ty24)),.s (.one (.d ty12)),.s (.one (.ol 1000000)),sI,sI,.b (.lst 41 ty20 false)],[ty24,ty12,iT,iT,ty24],[⟨.exit 0,[.s (.one (.ol 1500100)),.b (.lst 41 ty20 false)],[ty24]⟩],fun h=>Pw.jaN h.1 h.2.1 h.2.2.1 h.2.2.2.1 h.2.2.2.2⟩]
 keep:=[(0,⟨[0,1,5,6,7],[],[⟨1000000,41,ty20,[.slot 5],false⟩],[]⟩)]
 keepX:=[(0,.exit 0,⟨[5],[],[⟨1500100,41,ty20,[.slot 5],false⟩],[]⟩)]
 ro:=[true]
 dw:=[(4,[[],[],[],[],[],[],[],[],[],[],[],[],[],[],[],[],[],[],[],[],[],[],[],[],[],[],[],[],[512],[512]])]
theorem jl3:Con.OK Tryz.prog jav:=
 cOf j0c j00 jlN jav Tryz.func126 trivial (j9 (fun h=>by kernel_rfl) trivial)
def jbT:Con:=⟨130,[.v ty24],[ty24],⟨[.own 118 ty12],[]⟩,[ty12],fun h=>Pw.jbx h⟩
def jns:FnD where
 N:=23
 np:=1
 cs:=[j3V]
 ds:=[⟨0,[.s (.one (.ol 1000000)),.s (.one (.d ty24)),sI,sI,.b (.lst 118 ty7 false)],[ty24,iT,iT,ty12],[⟨.exit 0,[.s (.one (.ol 1500100)),.b (.lst 118 ty7 false)],[ty12]⟩],fun h=>Pw.jbw h.1 h.2.1 h.2.2.1 h.2.2.2⟩]
 modes:=[(98,[false])]
 keep:=[(0,⟨[3,6,7,8],[],[⟨1000000,118,ty7,[.slot 3],false⟩],[]⟩)]
 keepX:=[(0,.exit 0,⟨[3],[],[⟨1500100,118,ty7,[.slot 3],false⟩],[]⟩)]
 ro:=[true]
theorem jlO:Con.OK Tryz.prog jbT:=
 cOf j0c j00 jns jbT Tryz.func130 (j9 j6J trivial) (j9 (fun h=>by kernel_rfl) trivial)
def j5y:Con:=⟨132,[.v ty20,.v ty20],[ty20,ty20],⟨[.v iT],[]⟩,[iT],fun h=>Pw.j5r h.1 h.2⟩
def jfw:FnD where
 N:=10
 np:=2
 cs:=[]
 ds:=[]
 ro:=[false]
theorem jnM:Con.OK Tryz.prog j5y:=
 cOf j0c j00 jfw j5y Tryz.func132 trivial trivial
def j0Y:Con:=⟨131,[.rl 41 ty24,.clo 132 []],[ty24],⟨[],[.rl ty24]⟩,[ty24],fun h=>Pw.j19 h⟩
def j86:FnD where
 N:=14
 np:=2
 cs:=[j5y]
 ds:=[]
 modes:=[(132,[false,false])]
theorem j2B:Con.OK Tryz.prog j0Y:=
 jn8 Tryz.sort131 (ty20) rfl 41 (by kernel_rfl) Tryz.isAgg41 Tryz.sizeOf41 _ 132 (enters_of Tryz.func132 (by kernel_rfl) rfl) jpI jpJ 131 rfl
def j77:Con:=⟨89,[.v ty82,.v ty73,.v iT,.v iT],[ty82,ty73,iT,iT],⟨[.own 41 ty24],[]⟩,[ty24],fun h=>Pw.j5I h.1 h.2.1 h.2.2.1 h.2.2.2⟩
def ji6:FnD where
 N:=63
 np:=4
 cs:=[j1Q,j5M,j7n,j5V,j9n,jav,jbT,j0Y]
 ds:=[⟨0,[sI,.s (.one (.bp 256 0)),.s (.one (.bp 320 0)),.s (.one (.bp 384 0)),.s (.one (.bp 448 0)),.s (.one (.bp 576 0)),.s (.one (.bp 640 0)),.s (.one (.clo 194 [.p [ty69]])),.b (.cell [.d ty62,.d ty52,.d ty26,.d ty74,.d ty29] false),.b (.cell [.d .str,.d ty69,.d ty40] false),.b (.cell [.d iT] false),.b (.cell [.d iT] false),.b (.cell [.ol 1000000] false),.b (.cell [.ol 1000001] false),.b (.lst 118 ty7 false),.b (.lst 41 ty20 false)],[iT,ty69,ty62,ty52,ty26,ty74,ty29,.str,ty69,ty40,iT,iT,ty12,ty24],[⟨.normal,[.s (.one (.bp 576 0)),.s (.one (.bp 640 0)),.b (.cell [.ol 1500050] false),.b (.cell [.ol 1500051] false),.b (.lst 118 ty7 false),.b (.lst 41 ty20 false)],[ty12,ty24]⟩],fun h=>Pw.j2q h.1 h.2.1 h.2.2.1 h.2.2.2.1 h.2.2.2.2.1 h.2.2.2.2.2.1 h.2.2.2.2.2.2.1 h.2.2.2.2.2.2.2.1 h.2.2.2.2.2.2.2.2.1 h.2.2.2.2.2.2.2.2.2.1 h.2.2.2.2.2.2.2.2.2.2.1 h.2.2.2.2.2.2.2.2.2.2.2.1 h.2.2.2.2.2.2.2.2.2.2.2.2.1 h.2.2.2.2.2.2.2.2.2.2.2.2.2⟩,
  ⟨2,[.s (.one (.bp 640 0)),.s (.one (.ol 1002000)),sI,sI,.b (.cell [.ol 1002001] false),.b (.lst 118 ty7 false),.b (.lst 41 ty20 false)],[iT,iT,ty12,ty24],[⟨.exit 2,[.s (.one (.bp 640 0)),.b (.cell [.ol 1502300] false),.b (.lst 41 ty20 false)],[ty24]⟩],fun h=>Pw.j80 h.1 h.2.1 h.2.2.1 h.2.2.2⟩]
 modes:=[(92,[false]),(125,[false]),(126,[false,false]),(127,[false,false]),(128,[false,false,false,false]),(129,[false,false]),(130,[false]),(131,[true,false])]
 keep:=[(0,⟨[4,5,6,7,9,10,25],[256,320,384,448,576,640],[⟨1000000,118,ty7,[.cell 576 0],false⟩,⟨1000001,41,ty20,[.cell 640 0],false⟩],[]⟩),
  (2,⟨[10,44,45,46],[640],[⟨1002000,118,ty7,[.slot 44],false⟩,⟨1002001,41,ty20,[.cell 640 0],false⟩],[]⟩)]
 keepX:=[(0,.normal,⟨[9,10],[576,640],[⟨1500050,118,ty7,[.cell 576 0],false⟩,⟨1500051,41,ty20,[.cell 640 0],false⟩],[]⟩),
  (2,.exit 2,⟨[10],[640],[⟨1502300,41,ty20,[.cell 640 0],false⟩],[]⟩)]
 ro:=[true]
 dw:=[(7,[[],[],[],[],[],[2112],[2176],[],[2304],[]]),(9,[[],[],[2688],[2752],[576]])]
 bw:=[(194,ty68)]
theorem jtY:BwOK Tryz.prog 194 (ty68):=
 jvI j0c Tryz.func194 (fn:=Tryz.f194) (A0:=bwA Tryz.f194 0) (A1:=bwA Tryz.f194 1) (A2:=bwA Tryz.f194 2) (A3:=bwA Tryz.f194 3) (by kernel_rfl) (by kernel_rfl) (by kernel_rfl) (by kernel_rfl) (by kernel_rfl) (by kernel_rfl) (by kernel_rfl) (by kernel_rfl) (by kernel_rfl) (by kernel_rfl) (by kernel_rfl) ⟨(by kernel_rfl),(by kernel_rfl)⟩
  (fun xs=>by kernel_rfl) (fun i=>by kernel_rfl) (fun i=>by kernel_rfl) (fun xs i=>by kernel_rfl) (fun b i=>by kernel_rfl)
theorem jgY:Con.OK Tryz.prog j77:=
 cOf j0c j00 ji6 j77 Tryz.func89 (j9 j6G (j9 jbR (j9 jec (j9 jfv (j9 jjA (j9 jl3 (j9 jlO (j9 j2B trivial)))))))) (j9 (fun h=>by kernel_rfl) (j9 (fun h=>by kernel_rfl) trivial)) (j9 jtY trivial)
def j78:Con:=⟨134,[.v iT],[iT],⟨[.v .bool],[]⟩,[.bool],fun h=>Pw.jai h⟩
def ji7:FnD where
 N:=6
 np:=1
 cs:=[]
 ds:=[]
 ro:=[false]
theorem jgZ:Con.OK Tryz.prog j78:=
 cOf j0c j00 ji7 j78 Tryz.func134 trivial trivial
def j3a:Con:=⟨90,[.v (.list iT),.v iT],[(.list iT),iT],⟨[.v iT,.v .bool],[]⟩,[iT,.bool],fun h=>Pw.j1P h.1 h.2⟩
def jaw:FnD where
 N:=54
 np:=2
 cs:=[j7y,j78]
 ds:=[⟨0,[.s (.one (.d (.list iT))),sI,sI,sI,sI],[(.list iT),iT,iT,iT,iT],[⟨.exit 0,[.s (.one (.d (.list iT))),sI,sI,sI],[(.list iT),iT,iT,iT]⟩],fun h=>Pw.j47 h.1 h.2.1 h.2.2.1 h.2.2.2.1 h.2.2.2.2⟩]
 modes:=[(133,[false,false]),(134,[false])]
 keep:=[(0,⟨[0,1,6,7,8],[],[],[]⟩)]
 keepX:=[(0,.exit 0,⟨[0,1,6,7],[],[],[]⟩)]
 ro:=[false,false]
theorem ja0:Con.OK Tryz.prog j3a:=
 cOf j0c j00 jaw j3a Tryz.func90 (j9 jfr (j9 jgZ trivial)) (j9 (fun h=>by kernel_rfl) trivial)
def jbU:Con:=⟨135,[.v ty38,.v iT],[ty38,iT],⟨[.v .bool],[]⟩,[.bool],fun h=>Pw.jkN h.1 h.2⟩
def jnt:FnD where
 N:=15
 np:=2
 cs:=[]
 ds:=[]
 ro:=[false]
theorem jlP:Con.OK Tryz.prog jbU:=
 cOf j0c j00 jnt jbU Tryz.func135 trivial trivial
def jed:Con:=⟨91,[.v ty40,.v iT,.v iT],[ty40,iT,iT],⟨[.v iT],[]⟩,[iT],fun h=>Pw.jfl h.1 h.2.1 h.2.2⟩
def jpO:FnD where
 N:=51
 np:=3
 cs:=[jbU]
 ds:=[⟨0,[sI,sI,.s (.one (.d ty40)),sI,sI],[iT,iT,ty40,iT,iT],[⟨.exit 0,[sI],[iT]⟩],fun h=>Pw.jdo h.1 h.2.1 h.2.2.1 h.2.2.2.1 h.2.2.2.2⟩]
 modes:=[(135,[false,false])]
 keep:=[(0,⟨[1,2,9,10,11],[],[],[]⟩)]
 keepX:=[(0,.exit 0,⟨[1],[],[],[]⟩)]
 ro:=[false]
theorem joP:Con.OK Tryz.prog jed:=
 cOf j0c j00 jpO jed Tryz.func91 (j9 jlP trivial) (j9 (fun h=>by kernel_rfl) trivial)
def j5z:Con:=⟨46,[.v ty82,.v ty73,.v iT,.v iT],[ty82,ty73,iT,iT],⟨[.own 41 ty24],[]⟩,[ty24],fun h=>Pw.j55 h.1 h.2.1 h.2.2.1 h.2.2.2⟩
def jiU:FnD where
 N:=88
 np:=4
 cs:=[jb2,j7n,j77,j3a,jed]
 ds:=[⟨0,[sI,sI,.s (.one (.bp 256 0)),.s (.one (.bp 320 0)),.s (.one (.ol 1000000)),.s (.one (.d ty40)),sI,sI,.b (.cell [.d ty62,.d ty52,.d ty26,.d ty74,.d ty29] false),.b (.cell [.d .str,.d ty69,.d ty40] false),.b (.lst 3 iT false)],[iT,iT,ty40,iT,iT,ty62,ty52,ty26,ty74,ty29,.str,ty69,ty40,(.list iT)],[⟨.exit 0,[sI,sI,.s (.one (.bp 256 0)),.s (.one (.bp 320 0)),.s (.one (.ol 1500100)),.b (.cell [.d ty62,.d ty52,.d ty26,.d ty74,.d ty29] false),.b (.cell [.d .str,.d ty69,.d ty40] false),.b (.lst 3 iT false)],[iT,iT,ty62,ty52,ty26,ty74,ty29,.str,ty69,ty40,(.list iT)]⟩],fun h=>Pw.j8d h.1 h.2.1 h.2.2.1 h.2.2.2.1 h.2.2.2.2.1 h.2.2.2.2.2.1 h.2.2.2.2.2.2.1 h.2.2.2.2.2.2.2.1 h.2.2.2.2.2.2.2.2.1 h.2.2.2.2.2.2.2.2.2.1 h.2.2.2.2.2.2.2.2.2.2.1 h.2.2.2.2.2.2.2.2.2.2.2.1 h.2.2.2.2.2.2.2.2.2.2.2.2.1 h.2.2.2.2.2.2.2.2.2.2.2.2.2⟩,
  ⟨2,[.s (.one (.bp 320 0)),.s (.one (.ol 1002000)),.s (.one (.ol 1002001)),.s (.one (.ol 1002002)),sI,sI,.b (.cell [.d .str,.d ty69,.d ty40] false),.b (.lst 3 iT false),.b (.lst 41 ty20 false),.b (.lst 41 ty20 false)],[iT,iT,.str,ty69,ty40,(.list iT),ty24,ty24],[⟨.exit 2,[.s (.one (.ol 1502300)),.b (.lst 41 ty20 false)],[ty24]⟩],fun h=>Pw.j2I h.1 h.2.1 h.2.2.1 h.2.2.2.1 h.2.2.2.2.1 h.2.2.2.2.2.1 h.2.2.2.2.2.2.1 h.2.2.2.2.2.2.2⟩,
  ⟨4,[.s (.one (.bp 320 0)),.s (.one (.ol 1004000)),.s (.one (.ol 1004001)),.s (.one (.bp 960 0)),sI,sI,.s (.one (.ol 1004002)),sI,sI,.b (.cell [.d .str,.d ty69,.d ty40] false),.b (.cell [.d iT,.d iT,.d iT] false),.b (.lst 3 iT false),.b (.lst 41 ty20 false),.b (.lst 41 ty20 false)],[iT,iT,iT,iT,.str,ty69,ty40,iT,iT,iT,(.list iT),ty24,ty24],[⟨.exit 4,[.s (.one (.bp 320 0)),.s (.one (.ol 1504500)),.s (.one (.ol 1504501)),.s (.one (.ol 1504502)),sI,sI,.b (.cell [.d .str,.d ty69,.d ty40] false),.b (.lst 3 iT false),.b (.lst 41 ty20 false),.b (.lst 41 ty20 false)],[iT,iT,.str,ty69,ty40,(.list iT),ty24,ty24]⟩],fun h=>Pw.j2H h.1 h.2.1 h.2.2.1 h.2.2.2.1 h.2.2.2.2.1 h.2.2.2.2.2.1 h.2.2.2.2.2.2.1 h.2.2.2.2.2.2.2.1 h.2.2.2.2.2.2.2.2.1 h.2.2.2.2.2.2.2.2.2.1 h.2.2.2.2.2.2.2.2.2.2.1 h.2.2.2.2.2.2.2.2.2.2.2.1 h.2.2.2.2.2.2.2.2.2.2.2.2⟩]
 modes:=[(88,[false,false,false]),(89,[false,false,false,false]),(90,[false,false]),(91,[false,false,false]),(92,[false])]
 keep:=[(0,⟨[2,3,4,5,9,21,22,23],[256,320],[⟨1000000,3,iT,[.slot 9],false⟩],[]⟩),
  (2,⟨[5,12,13,43,44,45],[320],[⟨1002000,3,iT,[.slot 12],false⟩,⟨1002001,41,ty20,[.slot 13],false⟩,⟨1002002,41,ty20,[.slot 43],false⟩],[]⟩),
  (4,⟨[5,12,13,15,16,18,43,44,45],[320,960],[⟨1004000,3,iT,[.slot 12],false⟩,⟨1004001,41,ty20,[.slot 13],false⟩,⟨1004002,41,ty20,[.slot 43],false⟩],[]⟩)]
 keepX:=[(0,.exit 0,⟨[2,3,4,5,9],[256,320],[⟨1500100,3,iT,[.slot 9],false⟩],[]⟩),
  (2,.exit 2,⟨[13],[],[⟨1502300,41,ty20,[.slot 13],false⟩],[]⟩),
  (4,.exit 4,⟨[5,12,13,43,44,45],[320],[⟨1504500,3,iT,[.slot 12],false⟩,⟨1504501,41,ty20,[.slot 13],false⟩,⟨1504502,41,ty20,[.slot 43],false⟩],[]⟩)]
 ro:=[true]
theorem jcA:Con.OK Tryz.prog j5z:=
 cOf j0c j00 jiU j5z Tryz.func46 (j9 jjn (j9 jec (j9 jgY (j9 ja0 (j9 joP trivial))))) (j9 (fun h=>by kernel_rfl) (j9 (fun h=>by kernel_rfl) (j9 (fun h=>by kernel_rfl) trivial)))
def j8w:Con:=⟨52,[.v ty24,.v iT],[ty24,iT],⟨[.own 118 ty12],[]⟩,[ty12],fun h=>Pw.j7i h.1 h.2⟩
def jjB:FnD where
 N:=29
 np:=2
 cs:=[j3V]
 ds:=[⟨0,[sI,.s (.one (.ol 1000000)),.s (.one (.d ty24)),sI,sI,.b (.lst 118 ty7 false)],[iT,ty24,iT,iT,ty12],[⟨.exit 0,[.s (.one (.ol 1500100)),.b (.lst 118 ty7 false)],[ty12]⟩],fun h=>Pw.j8W h.1 h.2.1 h.2.2.1 h.2.2.2.1 h.2.2.2.2⟩]
 modes:=[(98,[false])]
 keep:=[(0,⟨[1,5,8,9,10],[],[⟨1000000,118,ty7,[.slot 5],false⟩],[]⟩)]
 keepX:=[(0,.exit 0,⟨[5],[],[⟨1500100,118,ty7,[.slot 5],false⟩],[]⟩)]
 ro:=[true]
theorem jiV:Con.OK Tryz.prog j8w:=
 cOf j0c j00 jjB j8w Tryz.func52 (j9 j6J trivial) (j9 (fun h=>by kernel_rfl) trivial)
def j6K:Con:=⟨66,[.v ty82,.v iT,.v iT,.v iT],[ty82,iT,iT,iT],⟨[.own 118 ty12,.v iT],[]⟩,[ty12,iT],fun h=>Pw.j6C h.1 h.2.1 h.2.2.1 h.2.2.2⟩
def jl4:FnD where
 N:=43
 np:=4
 cs:=[j3V,j5z,j8w]
 ds:=[⟨0,[sI,sI,sI,.s (.one (.bp 256 0)),.s (.one (.ol 1000000)),.s (.one (.d ty74)),sI,sI,.b (.cell [.d ty62,.d ty52,.d ty26,.d ty74,.d ty29] false),.b (.lst 118 ty7 false)],[iT,iT,iT,ty74,iT,iT,ty62,ty52,ty26,ty74,ty29,ty12],[⟨.ret,[.s (.one (.nil)),sI],[iT]⟩,⟨.exit 0,[.s (.one (.ol 1500100)),.b (.lst 118 ty7 false)],[ty12]⟩],fun h=>Pw.j3l h.1 h.2.1 h.2.2.1 h.2.2.2.1 h.2.2.2.2.1 h.2.2.2.2.2.1 h.2.2.2.2.2.2.1 h.2.2.2.2.2.2.2.1 h.2.2.2.2.2.2.2.2.1 h.2.2.2.2.2.2.2.2.2.1 h.2.2.2.2.2.2.2.2.2.2.1 h.2.2.2.2.2.2.2.2.2.2.2⟩]
 modes:=[(46,[false,false,false,false]),(52,[false,false]),(98,[false])]
 keep:=[(0,⟨[1,2,3,4,10,17,18,19],[256],[⟨1000000,118,ty7,[.slot 10],false⟩],[]⟩)]
 keepX:=[(0,.ret,⟨[8,9],[],[],[]⟩),
  (0,.exit 0,⟨[10],[],[⟨1500100,118,ty7,[.slot 10],false⟩],[]⟩)]
 ro:=[true,false]
theorem jeC:Con.OK Tryz.prog j6K:=
 cOf j0c j00 jl4 j6K Tryz.func66 (j9 j6J (j9 jcA (j9 jiV trivial))) (j9 (fun h=>by kernel_rfl) trivial)
def j7N:Con:=⟨61,[.v ty24,.v ty24,.v iT,.v iT],[ty24,ty24,iT,iT],⟨[.own 78 ty40],[]⟩,[ty40],fun h=>Pw.j6h h.1 h.2.1 h.2.2.1 h.2.2.2⟩
def jiW:FnD where
 N:=93
 np:=4
 cs:=[]
 ds:=[⟨0,[.s (.one (.d ty24)),.s (.one (.d ty24)),sI,sI,.s (.one (.ol 1000000)),sI,sI,.b (.lst 78 ty38 false)],[ty24,ty24,iT,iT,iT,iT,ty40],[⟨.exit 0,[.s (.one (.ol 1500100)),.b (.lst 78 ty38 false)],[ty40]⟩],fun h=>Pw.j8h h.1 h.2.1 h.2.2.1 h.2.2.2.1 h.2.2.2.2.1 h.2.2.2.2.2.1 h.2.2.2.2.2.2⟩]
 keep:=[(0,⟨[0,1,2,3,9,10,11],[],[⟨1000000,78,ty38,[.slot 9],false⟩],[]⟩)]
 keepX:=[(0,.exit 0,⟨[9],[],[⟨1500100,78,ty38,[.slot 9],false⟩],[]⟩)]
 ro:=[true]
theorem ji8:Con.OK Tryz.prog j7N:=
 cOf j0c j00 jiW j7N Tryz.func61 trivial (j9 (fun h=>by kernel_rfl) trivial)
def j5A:Con:=⟨63,[.v ty38,.v ty38],[ty38,ty38],⟨[.v iT],[]⟩,[iT],fun h=>Pw.jby h.1 h.2⟩
def jfx:FnD where
 N:=10
 np:=2
 cs:=[]
 ds:=[]
 ro:=[false]
theorem jeL:Con.OK Tryz.prog j5A:=
 cOf j0c j00 jfx j5A Tryz.func63 trivial trivial
end Go.Proofs.Pk
