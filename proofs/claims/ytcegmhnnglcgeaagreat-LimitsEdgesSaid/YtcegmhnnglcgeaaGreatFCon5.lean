/- Contracts: each given function is its plain function, printed by a program. -/
import Derived.Test.YtcegmhnnglcgeaaGreatFCon4
noncomputable section
open Go Go.Lft
set_option linter.unusedVariables false
set_option maxRecDepth 100000
namespace Go.Proofs.Pk
def j3L:Con:=⟨81,[.v ty25,.v iT],[ty25,iT],⟨[.v ty7],[]⟩,[ty7],fun h=>Pw.j2w h.1 h.2⟩
def jf7:FnD where
 N:=11
 np:=2
 cs:=[j4S,jaA]
 ds:=[]
 modes:=[(114,[false]),(115,[false,false])]
 ro:=[false]
theorem j9C:Con.OK Tryz.prog j3L:=
 cOf j0c j01 jf7 j3L Tryz.func81 (j6 jdq (j6 jjJ trivial)) trivial
def j7h:Con:=⟨197,[.v ty25,.v ty68,.v iT],[ty25,ty68,iT],⟨[.v iT],[]⟩,[iT],fun h=>Pw.j6p h.1 h.2.1 h.2.2⟩
def jhC:FnD where
 N:=84
 np:=3
 cs:=[j7t,j2F,j3L]
 ds:=[⟨0,[sI,.s (.one (.bp 192 0)),.s (.one (.bp 256 0)),sI,.b (.cell [.d iT,.d ty12] false),.b (.cell [.d .str,.d iT,.d iT,.d iT,.d iT,.d iT,.d (.list iT),.d ty12,.d iT,.d iT] false)],[iT,iT,iT,ty12,.str,iT,iT,iT,iT,iT,(.list iT),ty12,iT,iT],[⟨.exit 0,[sI,.s (.one (.bp 192 0)),.s (.one (.bp 256 0)),sI,.b (.cell [.d iT,.d ty12] false),.b (.cell [.d .str,.d iT,.d iT,.d iT,.d iT,.d iT,.d (.list iT),.d ty12,.d iT,.d iT] false)],[iT,iT,iT,ty12,.str,iT,iT,iT,iT,iT,(.list iT),ty12,iT,iT]⟩],fun h=>Pw.j2i h.1 h.2.1 h.2.2.1 h.2.2.2.1 h.2.2.2.2.1 h.2.2.2.2.2.1 h.2.2.2.2.2.2.1 h.2.2.2.2.2.2.2.1 h.2.2.2.2.2.2.2.2.1 h.2.2.2.2.2.2.2.2.2.1 h.2.2.2.2.2.2.2.2.2.2.1 h.2.2.2.2.2.2.2.2.2.2.2.1 h.2.2.2.2.2.2.2.2.2.2.2.2.1 h.2.2.2.2.2.2.2.2.2.2.2.2.2⟩,
  ⟨2,[sI,.s (.one (.bp 192 0)),.s (.one (.bp 256 0)),sI,.b (.cell [.d iT,.d ty12] false),.b (.cell [.d .str,.d iT,.d iT,.d iT,.d iT,.d iT,.d (.list iT),.d ty12,.d iT,.d iT] false)],[iT,iT,iT,ty12,.str,iT,iT,iT,iT,iT,(.list iT),ty12,iT,iT],[⟨.ret,[sI],[iT]⟩],fun h=>Pw.j2j h.1 h.2.1 h.2.2.1 h.2.2.2.1 h.2.2.2.2.1 h.2.2.2.2.2.1 h.2.2.2.2.2.2.1 h.2.2.2.2.2.2.2.1 h.2.2.2.2.2.2.2.2.1 h.2.2.2.2.2.2.2.2.2.1 h.2.2.2.2.2.2.2.2.2.2.1 h.2.2.2.2.2.2.2.2.2.2.2.1 h.2.2.2.2.2.2.2.2.2.2.2.2.1 h.2.2.2.2.2.2.2.2.2.2.2.2.2⟩]
 modes:=[(81,[false,false]),(162,[false,false,false]),(224,[false])]
 keep:=[(0,⟨[2,3,4,9],[192,256],[],[]⟩),
  (2,⟨[2,3,4,9],[192,256],[],[]⟩)]
 keepX:=[(0,.exit 0,⟨[2,3,4,9],[192,256],[],[]⟩),
  (2,.ret,⟨[6],[],[],[]⟩)]
 ro:=[false]
theorem jgj:Con.OK Tryz.prog j7h:=
 cOf j0c j01 jhC j7h Tryz.func197 (j6 jf2 (j6 j63 (j6 j9C trivial))) (j6 (fun h=>by kernel_rfl) (j6 (fun h=>by kernel_rfl) trivial))
def j5E:Con:=⟨92,[.v ty24],[ty24],⟨[.own 41 ty24],[]⟩,[ty24],fun h=>Pw.j79 h⟩
def jkT:FnD where
 N:=57
 np:=1
 cs:=[]
 ds:=[⟨0,[.s (.one (.ol 1000000)),.s (.one (.d ty24)),sI,sI,.b (.lst 41 ty20 false)],[ty24,iT,iT,ty24],[⟨.exit 0,[.s (.one (.ol 1500100)),.b (.lst 41 ty20 false)],[ty24]⟩],fun h=>Pw.jae h.1 h.2.1 h.2.2.1 h.2.2.2⟩]
 keep:=[(0,⟨[3,7,8,9],[],[⟨1000000,41,ty20,[.slot 3],false⟩],[]⟩)]
 keepX:=[(0,.exit 0,⟨[3],[],[⟨1500100,41,ty20,[.slot 3],false⟩],[]⟩)]
 ro:=[true]
theorem jbL:Con.OK Tryz.prog j5E:=
 cOf j0c j01 jkT j5E Tryz.func92 trivial (j6 (fun h=>by kernel_rfl) trivial)
def j4z:Con:=⟨128,[.v ty82,.v ty68,.v iT,.v iT],[ty82,ty68,iT,iT],⟨[.own 41 ty24],[]⟩,[ty24],fun h=>Pw.j3o h.1 h.2.1 h.2.2.1 h.2.2.2⟩
def jdr:FnD where
 N:=95
 np:=4
 cs:=[j2F,j64,j7h,j5E]
 ds:=[⟨0,[sI,.s (.one (.bp 320 0)),.s (.one (.ol 1000000)),.s (.one (.bp 640 0)),sI,sI,sI,.s (.one (.ol 1000001)),sI,sI,.b (.cell [.d .str,.d iT,.d iT,.d iT,.d iT,.d iT,.d (.list iT),.d ty12,.d iT,.d iT] false),.b (.cell [.d iT,.d ty12] false),.b (.lst 41 ty20 false),.b (.lst 118 ty7 false)],[iT,iT,iT,iT,iT,iT,.str,iT,iT,iT,iT,iT,(.list iT),ty12,iT,iT,iT,ty12,ty24,ty12],[⟨.exit 0,[sI,.s (.one (.ol 1500100)),sI,.b (.lst 41 ty20 false)],[iT,iT,ty24]⟩],fun h=>Pw.j1m h.1 h.2.1 h.2.2.1 h.2.2.2.1 h.2.2.2.2.1 h.2.2.2.2.2.1 h.2.2.2.2.2.2.1 h.2.2.2.2.2.2.2.1 h.2.2.2.2.2.2.2.2.1 h.2.2.2.2.2.2.2.2.2.1 h.2.2.2.2.2.2.2.2.2.2.1 h.2.2.2.2.2.2.2.2.2.2.2.1 h.2.2.2.2.2.2.2.2.2.2.2.2.1 h.2.2.2.2.2.2.2.2.2.2.2.2.2.1 h.2.2.2.2.2.2.2.2.2.2.2.2.2.2.1 h.2.2.2.2.2.2.2.2.2.2.2.2.2.2.2.1 h.2.2.2.2.2.2.2.2.2.2.2.2.2.2.2.2.1 h.2.2.2.2.2.2.2.2.2.2.2.2.2.2.2.2.2.1 h.2.2.2.2.2.2.2.2.2.2.2.2.2.2.2.2.2.2.1 h.2.2.2.2.2.2.2.2.2.2.2.2.2.2.2.2.2.2.2⟩,
  ⟨2,[sI,.s (.one (.bp 320 0)),.s (.one (.ol 1002000)),.s (.one (.bp 640 0)),sI,sI,sI,.s (.one (.bp 960 0)),.s (.one (.ol 1002001)),sI,sI,.b (.cell [.d .str,.d iT,.d iT,.d iT,.d iT,.d iT,.d (.list iT),.d ty12,.d iT,.d iT] false),.b (.cell [.d iT,.d ty12] false),.b (.cell [.d iT,.d iT] false),.b (.lst 41 ty20 false),.b (.lst 118 ty7 false)],[iT,iT,iT,iT,iT,iT,.str,iT,iT,iT,iT,iT,(.list iT),ty12,iT,iT,iT,ty12,iT,iT,ty24,ty12],[⟨.exit 2,[sI,.s (.one (.bp 320 0)),.s (.one (.ol 1502300)),.s (.one (.bp 640 0)),sI,sI,sI,.s (.one (.ol 1502301)),sI,sI,.b (.cell [.d .str,.d iT,.d iT,.d iT,.d iT,.d iT,.d (.list iT),.d ty12,.d iT,.d iT] false),.b (.cell [.d iT,.d ty12] false),.b (.lst 41 ty20 false),.b (.lst 118 ty7 false)],[iT,iT,iT,iT,iT,iT,.str,iT,iT,iT,iT,iT,(.list iT),ty12,iT,iT,iT,ty12,ty24,ty12]⟩],fun h=>Pw.j1l h.1 h.2.1 h.2.2.1 h.2.2.2.1 h.2.2.2.2.1 h.2.2.2.2.2.1 h.2.2.2.2.2.2.1 h.2.2.2.2.2.2.2.1 h.2.2.2.2.2.2.2.2.1 h.2.2.2.2.2.2.2.2.2.1 h.2.2.2.2.2.2.2.2.2.2.1 h.2.2.2.2.2.2.2.2.2.2.2.1 h.2.2.2.2.2.2.2.2.2.2.2.2.1 h.2.2.2.2.2.2.2.2.2.2.2.2.2.1 h.2.2.2.2.2.2.2.2.2.2.2.2.2.2.1 h.2.2.2.2.2.2.2.2.2.2.2.2.2.2.2.1 h.2.2.2.2.2.2.2.2.2.2.2.2.2.2.2.2.1 h.2.2.2.2.2.2.2.2.2.2.2.2.2.2.2.2.2.1 h.2.2.2.2.2.2.2.2.2.2.2.2.2.2.2.2.2.2.1 h.2.2.2.2.2.2.2.2.2.2.2.2.2.2.2.2.2.2.2.1 h.2.2.2.2.2.2.2.2.2.2.2.2.2.2.2.2.2.2.2.2.1 h.2.2.2.2.2.2.2.2.2.2.2.2.2.2.2.2.2.2.2.2.2⟩]
 modes:=[(92,[false]),(162,[false,false,false]),(196,[false,false,false,false]),(197,[false,false,false])]
 keep:=[(0,⟨[3,5,9,10,11,12,13,30,31,32],[320,640],[⟨1000000,41,ty20,[.slot 9],false⟩,⟨1000001,118,ty7,[.slot 30],false⟩],[]⟩),
  (2,⟨[3,5,9,10,11,12,13,15,30,31,32],[320,640,960],[⟨1002000,41,ty20,[.slot 9],false⟩,⟨1002001,118,ty7,[.slot 30],false⟩],[]⟩)]
 keepX:=[(0,.exit 0,⟨[3,9,11],[],[⟨1500100,41,ty20,[.slot 9],false⟩],[]⟩),
  (2,.exit 2,⟨[3,5,9,10,11,12,13,30,31,32],[320,640],[⟨1502300,41,ty20,[.slot 9],false⟩,⟨1502301,118,ty7,[.slot 30],false⟩],[]⟩)]
 ro:=[true]
 dw:=[(17,[[],[],[],[],[],[],[],[],[],[],[],[],[],[5376],[5440,1002000],[]])]
theorem jd1:Con.OK Tryz.prog j4z:=
 cOf j0c j01 jdr j4z Tryz.func128 (j6 j63 (j6 jf6 (j6 jgj (j6 jbL trivial)))) (j6 (fun h=>by kernel_rfl) (j6 (fun h=>by kernel_rfl) trivial))
def j8a:Con:=⟨195,[.v ty73,.v iT],[ty73,iT],⟨[.own 118 ty12],[]⟩,[ty12],fun h=>Pw.j7B h.1 h.2⟩
def jid:FnD where
 N:=35
 np:=2
 cs:=[j2S]
 ds:=[⟨0,[sI,.s (.one (.ol 1000000)),.s (.one (.d ty40)),sI,sI,.b (.lst 118 ty7 false)],[iT,ty40,iT,iT,ty12],[⟨.exit 0,[.s (.one (.ol 1500100)),.b (.lst 118 ty7 false)],[ty12]⟩],fun h=>Pw.j8t h.1 h.2.1 h.2.2.1 h.2.2.2.1 h.2.2.2.2⟩]
 modes:=[(98,[false])]
 keep:=[(0,⟨[1,5,9,10,11],[],[⟨1000000,118,ty7,[.slot 5],false⟩],[]⟩)]
 keepX:=[(0,.exit 0,⟨[5],[],[⟨1500100,118,ty7,[.slot 5],false⟩],[]⟩)]
 ro:=[true]
theorem jhD:Con.OK Tryz.prog j8a:=
 cOf j0c j01 jid j8a Tryz.func195 (j6 j54 trivial) (j6 (fun h=>by kernel_rfl) trivial)
def j7i:Con:=⟨127,[.v ty73,.v ty24],[ty73,ty24],⟨[.own 41 ty24],[]⟩,[ty24],fun h=>Pw.j6q h.1 h.2⟩
def jhE:FnD where
 N:=68
 np:=2
 cs:=[j4r,j8a]
 ds:=[⟨0,[.s (.one (.bp 128 0)),.s (.one (.ol 1000000)),.s (.one (.ol 1000001)),.s (.one (.d ty24)),sI,sI,.b (.cell [.d .str,.d ty69,.d ty40] false),.b (.lst 4294967547 ty25 false),.b (.lst 41 ty20 false)],[ty24,iT,iT,.str,ty69,ty40,ty29,ty24],[⟨.exit 0,[.s (.one (.ol 1500100)),.b (.lst 41 ty20 false)],[ty24]⟩],fun h=>Pw.j2k h.1 h.2.1 h.2.2.1 h.2.2.2.1 h.2.2.2.2.1 h.2.2.2.2.2.1 h.2.2.2.2.2.2.1 h.2.2.2.2.2.2.2⟩,
  ⟨2,[.s (.one (.bp 128 0)),.s (.one (.ol 1002000)),.s (.one (.ol 1002001)),.s (.one (.bp 512 0)),.s (.one (.d ty24)),sI,sI,.s (.one (.ol 1002002)),sI,sI,.b (.cell [.d .str,.d ty69,.d ty40] false),.b (.cell [.d iT,.d iT,.d iT] false),.b (.lst 4294967547 ty25 false),.b (.lst 41 ty20 false),.b (.lst 118 ty7 false)],[ty24,iT,iT,iT,iT,.str,ty69,ty40,iT,iT,iT,ty29,ty24,ty12],[⟨.exit 2,[.s (.one (.bp 128 0)),.s (.one (.ol 1502300)),.s (.one (.ol 1502301)),.s (.one (.d ty24)),sI,sI,.b (.cell [.d .str,.d ty69,.d ty40] false),.b (.lst 4294967547 ty25 false),.b (.lst 41 ty20 false)],[ty24,iT,iT,.str,ty69,ty40,ty29,ty24]⟩],fun h=>Pw.j7C h.1 h.2.1 h.2.2.1 h.2.2.2.1 h.2.2.2.2.1 h.2.2.2.2.2.1 h.2.2.2.2.2.2.1 h.2.2.2.2.2.2.2.1 h.2.2.2.2.2.2.2.2.1 h.2.2.2.2.2.2.2.2.2.1 h.2.2.2.2.2.2.2.2.2.2.1 h.2.2.2.2.2.2.2.2.2.2.2.1 h.2.2.2.2.2.2.2.2.2.2.2.2.1 h.2.2.2.2.2.2.2.2.2.2.2.2.2⟩]
 modes:=[(129,[false,false]),(195,[false,false])]
 keep:=[(0,⟨[2,5,6,14,15,16],[128],[⟨1000000,4294967547,ty25,[.slot 5],false⟩,⟨1000001,41,ty20,[.slot 6],false⟩],[]⟩),
  (2,⟨[2,5,6,8,14,15,16,49,50,51],[128,512],[⟨1002000,4294967547,ty25,[.slot 5],false⟩,⟨1002001,41,ty20,[.slot 6],false⟩,⟨1002002,118,ty7,[.slot 49],false⟩],[]⟩)]
 keepX:=[(0,.exit 0,⟨[6],[],[⟨1500100,41,ty20,[.slot 6],false⟩],[]⟩),
  (2,.exit 2,⟨[2,5,6,14,15,16],[128],[⟨1502300,4294967547,ty25,[.slot 5],false⟩,⟨1502301,41,ty20,[.slot 6],false⟩],[]⟩)]
 ro:=[true]
 dw:=[(9,[[],[],[],[],[],[],[2432],[2432,1000000]])]
theorem jgk:Con.OK Tryz.prog j7i:=
 cOf j0c j01 jhE j7i Tryz.func127 (j6 j9B (j6 jhD trivial)) (j6 (fun h=>by kernel_rfl) (j6 (fun h=>by kernel_rfl) trivial))
def j8b:Con:=⟨126,[.v ty24,.v ty12],[ty24,ty12],⟨[.own 41 ty24],[]⟩,[ty24],fun h=>Pw.j7D h.1 h.2⟩
def jie:FnD where
 N:=72
 np:=2
 cs:=[]
 ds:=[⟨0,[.s (.one (.d ty24)),.s (.one (.d ty12)),.s (.one (.ol 1000000)),sI,sI,.b (.lst 41 ty20 false)],[ty24,ty12,iT,iT,ty24],[⟨.exit 0,[.s (.one (.ol 1500100)),.b (.lst 41 ty20 false)],[ty24]⟩],fun h=>Pw.j8u h.1 h.2.1 h.2.2.1 h.2.2.2.1 h.2.2.2.2⟩]
 keep:=[(0,⟨[0,1,5,6,7],[],[⟨1000000,41,ty20,[.slot 5],false⟩],[]⟩)]
 keepX:=[(0,.exit 0,⟨[5],[],[⟨1500100,41,ty20,[.slot 5],false⟩],[]⟩)]
 ro:=[true]
 dw:=[(4,[[],[],[],[],[],[],[],[],[],[],[],[],[],[],[],[],[],[],[],[],[],[],[],[],[],[],[],[],[512],[512]])]
theorem jhF:Con.OK Tryz.prog j8b:=
 cOf j0c j01 jie j8b Tryz.func126 trivial (j6 (fun h=>by kernel_rfl) trivial)
def j9D:Con:=⟨130,[.v ty24],[ty24],⟨[.own 118 ty12],[]⟩,[ty12],fun h=>Pw.j9i h⟩
def jjK:FnD where
 N:=23
 np:=1
 cs:=[j2S]
 ds:=[⟨0,[.s (.one (.ol 1000000)),.s (.one (.d ty24)),sI,sI,.b (.lst 118 ty7 false)],[ty24,iT,iT,ty12],[⟨.exit 0,[.s (.one (.ol 1500100)),.b (.lst 118 ty7 false)],[ty12]⟩],fun h=>Pw.j9h h.1 h.2.1 h.2.2.1 h.2.2.2⟩]
 modes:=[(98,[false])]
 keep:=[(0,⟨[3,6,7,8],[],[⟨1000000,118,ty7,[.slot 3],false⟩],[]⟩)]
 keepX:=[(0,.exit 0,⟨[3],[],[⟨1500100,118,ty7,[.slot 3],false⟩],[]⟩)]
 ro:=[true]
theorem jif:Con.OK Tryz.prog j9D:=
 cOf j0c j01 jjK j9D Tryz.func130 (j6 j54 trivial) (j6 (fun h=>by kernel_rfl) trivial)
def j4d:Con:=⟨132,[.v ty20,.v ty20],[ty20,ty20],⟨[.v iT],[]⟩,[iT],fun h=>Pw.j48 h.1 h.2⟩
def jd2:FnD where
 N:=10
 np:=2
 cs:=[]
 ds:=[]
 ro:=[false]
theorem jjS:Con.OK Tryz.prog j4d:=
 cOf j0c j01 jd2 j4d Tryz.func132 trivial trivial
def j0u:Con:=⟨131,[.rl 41 ty24,.clo 132 []],[ty24],⟨[],[.rl ty24]⟩,[ty24],fun h=>Pw.j0D h⟩
def j6j:FnD where
 N:=14
 np:=2
 cs:=[j4d]
 ds:=[]
 modes:=[(132,[false,false])]
theorem j1K:Con.OK Tryz.prog j0u:=
 jjt Tryz.sort131 (ty20) rfl 41 (by kernel_rfl) Tryz.isAgg41 Tryz.sizeOf41 _ 132 (enters_of Tryz.func132 (by kernel_rfl) rfl) jlz jlA 131 rfl
def j5o:Con:=⟨89,[.v ty82,.v ty73,.v iT,.v iT],[ty82,ty73,iT,iT],⟨[.own 41 ty24],[]⟩,[ty24],fun h=>Pw.j4o h.1 h.2.1 h.2.2.1 h.2.2.2⟩
def jf8:FnD where
 N:=63
 np:=4
 cs:=[j1c,j4r,j5E,j4z,j7i,j8b,j9D,j0u]
 ds:=[⟨0,[sI,.s (.one (.bp 256 0)),.s (.one (.bp 320 0)),.s (.one (.bp 384 0)),.s (.one (.bp 448 0)),.s (.one (.bp 576 0)),.s (.one (.bp 640 0)),.s (.one (.clo 194 [.p [ty69]])),.b (.cell [.d ty62,.d ty52,.d ty26,.d ty74,.d ty29] false),.b (.cell [.d .str,.d ty69,.d ty40] false),.b (.cell [.d iT] false),.b (.cell [.d iT] false),.b (.cell [.ol 1000000] false),.b (.cell [.ol 1000001] false),.b (.lst 118 ty7 false),.b (.lst 41 ty20 false)],[iT,ty69,ty62,ty52,ty26,ty74,ty29,.str,ty69,ty40,iT,iT,ty12,ty24],[⟨.normal,[.s (.one (.bp 576 0)),.s (.one (.bp 640 0)),.b (.cell [.ol 1500050] false),.b (.cell [.ol 1500051] false),.b (.lst 118 ty7 false),.b (.lst 41 ty20 false)],[ty12,ty24]⟩],fun h=>Pw.j1C h.1 h.2.1 h.2.2.1 h.2.2.2.1 h.2.2.2.2.1 h.2.2.2.2.2.1 h.2.2.2.2.2.2.1 h.2.2.2.2.2.2.2.1 h.2.2.2.2.2.2.2.2.1 h.2.2.2.2.2.2.2.2.2.1 h.2.2.2.2.2.2.2.2.2.2.1 h.2.2.2.2.2.2.2.2.2.2.2.1 h.2.2.2.2.2.2.2.2.2.2.2.2.1 h.2.2.2.2.2.2.2.2.2.2.2.2.2⟩,
  ⟨2,[.s (.one (.bp 640 0)),.s (.one (.ol 1002000)),sI,sI,.b (.cell [.ol 1002001] false),.b (.lst 118 ty7 false),.b (.lst 41 ty20 false)],[iT,iT,ty12,ty24],[⟨.exit 2,[.s (.one (.bp 640 0)),.b (.cell [.ol 1502300] false),.b (.lst 41 ty20 false)],[ty24]⟩],fun h=>Pw.j6d h.1 h.2.1 h.2.2.1 h.2.2.2⟩]
 modes:=[(92,[false]),(125,[false]),(126,[false,false]),(127,[false,false]),(128,[false,false,false,false]),(129,[false,false]),(130,[false]),(131,[true,false])]
 keep:=[(0,⟨[4,5,6,7,9,10,25],[256,320,384,448,576,640],[⟨1000000,118,ty7,[.cell 576 0],false⟩,⟨1000001,41,ty20,[.cell 640 0],false⟩],[]⟩),
  (2,⟨[10,44,45,46],[640],[⟨1002000,118,ty7,[.slot 44],false⟩,⟨1002001,41,ty20,[.cell 640 0],false⟩],[]⟩)]
 keepX:=[(0,.normal,⟨[9,10],[576,640],[⟨1500050,118,ty7,[.cell 576 0],false⟩,⟨1500051,41,ty20,[.cell 640 0],false⟩],[]⟩),
  (2,.exit 2,⟨[10],[640],[⟨1502300,41,ty20,[.cell 640 0],false⟩],[]⟩)]
 ro:=[true]
 dw:=[(7,[[],[],[],[],[],[2112],[2176],[],[2304],[]]),(9,[[],[],[2688],[2752],[576]])]
 bw:=[(194,ty68)]
theorem joX:BwOK Tryz.prog 194 (ty68):=
 jq0 j0c Tryz.func194 (fn:=Tryz.f194) (A0:=bwA Tryz.f194 0) (A1:=bwA Tryz.f194 1) (A2:=bwA Tryz.f194 2) (A3:=bwA Tryz.f194 3) (by kernel_rfl) (by kernel_rfl) (by kernel_rfl) (by kernel_rfl) (by kernel_rfl) (by kernel_rfl) (by kernel_rfl) (by kernel_rfl) (by kernel_rfl) (by kernel_rfl) (by kernel_rfl) ⟨(by kernel_rfl),(by kernel_rfl)⟩
  (fun xs=>by kernel_rfl) (fun i=>by kernel_rfl) (fun i=>by kernel_rfl) (fun xs i=>by kernel_rfl) (fun b i=>by kernel_rfl)
theorem jeb:Con.OK Tryz.prog j5o:=
 cOf j0c j01 jf8 j5o Tryz.func89 (j6 j51 (j6 j9B (j6 jbL (j6 jd1 (j6 jgk (j6 jhF (j6 jif (j6 j1K trivial)))))))) (j6 (fun h=>by kernel_rfl) (j6 (fun h=>by kernel_rfl) trivial)) (j6 joX trivial)
def j5p:Con:=⟨134,[.v iT],[iT],⟨[.v .bool],[]⟩,[.bool],fun h=>Pw.j7Y h⟩
def jf9:FnD where
 N:=6
 np:=1
 cs:=[]
 ds:=[]
 ro:=[false]
theorem jec:Con.OK Tryz.prog j5p:=
 cOf j0c j01 jf9 j5p Tryz.func134 trivial trivial
def j28:Con:=⟨90,[.v (.list iT),.v iT],[(.list iT),iT],⟨[.v iT,.v .bool],[]⟩,[iT,.bool],fun h=>Pw.j1b h.1 h.2⟩
def j8c:FnD where
 N:=54
 np:=2
 cs:=[j5O,j5p]
 ds:=[⟨0,[.s (.one (.d (.list iT))),sI,sI,sI,sI],[(.list iT),iT,iT,iT,iT],[⟨.exit 0,[.s (.one (.d (.list iT))),sI,sI,sI],[(.list iT),iT,iT,iT]⟩],fun h=>Pw.j31 h.1 h.2.1 h.2.2.1 h.2.2.2.1 h.2.2.2.2⟩]
 modes:=[(133,[false,false]),(134,[false])]
 keep:=[(0,⟨[0,1,6,7,8],[],[],[]⟩)]
 keepX:=[(0,.exit 0,⟨[0,1,6,7],[],[],[]⟩)]
 ro:=[false,false]
theorem j7K:Con.OK Tryz.prog j28:=
 cOf j0c j01 j8c j28 Tryz.func90 (j6 jcX (j6 jec trivial)) (j6 (fun h=>by kernel_rfl) trivial)
def j9E:Con:=⟨135,[.v ty38,.v iT],[ty38,iT],⟨[.v .bool],[]⟩,[.bool],fun h=>Pw.jhq h.1 h.2⟩
def jjL:FnD where
 N:=15
 np:=2
 cs:=[]
 ds:=[]
 ro:=[false]
theorem jig:Con.OK Tryz.prog j9E:=
 cOf j0c j01 jjL j9E Tryz.func135 trivial trivial
def jbM:Con:=⟨91,[.v ty40,.v iT,.v iT],[ty40,iT,iT],⟨[.v iT],[]⟩,[iT],fun h=>Pw.jcR h.1 h.2.1 h.2.2⟩
def jlG:FnD where
 N:=51
 np:=3
 cs:=[j9E]
 ds:=[⟨0,[sI,sI,.s (.one (.d ty40)),sI,sI],[iT,iT,ty40,iT,iT],[⟨.exit 0,[sI],[iT]⟩],fun h=>Pw.jb2 h.1 h.2.1 h.2.2.1 h.2.2.2.1 h.2.2.2.2⟩]
 modes:=[(135,[false,false])]
 keep:=[(0,⟨[1,2,9,10,11],[],[],[]⟩)]
 keepX:=[(0,.exit 0,⟨[1],[],[],[]⟩)]
 ro:=[false]
theorem jkU:Con.OK Tryz.prog jbM:=
 cOf j0c j01 jlG jbM Tryz.func91 (j6 jig trivial) (j6 (fun h=>by kernel_rfl) trivial)
def j4e:Con:=⟨46,[.v ty82,.v ty73,.v iT,.v iT],[ty82,ty73,iT,iT],⟨[.own 41 ty24],[]⟩,[ty24],fun h=>Pw.j3S h.1 h.2.1 h.2.2.1 h.2.2.2⟩
def jfQ:FnD where
 N:=88
 np:=4
 cs:=[j8H,j5E,j5o,j28,jbM]
 ds:=[⟨0,[sI,sI,.s (.one (.bp 256 0)),.s (.one (.bp 320 0)),.s (.one (.ol 1000000)),.s (.one (.d ty40)),sI,sI,.b (.cell [.d ty62,.d ty52,.d ty26,.d ty74,.d ty29] false),.b (.cell [.d .str,.d ty69,.d ty40] false),.b (.lst 3 iT false)],[iT,iT,ty40,iT,iT,ty62,ty52,ty26,ty74,ty29,.str,ty69,ty40,(.list iT)],[⟨.exit 0,[sI,sI,.s (.one (.bp 256 0)),.s (.one (.bp 320 0)),.s (.one (.ol 1500100)),.b (.cell [.d ty62,.d ty52,.d ty26,.d ty74,.d ty29] false),.b (.cell [.d .str,.d ty69,.d ty40] false),.b (.lst 3 iT false)],[iT,iT,ty62,ty52,ty26,ty74,ty29,.str,ty69,ty40,(.list iT)]⟩],fun h=>Pw.j6r h.1 h.2.1 h.2.2.1 h.2.2.2.1 h.2.2.2.2.1 h.2.2.2.2.2.1 h.2.2.2.2.2.2.1 h.2.2.2.2.2.2.2.1 h.2.2.2.2.2.2.2.2.1 h.2.2.2.2.2.2.2.2.2.1 h.2.2.2.2.2.2.2.2.2.2.1 h.2.2.2.2.2.2.2.2.2.2.2.1 h.2.2.2.2.2.2.2.2.2.2.2.2.1 h.2.2.2.2.2.2.2.2.2.2.2.2.2⟩,
  ⟨2,[.s (.one (.bp 320 0)),.s (.one (.ol 1002000)),.s (.one (.ol 1002001)),.s (.one (.ol 1002002)),sI,sI,.b (.cell [.d .str,.d ty69,.d ty40] false),.b (.lst 3 iT false),.b (.lst 41 ty20 false),.b (.lst 41 ty20 false)],[iT,iT,.str,ty69,ty40,(.list iT),ty24,ty24],[⟨.exit 2,[.s (.one (.ol 1502300)),.b (.lst 41 ty20 false)],[ty24]⟩],fun h=>Pw.j1R h.1 h.2.1 h.2.2.1 h.2.2.2.1 h.2.2.2.2.1 h.2.2.2.2.2.1 h.2.2.2.2.2.2.1 h.2.2.2.2.2.2.2⟩,
  ⟨4,[.s (.one (.bp 320 0)),.s (.one (.ol 1004000)),.s (.one (.ol 1004001)),.s (.one (.bp 960 0)),sI,sI,.s (.one (.ol 1004002)),sI,sI,.b (.cell [.d .str,.d ty69,.d ty40] false),.b (.cell [.d iT,.d iT,.d iT] false),.b (.lst 3 iT false),.b (.lst 41 ty20 false),.b (.lst 41 ty20 false)],[iT,iT,iT,iT,.str,ty69,ty40,iT,iT,iT,(.list iT),ty24,ty24],[⟨.exit 4,[.s (.one (.bp 320 0)),.s (.one (.ol 1504500)),.s (.one (.ol 1504501)),.s (.one (.ol 1504502)),sI,sI,.b (.cell [.d .str,.d ty69,.d ty40] false),.b (.lst 3 iT false),.b (.lst 41 ty20 false),.b (.lst 41 ty20 false)],[iT,iT,.str,ty69,ty40,(.list iT),ty24,ty24]⟩],fun h=>Pw.j1Q h.1 h.2.1 h.2.2.1 h.2.2.2.1 h.2.2.2.2.1 h.2.2.2.2.2.1 h.2.2.2.2.2.2.1 h.2.2.2.2.2.2.2.1 h.2.2.2.2.2.2.2.2.1 h.2.2.2.2.2.2.2.2.2.1 h.2.2.2.2.2.2.2.2.2.2.1 h.2.2.2.2.2.2.2.2.2.2.2.1 h.2.2.2.2.2.2.2.2.2.2.2.2⟩]
 modes:=[(88,[false,false,false]),(89,[false,false,false,false]),(90,[false,false]),(91,[false,false,false]),(92,[false])]
 keep:=[(0,⟨[2,3,4,5,9,21,22,23],[256,320],[⟨1000000,3,iT,[.slot 9],false⟩],[]⟩),
  (2,⟨[5,12,13,43,44,45],[320],[⟨1002000,3,iT,[.slot 12],false⟩,⟨1002001,41,ty20,[.slot 13],false⟩,⟨1002002,41,ty20,[.slot 43],false⟩],[]⟩),
  (4,⟨[5,12,13,15,16,18,43,44,45],[320,960],[⟨1004000,3,iT,[.slot 12],false⟩,⟨1004001,41,ty20,[.slot 13],false⟩,⟨1004002,41,ty20,[.slot 43],false⟩],[]⟩)]
 keepX:=[(0,.exit 0,⟨[2,3,4,5,9],[256,320],[⟨1500100,3,iT,[.slot 9],false⟩],[]⟩),
  (2,.exit 2,⟨[13],[],[⟨1502300,41,ty20,[.slot 13],false⟩],[]⟩),
  (4,.exit 4,⟨[5,12,13,43,44,45],[320],[⟨1504500,3,iT,[.slot 12],false⟩,⟨1504501,41,ty20,[.slot 13],false⟩,⟨1504502,41,ty20,[.slot 43],false⟩],[]⟩)]
 ro:=[true]
theorem jag:Con.OK Tryz.prog j4e:=
 cOf j0c j01 jfQ j4e Tryz.func46 (j6 jg9 (j6 jbL (j6 jeb (j6 j7K (j6 jkU trivial))))) (j6 (fun h=>by kernel_rfl) (j6 (fun h=>by kernel_rfl) (j6 (fun h=>by kernel_rfl) trivial)))
def j6F:Con:=⟨52,[.v ty24,.v iT],[ty24,iT],⟨[.own 118 ty12],[]⟩,[ty12],fun h=>Pw.j5z h.1 h.2⟩
def jgl:FnD where
 N:=29
 np:=2
 cs:=[j2S]
 ds:=[⟨0,[sI,.s (.one (.ol 1000000)),.s (.one (.d ty24)),sI,sI,.b (.lst 118 ty7 false)],[iT,ty24,iT,iT,ty12],[⟨.exit 0,[.s (.one (.ol 1500100)),.b (.lst 118 ty7 false)],[ty12]⟩],fun h=>Pw.j6X h.1 h.2.1 h.2.2.1 h.2.2.2.1 h.2.2.2.2⟩]
 modes:=[(98,[false])]
 keep:=[(0,⟨[1,5,8,9,10],[],[⟨1000000,118,ty7,[.slot 5],false⟩],[]⟩)]
 keepX:=[(0,.exit 0,⟨[5],[],[⟨1500100,118,ty7,[.slot 5],false⟩],[]⟩)]
 ro:=[true]
theorem jfR:Con.OK Tryz.prog j6F:=
 cOf j0c j01 jgl j6F Tryz.func52 (j6 j54 trivial) (j6 (fun h=>by kernel_rfl) trivial)
def j55:Con:=⟨66,[.v ty82,.v iT,.v iT,.v iT],[ty82,iT,iT,iT],⟨[.own 118 ty12,.v iT],[]⟩,[ty12,iT],fun h=>Pw.j4X h.1 h.2.1 h.2.2.1 h.2.2.2⟩
def jhG:FnD where
 N:=43
 np:=4
 cs:=[j2S,j4e,j6F]
 ds:=[⟨0,[sI,sI,sI,.s (.one (.bp 256 0)),.s (.one (.ol 1000000)),.s (.one (.d ty74)),sI,sI,.b (.cell [.d ty62,.d ty52,.d ty26,.d ty74,.d ty29] false),.b (.lst 118 ty7 false)],[iT,iT,iT,ty74,iT,iT,ty62,ty52,ty26,ty74,ty29,ty12],[⟨.ret,[.s (.one (.nil)),sI],[iT]⟩,⟨.exit 0,[.s (.one (.ol 1500100)),.b (.lst 118 ty7 false)],[ty12]⟩],fun h=>Pw.j2m h.1 h.2.1 h.2.2.1 h.2.2.2.1 h.2.2.2.2.1 h.2.2.2.2.2.1 h.2.2.2.2.2.2.1 h.2.2.2.2.2.2.2.1 h.2.2.2.2.2.2.2.2.1 h.2.2.2.2.2.2.2.2.2.1 h.2.2.2.2.2.2.2.2.2.2.1 h.2.2.2.2.2.2.2.2.2.2.2⟩]
 modes:=[(46,[false,false,false,false]),(52,[false,false]),(98,[false])]
 keep:=[(0,⟨[1,2,3,4,10,17,18,19],[256],[⟨1000000,118,ty7,[.slot 10],false⟩],[]⟩)]
 keepX:=[(0,.ret,⟨[8,9],[],[],[]⟩),
  (0,.exit 0,⟨[10],[],[⟨1500100,118,ty7,[.slot 10],false⟩],[]⟩)]
 ro:=[true,false]
theorem jc9:Con.OK Tryz.prog j55:=
 cOf j0c j01 jhG j55 Tryz.func66 (j6 j54 (j6 jag (j6 jfR trivial))) (j6 (fun h=>by kernel_rfl) trivial)
def j65:Con:=⟨61,[.v ty24,.v ty24,.v iT,.v iT],[ty24,ty24,iT,iT],⟨[.own 78 ty40],[]⟩,[ty40],fun h=>Pw.j4K h.1 h.2.1 h.2.2.1 h.2.2.2⟩
def jfS:FnD where
 N:=93
 np:=4
 cs:=[]
 ds:=[⟨0,[.s (.one (.d ty24)),.s (.one (.d ty24)),sI,sI,.s (.one (.ol 1000000)),sI,sI,.b (.lst 78 ty38 false)],[ty24,ty24,iT,iT,iT,iT,ty40],[⟨.exit 0,[.s (.one (.ol 1500100)),.b (.lst 78 ty38 false)],[ty40]⟩],fun h=>Pw.j6v h.1 h.2.1 h.2.2.1 h.2.2.2.1 h.2.2.2.2.1 h.2.2.2.2.2.1 h.2.2.2.2.2.2⟩]
 keep:=[(0,⟨[0,1,2,3,9,10,11],[],[⟨1000000,78,ty38,[.slot 9],false⟩],[]⟩)]
 keepX:=[(0,.exit 0,⟨[9],[],[⟨1500100,78,ty38,[.slot 9],false⟩],[]⟩)]
 ro:=[true]
theorem jfa:Con.OK Tryz.prog j65:=
 cOf j0c j01 jfS j65 Tryz.func61 trivial (j6 (fun h=>by kernel_rfl) trivial)
def j4f:Con:=⟨63,[.v ty38,.v ty38],[ty38,ty38],⟨[.v iT],[]⟩,[iT],fun h=>Pw.j9j h.1 h.2⟩
def jd3:FnD where
 N:=10
 np:=2
 cs:=[]
 ds:=[]
 ro:=[false]
theorem jci:Con.OK Tryz.prog j4f:=
 cOf j0c j01 jd3 j4f Tryz.func63 trivial trivial
end Go.Proofs.Pk
