/- Contracts: each given function is its plain function, printed by a program. -/
import Derived.Test.YtcegmhnnglcgeaaGreatHCon3
noncomputable section
open Go Go.Lft
set_option linter.unusedVariables false
set_option maxRecDepth 100000
namespace Go.Proofs.Pk
def j4Z:Con:=⟨168,[.v ty25,.v iT],[ty25,iT],⟨[.v iT],[]⟩,[iT],fun h=>Pw.j2W h.1 h.2⟩
def ji1:FnD where
 N:=10
 np:=2
 cs:=[jbP]
 ds:=[]
 modes:=[(227,[false,false])]
 ro:=[false]
theorem jbQ:Con.OK Tryz.prog j4Z:=
 cOf j0c j00 ji1 j4Z Tryz.func168 (j9 jlI trivial) trivial
def j4C:Con:=⟨169,[.v ty25,.v iT],[ty25,iT],⟨[.v iT],[]⟩,[iT],fun h=>Pw.j3W h.1 h.2⟩
def jgU:FnD where
 N:=16
 np:=2
 cs:=[]
 ds:=[]
 ro:=[false]
theorem jaQ:Con.OK Tryz.prog j4C:=
 cOf j0c j00 jgU j4C Tryz.func169 trivial trivial
def j3o:Con:=⟨107,[.v ty25,.v iT,.v iT],[ty25,iT,iT],⟨[.own 178 ty24],[]⟩,[ty24],fun h=>Pw.j34 h.1 h.2.1 h.2.2⟩
def jgV:FnD where
 N:=41
 np:=3
 cs:=[j4Z,j4C]
 ds:=[⟨0,[sI,sI,.s (.one (.bp 192 0)),.s (.one (.ol 1000000)),.b (.cell [.d iT,.d ty12] false),.b (.lst 178 ty20 false)],[iT,iT,iT,ty12,ty24],[⟨.exit 0,[.s (.one (.ol 1500100)),.b (.lst 178 ty20 false)],[ty24]⟩],fun h=>Pw.j29 h.1 h.2.1 h.2.2.1 h.2.2.2.1 h.2.2.2.2⟩]
 modes:=[(168,[false,false]),(169,[false,false])]
 keep:=[(0,⟨[1,2,3,7],[192],[⟨1000000,178,ty20,[.slot 7],false⟩],[]⟩)]
 keepX:=[(0,.exit 0,⟨[7],[],[⟨1500100,178,ty20,[.slot 7],false⟩],[]⟩)]
 ro:=[true]
theorem j73:Con.OK Tryz.prog j3o:=
 cOf j0c j00 jgV j3o Tryz.func107 (j9 jbQ (j9 jaQ trivial)) (j9 (fun h=>by kernel_rfl) trivial)
def jat:Con:=⟨225,[.v ty7],[ty7],⟨[.v iT],[]⟩,[iT],fun h=>Pw.jjm h⟩
def jlJ:FnD where
 N:=11
 np:=1
 cs:=[]
 ds:=[]
 ro:=[false]
theorem jkX:Con.OK Tryz.prog jat:=
 cOf j0c j00 jlJ jat Tryz.func225 trivial trivial
def j74:Con:=⟨163,[.v ty25,.v ty7],[ty25,ty7],⟨[.v iT,.v .bool],[]⟩,[iT,.bool],fun h=>Pw.j4m h.1 h.2⟩
def ji2:FnD where
 N:=30
 np:=2
 cs:=[j3o,jat]
 ds:=[⟨0,[.s (.one (.bp 192 0)),.s (.one (.ol 1000000)),sI,sI,.b (.cell [.d iT,.d iT] false),.b (.lst 178 ty20 false)],[iT,iT,iT,iT,ty24],[⟨.ret,[sI,.s (.one (.d .bool))],[iT,.bool]⟩,⟨.exit 0,[],[]⟩],fun h=>Pw.j7Z h.1 h.2.1 h.2.2.1 h.2.2.2.1 h.2.2.2.2⟩]
 modes:=[(107,[false,false,false]),(225,[false])]
 keep:=[(0,⟨[3,10,11,12],[192],[⟨1000000,178,ty20,[.slot 10],false⟩],[]⟩)]
 keepX:=[(0,.ret,⟨[4,5],[],[],[]⟩),
  (0,.exit 0,⟨[],[],[],[]⟩)]
 ro:=[false,false]
theorem jgW:Con.OK Tryz.prog j74:=
 cOf j0c j00 ji2 j74 Tryz.func163 (j9 j73 (j9 jkX trivial)) (j9 (fun h=>by kernel_rfl) trivial)
def j3H:Con:=⟨162,[.v ty25,.v ty68,.v iT],[ty25,ty68,iT],⟨[.v iT,.v .bool],[]⟩,[iT,.bool],fun h=>Pw.j2e h.1 h.2.1 h.2.2⟩
def ji3:FnD where
 N:=50
 np:=3
 cs:=[j9z,j74]
 ds:=[]
 modes:=[(163,[false,false]),(224,[false])]
 ro:=[false,false]
 dw:=[(5,[[],[],[],[],[],[],[],[],[512]])]
theorem j7L:Con.OK Tryz.prog j3H:=
 cOf j0c j00 ji3 j3H Tryz.func162 (j9 ji0 (j9 jgW trivial)) trivial
def j4d:Con:=⟨141,[.v ty12],[ty12],⟨[.own 118 ty12],[]⟩,[ty12],fun h=>Pw.j5l h⟩
def j8K:FnD where
 N:=8
 np:=1
 cs:=[]
 ds:=[]
 ro:=[true]
theorem j8t:Con.OK Tryz.prog j4d:=
 jov j0c j00 j8K 141 ty7 118 Tryz.f141 (Tryz.f141.body.getD .skip) Tryz.func141 (by kernel_rfl) (by kernel_rfl) (Nat.le_of_ble_eq_true (by kernel_rfl)) (by kernel_rfl) trivial (by kernel_rfl)
  (fun h R k=>by kernel_rfl)
def j6H:Con:=⟨142,[.v ty7],[ty7],⟨[.v .bool],[]⟩,[.bool],fun h=>Pw.jdX h⟩
def jkY:FnD where
 N:=8
 np:=1
 cs:=[]
 ds:=[]
 ro:=[false]
theorem jeB:Con.OK Tryz.prog j6H:=
 cOf j0c j00 jkY j6H Tryz.func142 trivial trivial
def j1Y:Con:=⟨206,[.rl 118 ty12,.clo 142 []],[ty12],⟨[.v iT],[.rl ty12]⟩,[iT,ty12],fun h=>Pw.j12 h⟩
def j7m:FnD where
 N:=19
 np:=2
 cs:=[j6H]
 ds:=[⟨0,[.s (.one (.ol 0)),.s (.one (.clo 142 [])),sI,sI,.b (.lst 118 ty7 false)],[iT,iT,ty12],[⟨.ret,[sI,.b (.lst 118 ty7 false)],[iT,ty12]⟩,⟨.exit 0,[.b (.lst 118 ty7 false)],[ty12]⟩],fun h=>Pw.j2X h.1 h.2.1 h.2.2⟩]
 modes:=[(142,[false])]
 keep:=[(0,⟨[0,1,7,8],[0],[],[]⟩)]
 keepX:=[(0,.ret,⟨[4],[0],[],[]⟩),
  (0,.exit 0,⟨[],[0],[],[]⟩)]
 ro:=[false]
theorem j75:Con.OK Tryz.prog j1Y:=
 cOf j0c j00 j7m j1Y Tryz.func206 (j9 jeB trivial) (j9 (fun h=>by kernel_rfl) trivial)
def j1R:Con:=⟨140,[.rl 118 ty12,.clo 142 []],[ty12],⟨[.hd],[.rl ty12]⟩,[iT,ty12],fun h=>Pw.j0T h⟩
def j76:FnD where
 N:=42
 np:=2
 cs:=[j6H,j1Y]
 ds:=[⟨0,[.s (.one (.ol 0)),.s (.one (.clo 142 [])),sI,sI,.b (.lst 118 ty7 false)],[iT,iT,ty12],[⟨.exit 0,[.s (.one (.ol 0)),sI,.b (.lst 118 ty7 false)],[iT,ty12]⟩],fun h=>Pw.j2G h.1 h.2.1 h.2.2⟩]
 modes:=[(142,[false]),(206,[true,false])]
 keep:=[(0,⟨[0,1,5,6],[0],[],[]⟩)]
 keepX:=[(0,.exit 0,⟨[0,5],[0],[],[]⟩)]
 ro:=[false]
 hd:=true
theorem j6I:Con.OK Tryz.prog j1R:=
 cOf j0c j00 j76 j1R Tryz.func140 (j9 jeB (j9 j75 trivial)) (j9 (fun h=>by kernel_rfl) trivial)
def j9l:Con:=⟨144,[.v ty7,.v ty7],[ty7,ty7],⟨[.v iT],[]⟩,[iT],fun h=>Pw.jaW h.1 h.2⟩
def jkZ:FnD where
 N:=10
 np:=2
 cs:=[]
 ds:=[]
 ro:=[false]
theorem jrD:Con.OK Tryz.prog j9l:=
 cOf j0c j00 jkZ j9l Tryz.func144 trivial trivial
def j1z:Con:=⟨143,[.rl 118 ty12,.clo 144 []],[ty12],⟨[],[.rl ty12]⟩,[ty12],fun h=>Pw.j1T h⟩
def jbd:FnD where
 N:=14
 np:=2
 cs:=[j9l]
 ds:=[]
 modes:=[(144,[false,false])]
theorem j3R:Con.OK Tryz.prog j1z:=
 jn8 Tryz.sort143 (ty7) rfl 118 (by kernel_rfl) Tryz.isAgg118 Tryz.sizeOf118 _ 144 (enters_of Tryz.func144 (by kernel_rfl) rfl) jpG jpH 143 rfl
def j3V:Con:=⟨98,[.v ty12],[ty12],⟨[.own 118 ty12],[]⟩,[ty12],fun h=>Pw.j5S h⟩
def joM:FnD where
 N:=54
 np:=1
 cs:=[j4d,j1R,j1z]
 ds:=[⟨0,[.s (.one (.ol 1000000)),.s (.one (.ol 1000001)),sI,sI,.b (.lst 118 ty7 false),.b (.lst 118 ty7 false)],[iT,iT,ty12,ty12],[⟨.exit 0,[.s (.one (.ol 1500100)),.b (.lst 118 ty7 false)],[ty12]⟩],fun h=>Pw.jcv h.1 h.2.1 h.2.2.1 h.2.2.2⟩]
 modes:=[(140,[true,false]),(141,[false]),(143,[true,false])]
 keep:=[(0,⟨[4,13,14,15],[],[⟨1000000,118,ty7,[.slot 4],false⟩,⟨1000001,118,ty7,[.slot 13],false⟩],[]⟩)]
 keepX:=[(0,.exit 0,⟨[4],[],[⟨1500100,118,ty7,[.slot 4],false⟩],[]⟩)]
 ro:=[true]
 dw:=[(9,[[],[],[],[],[],[],[],[],[],[],[],[],[],[],[1000000]])]
theorem j6J:Con.OK Tryz.prog j3V:=
 cOf j0c j00 joM j3V Tryz.func98 (j9 j8t (j9 j6I (j9 j3R trivial))) (j9 (fun h=>by kernel_rfl) trivial)
def j7z:Con:=⟨70,[.v ty25,.v ty12,.v iT,.v iT],[ty25,ty12,iT,iT],⟨[.own 118 ty12],[]⟩,[ty12],fun h=>Pw.j4r h.1 h.2.1 h.2.2.1 h.2.2.2⟩
def jlK:FnD where
 N:=73
 np:=4
 cs:=[j3o,j3V]
 ds:=[⟨0,[.s (.one (.d ty12)),.s (.one (.ol 1000000)),.s (.one (.ol 1000001)),sI,sI,.b (.lst 118 ty7 false),.b (.lst 178 ty20 false)],[ty12,iT,iT,ty12,ty24],[⟨.exit 0,[.s (.one (.ol 1500100)),.b (.lst 118 ty7 false)],[ty12]⟩],fun h=>Pw.j3D h.1 h.2.1 h.2.2.1 h.2.2.2.1 h.2.2.2.2⟩,
  ⟨2,[.s (.one (.d ty12)),.s (.one (.ol 1002000)),.s (.one (.bp 704 0)),sI,.s (.one (.ol 1002001)),sI,sI,.b (.cell [.d iT,.d iT,.d iT] false),.b (.lst 118 ty7 false),.b (.lst 178 ty20 false)],[ty12,iT,iT,iT,iT,iT,iT,ty12,ty24],[⟨.exit 2,[.s (.one (.d ty12)),.s (.one (.ol 1502300)),.s (.one (.ol 1502301)),sI,sI,.b (.lst 118 ty7 false),.b (.lst 178 ty20 false)],[ty12,iT,iT,ty12,ty24]⟩],fun h=>Pw.j3C h.1 h.2.1 h.2.2.1 h.2.2.2.1 h.2.2.2.2.1 h.2.2.2.2.2.1 h.2.2.2.2.2.2.1 h.2.2.2.2.2.2.2.1 h.2.2.2.2.2.2.2.2⟩,
  ⟨4,[.s (.one (.d ty12)),.s (.one (.ol 1004000)),.s (.one (.bp 704 0)),sI,.s (.one (.ol 1004001)),sI,sI,.s (.one (.d ty12)),sI,sI,.b (.cell [.d iT,.d iT,.d iT] false),.b (.lst 118 ty7 false),.b (.lst 178 ty20 false)],[ty12,iT,iT,iT,ty12,iT,iT,iT,iT,iT,ty12,ty24],[⟨.exit 4,[.s (.one (.d ty12)),.s (.one (.ol 1504500)),.s (.one (.bp 704 0)),sI,.s (.one (.ol 1504501)),sI,sI,.b (.cell [.d iT,.d iT,.d iT] false),.b (.lst 118 ty7 false),.b (.lst 178 ty20 false)],[ty12,iT,iT,iT,iT,iT,iT,ty12,ty24]⟩],fun h=>Pw.jaJ h.1 h.2.1 h.2.2.1 h.2.2.2.1 h.2.2.2.2.1 h.2.2.2.2.2.1 h.2.2.2.2.2.2.1 h.2.2.2.2.2.2.2.1 h.2.2.2.2.2.2.2.2.1 h.2.2.2.2.2.2.2.2.2.1 h.2.2.2.2.2.2.2.2.2.2.1 h.2.2.2.2.2.2.2.2.2.2.2⟩]
 modes:=[(98,[false]),(107,[false,false,false])]
 keep:=[(0,⟨[1,9,19,20,21],[],[⟨1000000,118,ty7,[.slot 9],false⟩,⟨1000001,178,ty20,[.slot 19],false⟩],[]⟩),
  (2,⟨[1,9,11,13,19,20,21],[704],[⟨1002000,118,ty7,[.slot 9],false⟩,⟨1002001,178,ty20,[.slot 19],false⟩],[]⟩),
  (4,⟨[1,9,11,13,19,20,21,45,46,47],[704],[⟨1004000,118,ty7,[.slot 9],false⟩,⟨1004001,178,ty20,[.slot 19],false⟩],[]⟩)]
 keepX:=[(0,.exit 0,⟨[9],[],[⟨1500100,118,ty7,[.slot 9],false⟩],[]⟩),
  (2,.exit 2,⟨[1,9,19,20,21],[],[⟨1502300,118,ty7,[.slot 9],false⟩,⟨1502301,178,ty20,[.slot 19],false⟩],[]⟩),
  (4,.exit 4,⟨[1,9,11,13,19,20,21],[704],[⟨1504500,118,ty7,[.slot 9],false⟩,⟨1504501,178,ty20,[.slot 19],false⟩],[]⟩)]
 ro:=[true]
theorem jfu:Con.OK Tryz.prog j7z:=
 cOf j0c j00 jlK j7z Tryz.func70 (j9 j73 (j9 j6J trivial)) (j9 (fun h=>by kernel_rfl) (j9 (fun h=>by kernel_rfl) (j9 (fun h=>by kernel_rfl) trivial)))
def j8u:Con:=⟨246,[.v ty82,.v ty22,.v iT,.v iT],[ty82,ty22,iT,iT],⟨[.own 118 ty12],[]⟩,[ty12],fun h=>Pw.j3T h.1 h.2.1 h.2.2.1 h.2.2.2⟩
def jjy:FnD where
 N:=58
 np:=4
 cs:=[j3o,j3V]
 ds:=[⟨0,[.s (.one (.bp 320 0)),.s (.one (.ol 1000000)),.s (.one (.ol 1000001)),sI,sI,.b (.cell [.d .str,.d iT,.d (.list iT)] false),.b (.lst 118 ty7 false),.b (.lst 178 ty20 false)],[iT,iT,.str,iT,(.list iT),ty12,ty24],[⟨.exit 0,[.s (.one (.ol 1500100)),.b (.lst 118 ty7 false)],[ty12]⟩],fun h=>Pw.j31 h.1 h.2.1 h.2.2.1 h.2.2.2.1 h.2.2.2.2.1 h.2.2.2.2.2.1 h.2.2.2.2.2.2⟩,
  ⟨2,[.s (.one (.bp 320 0)),.s (.one (.ol 1002000)),.s (.one (.bp 704 0)),.s (.one (.ol 1002001)),sI,sI,.s (.one (.d (.list iT))),sI,sI,.b (.cell [.d .str,.d iT,.d (.list iT)] false),.b (.cell [.d iT,.d iT,.d iT] false),.b (.lst 118 ty7 false),.b (.lst 178 ty20 false)],[iT,iT,(.list iT),iT,iT,.str,iT,(.list iT),iT,iT,iT,ty12,ty24],[⟨.exit 2,[.s (.one (.bp 320 0)),.s (.one (.ol 1502300)),.s (.one (.ol 1502301)),sI,sI,.b (.cell [.d .str,.d iT,.d (.list iT)] false),.b (.lst 118 ty7 false),.b (.lst 178 ty20 false)],[iT,iT,.str,iT,(.list iT),ty12,ty24]⟩],fun h=>Pw.j8V h.1 h.2.1 h.2.2.1 h.2.2.2.1 h.2.2.2.2.1 h.2.2.2.2.2.1 h.2.2.2.2.2.2.1 h.2.2.2.2.2.2.2.1 h.2.2.2.2.2.2.2.2.1 h.2.2.2.2.2.2.2.2.2.1 h.2.2.2.2.2.2.2.2.2.2.1 h.2.2.2.2.2.2.2.2.2.2.2.1 h.2.2.2.2.2.2.2.2.2.2.2.2⟩]
 modes:=[(98,[false]),(107,[false,false,false])]
 keep:=[(0,⟨[5,9,23,24,25],[320],[⟨1000000,118,ty7,[.slot 9],false⟩,⟨1000001,178,ty20,[.slot 23],false⟩],[]⟩),
  (2,⟨[5,9,11,23,24,25,30,31,32],[320,704],[⟨1002000,118,ty7,[.slot 9],false⟩,⟨1002001,178,ty20,[.slot 23],false⟩],[]⟩)]
 keepX:=[(0,.exit 0,⟨[9],[],[⟨1500100,118,ty7,[.slot 9],false⟩],[]⟩),
  (2,.exit 2,⟨[5,9,23,24,25],[320],[⟨1502300,118,ty7,[.slot 9],false⟩,⟨1502301,178,ty20,[.slot 23],false⟩],[]⟩)]
 ro:=[true]
theorem jiS:Con.OK Tryz.prog j8u:=
 cOf j0c j00 jjy j8u Tryz.func246 (j9 j73 (j9 j6J trivial)) (j9 (fun h=>by kernel_rfl) (j9 (fun h=>by kernel_rfl) trivial))
def j5M:Con:=⟨129,[.v ty12,.v ty12],[ty12,ty12],⟨[.own 118 ty12],[]⟩,[ty12],fun h=>Pw.j4s h.1 h.2⟩
def jlL:FnD where
 N:=89
 np:=2
 cs:=[]
 ds:=[⟨0,[.s (.one (.d ty12)),.s (.one (.ol 1000000)),sI,.s (.one (.d ty12)),sI,sI,.b (.lst 118 ty7 false)],[ty12,iT,ty12,iT,iT,ty12],[⟨.exit 0,[.s (.one (.ol 1500100)),.b (.lst 118 ty7 false)],[ty12]⟩],fun h=>Pw.j3E h.1 h.2.1 h.2.2.1 h.2.2.2.1 h.2.2.2.2.1 h.2.2.2.2.2⟩,
  ⟨2,[.s (.one (.d ty12)),.s (.one (.ol 1002000)),sI,.s (.one (.bp 512 0)),.s (.one (.d ty12)),sI,sI,.b (.cell [.d iT,.d iT] false),.b (.lst 118 ty7 false)],[ty12,iT,ty12,iT,iT,iT,iT,ty12],[⟨.exit 2,[.s (.one (.d ty12)),.s (.one (.ol 1502300)),sI,.s (.one (.bp 512 0)),.s (.one (.d ty12)),sI,sI,.b (.cell [.d iT,.d iT] false),.b (.lst 118 ty7 false)],[ty12,iT,ty12,iT,iT,iT,iT,ty12]⟩],fun h=>Pw.jaK h.1 h.2.1 h.2.2.1 h.2.2.2.1 h.2.2.2.2.1 h.2.2.2.2.2.1 h.2.2.2.2.2.2.1 h.2.2.2.2.2.2.2⟩,
  ⟨4,[.s (.one (.d ty12)),.s (.one (.ol 1004000)),sI,.s (.one (.bp 512 0)),sI,sI,.s (.one (.d ty12)),sI,sI,.b (.cell [.d iT,.d iT] false),.b (.lst 118 ty7 false)],[ty12,iT,iT,iT,ty12,iT,iT,iT,iT,ty12],[⟨.exit 4,[.s (.one (.d ty12)),.s (.one (.ol 1504500)),sI,.s (.one (.bp 512 0)),sI,.s (.one (.d ty12)),sI,sI,.b (.cell [.d iT,.d iT] false),.b (.lst 118 ty7 false)],[ty12,iT,iT,ty12,iT,iT,iT,iT,ty12]⟩],fun h=>Pw.jaL h.1 h.2.1 h.2.2.1 h.2.2.2.1 h.2.2.2.2.1 h.2.2.2.2.2.1 h.2.2.2.2.2.2.1 h.2.2.2.2.2.2.2.1 h.2.2.2.2.2.2.2.2.1 h.2.2.2.2.2.2.2.2.2⟩]
 keep:=[(0,⟨[1,5,6,11,12,13],[],[⟨1000000,118,ty7,[.slot 5],false⟩],[]⟩),
  (2,⟨[1,5,6,8,11,12,13],[512],[⟨1002000,118,ty7,[.slot 5],false⟩],[]⟩),
  (4,⟨[1,5,6,8,9,10,11,12,13],[512],[⟨1004000,118,ty7,[.slot 5],false⟩],[]⟩)]
 keepX:=[(0,.exit 0,⟨[5],[],[⟨1500100,118,ty7,[.slot 5],false⟩],[]⟩),
  (2,.exit 2,⟨[1,5,6,8,11,12,13],[512],[⟨1502300,118,ty7,[.slot 5],false⟩],[]⟩),
  (4,.exit 4,⟨[1,5,6,8,9,11,12,13],[512],[⟨1504500,118,ty7,[.slot 5],false⟩],[]⟩)]
 ro:=[true]
theorem jbR:Con.OK Tryz.prog j5M:=
 cOf j0c j00 jlL j5M Tryz.func129 trivial (j9 (fun h=>by kernel_rfl) (j9 (fun h=>by kernel_rfl) (j9 (fun h=>by kernel_rfl) trivial)))
def j8v:Con:=⟨69,[.v ty12,.v ty12],[ty12,ty12],⟨[.own 118 ty12],[]⟩,[ty12],fun h=>Pw.j4N h.1 h.2⟩
def jnq:FnD where
 N:=67
 np:=2
 cs:=[]
 ds:=[⟨0,[.s (.one (.d ty12)),.s (.one (.d ty12)),.s (.one (.ol 1000000)),sI,sI,.b (.lst 118 ty7 false)],[ty12,ty12,iT,iT,ty12],[⟨.exit 0,[.s (.one (.ol 1500100)),.b (.lst 118 ty7 false)],[ty12]⟩],fun h=>Pw.jbt h.1 h.2.1 h.2.2.1 h.2.2.2.1 h.2.2.2.2⟩]
 keep:=[(0,⟨[0,1,5,6,7],[],[⟨1000000,118,ty7,[.slot 5],false⟩],[]⟩)]
 keepX:=[(0,.exit 0,⟨[5],[],[⟨1500100,118,ty7,[.slot 5],false⟩],[]⟩)]
 ro:=[true]
 dw:=[(4,[[],[],[],[],[],[],[],[],[],[],[],[],[],[],[],[],[],[],[],[],[],[],[],[512],[512]])]
theorem jgq:Con.OK Tryz.prog j8v:=
 cOf j0c j00 jnq j8v Tryz.func69 trivial (j9 (fun h=>by kernel_rfl) trivial)
def j7M:Con:=⟨196,[.v ty82,.v ty68,.v iT,.v iT],[ty82,ty68,iT,iT],⟨[.own 118 ty12],[]⟩,[ty12],fun h=>Pw.j6e h.1 h.2.1 h.2.2.1 h.2.2.2⟩
def jiT:FnD where
 N:=90
 np:=4
 cs:=[j3H,j7z,j8u,j5M,j8v]
 ds:=[]
 modes:=[(69,[false,false]),(70,[false,false,false,false]),(129,[false,false]),(162,[false,false,false]),(246,[false,false,false,false])]
 ro:=[true]
 dw:=[(7,[[],[],[],[],[],[],[],[],[],[],[3584],[]]),(10,[[],[],[],[],[],[],[],[],[],[],[],[4608],[4672],[]]),(12,[[],[],[],[],[],[],[],[],[],[],[],[5568],[5632],[]])]
theorem ji4:Con.OK Tryz.prog j7M:=
 cOf j0c j00 jiT j7M Tryz.func196 (j9 j7L (j9 jfu (j9 jiS (j9 jbR (j9 jgq trivial))))) trivial
def j6t:Con:=⟨115,[.v ty25,.v iT],[ty25,iT],⟨[.v iT],[]⟩,[iT],fun h=>Pw.j35 h.1 h.2⟩
def jgX:FnD where
 N:=10
 np:=2
 cs:=[j4Z,j4C]
 ds:=[]
 modes:=[(168,[false,false]),(169,[false,false])]
 ro:=[false]
theorem jga:Con.OK Tryz.prog j6t:=
 cOf j0c j00 jgX j6t Tryz.func115 (j9 jbQ (j9 jaQ trivial)) trivial
def jcU:Con:=⟨114,[.v iT],[iT],⟨[.v ty7],[]⟩,[ty7],fun h=>Pw.jg0 h⟩
def joN:FnD where
 N:=17
 np:=1
 cs:=[]
 ds:=[]
 ro:=[false]
theorem jnr:Con.OK Tryz.prog jcU:=
 cOf j0c j00 joN jcU Tryz.func114 trivial trivial
end Go.Proofs.Pk
