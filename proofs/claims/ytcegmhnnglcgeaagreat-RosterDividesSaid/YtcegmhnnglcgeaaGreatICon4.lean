/- Contracts: each given function is its plain function, printed by a program. -/
import Derived.Test.YtcegmhnnglcgeaaGreatICon3
noncomputable section
open Go Go.Lft
set_option linter.unusedVariables false
set_option maxRecDepth 100000
namespace Go.Proofs.Pk
def j60:Con:=⟨228,[.v iT,.ip [iT,ty12],.ip [iT]],[iT,iT,ty12,iT],⟨[.v .bool],[]⟩,[.bool],fun h=>Pw.j81 h.1 h.2.1 h.2.2.1 h.2.2.2⟩
def jeO:FnD where
 N:=13
 np:=3
 cs:=[]
 ds:=[]
 ro:=[false]
theorem jed:Con.OK Tryz.prog j60:=
 cOf j0i j03 jeO j60 Tryz.func228 trivial trivial
def jbv:Con:=⟨227,[.v iT,.clo 228 [.p [iT,ty12],.p [iT]]],[iT,iT,ty12,iT],⟨[.v iT],[]⟩,[iT],fun h=>Pw.j9l h.1 h.2.1 h.2.2.1 h.2.2.2⟩
def jmT:FnD where
 N:=26
 np:=2
 cs:=[j60]
 ds:=[⟨0,[.s (.one (.clo 228 [.p [iT,ty12],.p [iT]])),sI,sI],[iT,ty12,iT,iT,iT],[⟨.exit 0,[sI],[iT]⟩],fun h=>Pw.j3u h.1 h.2.1 h.2.2.1 h.2.2.2.1 h.2.2.2.2⟩]
 modes:=[(228,[false])]
 keep:=[(0,⟨[1,5,6],[],[],[]⟩)]
 keepX:=[(0,.exit 0,⟨[5],[],[],[]⟩)]
 ro:=[false]
theorem jl5:Con.OK Tryz.prog jbv:=
 cOf j0i j03 jmT jbv Tryz.func227 (j9 jed trivial) (j9 (fun h=>by kernel_rfl) trivial)
def j5q:Con:=⟨168,[.v ty25,.v iT],[ty25,iT],⟨[.v iT],[]⟩,[iT],fun h=>Pw.j3m h.1 h.2⟩
def jha:FnD where
 N:=10
 np:=2
 cs:=[jbv]
 ds:=[]
 modes:=[(227,[false,false])]
 ro:=[false]
theorem jbw:Con.OK Tryz.prog j5q:=
 cOf j0i j03 jha j5q Tryz.func168 (j9 jl5 trivial) trivial
def j54:Con:=⟨169,[.v ty25,.v iT],[ty25,iT],⟨[.v iT],[]⟩,[iT],fun h=>Pw.j4r h.1 h.2⟩
def jgd:FnD where
 N:=16
 np:=2
 cs:=[]
 ds:=[]
 ro:=[false]
theorem jaB:Con.OK Tryz.prog j54:=
 cOf j0i j03 jgd j54 Tryz.func169 trivial trivial
def j3T:Con:=⟨107,[.v ty25,.v iT,.v iT],[ty25,iT,iT],⟨[.own 178 ty24],[]⟩,[ty24],fun h=>Pw.j1q h.1 h.2.1 h.2.2⟩
def jge:FnD where
 N:=41
 np:=3
 cs:=[j5q,j54]
 ds:=[⟨0,[sI,sI,.s (.one (.bp 192 0)),.s (.one (.ol 1000000)),.b (.cell [.d iT,.d ty12] false),.b (.lst 178 ty20 false)],[iT,iT,iT,ty12,ty24],[⟨.exit 0,[.s (.one (.ol 1500100)),.b (.lst 178 ty20 false)],[ty24]⟩],fun h=>Pw.j0q h.1 h.2.1 h.2.2.1 h.2.2.2.1 h.2.2.2.2⟩]
 modes:=[(168,[false,false]),(169,[false,false])]
 keep:=[(0,⟨[1,2,3,7],[192],[⟨1000000,178,ty20,[.slot 7],false⟩],[]⟩)]
 keepX:=[(0,.exit 0,⟨[7],[],[⟨1500100,178,ty20,[.slot 7],false⟩],[]⟩)]
 ro:=[true]
theorem j7p:Con.OK Tryz.prog j3T:=
 cOf j0i j03 jge j3T Tryz.func107 (j9 jbw (j9 jaB trivial)) (j9 (fun h=>by kernel_rfl) trivial)
def jam:Con:=⟨225,[.v ty7],[ty7],⟨[.v iT],[]⟩,[iT],fun h=>Pw.j4n h⟩
def jl6:FnD where
 N:=11
 np:=1
 cs:=[]
 ds:=[]
 ro:=[false]
theorem jkc:Con.OK Tryz.prog jam:=
 cOf j0i j03 jl6 jam Tryz.func225 trivial trivial
def j7q:Con:=⟨163,[.v ty25,.v ty7],[ty25,ty7],⟨[.v iT,.v .bool],[]⟩,[iT,.bool],fun h=>Pw.j23 h.1 h.2⟩
def jhb:FnD where
 N:=30
 np:=2
 cs:=[j3T,jam]
 ds:=[⟨0,[.s (.one (.bp 192 0)),.s (.one (.ol 1000000)),sI,sI,.b (.cell [.d iT,.d iT] false),.b (.lst 178 ty20 false)],[iT,iT,iT,iT,ty24],[⟨.ret,[sI,.s (.one (.d .bool))],[iT,.bool]⟩,⟨.exit 0,[],[]⟩],fun h=>Pw.j1M h.1 h.2.1 h.2.2.1 h.2.2.2.1 h.2.2.2.2⟩]
 modes:=[(107,[false,false,false]),(225,[false])]
 keep:=[(0,⟨[3,10,11,12],[192],[⟨1000000,178,ty20,[.slot 10],false⟩],[]⟩)]
 keepX:=[(0,.ret,⟨[4,5],[],[],[]⟩),
  (0,.exit 0,⟨[],[],[],[]⟩)]
 ro:=[false,false]
theorem jgf:Con.OK Tryz.prog j7q:=
 cOf j0i j03 jhb j7q Tryz.func163 (j9 j7p (j9 jkc trivial)) (j9 (fun h=>by kernel_rfl) trivial)
def j4f:Con:=⟨162,[.v ty25,.v ty68,.v iT],[ty25,ty68,iT],⟨[.v iT,.v .bool],[]⟩,[iT,.bool],fun h=>Pw.j0M h.1 h.2.1 h.2.2⟩
def jhc:FnD where
 N:=50
 np:=3
 cs:=[j9I,j7q]
 ds:=[]
 modes:=[(163,[false,false]),(224,[false])]
 ro:=[false,false]
 dw:=[(5,[[],[],[],[],[],[],[],[],[512]])]
theorem j84:Con.OK Tryz.prog j4f:=
 cOf j0i j03 jhc j4f Tryz.func162 (j9 jh9 (j9 jgf trivial)) trivial
def j4F:Con:=⟨141,[.v ty12],[ty12],⟨[.own 118 ty12],[]⟩,[ty12],fun h=>Pw.j3M h⟩
def j8X:FnD where
 N:=8
 np:=1
 cs:=[]
 ds:=[]
 ro:=[true]
theorem j8B:Con.OK Tryz.prog j4F:=
 jo8 j0i j03 j8X 141 ty7 118 Tryz.f141 (Tryz.f141.body.getD .skip) Tryz.func141 (by kernel_rfl) (by kernel_rfl) (Nat.le_of_ble_eq_true (by kernel_rfl)) (by kernel_rfl) trivial (by kernel_rfl)
  (fun h R k=>by kernel_rfl)
def j76:Con:=⟨142,[.v ty7],[ty7],⟨[.v .bool],[]⟩,[.bool],fun h=>Pw.j8r h⟩
def jkd:FnD where
 N:=8
 np:=1
 cs:=[]
 ds:=[]
 ro:=[false]
theorem je4:Con.OK Tryz.prog j76:=
 cOf j0i j03 jkd j76 Tryz.func142 trivial trivial
def j2z:Con:=⟨206,[.rl 118 ty12,.clo 142 []],[ty12],⟨[.v iT],[.rl ty12]⟩,[iT,ty12],fun h=>Pw.j0W h⟩
def j7M:FnD where
 N:=19
 np:=2
 cs:=[j76]
 ds:=[⟨0,[.s (.one (.ol 0)),.s (.one (.clo 142 [])),sI,sI,.b (.lst 118 ty7 false)],[iT,iT,ty12],[⟨.ret,[sI,.b (.lst 118 ty7 false)],[iT,ty12]⟩,⟨.exit 0,[.b (.lst 118 ty7 false)],[ty12]⟩],fun h=>Pw.j0N h.1 h.2.1 h.2.2⟩]
 modes:=[(142,[false])]
 keep:=[(0,⟨[0,1,7,8],[0],[],[]⟩)]
 keepX:=[(0,.ret,⟨[4],[0],[],[]⟩),
  (0,.exit 0,⟨[],[0],[],[]⟩)]
 ro:=[false]
theorem j7r:Con.OK Tryz.prog j2z:=
 cOf j0i j03 j7M j2z Tryz.func206 (j9 je4 trivial) (j9 (fun h=>by kernel_rfl) trivial)
def j2u:Con:=⟨140,[.rl 118 ty12,.clo 142 []],[ty12],⟨[.hd],[.rl ty12]⟩,[iT,ty12],fun h=>Pw.j0z h⟩
def j7s:FnD where
 N:=42
 np:=2
 cs:=[j76,j2z]
 ds:=[⟨0,[.s (.one (.ol 0)),.s (.one (.clo 142 [])),sI,sI,.b (.lst 118 ty7 false)],[iT,iT,ty12],[⟨.exit 0,[.s (.one (.ol 0)),sI,.b (.lst 118 ty7 false)],[iT,ty12]⟩],fun h=>Pw.j0I h.1 h.2.1 h.2.2⟩]
 modes:=[(142,[false]),(206,[true,false])]
 keep:=[(0,⟨[0,1,5,6],[0],[],[]⟩)]
 keepX:=[(0,.exit 0,⟨[0,5],[0],[],[]⟩)]
 ro:=[false]
 hd:=true
theorem j77:Con.OK Tryz.prog j2u:=
 cOf j0i j03 j7s j2u Tryz.func140 (j9 je4 (j9 j7r trivial)) (j9 (fun h=>by kernel_rfl) trivial)
def j9v:Con:=⟨144,[.v ty7,.v ty7],[ty7,ty7],⟨[.v iT],[]⟩,[iT],fun h=>Pw.j72 h.1 h.2⟩
def jke:FnD where
 N:=10
 np:=2
 cs:=[]
 ds:=[]
 ro:=[false]
theorem jrS:Con.OK Tryz.prog j9v:=
 cOf j0i j03 jke j9v Tryz.func144 trivial trivial
def j2b:Con:=⟨143,[.rl 118 ty12,.clo 144 []],[ty12],⟨[],[.rl ty12]⟩,[ty12],fun h=>Pw.j1j h⟩
def jaZ:FnD where
 N:=14
 np:=2
 cs:=[j9v]
 ds:=[]
 modes:=[(144,[false,false])]
theorem j4l:Con.OK Tryz.prog j2b:=
 jqI Tryz.sort143 (ty7) rfl 118 (by kernel_rfl) Tryz.isAgg118 Tryz.sizeOf118 _ 144 (enters_of Tryz.func144 (by kernel_rfl) rfl) jpr jps 143 rfl
def j5h:Con:=⟨98,[.v ty12],[ty12],⟨[.own 118 ty12],[]⟩,[ty12],fun h=>Pw.j5v h⟩
def jop:FnD where
 N:=54
 np:=1
 cs:=[j4F,j2u,j2b]
 ds:=[⟨0,[.s (.one (.ol 1000000)),.s (.one (.ol 1000001)),sI,sI,.b (.lst 118 ty7 false),.b (.lst 118 ty7 false)],[iT,iT,ty12,ty12],[⟨.exit 0,[.s (.one (.ol 1500100)),.b (.lst 118 ty7 false)],[ty12]⟩],fun h=>Pw.j3W h.1 h.2.1 h.2.2.1 h.2.2.2⟩]
 modes:=[(140,[true,false]),(141,[false]),(143,[true,false])]
 keep:=[(0,⟨[4,13,14,15],[],[⟨1000000,118,ty7,[.slot 4],false⟩,⟨1000001,118,ty7,[.slot 13],false⟩],[]⟩)]
 keepX:=[(0,.exit 0,⟨[4],[],[⟨1500100,118,ty7,[.slot 4],false⟩],[]⟩)]
 ro:=[true]
 dw:=[(9,[[],[],[],[],[],[],[],[],[],[],[],[],[],[],[1000000]])]
theorem j8C:Con.OK Tryz.prog j5h:=
 cOf j0i j03 jop j5h Tryz.func98 (j9 j8B (j9 j77 (j9 j4l trivial))) (j9 (fun h=>by kernel_rfl) trivial)
def jan:Con:=⟨70,[.v ty25,.v ty12,.v iT,.v iT],[ty25,ty12,iT,iT],⟨[.own 118 ty12],[]⟩,[ty12],fun h=>Pw.j3N h.1 h.2.1 h.2.2.1 h.2.2.2⟩
def jl7:FnD where
 N:=73
 np:=4
 cs:=[j3T,j5h]
 ds:=[⟨0,[.s (.one (.d ty12)),.s (.one (.ol 1000000)),.s (.one (.ol 1000001)),sI,sI,.b (.lst 118 ty7 false),.b (.lst 178 ty20 false)],[ty12,iT,iT,ty12,ty24],[⟨.exit 0,[.s (.one (.ol 1500100)),.b (.lst 118 ty7 false)],[ty12]⟩],fun h=>Pw.j29 h.1 h.2.1 h.2.2.1 h.2.2.2.1 h.2.2.2.2⟩,
  ⟨2,[.s (.one (.d ty12)),.s (.one (.ol 1002000)),.s (.one (.bp 704 0)),sI,.s (.one (.ol 1002001)),sI,sI,.b (.cell [.d iT,.d iT,.d iT] false),.b (.lst 118 ty7 false),.b (.lst 178 ty20 false)],[ty12,iT,iT,iT,iT,iT,iT,ty12,ty24],[⟨.exit 2,[.s (.one (.d ty12)),.s (.one (.ol 1502300)),.s (.one (.ol 1502301)),sI,sI,.b (.lst 118 ty7 false),.b (.lst 178 ty20 false)],[ty12,iT,iT,ty12,ty24]⟩],fun h=>Pw.j28 h.1 h.2.1 h.2.2.1 h.2.2.2.1 h.2.2.2.2.1 h.2.2.2.2.2.1 h.2.2.2.2.2.2.1 h.2.2.2.2.2.2.2.1 h.2.2.2.2.2.2.2.2⟩,
  ⟨4,[.s (.one (.d ty12)),.s (.one (.ol 1004000)),.s (.one (.bp 704 0)),sI,.s (.one (.ol 1004001)),sI,sI,.s (.one (.d ty12)),sI,sI,.b (.cell [.d iT,.d iT,.d iT] false),.b (.lst 118 ty7 false),.b (.lst 178 ty20 false)],[ty12,iT,iT,iT,ty12,iT,iT,iT,iT,iT,ty12,ty24],[⟨.exit 4,[.s (.one (.d ty12)),.s (.one (.ol 1504500)),.s (.one (.bp 704 0)),sI,.s (.one (.ol 1504501)),sI,sI,.b (.cell [.d iT,.d iT,.d iT] false),.b (.lst 118 ty7 false),.b (.lst 178 ty20 false)],[ty12,iT,iT,iT,iT,iT,iT,ty12,ty24]⟩],fun h=>Pw.j4b h.1 h.2.1 h.2.2.1 h.2.2.2.1 h.2.2.2.2.1 h.2.2.2.2.2.1 h.2.2.2.2.2.2.1 h.2.2.2.2.2.2.2.1 h.2.2.2.2.2.2.2.2.1 h.2.2.2.2.2.2.2.2.2.1 h.2.2.2.2.2.2.2.2.2.2.1 h.2.2.2.2.2.2.2.2.2.2.2⟩]
 modes:=[(98,[false]),(107,[false,false,false])]
 keep:=[(0,⟨[1,9,19,20,21],[],[⟨1000000,118,ty7,[.slot 9],false⟩,⟨1000001,178,ty20,[.slot 19],false⟩],[]⟩),
  (2,⟨[1,9,11,13,19,20,21],[704],[⟨1002000,118,ty7,[.slot 9],false⟩,⟨1002001,178,ty20,[.slot 19],false⟩],[]⟩),
  (4,⟨[1,9,11,13,19,20,21,45,46,47],[704],[⟨1004000,118,ty7,[.slot 9],false⟩,⟨1004001,178,ty20,[.slot 19],false⟩],[]⟩)]
 keepX:=[(0,.exit 0,⟨[9],[],[⟨1500100,118,ty7,[.slot 9],false⟩],[]⟩),
  (2,.exit 2,⟨[1,9,19,20,21],[],[⟨1502300,118,ty7,[.slot 9],false⟩,⟨1502301,178,ty20,[.slot 19],false⟩],[]⟩),
  (4,.exit 4,⟨[1,9,11,13,19,20,21],[704],[⟨1504500,118,ty7,[.slot 9],false⟩,⟨1504501,178,ty20,[.slot 19],false⟩],[]⟩)]
 ro:=[true]
theorem jkf:Con.OK Tryz.prog jan:=
 cOf j0i j03 jl7 jan Tryz.func70 (j9 j7p (j9 j8C trivial)) (j9 (fun h=>by kernel_rfl) (j9 (fun h=>by kernel_rfl) (j9 (fun h=>by kernel_rfl) trivial)))
def j8D:Con:=⟨246,[.v ty82,.v ty22,.v iT,.v iT],[ty82,ty22,iT,iT],⟨[.own 118 ty12],[]⟩,[ty12],fun h=>Pw.j1P h.1 h.2.1 h.2.2.1 h.2.2.2⟩
def jiM:FnD where
 N:=58
 np:=4
 cs:=[j3T,j5h]
 ds:=[⟨0,[.s (.one (.bp 320 0)),.s (.one (.ol 1000000)),.s (.one (.ol 1000001)),sI,sI,.b (.cell [.d .str,.d iT,.d (.list iT)] false),.b (.lst 118 ty7 false),.b (.lst 178 ty20 false)],[iT,iT,.str,iT,(.list iT),ty12,ty24],[⟨.exit 0,[.s (.one (.ol 1500100)),.b (.lst 118 ty7 false)],[ty12]⟩],fun h=>Pw.j1F h.1 h.2.1 h.2.2.1 h.2.2.2.1 h.2.2.2.2.1 h.2.2.2.2.2.1 h.2.2.2.2.2.2⟩,
  ⟨2,[.s (.one (.bp 320 0)),.s (.one (.ol 1002000)),.s (.one (.bp 704 0)),.s (.one (.ol 1002001)),sI,sI,.s (.one (.d (.list iT))),sI,sI,.b (.cell [.d .str,.d iT,.d (.list iT)] false),.b (.cell [.d iT,.d iT,.d iT] false),.b (.lst 118 ty7 false),.b (.lst 178 ty20 false)],[iT,iT,(.list iT),iT,iT,.str,iT,(.list iT),iT,iT,iT,ty12,ty24],[⟨.exit 2,[.s (.one (.bp 320 0)),.s (.one (.ol 1502300)),.s (.one (.ol 1502301)),sI,sI,.b (.cell [.d .str,.d iT,.d (.list iT)] false),.b (.lst 118 ty7 false),.b (.lst 178 ty20 false)],[iT,iT,.str,iT,(.list iT),ty12,ty24]⟩],fun h=>Pw.j3q h.1 h.2.1 h.2.2.1 h.2.2.2.1 h.2.2.2.2.1 h.2.2.2.2.2.1 h.2.2.2.2.2.2.1 h.2.2.2.2.2.2.2.1 h.2.2.2.2.2.2.2.2.1 h.2.2.2.2.2.2.2.2.2.1 h.2.2.2.2.2.2.2.2.2.2.1 h.2.2.2.2.2.2.2.2.2.2.2.1 h.2.2.2.2.2.2.2.2.2.2.2.2⟩]
 modes:=[(98,[false]),(107,[false,false,false])]
 keep:=[(0,⟨[5,9,23,24,25],[320],[⟨1000000,118,ty7,[.slot 9],false⟩,⟨1000001,178,ty20,[.slot 23],false⟩],[]⟩),
  (2,⟨[5,9,11,23,24,25,30,31,32],[320,704],[⟨1002000,118,ty7,[.slot 9],false⟩,⟨1002001,178,ty20,[.slot 23],false⟩],[]⟩)]
 keepX:=[(0,.exit 0,⟨[9],[],[⟨1500100,118,ty7,[.slot 9],false⟩],[]⟩),
  (2,.exit 2,⟨[5,9,23,24,25],[320],[⟨1502300,118,ty7,[.slot 9],false⟩,⟨1502301,178,ty20,[.slot 23],false⟩],[]⟩)]
 ro:=[true]
theorem ji2:Con.OK Tryz.prog j8D:=
 cOf j0i j03 jiM j8D Tryz.func246 (j9 j7p (j9 j8C trivial)) (j9 (fun h=>by kernel_rfl) (j9 (fun h=>by kernel_rfl) trivial))
def j6b:Con:=⟨129,[.v ty12,.v ty12],[ty12,ty12],⟨[.own 118 ty12],[]⟩,[ty12],fun h=>Pw.j2p h.1 h.2⟩
def jl8:FnD where
 N:=89
 np:=2
 cs:=[]
 ds:=[⟨0,[.s (.one (.d ty12)),.s (.one (.ol 1000000)),sI,.s (.one (.d ty12)),sI,sI,.b (.lst 118 ty7 false)],[ty12,iT,ty12,iT,iT,ty12],[⟨.exit 0,[.s (.one (.ol 1500100)),.b (.lst 118 ty7 false)],[ty12]⟩],fun h=>Pw.j2a h.1 h.2.1 h.2.2.1 h.2.2.2.1 h.2.2.2.2.1 h.2.2.2.2.2⟩,
  ⟨2,[.s (.one (.d ty12)),.s (.one (.ol 1002000)),sI,.s (.one (.bp 512 0)),.s (.one (.d ty12)),sI,sI,.b (.cell [.d iT,.d iT] false),.b (.lst 118 ty7 false)],[ty12,iT,ty12,iT,iT,iT,iT,ty12],[⟨.exit 2,[.s (.one (.d ty12)),.s (.one (.ol 1502300)),sI,.s (.one (.bp 512 0)),.s (.one (.d ty12)),sI,sI,.b (.cell [.d iT,.d iT] false),.b (.lst 118 ty7 false)],[ty12,iT,ty12,iT,iT,iT,iT,ty12]⟩],fun h=>Pw.j4c h.1 h.2.1 h.2.2.1 h.2.2.2.1 h.2.2.2.2.1 h.2.2.2.2.2.1 h.2.2.2.2.2.2.1 h.2.2.2.2.2.2.2⟩,
  ⟨4,[.s (.one (.d ty12)),.s (.one (.ol 1004000)),sI,.s (.one (.bp 512 0)),sI,sI,.s (.one (.d ty12)),sI,sI,.b (.cell [.d iT,.d iT] false),.b (.lst 118 ty7 false)],[ty12,iT,iT,iT,ty12,iT,iT,iT,iT,ty12],[⟨.exit 4,[.s (.one (.d ty12)),.s (.one (.ol 1504500)),sI,.s (.one (.bp 512 0)),sI,.s (.one (.d ty12)),sI,sI,.b (.cell [.d iT,.d iT] false),.b (.lst 118 ty7 false)],[ty12,iT,iT,ty12,iT,iT,iT,iT,ty12]⟩],fun h=>Pw.j4d h.1 h.2.1 h.2.2.1 h.2.2.2.1 h.2.2.2.2.1 h.2.2.2.2.2.1 h.2.2.2.2.2.2.1 h.2.2.2.2.2.2.2.1 h.2.2.2.2.2.2.2.2.1 h.2.2.2.2.2.2.2.2.2⟩]
 keep:=[(0,⟨[1,5,6,11,12,13],[],[⟨1000000,118,ty7,[.slot 5],false⟩],[]⟩),
  (2,⟨[1,5,6,8,11,12,13],[512],[⟨1002000,118,ty7,[.slot 5],false⟩],[]⟩),
  (4,⟨[1,5,6,8,9,10,11,12,13],[512],[⟨1004000,118,ty7,[.slot 5],false⟩],[]⟩)]
 keepX:=[(0,.exit 0,⟨[5],[],[⟨1500100,118,ty7,[.slot 5],false⟩],[]⟩),
  (2,.exit 2,⟨[1,5,6,8,11,12,13],[512],[⟨1502300,118,ty7,[.slot 5],false⟩],[]⟩),
  (4,.exit 4,⟨[1,5,6,8,9,11,12,13],[512],[⟨1504500,118,ty7,[.slot 5],false⟩],[]⟩)]
 ro:=[true]
theorem jbx:Con.OK Tryz.prog j6b:=
 cOf j0i j03 jl8 j6b Tryz.func129 trivial (j9 (fun h=>by kernel_rfl) (j9 (fun h=>by kernel_rfl) (j9 (fun h=>by kernel_rfl) trivial)))
def jby:Con:=⟨69,[.v ty12,.v ty12],[ty12,ty12],⟨[.own 118 ty12],[]⟩,[ty12],fun h=>Pw.j6J h.1 h.2⟩
def jmU:FnD where
 N:=67
 np:=2
 cs:=[]
 ds:=[⟨0,[.s (.one (.d ty12)),.s (.one (.d ty12)),.s (.one (.ol 1000000)),sI,sI,.b (.lst 118 ty7 false)],[ty12,ty12,iT,iT,ty12],[⟨.exit 0,[.s (.one (.ol 1500100)),.b (.lst 118 ty7 false)],[ty12]⟩],fun h=>Pw.j5T h.1 h.2.1 h.2.2.1 h.2.2.2.1 h.2.2.2.2⟩]
 keep:=[(0,⟨[0,1,5,6,7],[],[⟨1000000,118,ty7,[.slot 5],false⟩],[]⟩)]
 keepX:=[(0,.exit 0,⟨[5],[],[⟨1500100,118,ty7,[.slot 5],false⟩],[]⟩)]
 ro:=[true]
 dw:=[(4,[[],[],[],[],[],[],[],[],[],[],[],[],[],[],[],[],[],[],[],[],[],[],[],[512],[512]])]
theorem jl9:Con.OK Tryz.prog jby:=
 cOf j0i j03 jmU jby Tryz.func69 trivial (j9 (fun h=>by kernel_rfl) trivial)
def j85:Con:=⟨196,[.v ty82,.v ty68,.v iT,.v iT],[ty82,ty68,iT,iT],⟨[.own 118 ty12],[]⟩,[ty12],fun h=>Pw.j3P h.1 h.2.1 h.2.2.1 h.2.2.2⟩
def ji3:FnD where
 N:=90
 np:=4
 cs:=[j4f,jan,j8D,j6b,jby]
 ds:=[]
 modes:=[(69,[false,false]),(70,[false,false,false,false]),(129,[false,false]),(162,[false,false,false]),(246,[false,false,false,false])]
 ro:=[true]
 dw:=[(7,[[],[],[],[],[],[],[],[],[],[],[3584],[]]),(10,[[],[],[],[],[],[],[],[],[],[],[],[4608],[4672],[]]),(12,[[],[],[],[],[],[],[],[],[],[],[],[5568],[5632],[]])]
theorem jhd:Con.OK Tryz.prog j85:=
 cOf j0i j03 ji3 j85 Tryz.func196 (j9 j84 (j9 jkf (j9 ji2 (j9 jbx (j9 jl9 trivial))))) trivial
end Go.Proofs.Pk
