/- Contracts: each given function is its plain function, printed by a program. -/
import Derived.Test.YtaieocafhcjelaaGreatACon3
noncomputable section
open Go Go.Lft
set_option linter.unusedVariables false
set_option maxRecDepth 100000
namespace Go.Proofs.Pk
def j88:Con:=⟨233,[.v ty28,.v ty8],[ty28,ty8],⟨[.v iT,.v .bool],[]⟩,[iT,.bool],Pw.unc2 Pw.j1Z⟩
def jjP:FnD where
 N:=30
 np:=2
 cs:=[j40,jbt]
 ds:=[⟨0,[.s (.one (.bp 192 0)),.s (.one (.ol 1000000)),sI,sI,.b (.cell [.d iT,.d iT] false),.b (.lst 251 ty21 false)],[iT,iT,iT,iT,ty26],[⟨.ret,[sI,.s (.one (.d .bool))],[iT,.bool]⟩,⟨.exit 0,[],[]⟩],Pw.unc5 (Pw.j1G)⟩]
 modes:=[(186,[false,false,false]),(317,[false])]
 keep:=[(0,⟨[3,10,11,12],[192],[⟨1000000,251,ty21,[.slot 10],false⟩],[]⟩)]
 keepX:=[(0,.ret,⟨[4,5],[],[],[]⟩),
  (0,.exit 0,⟨[],[],[],[]⟩)]
 ro:=[false,false]
theorem jiD:Con.OK Tryz.prog j88:=
 cOf j0c j03 jjP j88 Tryz.func233 (j9 j87 (j9 jn9 trivial)) (j9 (fun h=>by kernel_rfl) trivial)
def j4n:Con:=⟨232,[.v ty28,.v ty72,.v iT],[ty28,ty72,iT],⟨[.v iT,.v .bool],[]⟩,[iT,.bool],Pw.unc3 Pw.j0M⟩
def jjQ:FnD where
 N:=50
 np:=3
 cs:=[jaB,j88]
 ds:=[]
 modes:=[(233,[false,false]),(316,[false])]
 ro:=[false,false]
 dw:=[(5,[[],[],[],[],[],[],[],[],[512]])]
theorem j8L:Con.OK Tryz.prog j4n:=
 cOf j0c j03 jjQ j4n Tryz.func232 (j9 jjN (j9 jiD trivial)) trivial
def j4U:Con:=⟨267,[.v ty13],[ty13],⟨[.own 99 ty13],[]⟩,[ty13],fun h=>Pw.j3L h⟩
def j9K:FnD where
 N:=8
 np:=1
 cs:=[]
 ds:=[]
 ro:=[true]
theorem j9s:Con.OK Tryz.prog j4U:=
 jrn j0c j03 j9K 267 ty8 99 Tryz.f267 (Tryz.f267.body.getD .skip) Tryz.func267 (by kernel_rfl) (by kernel_rfl) (Nat.le_of_ble_eq_true (by kernel_rfl)) (by kernel_rfl) trivial (by kernel_rfl)
  (fun h R k=>by kernel_rfl)
def j7O:Con:=⟨268,[.v ty8],[ty8],⟨[.v .bool],[]⟩,[.bool],fun h=>Pw.j9c h⟩
def jna:FnD where
 N:=8
 np:=1
 cs:=[]
 ds:=[]
 ro:=[false]
theorem jg1:Con.OK Tryz.prog j7O:=
 cOf j0c j03 jna j7O Tryz.func268 trivial trivial
def j2u:Con:=⟨325,[.rl 99 ty13,.clo 268 []],[ty13],⟨[.v iT],[.rl ty13]⟩,[iT,ty13],fun h=>Pw.j0S h⟩
def j8v:FnD where
 N:=19
 np:=2
 cs:=[j7O]
 ds:=[⟨0,[.s (.one (.ol 0)),.s (.one (.clo 268 [])),sI,sI,.b (.lst 99 ty8 false)],[iT,iT,ty13],[⟨.ret,[sI,.b (.lst 99 ty8 false)],[iT,ty13]⟩,⟨.exit 0,[.b (.lst 99 ty8 false)],[ty13]⟩],Pw.unc3 (Pw.j0N)⟩]
 modes:=[(268,[false])]
 keep:=[(0,⟨[0,1,7,8],[0],[],[]⟩)]
 keepX:=[(0,.ret,⟨[4],[0],[],[]⟩),
  (0,.exit 0,⟨[],[0],[],[]⟩)]
 ro:=[false]
theorem j89:Con.OK Tryz.prog j2u:=
 cOf j0c j03 j8v j2u Tryz.func325 (j9 jg1 trivial) (j9 (fun h=>by kernel_rfl) trivial)
def j2p:Con:=⟨266,[.rl 99 ty13,.clo 268 []],[ty13],⟨[.hd],[.rl ty13]⟩,[iT,ty13],fun h=>Pw.j0A h⟩
def j8a:FnD where
 N:=42
 np:=2
 cs:=[j7O,j2u]
 ds:=[⟨0,[.s (.one (.ol 0)),.s (.one (.clo 268 [])),sI,sI,.b (.lst 99 ty8 false)],[iT,iT,ty13],[⟨.exit 0,[.s (.one (.ol 0)),sI,.b (.lst 99 ty8 false)],[iT,ty13]⟩],Pw.unc3 (Pw.j0I)⟩]
 modes:=[(268,[false]),(325,[true,false])]
 keep:=[(0,⟨[0,1,5,6],[0],[],[]⟩)]
 keepX:=[(0,.exit 0,⟨[0,5],[0],[],[]⟩)]
 ro:=[false]
 hd:=true
theorem j7P:Con.OK Tryz.prog j2p:=
 cOf j0c j03 j8a j2p Tryz.func266 (j9 jg1 (j9 j89 trivial)) (j9 (fun h=>by kernel_rfl) trivial)
def jal:Con:=⟨270,[.v ty8,.v ty8],[ty8,ty8],⟨[.v iT],[]⟩,[iT],Pw.unc2 Pw.j7K⟩
def jnb:FnD where
 N:=10
 np:=2
 cs:=[]
 ds:=[]
 ro:=[false]
theorem jw1:Con.OK Tryz.prog jal:=
 cOf j0c j03 jnb jal Tryz.func270 trivial trivial
def j26:Con:=⟨269,[.rl 99 ty13,.clo 270 []],[ty13],⟨[],[.rl ty13]⟩,[ty13],fun h=>Pw.j1c h⟩
def jcd:FnD where
 N:=14
 np:=2
 cs:=[jal]
 ds:=[]
 modes:=[(270,[false,false])]
theorem j4w:Con.OK Tryz.prog j26:=
 juE Tryz.sort269 (ty8) rfl 99 (by kernel_rfl) Tryz.isAgg99 Tryz.sizeOf99 _ 270 (enters_of Tryz.func270 (by kernel_rfl) rfl) jt7 jt8 269 rfl
def j5F:Con:=⟨185,[.v ty13],[ty13],⟨[.own 99 ty13],[]⟩,[ty13],fun h=>Pw.j5U h⟩
def jrJ:FnD where
 N:=54
 np:=1
 cs:=[j4U,j2p,j26]
 ds:=[⟨0,[.s (.one (.ol 1000000)),.s (.one (.ol 1000001)),sI,sI,.b (.lst 99 ty8 false),.b (.lst 99 ty8 false)],[iT,iT,ty13,ty13],[⟨.exit 0,[.s (.one (.ol 1500100)),.b (.lst 99 ty8 false)],[ty13]⟩],Pw.unc4 (Pw.j44)⟩]
 modes:=[(266,[true,false]),(267,[false]),(269,[true,false])]
 keep:=[(0,⟨[4,13,14,15],[],[⟨1000000,99,ty8,[.slot 4],false⟩,⟨1000001,99,ty8,[.slot 13],false⟩],[]⟩)]
 keepX:=[(0,.exit 0,⟨[4],[],[⟨1500100,99,ty8,[.slot 4],false⟩],[]⟩)]
 ro:=[true]
 dw:=[(9,[[],[],[],[],[],[],[],[],[],[],[],[],[],[],[1000000]])]
theorem j9t:Con.OK Tryz.prog j5F:=
 cOf j0c j03 jrJ j5F Tryz.func185 (j9 j9s (j9 j7P (j9 j4w trivial))) (j9 (fun h=>by kernel_rfl) trivial)
def jbu:Con:=⟨117,[.v ty28,.v ty13,.v iT,.v iT],[ty28,ty13,iT,iT],⟨[.own 99 ty13],[]⟩,[ty13],Pw.unc4 Pw.j3M⟩
def jo4:FnD where
 N:=73
 np:=4
 cs:=[j40,j5F]
 ds:=[⟨0,[.s (.one (.d ty13)),.s (.one (.ol 1000000)),.s (.one (.ol 1000001)),sI,sI,.b (.lst 99 ty8 false),.b (.lst 251 ty21 false)],[ty13,iT,iT,ty13,ty26],[⟨.exit 0,[.s (.one (.ol 1500100)),.b (.lst 99 ty8 false)],[ty13]⟩],Pw.unc5 (Pw.j24)⟩,
  ⟨2,[.s (.one (.d ty13)),.s (.one (.ol 1002000)),.s (.one (.bp 704 0)),sI,.s (.one (.ol 1002001)),sI,sI,.b (.cell [.d iT,.d iT,.d iT] false),.b (.lst 99 ty8 false),.b (.lst 251 ty21 false)],[ty13,iT,iT,iT,iT,iT,iT,ty13,ty26],[⟨.exit 2,[.s (.one (.d ty13)),.s (.one (.ol 1502300)),.s (.one (.ol 1502301)),sI,sI,.b (.lst 99 ty8 false),.b (.lst 251 ty21 false)],[ty13,iT,iT,ty13,ty26]⟩],Pw.unc9 (Pw.j23)⟩,
  ⟨4,[.s (.one (.d ty13)),.s (.one (.ol 1004000)),.s (.one (.bp 704 0)),sI,.s (.one (.ol 1004001)),sI,sI,.s (.one (.d ty13)),sI,sI,.b (.cell [.d iT,.d iT,.d iT] false),.b (.lst 99 ty8 false),.b (.lst 251 ty21 false)],[ty13,iT,iT,iT,ty13,iT,iT,iT,iT,iT,ty13,ty26],[⟨.exit 4,[.s (.one (.d ty13)),.s (.one (.ol 1504500)),.s (.one (.bp 704 0)),sI,.s (.one (.ol 1504501)),sI,sI,.b (.cell [.d iT,.d iT,.d iT] false),.b (.lst 99 ty8 false),.b (.lst 251 ty21 false)],[ty13,iT,iT,iT,iT,iT,iT,ty13,ty26]⟩],Pw.jz4 (Pw.j4j)⟩]
 modes:=[(185,[false]),(186,[false,false,false])]
 keep:=[(0,⟨[1,9,19,20,21],[],[⟨1000000,99,ty8,[.slot 9],false⟩,⟨1000001,251,ty21,[.slot 19],false⟩],[]⟩),
  (2,⟨[1,9,11,13,19,20,21],[704],[⟨1002000,99,ty8,[.slot 9],false⟩,⟨1002001,251,ty21,[.slot 19],false⟩],[]⟩),
  (4,⟨[1,9,11,13,19,20,21,45,46,47],[704],[⟨1004000,99,ty8,[.slot 9],false⟩,⟨1004001,251,ty21,[.slot 19],false⟩],[]⟩)]
 keepX:=[(0,.exit 0,⟨[9],[],[⟨1500100,99,ty8,[.slot 9],false⟩],[]⟩),
  (2,.exit 2,⟨[1,9,19,20,21],[],[⟨1502300,99,ty8,[.slot 9],false⟩,⟨1502301,251,ty21,[.slot 19],false⟩],[]⟩),
  (4,.exit 4,⟨[1,9,11,13,19,20,21],[704],[⟨1504500,99,ty8,[.slot 9],false⟩,⟨1504501,251,ty21,[.slot 19],false⟩],[]⟩)]
 ro:=[true]
theorem jnc:Con.OK Tryz.prog jbu:=
 cOf j0c j03 jo4 jbu Tryz.func117 (j9 j87 (j9 j9t trivial)) (j9 (fun h=>by kernel_rfl) (j9 (fun h=>by kernel_rfl) (j9 (fun h=>by kernel_rfl) trivial)))
def j9u:Con:=⟨353,[.v ty86,.v ty24,.v iT,.v iT],[ty86,ty24,iT,iT],⟨[.own 99 ty13],[]⟩,[ty13],Pw.unc4 Pw.j1J⟩
def jlA:FnD where
 N:=58
 np:=4
 cs:=[j40,j5F]
 ds:=[⟨0,[.s (.one (.bp 320 0)),.s (.one (.ol 1000000)),.s (.one (.ol 1000001)),sI,sI,.b (.cell [.d .str,.d iT,.d (.list iT)] false),.b (.lst 99 ty8 false),.b (.lst 251 ty21 false)],[iT,iT,.str,iT,(.list iT),ty13,ty26],[⟨.exit 0,[.s (.one (.ol 1500100)),.b (.lst 99 ty8 false)],[ty13]⟩],Pw.unc7 (Pw.j1A)⟩,
  ⟨2,[.s (.one (.bp 320 0)),.s (.one (.ol 1002000)),.s (.one (.bp 704 0)),.s (.one (.ol 1002001)),sI,sI,.s (.one (.d (.list iT))),sI,sI,.b (.cell [.d .str,.d iT,.d (.list iT)] false),.b (.cell [.d iT,.d iT,.d iT] false),.b (.lst 99 ty8 false),.b (.lst 251 ty21 false)],[iT,iT,(.list iT),iT,iT,.str,iT,(.list iT),iT,iT,iT,ty13,ty26],[⟨.exit 2,[.s (.one (.bp 320 0)),.s (.one (.ol 1502300)),.s (.one (.ol 1502301)),sI,sI,.b (.cell [.d .str,.d iT,.d (.list iT)] false),.b (.lst 99 ty8 false),.b (.lst 251 ty21 false)],[iT,iT,.str,iT,(.list iT),ty13,ty26]⟩],Pw.jvw (Pw.j3s)⟩]
 modes:=[(185,[false]),(186,[false,false,false])]
 keep:=[(0,⟨[5,9,23,24,25],[320],[⟨1000000,99,ty8,[.slot 9],false⟩,⟨1000001,251,ty21,[.slot 23],false⟩],[]⟩),
  (2,⟨[5,9,11,23,24,25,30,31,32],[320,704],[⟨1002000,99,ty8,[.slot 9],false⟩,⟨1002001,251,ty21,[.slot 23],false⟩],[]⟩)]
 keepX:=[(0,.exit 0,⟨[9],[],[⟨1500100,99,ty8,[.slot 9],false⟩],[]⟩),
  (2,.exit 2,⟨[5,9,23,24,25],[320],[⟨1502300,99,ty8,[.slot 9],false⟩,⟨1502301,251,ty21,[.slot 23],false⟩],[]⟩)]
 ro:=[true]
theorem jkH:Con.OK Tryz.prog j9u:=
 cOf j0c j03 jlA j9u Tryz.func353 (j9 j87 (j9 j9t trivial)) (j9 (fun h=>by kernel_rfl) (j9 (fun h=>by kernel_rfl) trivial))
def j6M:Con:=⟨220,[.v ty13,.v ty13],[ty13,ty13],⟨[.own 99 ty13],[]⟩,[ty13],Pw.unc2 Pw.j2k⟩
def jo5:FnD where
 N:=89
 np:=2
 cs:=[]
 ds:=[⟨0,[.s (.one (.d ty13)),.s (.one (.ol 1000000)),sI,.s (.one (.d ty13)),sI,sI,.b (.lst 99 ty8 false)],[ty13,iT,ty13,iT,iT,ty13],[⟨.exit 0,[.s (.one (.ol 1500100)),.b (.lst 99 ty8 false)],[ty13]⟩],Pw.unc6 (Pw.j25)⟩,
  ⟨2,[.s (.one (.d ty13)),.s (.one (.ol 1002000)),sI,.s (.one (.bp 512 0)),.s (.one (.d ty13)),sI,sI,.b (.cell [.d iT,.d iT] false),.b (.lst 99 ty8 false)],[ty13,iT,ty13,iT,iT,iT,iT,ty13],[⟨.exit 2,[.s (.one (.d ty13)),.s (.one (.ol 1502300)),sI,.s (.one (.bp 512 0)),.s (.one (.d ty13)),sI,sI,.b (.cell [.d iT,.d iT] false),.b (.lst 99 ty8 false)],[ty13,iT,ty13,iT,iT,iT,iT,ty13]⟩],Pw.unc8 (Pw.j4k)⟩,
  ⟨4,[.s (.one (.d ty13)),.s (.one (.ol 1004000)),sI,.s (.one (.bp 512 0)),sI,sI,.s (.one (.d ty13)),sI,sI,.b (.cell [.d iT,.d iT] false),.b (.lst 99 ty8 false)],[ty13,iT,iT,iT,ty13,iT,iT,iT,iT,ty13],[⟨.exit 4,[.s (.one (.d ty13)),.s (.one (.ol 1504500)),sI,.s (.one (.bp 512 0)),sI,.s (.one (.d ty13)),sI,sI,.b (.cell [.d iT,.d iT] false),.b (.lst 99 ty8 false)],[ty13,iT,iT,ty13,iT,iT,iT,iT,ty13]⟩],Pw.jlv (Pw.j4l)⟩]
 keep:=[(0,⟨[1,5,6,11,12,13],[],[⟨1000000,99,ty8,[.slot 5],false⟩],[]⟩),
  (2,⟨[1,5,6,8,11,12,13],[512],[⟨1002000,99,ty8,[.slot 5],false⟩],[]⟩),
  (4,⟨[1,5,6,8,9,10,11,12,13],[512],[⟨1004000,99,ty8,[.slot 5],false⟩],[]⟩)]
 keepX:=[(0,.exit 0,⟨[5],[],[⟨1500100,99,ty8,[.slot 5],false⟩],[]⟩),
  (2,.exit 2,⟨[1,5,6,8,11,12,13],[512],[⟨1502300,99,ty8,[.slot 5],false⟩],[]⟩),
  (4,.exit 4,⟨[1,5,6,8,9,11,12,13],[512],[⟨1504500,99,ty8,[.slot 5],false⟩],[]⟩)]
 ro:=[true]
theorem jcS:Con.OK Tryz.prog j6M:=
 cOf j0c j03 jo5 j6M Tryz.func220 trivial (j9 (fun h=>by kernel_rfl) (j9 (fun h=>by kernel_rfl) (j9 (fun h=>by kernel_rfl) trivial)))
def jcT:Con:=⟨116,[.v ty13,.v ty13],[ty13,ty13],⟨[.own 99 ty13],[]⟩,[ty13],Pw.unc2 Pw.j7m⟩
def jq0:FnD where
 N:=67
 np:=2
 cs:=[]
 ds:=[⟨0,[.s (.one (.d ty13)),.s (.one (.d ty13)),.s (.one (.ol 1000000)),sI,sI,.b (.lst 99 ty8 false)],[ty13,ty13,iT,iT,ty13],[⟨.exit 0,[.s (.one (.ol 1500100)),.b (.lst 99 ty8 false)],[ty13]⟩],Pw.unc5 (Pw.j6l)⟩]
 keep:=[(0,⟨[0,1,5,6,7],[],[⟨1000000,99,ty8,[.slot 5],false⟩],[]⟩)]
 keepX:=[(0,.exit 0,⟨[5],[],[⟨1500100,99,ty8,[.slot 5],false⟩],[]⟩)]
 ro:=[true]
 dw:=[(4,[[],[],[],[],[],[],[],[],[],[],[],[],[],[],[],[],[],[],[],[],[],[],[],[512],[512]])]
theorem jo6:Con.OK Tryz.prog jcT:=
 cOf j0c j03 jq0 jcT Tryz.func116 trivial (j9 (fun h=>by kernel_rfl) trivial)
def j8M:Con:=⟨306,[.v ty86,.v ty72,.v iT,.v iT],[ty86,ty72,iT,iT],⟨[.own 99 ty13],[]⟩,[ty13],Pw.unc4 Pw.j3O⟩
def jkI:FnD where
 N:=90
 np:=4
 cs:=[j4n,jbu,j9u,j6M,jcT]
 ds:=[]
 modes:=[(116,[false,false]),(117,[false,false,false,false]),(220,[false,false]),(232,[false,false,false]),(353,[false,false,false,false])]
 ro:=[true]
 dw:=[(7,[[],[],[],[],[],[],[],[],[],[],[3584],[]]),(10,[[],[],[],[],[],[],[],[],[],[],[],[4608],[4672],[]]),(12,[[],[],[],[],[],[],[],[],[],[],[],[5568],[5632],[]])]
theorem jjR:Con.OK Tryz.prog j8M:=
 cOf j0c j03 jkI j8M Tryz.func306 (j9 j8L (j9 jnc (j9 jkH (j9 jcS (j9 jo6 trivial))))) trivial
def j7B:Con:=⟨265,[.v ty28,.v iT],[ty28,iT],⟨[.v iT],[]⟩,[iT],Pw.unc2 Pw.j3x⟩
def jiE:FnD where
 N:=10
 np:=2
 cs:=[j5P,j5t]
 ds:=[]
 modes:=[(271,[false,false]),(272,[false,false])]
 ro:=[false]
theorem jhI:Con.OK Tryz.prog j7B:=
 cOf j0c j03 jiE j7B Tryz.func265 (j9 jcR (j9 jbM trivial)) trivial
def je0:Con:=⟨264,[.v iT],[iT],⟨[.v ty8],[]⟩,[ty8],fun h=>Pw.jht h⟩
def jrK:FnD where
 N:=17
 np:=1
 cs:=[]
 ds:=[]
 ro:=[false]
theorem jq1:Con.OK Tryz.prog je0:=
 cOf j0c j03 jrK je0 Tryz.func264 trivial trivial
def j5Q:Con:=⟨184,[.v ty28,.v iT],[ty28,iT],⟨[.v ty8],[]⟩,[ty8],Pw.unc2 Pw.j0q⟩
def jjS:FnD where
 N:=11
 np:=2
 cs:=[j7B,je0]
 ds:=[]
 modes:=[(264,[false]),(265,[false,false])]
 ro:=[false]
theorem jcU:Con.OK Tryz.prog j5Q:=
 cOf j0c j03 jjS j5Q Tryz.func184 (j9 jhI (j9 jq1 trivial)) trivial
def j7Q:Con:=⟨307,[.v ty28,.v ty72,.v iT],[ty28,ty72,iT],⟨[.v iT],[]⟩,[iT],Pw.unc3 Pw.j1V⟩
def jnd:FnD where
 N:=84
 np:=3
 cs:=[jaB,j4n,j5Q]
 ds:=[⟨0,[sI,.s (.one (.bp 192 0)),.s (.one (.bp 256 0)),sI,.b (.cell [.d iT,.d ty13] false),.b (.cell [.d .str,.d iT,.d iT,.d iT,.d iT,.d iT,.d (.list iT),.d ty13,.d iT,.d iT] false)],[iT,iT,iT,ty13,.str,iT,iT,iT,iT,iT,(.list iT),ty13,iT,iT],[⟨.exit 0,[sI,.s (.one (.bp 192 0)),.s (.one (.bp 256 0)),sI,.b (.cell [.d iT,.d ty13] false),.b (.cell [.d .str,.d iT,.d iT,.d iT,.d iT,.d iT,.d (.list iT),.d ty13,.d iT,.d iT] false)],[iT,iT,iT,ty13,.str,iT,iT,iT,iT,iT,(.list iT),ty13,iT,iT]⟩],Pw.jnS (Pw.j1O)⟩,
  ⟨2,[sI,.s (.one (.bp 192 0)),.s (.one (.bp 256 0)),sI,.b (.cell [.d iT,.d ty13] false),.b (.cell [.d .str,.d iT,.d iT,.d iT,.d iT,.d iT,.d (.list iT),.d ty13,.d iT,.d iT] false)],[iT,iT,iT,ty13,.str,iT,iT,iT,iT,iT,(.list iT),ty13,iT,iT],[⟨.ret,[sI],[iT]⟩],Pw.jnS (Pw.j2l)⟩]
 modes:=[(184,[false,false]),(232,[false,false,false]),(316,[false])]
 keep:=[(0,⟨[2,3,4,9],[192,256],[],[]⟩),
  (2,⟨[2,3,4,9],[192,256],[],[]⟩)]
 keepX:=[(0,.exit 0,⟨[2,3,4,9],[192,256],[],[]⟩),
  (2,.ret,⟨[6],[],[],[]⟩)]
 ro:=[false]
theorem jg2:Con.OK Tryz.prog j7Q:=
 cOf j0c j03 jnd j7Q Tryz.func307 (j9 jjN (j9 j8L (j9 jcU trivial))) (j9 (fun h=>by kernel_rfl) (j9 (fun h=>by kernel_rfl) trivial))
def j8w:Con:=⟨153,[.v ty26],[ty26],⟨[.own 41 ty26],[]⟩,[ty26],fun h=>Pw.j6R h⟩
def jrL:FnD where
 N:=57
 np:=1
 cs:=[]
 ds:=[⟨0,[.s (.one (.ol 1000000)),.s (.one (.d ty26)),sI,sI,.b (.lst 41 ty21 false)],[ty26,iT,iT,ty26],[⟨.exit 0,[.s (.one (.ol 1500100)),.b (.lst 41 ty21 false)],[ty26]⟩],Pw.unc4 (Pw.j5d)⟩]
 keep:=[(0,⟨[3,7,8,9],[],[⟨1000000,41,ty21,[.slot 3],false⟩],[]⟩)]
 keepX:=[(0,.exit 0,⟨[3],[],[⟨1500100,41,ty21,[.slot 3],false⟩],[]⟩)]
 ro:=[true]
theorem jfm:Con.OK Tryz.prog j8w:=
 cOf j0c j03 jrL j8w Tryz.func153 trivial (j9 (fun h=>by kernel_rfl) trivial)
def j6V:Con:=⟨219,[.v ty86,.v ty72,.v iT,.v iT],[ty86,ty72,iT,iT],⟨[.own 41 ty26],[]⟩,[ty26],Pw.unc4 Pw.j1l⟩
def jhJ:FnD where
 N:=95
 np:=4
 cs:=[j4n,j8M,j7Q,j8w]
 ds:=[⟨0,[sI,.s (.one (.bp 320 0)),.s (.one (.ol 1000000)),.s (.one (.bp 640 0)),sI,sI,sI,.s (.one (.ol 1000001)),sI,sI,.b (.cell [.d .str,.d iT,.d iT,.d iT,.d iT,.d iT,.d (.list iT),.d ty13,.d iT,.d iT] false),.b (.cell [.d iT,.d ty13] false),.b (.lst 41 ty21 false),.b (.lst 99 ty8 false)],[iT,iT,iT,iT,iT,iT,.str,iT,iT,iT,iT,iT,(.list iT),ty13,iT,iT,iT,ty13,ty26,ty13],[⟨.exit 0,[sI,.s (.one (.ol 1500100)),sI,.b (.lst 41 ty21 false)],[iT,iT,ty26]⟩],Pw.jC2 (Pw.j0Z)⟩,
  ⟨2,[sI,.s (.one (.bp 320 0)),.s (.one (.ol 1002000)),.s (.one (.bp 640 0)),sI,sI,sI,.s (.one (.bp 960 0)),.s (.one (.ol 1002001)),sI,sI,.b (.cell [.d .str,.d iT,.d iT,.d iT,.d iT,.d iT,.d (.list iT),.d ty13,.d iT,.d iT] false),.b (.cell [.d iT,.d ty13] false),.b (.cell [.d iT,.d iT] false),.b (.lst 41 ty21 false),.b (.lst 99 ty8 false)],[iT,iT,iT,iT,iT,iT,.str,iT,iT,iT,iT,iT,(.list iT),ty13,iT,iT,iT,ty13,iT,iT,ty26,ty13],[⟨.exit 2,[sI,.s (.one (.bp 320 0)),.s (.one (.ol 1502300)),.s (.one (.bp 640 0)),sI,sI,sI,.s (.one (.ol 1502301)),sI,sI,.b (.cell [.d .str,.d iT,.d iT,.d iT,.d iT,.d iT,.d (.list iT),.d ty13,.d iT,.d iT] false),.b (.cell [.d iT,.d ty13] false),.b (.lst 41 ty21 false),.b (.lst 99 ty8 false)],[iT,iT,iT,iT,iT,iT,.str,iT,iT,iT,iT,iT,(.list iT),ty13,iT,iT,iT,ty13,ty26,ty13]⟩],Pw.jC3 (Pw.j1h)⟩]
 modes:=[(153,[false]),(232,[false,false,false]),(306,[false,false,false,false]),(307,[false,false,false])]
 keep:=[(0,⟨[3,5,9,10,11,12,13,30,31,32],[320,640],[⟨1000000,41,ty21,[.slot 9],false⟩,⟨1000001,99,ty8,[.slot 30],false⟩],[]⟩),
  (2,⟨[3,5,9,10,11,12,13,15,30,31,32],[320,640,960],[⟨1002000,41,ty21,[.slot 9],false⟩,⟨1002001,99,ty8,[.slot 30],false⟩],[]⟩)]
 keepX:=[(0,.exit 0,⟨[3,9,11],[],[⟨1500100,41,ty21,[.slot 9],false⟩],[]⟩),
  (2,.exit 2,⟨[3,5,9,10,11,12,13,30,31,32],[320,640],[⟨1502300,41,ty21,[.slot 9],false⟩,⟨1502301,99,ty8,[.slot 30],false⟩],[]⟩)]
 ro:=[true]
 dw:=[(17,[[],[],[],[],[],[],[],[],[],[],[],[],[],[5376],[5440,1002000],[]])]
theorem jgS:Con.OK Tryz.prog j6V:=
 cOf j0c j03 jhJ j6V Tryz.func219 (j9 j8L (j9 jjR (j9 jg2 (j9 jfm trivial)))) (j9 (fun h=>by kernel_rfl) (j9 (fun h=>by kernel_rfl) trivial))
end Go.Proofs.Pk
