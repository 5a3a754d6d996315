/- Contracts: each given function is its plain function, printed by a program. -/
import Derived.Test.YtaieocafhcjelaaGreatBCon3
noncomputable section
open Go Go.Lft
set_option linter.unusedVariables false
set_option maxRecDepth 100000
namespace Go.Proofs.Pk
def j78:Con:=⟨233,[.v ty28,.v ty8],[ty28,ty8],⟨[.v iT,.v .bool],[]⟩,[iT,.bool],Pw.unc2 Pw.j1V⟩
def jgt:FnD where
 N:=30
 np:=2
 cs:=[j3H,j9W]
 ds:=[⟨0,[.s (.one (.bp 192 0)),.s (.one (.ol 1000000)),sI,sI,.b (.cell [.d iT,.d iT] false),.b (.lst 251 ty21 false)],[iT,iT,iT,iT,ty26],[⟨.ret,[sI,.s (.one (.d .bool))],[iT,.bool]⟩,⟨.exit 0,[],[]⟩],Pw.unc5 (Pw.j1E)⟩]
 modes:=[(186,[false,false,false]),(317,[false])]
 keep:=[(0,⟨[3,10,11,12],[192],[⟨1000000,251,ty21,[.slot 10],false⟩],[]⟩)]
 keepX:=[(0,.ret,⟨[4,5],[],[],[]⟩),
  (0,.exit 0,⟨[],[],[],[]⟩)]
 ro:=[false,false]
theorem jfA:Con.OK Tryz.prog j78:=
 cOf j0n j04 jgt j78 Tryz.func233 (j9 j77 (j9 jjs trivial)) (j9 (fun h=>by kernel_rfl) trivial)
def j41:Con:=⟨232,[.v ty28,.v ty72,.v iT],[ty28,ty72,iT],⟨[.v iT,.v .bool],[]⟩,[iT,.bool],Pw.unc3 Pw.j0K⟩
def jgu:FnD where
 N:=50
 np:=3
 cs:=[j9h,j78]
 ds:=[]
 modes:=[(233,[false,false]),(316,[false])]
 ro:=[false,false]
 dw:=[(5,[[],[],[],[],[],[],[],[],[512]])]
theorem j7K:Con.OK Tryz.prog j41:=
 cOf j0n j04 jgu j41 Tryz.func232 (j9 jgr (j9 jfA trivial)) trivial
def j4t:Con:=⟨267,[.v ty13],[ty13],⟨[.own 99 ty13],[]⟩,[ty13],fun h=>Pw.j3A h⟩
def j8C:FnD where
 N:=8
 np:=1
 cs:=[]
 ds:=[]
 ro:=[true]
theorem j8i:Con.OK Tryz.prog j4t:=
 jnj j0n j04 j8C 267 ty8 99 Tryz.f267 (Tryz.f267.body.getD .skip) Tryz.func267 (by kernel_rfl) (by kernel_rfl) (Nat.le_of_ble_eq_true (by kernel_rfl)) (by kernel_rfl) trivial (by kernel_rfl)
  (fun h R k=>by kernel_rfl)
def j6O:Con:=⟨268,[.v ty8],[ty8],⟨[.v .bool],[]⟩,[.bool],fun h=>Pw.j88 h⟩
def jjt:FnD where
 N:=8
 np:=1
 cs:=[]
 ds:=[]
 ro:=[false]
theorem jdv:Con.OK Tryz.prog j6O:=
 cOf j0n j04 jjt j6O Tryz.func268 trivial trivial
def j2q:Con:=⟨325,[.rl 99 ty13,.clo 268 []],[ty13],⟨[.v iT],[.rl ty13]⟩,[iT,ty13],fun h=>Pw.j0R h⟩
def j7v:FnD where
 N:=19
 np:=2
 cs:=[j6O]
 ds:=[⟨0,[.s (.one (.ol 0)),.s (.one (.clo 268 [])),sI,sI,.b (.lst 99 ty8 false)],[iT,iT,ty13],[⟨.ret,[sI,.b (.lst 99 ty8 false)],[iT,ty13]⟩,⟨.exit 0,[.b (.lst 99 ty8 false)],[ty13]⟩],Pw.unc3 (Pw.j0L)⟩]
 modes:=[(268,[false])]
 keep:=[(0,⟨[0,1,7,8],[0],[],[]⟩)]
 keepX:=[(0,.ret,⟨[4],[0],[],[]⟩),
  (0,.exit 0,⟨[],[0],[],[]⟩)]
 ro:=[false]
theorem j79:Con.OK Tryz.prog j2q:=
 cOf j0n j04 j7v j2q Tryz.func325 (j9 jdv trivial) (j9 (fun h=>by kernel_rfl) trivial)
def j2l:Con:=⟨266,[.rl 99 ty13,.clo 268 []],[ty13],⟨[.hd],[.rl ty13]⟩,[iT,ty13],fun h=>Pw.j0y h⟩
def j7a:FnD where
 N:=42
 np:=2
 cs:=[j6O,j2q]
 ds:=[⟨0,[.s (.one (.ol 0)),.s (.one (.clo 268 [])),sI,sI,.b (.lst 99 ty8 false)],[iT,iT,ty13],[⟨.exit 0,[.s (.one (.ol 0)),sI,.b (.lst 99 ty8 false)],[iT,ty13]⟩],Pw.unc3 (Pw.j0G)⟩]
 modes:=[(268,[false]),(325,[true,false])]
 keep:=[(0,⟨[0,1,5,6],[0],[],[]⟩)]
 keepX:=[(0,.exit 0,⟨[0,5],[0],[],[]⟩)]
 ro:=[false]
 hd:=true
theorem j6P:Con.OK Tryz.prog j2l:=
 cOf j0n j04 j7a j2l Tryz.func266 (j9 jdv (j9 j79 trivial)) (j9 (fun h=>by kernel_rfl) trivial)
def j95:Con:=⟨270,[.v ty8,.v ty8],[ty8,ty8],⟨[.v iT],[]⟩,[iT],Pw.unc2 Pw.j6L⟩
def jju:FnD where
 N:=10
 np:=2
 cs:=[]
 ds:=[]
 ro:=[false]
theorem jqM:Con.OK Tryz.prog j95:=
 cOf j0n j04 jju j95 Tryz.func270 trivial trivial
def j22:Con:=⟨269,[.rl 99 ty13,.clo 270 []],[ty13],⟨[],[.rl ty13]⟩,[ty13],fun h=>Pw.j1a h⟩
def jaz:FnD where
 N:=14
 np:=2
 cs:=[j95]
 ds:=[]
 modes:=[(270,[false,false])]
theorem j49:Con.OK Tryz.prog j22:=
 jpL Tryz.sort269 (ty8) rfl 99 (by kernel_rfl) Tryz.isAgg99 Tryz.sizeOf99 _ 270 (enters_of Tryz.func270 (by kernel_rfl) rfl) joE joF 269 rfl
def j54:Con:=⟨185,[.v ty13],[ty13],⟨[.own 99 ty13],[]⟩,[ty13],fun h=>Pw.j5j h⟩
def jnC:FnD where
 N:=54
 np:=1
 cs:=[j4t,j2l,j22]
 ds:=[⟨0,[.s (.one (.ol 1000000)),.s (.one (.ol 1000001)),sI,sI,.b (.lst 99 ty8 false),.b (.lst 99 ty8 false)],[iT,iT,ty13,ty13],[⟨.exit 0,[.s (.one (.ol 1500100)),.b (.lst 99 ty8 false)],[ty13]⟩],Pw.unc4 (Pw.j3K)⟩]
 modes:=[(266,[true,false]),(267,[false]),(269,[true,false])]
 keep:=[(0,⟨[4,13,14,15],[],[⟨1000000,99,ty8,[.slot 4],false⟩,⟨1000001,99,ty8,[.slot 13],false⟩],[]⟩)]
 keepX:=[(0,.exit 0,⟨[4],[],[⟨1500100,99,ty8,[.slot 4],false⟩],[]⟩)]
 ro:=[true]
 dw:=[(9,[[],[],[],[],[],[],[],[],[],[],[],[],[],[],[1000000]])]
theorem j8j:Con.OK Tryz.prog j54:=
 cOf j0n j04 jnC j54 Tryz.func185 (j9 j8i (j9 j6P (j9 j49 trivial))) (j9 (fun h=>by kernel_rfl) trivial)
def j9X:Con:=⟨117,[.v ty28,.v ty13,.v iT,.v iT],[ty28,ty13,iT,iT],⟨[.own 99 ty13],[]⟩,[ty13],Pw.unc4 Pw.j3B⟩
def jke:FnD where
 N:=73
 np:=4
 cs:=[j3H,j54]
 ds:=[⟨0,[.s (.one (.d ty13)),.s (.one (.ol 1000000)),.s (.one (.ol 1000001)),sI,sI,.b (.lst 99 ty8 false),.b (.lst 251 ty21 false)],[ty13,iT,iT,ty13,ty26],[⟨.exit 0,[.s (.one (.ol 1500100)),.b (.lst 99 ty8 false)],[ty13]⟩],Pw.unc5 (Pw.j20)⟩,
  ⟨2,[.s (.one (.d ty13)),.s (.one (.ol 1002000)),.s (.one (.bp 704 0)),sI,.s (.one (.ol 1002001)),sI,sI,.b (.cell [.d iT,.d iT,.d iT] false),.b (.lst 99 ty8 false),.b (.lst 251 ty21 false)],[ty13,iT,iT,iT,iT,iT,iT,ty13,ty26],[⟨.exit 2,[.s (.one (.d ty13)),.s (.one (.ol 1502300)),.s (.one (.ol 1502301)),sI,sI,.b (.lst 99 ty8 false),.b (.lst 251 ty21 false)],[ty13,iT,iT,ty13,ty26]⟩],Pw.unc9 (Pw.j1Z)⟩,
  ⟨4,[.s (.one (.d ty13)),.s (.one (.ol 1004000)),.s (.one (.bp 704 0)),sI,.s (.one (.ol 1004001)),sI,sI,.s (.one (.d ty13)),sI,sI,.b (.cell [.d iT,.d iT,.d iT] false),.b (.lst 99 ty8 false),.b (.lst 251 ty21 false)],[ty13,iT,iT,iT,ty13,iT,iT,iT,iT,iT,ty13,ty26],[⟨.exit 4,[.s (.one (.d ty13)),.s (.one (.ol 1504500)),.s (.one (.bp 704 0)),sI,.s (.one (.ol 1504501)),sI,sI,.b (.cell [.d iT,.d iT,.d iT] false),.b (.lst 99 ty8 false),.b (.lst 251 ty21 false)],[ty13,iT,iT,iT,iT,iT,iT,ty13,ty26]⟩],Pw.jtF (Pw.j3X)⟩]
 modes:=[(185,[false]),(186,[false,false,false])]
 keep:=[(0,⟨[1,9,19,20,21],[],[⟨1000000,99,ty8,[.slot 9],false⟩,⟨1000001,251,ty21,[.slot 19],false⟩],[]⟩),
  (2,⟨[1,9,11,13,19,20,21],[704],[⟨1002000,99,ty8,[.slot 9],false⟩,⟨1002001,251,ty21,[.slot 19],false⟩],[]⟩),
  (4,⟨[1,9,11,13,19,20,21,45,46,47],[704],[⟨1004000,99,ty8,[.slot 9],false⟩,⟨1004001,251,ty21,[.slot 19],false⟩],[]⟩)]
 keepX:=[(0,.exit 0,⟨[9],[],[⟨1500100,99,ty8,[.slot 9],false⟩],[]⟩),
  (2,.exit 2,⟨[1,9,19,20,21],[],[⟨1502300,99,ty8,[.slot 9],false⟩,⟨1502301,251,ty21,[.slot 19],false⟩],[]⟩),
  (4,.exit 4,⟨[1,9,11,13,19,20,21],[704],[⟨1504500,99,ty8,[.slot 9],false⟩,⟨1504501,251,ty21,[.slot 19],false⟩],[]⟩)]
 ro:=[true]
theorem jjv:Con.OK Tryz.prog j9X:=
 cOf j0n j04 jke j9X Tryz.func117 (j9 j77 (j9 j8j trivial)) (j9 (fun h=>by kernel_rfl) (j9 (fun h=>by kernel_rfl) (j9 (fun h=>by kernel_rfl) trivial)))
def j8k:Con:=⟨353,[.v ty86,.v ty24,.v iT,.v iT],[ty86,ty24,iT,iT],⟨[.own 99 ty13],[]⟩,[ty13],Pw.unc4 Pw.j1H⟩
def jhY:FnD where
 N:=58
 np:=4
 cs:=[j3H,j54]
 ds:=[⟨0,[.s (.one (.bp 320 0)),.s (.one (.ol 1000000)),.s (.one (.ol 1000001)),sI,sI,.b (.cell [.d .str,.d iT,.d (.list iT)] false),.b (.lst 99 ty8 false),.b (.lst 251 ty21 false)],[iT,iT,.str,iT,(.list iT),ty13,ty26],[⟨.exit 0,[.s (.one (.ol 1500100)),.b (.lst 99 ty8 false)],[ty13]⟩],Pw.unc7 (Pw.j1x)⟩,
  ⟨2,[.s (.one (.bp 320 0)),.s (.one (.ol 1002000)),.s (.one (.bp 704 0)),.s (.one (.ol 1002001)),sI,sI,.s (.one (.d (.list iT))),sI,sI,.b (.cell [.d .str,.d iT,.d (.list iT)] false),.b (.cell [.d iT,.d iT,.d iT] false),.b (.lst 99 ty8 false),.b (.lst 251 ty21 false)],[iT,iT,(.list iT),iT,iT,.str,iT,(.list iT),iT,iT,iT,ty13,ty26],[⟨.exit 2,[.s (.one (.bp 320 0)),.s (.one (.ol 1502300)),.s (.one (.ol 1502301)),sI,sI,.b (.cell [.d .str,.d iT,.d (.list iT)] false),.b (.lst 99 ty8 false),.b (.lst 251 ty21 false)],[iT,iT,.str,iT,(.list iT),ty13,ty26]⟩],Pw.jqz (Pw.j3f)⟩]
 modes:=[(185,[false]),(186,[false,false,false])]
 keep:=[(0,⟨[5,9,23,24,25],[320],[⟨1000000,99,ty8,[.slot 9],false⟩,⟨1000001,251,ty21,[.slot 23],false⟩],[]⟩),
  (2,⟨[5,9,11,23,24,25,30,31,32],[320,704],[⟨1002000,99,ty8,[.slot 9],false⟩,⟨1002001,251,ty21,[.slot 23],false⟩],[]⟩)]
 keepX:=[(0,.exit 0,⟨[9],[],[⟨1500100,99,ty8,[.slot 9],false⟩],[]⟩),
  (2,.exit 2,⟨[5,9,23,24,25],[320],[⟨1502300,99,ty8,[.slot 9],false⟩,⟨1502301,251,ty21,[.slot 23],false⟩],[]⟩)]
 ro:=[true]
theorem jhi:Con.OK Tryz.prog j8k:=
 cOf j0n j04 jhY j8k Tryz.func353 (j9 j77 (j9 j8j trivial)) (j9 (fun h=>by kernel_rfl) (j9 (fun h=>by kernel_rfl) trivial))
def j5X:Con:=⟨220,[.v ty13,.v ty13],[ty13,ty13],⟨[.own 99 ty13],[]⟩,[ty13],Pw.unc2 Pw.j2g⟩
def jkf:FnD where
 N:=89
 np:=2
 cs:=[]
 ds:=[⟨0,[.s (.one (.d ty13)),.s (.one (.ol 1000000)),sI,.s (.one (.d ty13)),sI,sI,.b (.lst 99 ty8 false)],[ty13,iT,ty13,iT,iT,ty13],[⟨.exit 0,[.s (.one (.ol 1500100)),.b (.lst 99 ty8 false)],[ty13]⟩],Pw.unc6 (Pw.j21)⟩,
  ⟨2,[.s (.one (.d ty13)),.s (.one (.ol 1002000)),sI,.s (.one (.bp 512 0)),.s (.one (.d ty13)),sI,sI,.b (.cell [.d iT,.d iT] false),.b (.lst 99 ty8 false)],[ty13,iT,ty13,iT,iT,iT,iT,ty13],[⟨.exit 2,[.s (.one (.d ty13)),.s (.one (.ol 1502300)),sI,.s (.one (.bp 512 0)),.s (.one (.d ty13)),sI,sI,.b (.cell [.d iT,.d iT] false),.b (.lst 99 ty8 false)],[ty13,iT,ty13,iT,iT,iT,iT,ty13]⟩],Pw.unc8 (Pw.j3Y)⟩,
  ⟨4,[.s (.one (.d ty13)),.s (.one (.ol 1004000)),sI,.s (.one (.bp 512 0)),sI,sI,.s (.one (.d ty13)),sI,sI,.b (.cell [.d iT,.d iT] false),.b (.lst 99 ty8 false)],[ty13,iT,iT,iT,ty13,iT,iT,iT,iT,ty13],[⟨.exit 4,[.s (.one (.d ty13)),.s (.one (.ol 1504500)),sI,.s (.one (.bp 512 0)),sI,.s (.one (.d ty13)),sI,sI,.b (.cell [.d iT,.d iT] false),.b (.lst 99 ty8 false)],[ty13,iT,iT,ty13,iT,iT,iT,iT,ty13]⟩],Pw.jqy (Pw.j3Z)⟩]
 keep:=[(0,⟨[1,5,6,11,12,13],[],[⟨1000000,99,ty8,[.slot 5],false⟩],[]⟩),
  (2,⟨[1,5,6,8,11,12,13],[512],[⟨1002000,99,ty8,[.slot 5],false⟩],[]⟩),
  (4,⟨[1,5,6,8,9,10,11,12,13],[512],[⟨1004000,99,ty8,[.slot 5],false⟩],[]⟩)]
 keepX:=[(0,.exit 0,⟨[5],[],[⟨1500100,99,ty8,[.slot 5],false⟩],[]⟩),
  (2,.exit 2,⟨[1,5,6,8,11,12,13],[512],[⟨1502300,99,ty8,[.slot 5],false⟩],[]⟩),
  (4,.exit 4,⟨[1,5,6,8,9,11,12,13],[512],[⟨1504500,99,ty8,[.slot 5],false⟩],[]⟩)]
 ro:=[true]
theorem jb2:Con.OK Tryz.prog j5X:=
 cOf j0n j04 jkf j5X Tryz.func220 trivial (j9 (fun h=>by kernel_rfl) (j9 (fun h=>by kernel_rfl) (j9 (fun h=>by kernel_rfl) trivial)))
def jb3:Con:=⟨116,[.v ty13,.v ty13],[ty13,ty13],⟨[.own 99 ty13],[]⟩,[ty13],Pw.unc2 Pw.j6t⟩
def jm4:FnD where
 N:=67
 np:=2
 cs:=[]
 ds:=[⟨0,[.s (.one (.d ty13)),.s (.one (.d ty13)),.s (.one (.ol 1000000)),sI,sI,.b (.lst 99 ty8 false)],[ty13,ty13,iT,iT,ty13],[⟨.exit 0,[.s (.one (.ol 1500100)),.b (.lst 99 ty8 false)],[ty13]⟩],Pw.unc5 (Pw.j5G)⟩]
 keep:=[(0,⟨[0,1,5,6,7],[],[⟨1000000,99,ty8,[.slot 5],false⟩],[]⟩)]
 keepX:=[(0,.exit 0,⟨[5],[],[⟨1500100,99,ty8,[.slot 5],false⟩],[]⟩)]
 ro:=[true]
 dw:=[(4,[[],[],[],[],[],[],[],[],[],[],[],[],[],[],[],[],[],[],[],[],[],[],[],[512],[512]])]
theorem jkg:Con.OK Tryz.prog jb3:=
 cOf j0n j04 jm4 jb3 Tryz.func116 trivial (j9 (fun h=>by kernel_rfl) trivial)
def j7L:Con:=⟨306,[.v ty86,.v ty72,.v iT,.v iT],[ty86,ty72,iT,iT],⟨[.own 99 ty13],[]⟩,[ty13],Pw.unc4 Pw.j3D⟩
def jhj:FnD where
 N:=90
 np:=4
 cs:=[j41,j9X,j8k,j5X,jb3]
 ds:=[]
 modes:=[(116,[false,false]),(117,[false,false,false,false]),(220,[false,false]),(232,[false,false,false]),(353,[false,false,false,false])]
 ro:=[true]
 dw:=[(7,[[],[],[],[],[],[],[],[],[],[],[3584],[]]),(10,[[],[],[],[],[],[],[],[],[],[],[],[4608],[4672],[]]),(12,[[],[],[],[],[],[],[],[],[],[],[],[5568],[5632],[]])]
theorem jgv:Con.OK Tryz.prog j7L:=
 cOf j0n j04 jhj j7L Tryz.func306 (j9 j7K (j9 jjv (j9 jhi (j9 jb2 (j9 jkg trivial))))) trivial
def j6D:Con:=⟨265,[.v ty28,.v iT],[ty28,iT],⟨[.v iT],[]⟩,[iT],Pw.unc2 Pw.j3m⟩
def jfB:FnD where
 N:=10
 np:=2
 cs:=[j5e,j4Q]
 ds:=[]
 modes:=[(271,[false,false]),(272,[false,false])]
 ro:=[false]
theorem jeK:Con.OK Tryz.prog j6D:=
 cOf j0n j04 jfB j6D Tryz.func265 (j9 jb1 (j9 jae trivial)) trivial
def jc4:Con:=⟨264,[.v iT],[iT],⟨[.v ty8],[]⟩,[ty8],fun h=>Pw.jeC h⟩
def jnD:FnD where
 N:=17
 np:=1
 cs:=[]
 ds:=[]
 ro:=[false]
theorem jm5:Con.OK Tryz.prog jc4:=
 cOf j0n j04 jnD jc4 Tryz.func264 trivial trivial
def j5f:Con:=⟨184,[.v ty28,.v iT],[ty28,iT],⟨[.v ty8],[]⟩,[ty8],Pw.unc2 Pw.j0u⟩
def jgw:FnD where
 N:=11
 np:=2
 cs:=[j6D,jc4]
 ds:=[]
 modes:=[(264,[false]),(265,[false,false])]
 ro:=[false]
theorem jb4:Con.OK Tryz.prog j5f:=
 cOf j0n j04 jgw j5f Tryz.func184 (j9 jeK (j9 jm5 trivial)) trivial
def j6Q:Con:=⟨307,[.v ty28,.v ty72,.v iT],[ty28,ty72,iT],⟨[.v iT],[]⟩,[iT],Pw.unc3 Pw.j1S⟩
def jjw:FnD where
 N:=84
 np:=3
 cs:=[j9h,j41,j5f]
 ds:=[⟨0,[sI,.s (.one (.bp 192 0)),.s (.one (.bp 256 0)),sI,.b (.cell [.d iT,.d ty13] false),.b (.cell [.d .str,.d iT,.d iT,.d iT,.d iT,.d iT,.d (.list iT),.d ty13,.d iT,.d iT] false)],[iT,iT,iT,ty13,.str,iT,iT,iT,iT,iT,(.list iT),ty13,iT,iT],[⟨.exit 0,[sI,.s (.one (.bp 192 0)),.s (.one (.bp 256 0)),sI,.b (.cell [.d iT,.d ty13] false),.b (.cell [.d .str,.d iT,.d iT,.d iT,.d iT,.d iT,.d (.list iT),.d ty13,.d iT,.d iT] false)],[iT,iT,iT,ty13,.str,iT,iT,iT,iT,iT,(.list iT),ty13,iT,iT]⟩],Pw.jk2 (Pw.j1M)⟩,
  ⟨2,[sI,.s (.one (.bp 192 0)),.s (.one (.bp 256 0)),sI,.b (.cell [.d iT,.d ty13] false),.b (.cell [.d .str,.d iT,.d iT,.d iT,.d iT,.d iT,.d (.list iT),.d ty13,.d iT,.d iT] false)],[iT,iT,iT,ty13,.str,iT,iT,iT,iT,iT,(.list iT),ty13,iT,iT],[⟨.ret,[sI],[iT]⟩],Pw.jk2 (Pw.j2h)⟩]
 modes:=[(184,[false,false]),(232,[false,false,false]),(316,[false])]
 keep:=[(0,⟨[2,3,4,9],[192,256],[],[]⟩),
  (2,⟨[2,3,4,9],[192,256],[],[]⟩)]
 keepX:=[(0,.exit 0,⟨[2,3,4,9],[192,256],[],[]⟩),
  (2,.ret,⟨[6],[],[],[]⟩)]
 ro:=[false]
theorem jdw:Con.OK Tryz.prog j6Q:=
 cOf j0n j04 jjw j6Q Tryz.func307 (j9 jgr (j9 j7K (j9 jb4 trivial))) (j9 (fun h=>by kernel_rfl) (j9 (fun h=>by kernel_rfl) trivial))
def j7w:Con:=⟨153,[.v ty26],[ty26],⟨[.own 41 ty26],[]⟩,[ty26],fun h=>Pw.j62 h⟩
def jnE:FnD where
 N:=57
 np:=1
 cs:=[]
 ds:=[⟨0,[.s (.one (.ol 1000000)),.s (.one (.d ty26)),sI,sI,.b (.lst 41 ty21 false)],[ty26,iT,iT,ty26],[⟨.exit 0,[.s (.one (.ol 1500100)),.b (.lst 41 ty21 false)],[ty26]⟩],Pw.unc4 (Pw.j4J)⟩]
 keep:=[(0,⟨[3,7,8,9],[],[⟨1000000,41,ty21,[.slot 3],false⟩],[]⟩)]
 keepX:=[(0,.exit 0,⟨[3],[],[⟨1500100,41,ty21,[.slot 3],false⟩],[]⟩)]
 ro:=[true]
theorem jdb:Con.OK Tryz.prog j7w:=
 cOf j0n j04 jnE j7w Tryz.func153 trivial (j9 (fun h=>by kernel_rfl) trivial)
def j65:Con:=⟨219,[.v ty86,.v ty72,.v iT,.v iT],[ty86,ty72,iT,iT],⟨[.own 41 ty26],[]⟩,[ty26],Pw.unc4 Pw.j1k⟩
def jeL:FnD where
 N:=95
 np:=4
 cs:=[j41,j7L,j6Q,j7w]
 ds:=[⟨0,[sI,.s (.one (.bp 320 0)),.s (.one (.ol 1000000)),.s (.one (.bp 640 0)),sI,sI,sI,.s (.one (.ol 1000001)),sI,sI,.b (.cell [.d .str,.d iT,.d iT,.d iT,.d iT,.d iT,.d (.list iT),.d ty13,.d iT,.d iT] false),.b (.cell [.d iT,.d ty13] false),.b (.lst 41 ty21 false),.b (.lst 99 ty8 false)],[iT,iT,iT,iT,iT,iT,.str,iT,iT,iT,iT,iT,(.list iT),ty13,iT,iT,iT,ty13,ty26,ty13],[⟨.exit 0,[sI,.s (.one (.ol 1500100)),sI,.b (.lst 41 ty21 false)],[iT,iT,ty26]⟩],Pw.jwd (Pw.j0X)⟩,
  ⟨2,[sI,.s (.one (.bp 320 0)),.s (.one (.ol 1002000)),.s (.one (.bp 640 0)),sI,sI,sI,.s (.one (.bp 960 0)),.s (.one (.ol 1002001)),sI,sI,.b (.cell [.d .str,.d iT,.d iT,.d iT,.d iT,.d iT,.d (.list iT),.d ty13,.d iT,.d iT] false),.b (.cell [.d iT,.d ty13] false),.b (.cell [.d iT,.d iT] false),.b (.lst 41 ty21 false),.b (.lst 99 ty8 false)],[iT,iT,iT,iT,iT,iT,.str,iT,iT,iT,iT,iT,(.list iT),ty13,iT,iT,iT,ty13,iT,iT,ty26,ty13],[⟨.exit 2,[sI,.s (.one (.bp 320 0)),.s (.one (.ol 1502300)),.s (.one (.bp 640 0)),sI,sI,sI,.s (.one (.ol 1502301)),sI,sI,.b (.cell [.d .str,.d iT,.d iT,.d iT,.d iT,.d iT,.d (.list iT),.d ty13,.d iT,.d iT] false),.b (.cell [.d iT,.d ty13] false),.b (.lst 41 ty21 false),.b (.lst 99 ty8 false)],[iT,iT,iT,iT,iT,iT,.str,iT,iT,iT,iT,iT,(.list iT),ty13,iT,iT,iT,ty13,ty26,ty13]⟩],Pw.jwe (Pw.j1g)⟩]
 modes:=[(153,[false]),(232,[false,false,false]),(306,[false,false,false,false]),(307,[false,false,false])]
 keep:=[(0,⟨[3,5,9,10,11,12,13,30,31,32],[320,640],[⟨1000000,41,ty21,[.slot 9],false⟩,⟨1000001,99,ty8,[.slot 30],false⟩],[]⟩),
  (2,⟨[3,5,9,10,11,12,13,15,30,31,32],[320,640,960],[⟨1002000,41,ty21,[.slot 9],false⟩,⟨1002001,99,ty8,[.slot 30],false⟩],[]⟩)]
 keepX:=[(0,.exit 0,⟨[3,9,11],[],[⟨1500100,41,ty21,[.slot 9],false⟩],[]⟩),
  (2,.exit 2,⟨[3,5,9,10,11,12,13,30,31,32],[320,640],[⟨1502300,41,ty21,[.slot 9],false⟩,⟨1502301,99,ty8,[.slot 30],false⟩],[]⟩)]
 ro:=[true]
 dw:=[(17,[[],[],[],[],[],[],[],[],[],[],[],[],[],[5376],[5440,1002000],[]])]
theorem jeb:Con.OK Tryz.prog j65:=
 cOf j0n j04 jeL j65 Tryz.func219 (j9 j7K (j9 jgv (j9 jdw (j9 jdb trivial)))) (j9 (fun h=>by kernel_rfl) (j9 (fun h=>by kernel_rfl) trivial))
end Go.Proofs.Pk
