/- cI: each given function is its plain function, printed by a program. -/
import Derived.Test.YtaieocafhcjelaaGreatDCon3
noncomputable section
open Go Go.Lft
set_option linter.unusedVariables false
set_option maxRecDepth 100000
namespace Go.Proofs.Pk
def Ts:Con:=⟨267,[.v aa],[aa],⟨[.own 99 aa],[]⟩,[aa],λh=>Pw.j4G h⟩
def jaz:FnD where
 N:=8
 np:=1
 cs:=[]
 ds:=[]
 ro:=[true]
theorem jae:Con.OK Tryz.prog Ts:=
 Rc aJ aL jaz 267 aQ 99 Tryz.f267 (Tryz.f267.body.getD .skip) Tryz.func267 (by kernel_rfl) (by kernel_rfl) (Nat.le_of_ble_eq_true (by kernel_rfl)) (by kernel_rfl) trivial (by kernel_rfl)
  (λh R k=>by kernel_rfl)
def Gp:Con:=⟨268,[.v aQ],[aQ],⟨[.v .bool],[]⟩,[.bool],λh=>Pw.ja1 h⟩
def jlZ:FnD where
 N:=8
 np:=1
 cs:=[]
 ds:=[]
 ro:=[false]
theorem Tt:Con.OK Tryz.prog Gp:=
 cOf aJ aL jlZ Gp Tryz.func268 trivial trivial
def Lw:Con:=⟨325,[.rl 99 aa,.clo 268 []],[aa],⟨[.v iT],[.rl aa]⟩,[iT,aa],λh=>Pw.j1p h⟩
def j9g:FnD where
 N:=19
 np:=2
 cs:=[Gp]
 ds:=[⟨0,[.s (.one (.ol 0)),.s (.one (.clo 268 [])),sI,sI,.b (.lst 99 aQ false)],[iT,iT,aa],[⟨.ret,[sI,.b (.lst 99 aQ false)],[iT,aa]⟩,⟨.exit 0,[.b (.lst 99 aQ false)],[aa]⟩],Pw.unc3 (Pw.j1e)⟩]
 modes:=[(268,[false])]
 keep:=[(0,⟨[0,1,7,8],[0],[],[]⟩)]
 keepX:=[(0,.ret,⟨[4],[0],[],[]⟩),
  (0,.exit 0,⟨[],[0],[],[]⟩)]
 ro:=[false]
theorem j8Z:Con.OK Tryz.prog Lw:=
 cOf aJ aL j9g Lw Tryz.func325 (j9 Tt trivial) (j9 (λh=>by kernel_rfl) trivial)
def Lx:Con:=⟨266,[.rl 99 aa,.clo 268 []],[aa],⟨[.hd],[.rl aa]⟩,[iT,aa],λh=>Pw.j0X h⟩
def j90:FnD where
 N:=42
 np:=2
 cs:=[Gp,Lw]
 ds:=[⟨0,[.s (.one (.ol 0)),.s (.one (.clo 268 [])),sI,sI,.b (.lst 99 aQ false)],[iT,iT,aa],[⟨.exit 0,[.s (.one (.ol 0)),sI,.b (.lst 99 aQ false)],[iT,aa]⟩],Pw.unc3 (Pw.j17)⟩]
 modes:=[(268,[false]),(325,[true,false])]
 keep:=[(0,⟨[0,1,5,6],[0],[],[]⟩)]
 keepX:=[(0,.exit 0,⟨[0,5],[0],[],[]⟩)]
 ro:=[false]
 hd:=true
theorem j8x:Con.OK Tryz.prog Lx:=
 cOf aJ aL j90 Lx Tryz.func266 (j9 Tt (j9 j8Z trivial)) (j9 (λh=>by kernel_rfl) trivial)
def Ly:Con:=⟨270,[.v aQ,.v aQ],[aQ,aQ],⟨[.v iT],[]⟩,[iT],Pw.unc2 Pw.j8s⟩
def jm0:FnD where
 N:=10
 np:=2
 cs:=[]
 ds:=[]
 ro:=[false]
theorem jtM:Con.OK Tryz.prog Ly:=
 cOf aJ aL jm0 Ly Tryz.func270 trivial trivial
def Tu:Con:=⟨269,[.rl 99 aa,.clo 270 []],[aa],⟨[],[.rl aa]⟩,[aa],λh=>Pw.j1P h⟩
def jcF:FnD where
 N:=14
 np:=2
 cs:=[Ly]
 ds:=[]
 modes:=[(270,[false,false])]
theorem j5r:Con.OK Tryz.prog Tu:=
 J6 Tryz.sort269 (aQ) rfl 99 (by kernel_rfl) Tryz.isAgg99 Tryz.sizeOf99 _ 270 (enters_of Tryz.func270 (by kernel_rfl) rfl) jri jrj 269 rfl
def vJ:Con:=⟨185,[.v aa],[aa],⟨[.own 99 aa],[]⟩,[aa],λh=>Pw.j63 h⟩
def jqg:FnD where
 N:=54
 np:=1
 cs:=[Ts,Lx,Tu]
 ds:=[⟨0,[.s (.one (.ol 1000000)),.s (.one (.ol 1000001)),sI,sI,.b (.lst 99 aQ false),.b (.lst 99 aQ false)],[iT,iT,aa,aa],[⟨.exit 0,[.s (.one (.ol 1500100)),.b (.lst 99 aQ false)],[aa]⟩],Pw.unc4 (Pw.j4S)⟩]
 modes:=[(266,[true,false]),(267,[false]),(269,[true,false])]
 keep:=[(0,⟨[4,13,14,15],[],[⟨1000000,99,aQ,[.slot 4],false⟩,⟨1000001,99,aQ,[.slot 13],false⟩],[]⟩)]
 keepX:=[(0,.exit 0,⟨[4],[],[⟨1500100,99,aQ,[.slot 4],false⟩],[]⟩)]
 ro:=[true]
 dw:=[(9,[[],[],[],[],[],[],[],[],[],[],[],[],[],[],[1000000]])]
theorem AR:Con.OK Tryz.prog vJ:=
 cOf aJ aL jqg vJ Tryz.func185 (j9 jae (j9 j8x (j9 j5r trivial))) (j9 (λh=>by kernel_rfl) trivial)
def Gq:Con:=⟨117,[.v bZ,.v aa,.v iT,.v iT],[bZ,aa,iT,iT],⟨[.own 99 aa],[]⟩,[aa],Pw.unc4 Pw.j2u⟩
def jmS:FnD where
 N:=73
 np:=4
 cs:=[DB,vJ]
 ds:=[⟨0,[.s (.one (.d aa)),.s (.one (.ol 1000000)),.s (.one (.ol 1000001)),sI,sI,.b (.lst 99 aQ false),.b (.lst 251 ay false)],[aa,iT,iT,aa,aq],[⟨.exit 0,[.s (.one (.ol 1500100)),.b (.lst 99 aQ false)],[aa]⟩],Pw.unc5 (Pw.j2K)⟩,
  ⟨2,[.s (.one (.d aa)),.s (.one (.ol 1002000)),.s (.one (.bp 704 0)),sI,.s (.one (.ol 1002001)),sI,sI,.b (.cell [.d iT,.d iT,.d iT] false),.b (.lst 99 aQ false),.b (.lst 251 ay false)],[aa,iT,iT,iT,iT,iT,iT,aa,aq],[⟨.exit 2,[.s (.one (.d aa)),.s (.one (.ol 1502300)),.s (.one (.ol 1502301)),sI,sI,.b (.lst 99 aQ false),.b (.lst 251 ay false)],[aa,iT,iT,aa,aq]⟩],Pw.unc9 (Pw.j2J)⟩,
  ⟨4,[.s (.one (.d aa)),.s (.one (.ol 1004000)),.s (.one (.bp 704 0)),sI,.s (.one (.ol 1004001)),sI,sI,.s (.one (.d aa)),sI,sI,.b (.cell [.d iT,.d iT,.d iT] false),.b (.lst 99 aQ false),.b (.lst 251 ay false)],[aa,iT,iT,iT,aa,iT,iT,iT,iT,iT,aa,aq],[⟨.exit 4,[.s (.one (.d aa)),.s (.one (.ol 1504500)),.s (.one (.bp 704 0)),sI,.s (.one (.ol 1504501)),sI,sI,.b (.cell [.d iT,.d iT,.d iT] false),.b (.lst 99 aQ false),.b (.lst 251 ay false)],[aa,iT,iT,iT,iT,iT,iT,aa,aq]⟩],Pw.jtx (Pw.j59)⟩]
 modes:=[(185,[false]),(186,[false,false,false])]
 keep:=[(0,⟨[1,9,19,20,21],[],[⟨1000000,99,aQ,[.slot 9],false⟩,⟨1000001,251,ay,[.slot 19],false⟩],[]⟩),
  (2,⟨[1,9,11,13,19,20,21],[704],[⟨1002000,99,aQ,[.slot 9],false⟩,⟨1002001,251,ay,[.slot 19],false⟩],[]⟩),
  (4,⟨[1,9,11,13,19,20,21,45,46,47],[704],[⟨1004000,99,aQ,[.slot 9],false⟩,⟨1004001,251,ay,[.slot 19],false⟩],[]⟩)]
 keepX:=[(0,.exit 0,⟨[9],[],[⟨1500100,99,aQ,[.slot 9],false⟩],[]⟩),
  (2,.exit 2,⟨[1,9,19,20,21],[],[⟨1502300,99,aQ,[.slot 9],false⟩,⟨1502301,251,ay,[.slot 19],false⟩],[]⟩),
  (4,.exit 4,⟨[1,9,11,13,19,20,21],[704],[⟨1504500,99,aQ,[.slot 9],false⟩,⟨1504501,251,ay,[.slot 19],false⟩],[]⟩)]
 ro:=[true]
theorem Tv:Con.OK Tryz.prog Gq:=
 cOf aJ aL jmS Gq Tryz.func117 (j9 Ls (j9 AR trivial)) (j9 (λh=>by kernel_rfl) (j9 (λh=>by kernel_rfl) (j9 (λh=>by kernel_rfl) trivial)))
def Lz:Con:=⟨353,[.v dN,.v dZ,.v iT,.v iT],[dN,dZ,iT,iT],⟨[.own 99 aa],[]⟩,[aa],Pw.unc4 Pw.j2o⟩
def jkr:FnD where
 N:=58
 np:=4
 cs:=[DB,vJ]
 ds:=[⟨0,[.s (.one (.bp 320 0)),.s (.one (.ol 1000000)),.s (.one (.ol 1000001)),sI,sI,.b (.cell [.d .str,.d iT,.d (.list iT)] false),.b (.lst 99 aQ false),.b (.lst 251 ay false)],[iT,iT,.str,iT,(.list iT),aa,aq],[⟨.exit 0,[.s (.one (.ol 1500100)),.b (.lst 99 aQ false)],[aa]⟩],Pw.unc7 (Pw.j2c)⟩,
  ⟨2,[.s (.one (.bp 320 0)),.s (.one (.ol 1002000)),.s (.one (.bp 704 0)),.s (.one (.ol 1002001)),sI,sI,.s (.one (.d (.list iT))),sI,sI,.b (.cell [.d .str,.d iT,.d (.list iT)] false),.b (.cell [.d iT,.d iT,.d iT] false),.b (.lst 99 aQ false),.b (.lst 251 ay false)],[iT,iT,(.list iT),iT,iT,.str,iT,(.list iT),iT,iT,iT,aa,aq],[⟨.exit 2,[.s (.one (.bp 320 0)),.s (.one (.ol 1502300)),.s (.one (.ol 1502301)),sI,sI,.b (.cell [.d .str,.d iT,.d (.list iT)] false),.b (.lst 99 aQ false),.b (.lst 251 ay false)],[iT,iT,.str,iT,(.list iT),aa,aq]⟩],Pw.jwT (Pw.j4i)⟩]
 modes:=[(185,[false]),(186,[false,false,false])]
 keep:=[(0,⟨[5,9,23,24,25],[320],[⟨1000000,99,aQ,[.slot 9],false⟩,⟨1000001,251,ay,[.slot 23],false⟩],[]⟩),
  (2,⟨[5,9,11,23,24,25,30,31,32],[320,704],[⟨1002000,99,aQ,[.slot 9],false⟩,⟨1002001,251,ay,[.slot 23],false⟩],[]⟩)]
 keepX:=[(0,.exit 0,⟨[9],[],[⟨1500100,99,aQ,[.slot 9],false⟩],[]⟩),
  (2,.exit 2,⟨[5,9,23,24,25],[320],[⟨1502300,99,aQ,[.slot 9],false⟩,⟨1502301,251,ay,[.slot 23],false⟩],[]⟩)]
 ro:=[true]
theorem jjO:Con.OK Tryz.prog Lz:=
 cOf aJ aL jkr Lz Tryz.func353 (j9 Ls (j9 AR trivial)) (j9 (λh=>by kernel_rfl) (j9 (λh=>by kernel_rfl) trivial))
def DD:Con:=⟨220,[.v aa,.v aa],[aa,aa],⟨[.own 99 aa],[]⟩,[aa],Pw.unc2 Pw.j31⟩
def jmT:FnD where
 N:=89
 np:=2
 cs:=[]
 ds:=[⟨0,[.s (.one (.d aa)),.s (.one (.ol 1000000)),sI,.s (.one (.d aa)),sI,sI,.b (.lst 99 aQ false)],[aa,iT,aa,iT,iT,aa],[⟨.exit 0,[.s (.one (.ol 1500100)),.b (.lst 99 aQ false)],[aa]⟩],Pw.unc6 (Pw.j2L)⟩,
  ⟨2,[.s (.one (.d aa)),.s (.one (.ol 1002000)),sI,.s (.one (.bp 512 0)),.s (.one (.d aa)),sI,sI,.b (.cell [.d iT,.d iT] false),.b (.lst 99 aQ false)],[aa,iT,aa,iT,iT,iT,iT,aa],[⟨.exit 2,[.s (.one (.d aa)),.s (.one (.ol 1502300)),sI,.s (.one (.bp 512 0)),.s (.one (.d aa)),sI,sI,.b (.cell [.d iT,.d iT] false),.b (.lst 99 aQ false)],[aa,iT,aa,iT,iT,iT,iT,aa]⟩],Pw.unc8 (Pw.j5a)⟩,
  ⟨4,[.s (.one (.d aa)),.s (.one (.ol 1004000)),sI,.s (.one (.bp 512 0)),sI,sI,.s (.one (.d aa)),sI,sI,.b (.cell [.d iT,.d iT] false),.b (.lst 99 aQ false)],[aa,iT,iT,iT,aa,iT,iT,iT,iT,aa],[⟨.exit 4,[.s (.one (.d aa)),.s (.one (.ol 1504500)),sI,.s (.one (.bp 512 0)),sI,.s (.one (.d aa)),sI,sI,.b (.cell [.d iT,.d iT] false),.b (.lst 99 aQ false)],[aa,iT,iT,aa,iT,iT,iT,iT,aa]⟩],Pw.jtv (Pw.j5b)⟩]
 keep:=[(0,⟨[1,5,6,11,12,13],[],[⟨1000000,99,aQ,[.slot 5],false⟩],[]⟩),
  (2,⟨[1,5,6,8,11,12,13],[512],[⟨1002000,99,aQ,[.slot 5],false⟩],[]⟩),
  (4,⟨[1,5,6,8,9,10,11,12,13],[512],[⟨1004000,99,aQ,[.slot 5],false⟩],[]⟩)]
 keepX:=[(0,.exit 0,⟨[5],[],[⟨1500100,99,aQ,[.slot 5],false⟩],[]⟩),
  (2,.exit 2,⟨[1,5,6,8,11,12,13],[512],[⟨1502300,99,aQ,[.slot 5],false⟩],[]⟩),
  (4,.exit 4,⟨[1,5,6,8,9,11,12,13],[512],[⟨1504500,99,aQ,[.slot 5],false⟩],[]⟩)]
 ro:=[true]
theorem LA:Con.OK Tryz.prog DD:=
 cOf aJ aL jmT DD Tryz.func220 trivial (j9 (λh=>by kernel_rfl) (j9 (λh=>by kernel_rfl) (j9 (λh=>by kernel_rfl) trivial)))
def Gr:Con:=⟨116,[.v aa,.v aa],[aa,aa],⟨[.own 99 aa],[]⟩,[aa],Pw.unc2 Pw.j4o⟩
def joI:FnD where
 N:=67
 np:=2
 cs:=[]
 ds:=[⟨0,[.s (.one (.d aa)),.s (.one (.d aa)),.s (.one (.ol 1000000)),sI,sI,.b (.lst 99 aQ false)],[aa,aa,iT,iT,aa],[⟨.exit 0,[.s (.one (.ol 1500100)),.b (.lst 99 aQ false)],[aa]⟩],Pw.unc5 (Pw.j7a)⟩]
 keep:=[(0,⟨[0,1,5,6,7],[],[⟨1000000,99,aQ,[.slot 5],false⟩],[]⟩)]
 keepX:=[(0,.exit 0,⟨[5],[],[⟨1500100,99,aQ,[.slot 5],false⟩],[]⟩)]
 ro:=[true]
 dw:=[(4,[[],[],[],[],[],[],[],[],[],[],[],[],[],[],[],[],[],[],[],[],[],[],[],[512],[512]])]
theorem Tw:Con.OK Tryz.prog Gr:=
 cOf aJ aL joI Gr Tryz.func116 trivial (j9 (λh=>by kernel_rfl) trivial)
def LB:Con:=⟨306,[.v dN,.v cu,.v iT,.v iT],[dN,cu,iT,iT],⟨[.own 99 aa],[]⟩,[aa],Pw.unc4 Pw.j4I⟩
def jjP:FnD where
 N:=90
 np:=4
 cs:=[DC,Gq,Lz,DD,Gr]
 ds:=[]
 modes:=[(116,[false,false]),(117,[false,false,false,false]),(220,[false,false]),(232,[false,false,false]),(353,[false,false,false,false])]
 ro:=[true]
 dw:=[(7,[[],[],[],[],[],[],[],[],[],[],[3584],[]]),(10,[[],[],[],[],[],[],[],[],[],[],[],[4608],[4672],[]]),(12,[[],[],[],[],[],[],[],[],[],[],[],[5568],[5632],[]])]
theorem jj0:Con.OK Tryz.prog LB:=
 cOf aJ aL jjP LB Tryz.func306 (j9 Lv (j9 Tv (j9 jjO (j9 LA (j9 Tw trivial))))) trivial
def LC:Con:=⟨265,[.v bZ,.v iT],[bZ,iT],⟨[.v iT],[]⟩,[iT],Pw.unc2 Pw.j4p⟩
def ji0:FnD where
 N:=10
 np:=2
 cs:=[Gm,Gn]
 ds:=[]
 modes:=[(271,[false,false]),(272,[false,false])]
 ro:=[false]
theorem jhc:Con.OK Tryz.prog LC:=
 cOf aJ aL ji0 LC Tryz.func265 (j9 Tq (j9 Tr trivial)) trivial
def LD:Con:=⟨264,[.v iT],[iT],⟨[.v aQ],[]⟩,[aQ],λh=>Pw.jh1 h⟩
def jqh:FnD where
 N:=17
 np:=1
 cs:=[]
 ds:=[]
 ro:=[false]
theorem joJ:Con.OK Tryz.prog LD:=
 cOf aJ aL jqh LD Tryz.func264 trivial trivial
def Gs:Con:=⟨184,[.v bZ,.v iT],[bZ,iT],⟨[.v aQ],[]⟩,[aQ],Pw.unc2 Pw.j1y⟩
def jj1:FnD where
 N:=11
 np:=2
 cs:=[LC,LD]
 ds:=[]
 modes:=[(264,[false]),(265,[false,false])]
 ro:=[false]
theorem Tx:Con.OK Tryz.prog Gs:=
 cOf aJ aL jj1 Gs Tryz.func184 (j9 jhc (j9 joJ trivial)) trivial
def LF:Con:=⟨307,[.v bZ,.v cu,.v iT],[bZ,cu,iT],⟨[.v iT],[]⟩,[iT],Pw.unc3 Pw.j3u⟩
def jm1:FnD where
 N:=84
 np:=3
 cs:=[Gl,DC,Gs]
 ds:=[⟨0,[sI,.s (.one (.bp 192 0)),.s (.one (.bp 256 0)),sI,.b (.cell [.d iT,.d aa] false),.b (.cell [.d .str,.d iT,.d iT,.d iT,.d iT,.d iT,.d (.list iT),.d aa,.d iT,.d iT] false)],[iT,iT,iT,aa,.str,iT,iT,iT,iT,iT,(.list iT),aa,iT,iT],[⟨.exit 0,[sI,.s (.one (.bp 192 0)),.s (.one (.bp 256 0)),sI,.b (.cell [.d iT,.d aa] false),.b (.cell [.d .str,.d iT,.d iT,.d iT,.d iT,.d iT,.d (.list iT),.d aa,.d iT,.d iT] false)],[iT,iT,iT,aa,.str,iT,iT,iT,iT,iT,(.list iT),aa,iT,iT]⟩],Pw.jmG (Pw.j2v)⟩,
  ⟨2,[sI,.s (.one (.bp 192 0)),.s (.one (.bp 256 0)),sI,.b (.cell [.d iT,.d aa] false),.b (.cell [.d .str,.d iT,.d iT,.d iT,.d iT,.d iT,.d (.list iT),.d aa,.d iT,.d iT] false)],[iT,iT,iT,aa,.str,iT,iT,iT,iT,iT,(.list iT),aa,iT,iT],[⟨.ret,[sI],[iT]⟩],Pw.jmG (Pw.j32)⟩]
 modes:=[(184,[false,false]),(232,[false,false,false]),(316,[false])]
 keep:=[(0,⟨[2,3,4,9],[192,256],[],[]⟩),
  (2,⟨[2,3,4,9],[192,256],[],[]⟩)]
 keepX:=[(0,.exit 0,⟨[2,3,4,9],[192,256],[],[]⟩),
  (2,.ret,⟨[6],[],[],[]⟩)]
 ro:=[false]
theorem jks:Con.OK Tryz.prog LF:=
 cOf aJ aL jm1 LF Tryz.func307 (j9 Tp (j9 Lv (j9 Tx trivial))) (j9 (λh=>by kernel_rfl) (j9 (λh=>by kernel_rfl) trivial))
def DE:Con:=⟨153,[.v aq],[aq],⟨[.own 41 aq],[]⟩,[aq],λh=>Pw.j7A h⟩
def jqi:FnD where
 N:=57
 np:=1
 cs:=[]
 ds:=[⟨0,[.s (.one (.ol 1000000)),.s (.one (.d aq)),sI,sI,.b (.lst 41 ay false)],[aq,iT,iT,aq],[⟨.exit 0,[.s (.one (.ol 1500100)),.b (.lst 41 ay false)],[aq]⟩],Pw.unc4 (Pw.j6c)⟩]
 keep:=[(0,⟨[3,7,8,9],[],[⟨1000000,41,ay,[.slot 3],false⟩],[]⟩)]
 keepX:=[(0,.exit 0,⟨[3],[],[⟨1500100,41,ay,[.slot 3],false⟩],[]⟩)]
 ro:=[true]
theorem LG:Con.OK Tryz.prog DE:=
 cOf aJ aL jqi DE Tryz.func153 trivial (j9 (λh=>by kernel_rfl) trivial)
def LH:Con:=⟨219,[.v dN,.v cu,.v iT,.v iT],[dN,cu,iT,iT],⟨[.own 41 aq],[]⟩,[aq],Pw.unc4 Pw.j1Z⟩
def jhd:FnD where
 N:=95
 np:=4
 cs:=[DC,LB,LF,DE]
 ds:=[⟨0,[sI,.s (.one (.bp 320 0)),.s (.one (.ol 1000000)),.s (.one (.bp 640 0)),sI,sI,sI,.s (.one (.ol 1000001)),sI,sI,.b (.cell [.d .str,.d iT,.d iT,.d iT,.d iT,.d iT,.d (.list iT),.d aa,.d iT,.d iT] false),.b (.cell [.d iT,.d aa] false),.b (.lst 41 ay false),.b (.lst 99 aQ false)],[iT,iT,iT,iT,iT,iT,.str,iT,iT,iT,iT,iT,(.list iT),aa,iT,iT,iT,aa,aq,aa],[⟨.exit 0,[sI,.s (.one (.ol 1500100)),sI,.b (.lst 41 ay false)],[iT,iT,aq]⟩],Pw.jzU (Pw.j1v)⟩,
  ⟨2,[sI,.s (.one (.bp 320 0)),.s (.one (.ol 1002000)),.s (.one (.bp 640 0)),sI,sI,sI,.s (.one (.bp 960 0)),.s (.one (.ol 1002001)),sI,sI,.b (.cell [.d .str,.d iT,.d iT,.d iT,.d iT,.d iT,.d (.list iT),.d aa,.d iT,.d iT] false),.b (.cell [.d iT,.d aa] false),.b (.cell [.d iT,.d iT] false),.b (.lst 41 ay false),.b (.lst 99 aQ false)],[iT,iT,iT,iT,iT,iT,.str,iT,iT,iT,iT,iT,(.list iT),aa,iT,iT,iT,aa,iT,iT,aq,aa],[⟨.exit 2,[sI,.s (.one (.bp 320 0)),.s (.one (.ol 1502300)),.s (.one (.bp 640 0)),sI,sI,sI,.s (.one (.ol 1502301)),sI,sI,.b (.cell [.d .str,.d iT,.d iT,.d iT,.d iT,.d iT,.d (.list iT),.d aa,.d iT,.d iT] false),.b (.cell [.d iT,.d aa] false),.b (.lst 41 ay false),.b (.lst 99 aQ false)],[iT,iT,iT,iT,iT,iT,.str,iT,iT,iT,iT,iT,(.list iT),aa,iT,iT,iT,aa,aq,aa]⟩],Pw.jzV (Pw.j1V)⟩]
 modes:=[(153,[false]),(232,[false,false,false]),(306,[false,false,false,false]),(307,[false,false,false])]
 keep:=[(0,⟨[3,5,9,10,11,12,13,30,31,32],[320,640],[⟨1000000,41,ay,[.slot 9],false⟩,⟨1000001,99,aQ,[.slot 30],false⟩],[]⟩),
  (2,⟨[3,5,9,10,11,12,13,15,30,31,32],[320,640,960],[⟨1002000,41,ay,[.slot 9],false⟩,⟨1002001,99,aQ,[.slot 30],false⟩],[]⟩)]
 keepX:=[(0,.exit 0,⟨[3,9,11],[],[⟨1500100,41,ay,[.slot 9],false⟩],[]⟩),
  (2,.exit 2,⟨[3,5,9,10,11,12,13,30,31,32],[320,640],[⟨1502300,41,ay,[.slot 9],false⟩,⟨1502301,99,aQ,[.slot 30],false⟩],[]⟩)]
 ro:=[true]
 dw:=[(17,[[],[],[],[],[],[],[],[],[],[],[],[],[],[5376],[5440,1002000],[]])]
theorem jgy:Con.OK Tryz.prog LH:=
 cOf aJ aL jhd LH Tryz.func219 (j9 Lv (j9 jj0 (j9 jks (j9 LG trivial)))) (j9 (λh=>by kernel_rfl) (j9 (λh=>by kernel_rfl) trivial))
def LI:Con:=⟨305,[.v cF,.v iT],[cF,iT],⟨[.own 99 aa],[]⟩,[aa],Pw.unc2 Pw.j5w⟩
def jmU:FnD where
 N:=35
 np:=2
 cs:=[vJ]
 ds:=[⟨0,[sI,.s (.one (.ol 1000000)),.s (.one (.d au)),sI,sI,.b (.lst 99 aQ false)],[iT,au,iT,iT,aa],[⟨.exit 0,[.s (.one (.ol 1500100)),.b (.lst 99 aQ false)],[aa]⟩],Pw.unc5 (Pw.j5c)⟩]
 modes:=[(185,[false])]
 keep:=[(0,⟨[1,5,9,10,11],[],[⟨1000000,99,aQ,[.slot 5],false⟩],[]⟩)]
 keepX:=[(0,.exit 0,⟨[5],[],[⟨1500100,99,aQ,[.slot 5],false⟩],[]⟩)]
 ro:=[true]
theorem jm2:Con.OK Tryz.prog LI:=
 cOf aJ aL jmU LI Tryz.func305 (j9 AR trivial) (j9 (λh=>by kernel_rfl) trivial)
def LJ:Con:=⟨218,[.v cF,.v aq],[cF,aq],⟨[.own 41 aq],[]⟩,[aq],Pw.unc2 Pw.j6e⟩
def jm3:FnD where
 N:=68
 np:=2
 cs:=[DD,LI]
 ds:=[⟨0,[.s (.one (.bp 128 0)),.s (.one (.ol 1000000)),.s (.one (.ol 1000001)),.s (.one (.d aq)),sI,sI,.b (.cell [.d .str,.d ca,.d au] false),.b (.lst 4294967637 bZ false),.b (.lst 41 ay false)],[aq,iT,iT,.str,ca,au,ea,aq],[⟨.exit 0,[.s (.one (.ol 1500100)),.b (.lst 41 ay false)],[aq]⟩],Pw.unc8 (Pw.j2w)⟩,
  ⟨2,[.s (.one (.bp 128 0)),.s (.one (.ol 1002000)),.s (.one (.ol 1002001)),.s (.one (.bp 512 0)),.s (.one (.d aq)),sI,sI,.s (.one (.ol 1002002)),sI,sI,.b (.cell [.d .str,.d ca,.d au] false),.b (.cell [.d iT,.d iT,.d iT] false),.b (.lst 4294967637 bZ false),.b (.lst 41 ay false),.b (.lst 99 aQ false)],[aq,iT,iT,iT,iT,.str,ca,au,iT,iT,iT,ea,aq,aa],[⟨.exit 2,[.s (.one (.bp 128 0)),.s (.one (.ol 1502300)),.s (.one (.ol 1502301)),.s (.one (.d aq)),sI,sI,.b (.cell [.d .str,.d ca,.d au] false),.b (.lst 4294967637 bZ false),.b (.lst 41 ay false)],[aq,iT,iT,.str,ca,au,ea,aq]⟩],Pw.jmG (Pw.j4J)⟩]
 modes:=[(220,[false,false]),(305,[false,false])]
 keep:=[(0,⟨[2,5,6,14,15,16],[128],[⟨1000000,4294967637,bZ,[.slot 5],false⟩,⟨1000001,41,ay,[.slot 6],false⟩],[]⟩),
  (2,⟨[2,5,6,8,14,15,16,49,50,51],[128,512],[⟨1002000,4294967637,bZ,[.slot 5],false⟩,⟨1002001,41,ay,[.slot 6],false⟩,⟨1002002,99,aQ,[.slot 49],false⟩],[]⟩)]
 keepX:=[(0,.exit 0,⟨[6],[],[⟨1500100,41,ay,[.slot 6],false⟩],[]⟩),
  (2,.exit 2,⟨[2,5,6,14,15,16],[128],[⟨1502300,4294967637,bZ,[.slot 5],false⟩,⟨1502301,41,ay,[.slot 6],false⟩],[]⟩)]
 ro:=[true]
 dw:=[(9,[[],[],[],[],[],[],[2432],[2432,1000000]])]
theorem jkt:Con.OK Tryz.prog LJ:=
 cOf aJ aL jm3 LJ Tryz.func218 (j9 LA (j9 jm2 trivial)) (j9 (λh=>by kernel_rfl) (j9 (λh=>by kernel_rfl) trivial))
end Go.Proofs.Pk
