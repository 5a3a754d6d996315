/- bZ: each given function is its plain function, printed by a program. -/
import Derived.Test.YtaieocafhcjelaaGreatCCon3
noncomputable section
open Go Go.Lft
set_option linter.unusedVariables false
set_option maxRecDepth 100000
namespace Go.Proofs.Pk
def LC:Con:=⟨303,[.rl 3 (.list iT),.clo 214 [.p [iT],.p [iT]]],[(.list iT),iT,iT],⟨[.v iT],[.rl (.list iT)]⟩,[iT,(.list iT)],Pw.unc3 Pw.j24⟩
def jcs:FnD where
 N:=19
 np:=2
 cs:=[Gw]
 ds:=[⟨0,[.s (.one (.ol 0)),.s (.one (.clo 214 [.p [iT],.p [iT]])),sI,sI,.b (.lst 3 iT false)],[iT,iT,iT,iT,(.list iT)],[⟨.ret,[sI,.b (.lst 3 iT false)],[iT,(.list iT)]⟩,⟨.exit 0,[.b (.lst 3 iT false)],[(.list iT)]⟩],Pw.unc5 (Pw.j1f)⟩]
 modes:=[(214,[false])]
 keep:=[(0,⟨[0,1,7,8],[0],[],[]⟩)]
 keepX:=[(0,.ret,⟨[4],[0],[],[]⟩),
  (0,.exit 0,⟨[],[0],[],[]⟩)]
 ro:=[false]
theorem jc4:Con.OK Tryz.prog LC:=
 cOf aD aF jcs LC Tryz.func303 (j9 Uu trivial) (j9 (λh=>by kernel_rfl) trivial)
def LD:Con:=⟨212,[.rl 3 (.list iT),.clo 214 [.p [iT],.p [iT]]],[(.list iT),iT,iT],⟨[.hd],[.rl (.list iT)]⟩,[iT,(.list iT)],Pw.unc3 Pw.j1N⟩
def jdR:FnD where
 N:=42
 np:=2
 cs:=[Gw,LC]
 ds:=[⟨0,[.s (.one (.ol 0)),.s (.one (.clo 214 [.p [iT],.p [iT]])),sI,sI,.b (.lst 3 iT false)],[iT,iT,iT,iT,(.list iT)],[⟨.exit 0,[.s (.one (.ol 0)),sI,.b (.lst 3 iT false)],[iT,(.list iT)]⟩],Pw.unc5 (Pw.j1D)⟩]
 modes:=[(214,[false]),(303,[true,false])]
 keep:=[(0,⟨[0,1,5,6],[0],[],[]⟩)]
 keepX:=[(0,.exit 0,⟨[0,5],[0],[],[]⟩)]
 ro:=[false]
 hd:=true
theorem jcX:Con.OK Tryz.prog LD:=
 cOf aD aF jdR LD Tryz.func212 (j9 Uu (j9 jc4 trivial)) (j9 (λh=>by kernel_rfl) trivial)
def Uv:Con:=⟨215,[.rl 3 (.list iT)],[(.list iT)],⟨[],[.rl (.list iT)]⟩,[(.list iT)],λh=>Pw.j71 h⟩
def jsN:FnD where
 N:=11
 np:=1
 cs:=[]
 ds:=[]
theorem jh6:Con.OK Tryz.prog Uv:=
 jyt Tryz.sort215 3 (by kernel_rfl) 215 rfl
def LF:Con:=⟨216,[.rl 3 (.list iT)],[(.list iT)],⟨[.hd],[.rl (.list iT)]⟩,[iT,(.list iT)],λh=>Pw.j2C h⟩
def jfC:FnD where
 N:=61
 np:=1
 cs:=[]
 ds:=[⟨0,[.s (.one (.ol 0)),sI,.b (.lst 3 iT false)],[iT,(.list iT)],[⟨.ret,[.s (.one (.hd 0)),.b (.lst 3 iT false)],[iT,(.list iT)]⟩,⟨.exit 0,[.s (.one (.ol 0)),.b (.lst 3 iT false)],[(.list iT)]⟩],Pw.unc2 (Pw.j0L)⟩,
  ⟨2,[.s (.one (.ol 0)),sI,.s (.one (.tl 0)),sI,.b (.lst 3 iT false)],[iT,iT,iT,(.list iT)],[⟨.exit 2,[.s (.one (.ol 0)),sI,.b (.lst 3 iT false)],[iT,(.list iT)]⟩],Pw.unc4 (Pw.j2c)⟩]
 keep:=[(0,⟨[0,3],[0],[],[]⟩),
  (2,⟨[0,3,4,5],[0],[],[]⟩)]
 keepX:=[(0,.ret,⟨[2],[0],[],[]⟩),
  (0,.exit 0,⟨[0],[0],[],[]⟩),
  (2,.exit 2,⟨[0,3],[0],[],[]⟩)]
 ro:=[false]
 hd:=true
theorem jeY:Con.OK Tryz.prog LF:=
 cOf aD aF jfC LF Tryz.func216 trivial (j9 (λh=>by kernel_rfl) (j9 (λh=>by kernel_rfl) trivial))
def LG:Con:=⟨150,[.v (.list iT),.v iT,.v iT],[(.list iT),iT,iT],⟨[.own 3 (.list iT)],[]⟩,[(.list iT)],Pw.unc3 Pw.jdk⟩
def juh:FnD where
 N:=19
 np:=3
 cs:=[Ut,LD,Uv,LF]
 ds:=[]
 modes:=[(212,[true,false]),(213,[false]),(215,[true]),(216,[true])]
 ro:=[true]
 dw:=[(3,[[],[704,960],[],[1088],[960,1152],[]])]
theorem jsO:Con.OK Tryz.prog LG:=
 cOf aD aF juh LG Tryz.func150 (j9 jge (j9 jcX (j9 jh6 (j9 jeY trivial)))) trivial
def LH:Con:=⟨180,[.v bn],[bn],⟨[.clo 261 [.p [bn]]],[]⟩,[bn],λh=>Pw.j3i h⟩
def j8Y:FnD where
 N:=4
 np:=1
 cs:=[]
 ds:=[]
 ro:=[false]
theorem j8F:Con.OK Tryz.prog LH:=
 cOf aD aF j8Y LH Tryz.func180 trivial trivial
def Uw:Con:=⟨267,[.v aa],[aa],⟨[.own 99 aa],[]⟩,[aa],λh=>Pw.j4p h⟩
def jaJ:FnD where
 N:=8
 np:=1
 cs:=[]
 ds:=[]
 ro:=[true]
theorem jam:Con.OK Tryz.prog Uw:=
 RT aD aF jaJ 267 aQ 99 Tryz.f267 (Tryz.f267.body.getD .skip) Tryz.func267 (by kernel_rfl) (by kernel_rfl) (Nat.le_of_ble_eq_true (by kernel_rfl)) (by kernel_rfl) trivial (by kernel_rfl)
  (λh R k=>by kernel_rfl)
def Gx:Con:=⟨268,[.v aQ],[aQ],⟨[.v .bool],[]⟩,[.bool],λh=>Pw.ja7 h⟩
def joh:FnD where
 N:=8
 np:=1
 cs:=[]
 ds:=[]
 ro:=[false]
theorem Ux:Con.OK Tryz.prog Gx:=
 cOf aD aF joh Gx Tryz.func268 trivial trivial
def LI:Con:=⟨325,[.rl 99 aa,.clo 268 []],[aa],⟨[.v iT],[.rl aa]⟩,[iT,aa],λh=>Pw.j13 h⟩
def j9n:FnD where
 N:=19
 np:=2
 cs:=[Gx]
 ds:=[⟨0,[.s (.one (.ol 0)),.s (.one (.clo 268 [])),sI,sI,.b (.lst 99 aQ false)],[iT,iT,aa],[⟨.ret,[sI,.b (.lst 99 aQ false)],[iT,aa]⟩,⟨.exit 0,[.b (.lst 99 aQ false)],[aa]⟩],Pw.unc3 (Pw.j0R)⟩]
 modes:=[(268,[false])]
 keep:=[(0,⟨[0,1,7,8],[0],[],[]⟩)]
 keepX:=[(0,.ret,⟨[4],[0],[],[]⟩),
  (0,.exit 0,⟨[],[0],[],[]⟩)]
 ro:=[false]
theorem j8Z:Con.OK Tryz.prog LI:=
 cOf aD aF j9n LI Tryz.func325 (j9 Ux trivial) (j9 (λh=>by kernel_rfl) trivial)
def LJ:Con:=⟨266,[.rl 99 aa,.clo 268 []],[aa],⟨[.hd],[.rl aa]⟩,[iT,aa],λh=>Pw.j0z h⟩
def j90:FnD where
 N:=42
 np:=2
 cs:=[Gx,LI]
 ds:=[⟨0,[.s (.one (.ol 0)),.s (.one (.clo 268 [])),sI,sI,.b (.lst 99 aQ false)],[iT,iT,aa],[⟨.exit 0,[.s (.one (.ol 0)),sI,.b (.lst 99 aQ false)],[iT,aa]⟩],Pw.unc3 (Pw.j0M)⟩]
 modes:=[(268,[false]),(325,[true,false])]
 keep:=[(0,⟨[0,1,5,6],[0],[],[]⟩)]
 keepX:=[(0,.exit 0,⟨[0,5],[0],[],[]⟩)]
 ro:=[false]
 hd:=true
theorem j8H:Con.OK Tryz.prog LJ:=
 cOf aD aF j90 LJ Tryz.func266 (j9 Ux (j9 j8Z trivial)) (j9 (λh=>by kernel_rfl) trivial)
def LK:Con:=⟨270,[.v aQ,.v aQ],[aQ,aQ],⟨[.v iT],[]⟩,[iT],Pw.unc2 Pw.j8B⟩
def joi:FnD where
 N:=10
 np:=2
 cs:=[]
 ds:=[]
 ro:=[false]
theorem jxa:Con.OK Tryz.prog LK:=
 cOf aD aF joi LK Tryz.func270 trivial trivial
def Uy:Con:=⟨269,[.rl 99 aa,.clo 270 []],[aa],⟨[],[.rl aa]⟩,[aa],λh=>Pw.j1r h⟩
def jdb:FnD where
 N:=14
 np:=2
 cs:=[LK]
 ds:=[]
 modes:=[(270,[false,false])]
theorem j5c:Con.OK Tryz.prog Uy:=
 Se Tryz.sort269 (aQ) rfl 99 (by kernel_rfl) Tryz.isAgg99 Tryz.sizeOf99 _ 270 (enters_of Tryz.func270 (by kernel_rfl) rfl) jua jub 269 rfl
def xM:Con:=⟨185,[.v aa],[aa],⟨[.own 99 aa],[]⟩,[aa],λh=>Pw.j6F h⟩
def jsP:FnD where
 N:=54
 np:=1
 cs:=[Uw,LJ,Uy]
 ds:=[⟨0,[.s (.one (.ol 1000000)),.s (.one (.ol 1000001)),sI,sI,.b (.lst 99 aQ false),.b (.lst 99 aQ false)],[iT,iT,aa,aa],[⟨.exit 0,[.s (.one (.ol 1500100)),.b (.lst 99 aQ false)],[aa]⟩],Pw.unc4 (Pw.j4G)⟩]
 modes:=[(266,[true,false]),(267,[false]),(269,[true,false])]
 keep:=[(0,⟨[4,13,14,15],[],[⟨1000000,99,aQ,[.slot 4],false⟩,⟨1000001,99,aQ,[.slot 13],false⟩],[]⟩)]
 keepX:=[(0,.exit 0,⟨[4],[],[⟨1500100,99,aQ,[.slot 4],false⟩],[]⟩)]
 ro:=[true]
 dw:=[(9,[[],[],[],[],[],[],[],[],[],[],[],[],[],[],[1000000]])]
theorem DB:Con.OK Tryz.prog xM:=
 cOf aD aF jsP xM Tryz.func185 (j9 jam (j9 j8H (j9 j5c trivial))) (j9 (λh=>by kernel_rfl) trivial)
def LL:Con:=⟨117,[.v cb,.v aa,.v iT,.v iT],[cb,aa,iT,iT],⟨[.own 99 aa],[]⟩,[aa],Pw.unc4 Pw.j4q⟩
def jp9:FnD where
 N:=73
 np:=4
 cs:=[DA,xM]
 ds:=[⟨0,[.s (.one (.d aa)),.s (.one (.ol 1000000)),.s (.one (.ol 1000001)),sI,sI,.b (.lst 99 aQ false),.b (.lst 251 aL false)],[aa,iT,iT,aa,aG],[⟨.exit 0,[.s (.one (.ol 1500100)),.b (.lst 99 aQ false)],[aa]⟩],Pw.unc5 (Pw.j2y)⟩,
  ⟨2,[.s (.one (.d aa)),.s (.one (.ol 1002000)),.s (.one (.bp 704 0)),sI,.s (.one (.ol 1002001)),sI,sI,.b (.cell [.d iT,.d iT,.d iT] false),.b (.lst 99 aQ false),.b (.lst 251 aL false)],[aa,iT,iT,iT,iT,iT,iT,aa,aG],[⟨.exit 2,[.s (.one (.d aa)),.s (.one (.ol 1502300)),.s (.one (.ol 1502301)),sI,sI,.b (.lst 99 aQ false),.b (.lst 251 aL false)],[aa,iT,iT,aa,aG]⟩],Pw.unc9 (Pw.j2x)⟩,
  ⟨4,[.s (.one (.d aa)),.s (.one (.ol 1004000)),.s (.one (.bp 704 0)),sI,.s (.one (.ol 1004001)),sI,sI,.s (.one (.d aa)),sI,sI,.b (.cell [.d iT,.d iT,.d iT] false),.b (.lst 99 aQ false),.b (.lst 251 aL false)],[aa,iT,iT,iT,aa,iT,iT,iT,iT,iT,aa,aG],[⟨.exit 4,[.s (.one (.d aa)),.s (.one (.ol 1504500)),.s (.one (.bp 704 0)),sI,.s (.one (.ol 1504501)),sI,sI,.b (.cell [.d iT,.d iT,.d iT] false),.b (.lst 99 aQ false),.b (.lst 251 aL false)],[aa,iT,iT,iT,iT,iT,iT,aa,aG]⟩],Pw.jwC (Pw.j4Y)⟩]
 modes:=[(185,[false]),(186,[false,false,false])]
 keep:=[(0,⟨[1,9,19,20,21],[],[⟨1000000,99,aQ,[.slot 9],false⟩,⟨1000001,251,aL,[.slot 19],false⟩],[]⟩),
  (2,⟨[1,9,11,13,19,20,21],[704],[⟨1002000,99,aQ,[.slot 9],false⟩,⟨1002001,251,aL,[.slot 19],false⟩],[]⟩),
  (4,⟨[1,9,11,13,19,20,21,45,46,47],[704],[⟨1004000,99,aQ,[.slot 9],false⟩,⟨1004001,251,aL,[.slot 19],false⟩],[]⟩)]
 keepX:=[(0,.exit 0,⟨[9],[],[⟨1500100,99,aQ,[.slot 9],false⟩],[]⟩),
  (2,.exit 2,⟨[1,9,19,20,21],[],[⟨1502300,99,aQ,[.slot 9],false⟩,⟨1502301,251,aL,[.slot 19],false⟩],[]⟩),
  (4,.exit 4,⟨[1,9,11,13,19,20,21],[704],[⟨1504500,99,aQ,[.slot 9],false⟩,⟨1504501,251,aL,[.slot 19],false⟩],[]⟩)]
 ro:=[true]
theorem joj:Con.OK Tryz.prog LL:=
 cOf aD aF jp9 LL Tryz.func117 (j9 LA (j9 DB trivial)) (j9 (λh=>by kernel_rfl) (j9 (λh=>by kernel_rfl) (j9 (λh=>by kernel_rfl) trivial)))
def LM:Con:=⟨353,[.v dz,.v eQ,.v iT,.v iT],[dz,eQ,iT,iT],⟨[.own 99 aa],[]⟩,[aa],Pw.unc4 Pw.j28⟩
def jmL:FnD where
 N:=58
 np:=4
 cs:=[DA,xM]
 ds:=[⟨0,[.s (.one (.bp 320 0)),.s (.one (.ol 1000000)),.s (.one (.ol 1000001)),sI,sI,.b (.cell [.d .str,.d iT,.d (.list iT)] false),.b (.lst 99 aQ false),.b (.lst 251 aL false)],[iT,iT,.str,iT,(.list iT),aa,aG],[⟨.exit 0,[.s (.one (.ol 1500100)),.b (.lst 99 aQ false)],[aa]⟩],Pw.unc7 (Pw.j1W)⟩,
  ⟨2,[.s (.one (.bp 320 0)),.s (.one (.ol 1002000)),.s (.one (.bp 704 0)),.s (.one (.ol 1002001)),sI,sI,.s (.one (.d (.list iT))),sI,sI,.b (.cell [.d .str,.d iT,.d (.list iT)] false),.b (.cell [.d iT,.d iT,.d iT] false),.b (.lst 99 aQ false),.b (.lst 251 aL false)],[iT,iT,(.list iT),iT,iT,.str,iT,(.list iT),iT,iT,iT,aa,aG],[⟨.exit 2,[.s (.one (.bp 320 0)),.s (.one (.ol 1502300)),.s (.one (.ol 1502301)),sI,sI,.b (.cell [.d .str,.d iT,.d (.list iT)] false),.b (.lst 99 aQ false),.b (.lst 251 aL false)],[iT,iT,.str,iT,(.list iT),aa,aG]⟩],Pw.jsx (Pw.j47)⟩]
 modes:=[(185,[false]),(186,[false,false,false])]
 keep:=[(0,⟨[5,9,23,24,25],[320],[⟨1000000,99,aQ,[.slot 9],false⟩,⟨1000001,251,aL,[.slot 23],false⟩],[]⟩),
  (2,⟨[5,9,11,23,24,25,30,31,32],[320,704],[⟨1002000,99,aQ,[.slot 9],false⟩,⟨1002001,251,aL,[.slot 23],false⟩],[]⟩)]
 keepX:=[(0,.exit 0,⟨[9],[],[⟨1500100,99,aQ,[.slot 9],false⟩],[]⟩),
  (2,.exit 2,⟨[5,9,23,24,25],[320],[⟨1502300,99,aQ,[.slot 9],false⟩,⟨1502301,251,aL,[.slot 23],false⟩],[]⟩)]
 ro:=[true]
theorem jm0:Con.OK Tryz.prog LM:=
 cOf aD aF jmL LM Tryz.func353 (j9 LA (j9 DB trivial)) (j9 (λh=>by kernel_rfl) (j9 (λh=>by kernel_rfl) trivial))
def DC:Con:=⟨220,[.v aa,.v aa],[aa,aa],⟨[.own 99 aa],[]⟩,[aa],Pw.unc2 Pw.j2O⟩
def jpa:FnD where
 N:=89
 np:=2
 cs:=[]
 ds:=[⟨0,[.s (.one (.d aa)),.s (.one (.ol 1000000)),sI,.s (.one (.d aa)),sI,sI,.b (.lst 99 aQ false)],[aa,iT,aa,iT,iT,aa],[⟨.exit 0,[.s (.one (.ol 1500100)),.b (.lst 99 aQ false)],[aa]⟩],Pw.unc6 (Pw.j2z)⟩,
  ⟨2,[.s (.one (.d aa)),.s (.one (.ol 1002000)),sI,.s (.one (.bp 512 0)),.s (.one (.d aa)),sI,sI,.b (.cell [.d iT,.d iT] false),.b (.lst 99 aQ false)],[aa,iT,aa,iT,iT,iT,iT,aa],[⟨.exit 2,[.s (.one (.d aa)),.s (.one (.ol 1502300)),sI,.s (.one (.bp 512 0)),.s (.one (.d aa)),sI,sI,.b (.cell [.d iT,.d iT] false),.b (.lst 99 aQ false)],[aa,iT,aa,iT,iT,iT,iT,aa]⟩],Pw.unc8 (Pw.j4Z)⟩,
  ⟨4,[.s (.one (.d aa)),.s (.one (.ol 1004000)),sI,.s (.one (.bp 512 0)),sI,sI,.s (.one (.d aa)),sI,sI,.b (.cell [.d iT,.d iT] false),.b (.lst 99 aQ false)],[aa,iT,iT,iT,aa,iT,iT,iT,iT,aa],[⟨.exit 4,[.s (.one (.d aa)),.s (.one (.ol 1504500)),sI,.s (.one (.bp 512 0)),sI,.s (.one (.d aa)),sI,sI,.b (.cell [.d iT,.d iT] false),.b (.lst 99 aQ false)],[aa,iT,iT,aa,iT,iT,iT,iT,aa]⟩],Pw.jkB (Pw.j50)⟩]
 keep:=[(0,⟨[1,5,6,11,12,13],[],[⟨1000000,99,aQ,[.slot 5],false⟩],[]⟩),
  (2,⟨[1,5,6,8,11,12,13],[512],[⟨1002000,99,aQ,[.slot 5],false⟩],[]⟩),
  (4,⟨[1,5,6,8,9,10,11,12,13],[512],[⟨1004000,99,aQ,[.slot 5],false⟩],[]⟩)]
 keepX:=[(0,.exit 0,⟨[5],[],[⟨1500100,99,aQ,[.slot 5],false⟩],[]⟩),
  (2,.exit 2,⟨[1,5,6,8,11,12,13],[512],[⟨1502300,99,aQ,[.slot 5],false⟩],[]⟩),
  (4,.exit 4,⟨[1,5,6,8,9,11,12,13],[512],[⟨1504500,99,aQ,[.slot 5],false⟩],[]⟩)]
 ro:=[true]
theorem LN:Con.OK Tryz.prog DC:=
 cOf aD aF jpa DC Tryz.func220 trivial (j9 (λh=>by kernel_rfl) (j9 (λh=>by kernel_rfl) (j9 (λh=>by kernel_rfl) trivial)))
def LO:Con:=⟨116,[.v aa,.v aa],[aa,aa],⟨[.own 99 aa],[]⟩,[aa],Pw.unc2 Pw.j85⟩
def jr4:FnD where
 N:=67
 np:=2
 cs:=[]
 ds:=[⟨0,[.s (.one (.d aa)),.s (.one (.d aa)),.s (.one (.ol 1000000)),sI,sI,.b (.lst 99 aQ false)],[aa,aa,iT,iT,aa],[⟨.exit 0,[.s (.one (.ol 1500100)),.b (.lst 99 aQ false)],[aa]⟩],Pw.unc5 (Pw.j73)⟩]
 keep:=[(0,⟨[0,1,5,6,7],[],[⟨1000000,99,aQ,[.slot 5],false⟩],[]⟩)]
 keepX:=[(0,.exit 0,⟨[5],[],[⟨1500100,99,aQ,[.slot 5],false⟩],[]⟩)]
 ro:=[true]
 dw:=[(4,[[],[],[],[],[],[],[],[],[],[],[],[],[],[],[],[],[],[],[],[],[],[],[],[512],[512]])]
theorem jpb:Con.OK Tryz.prog LO:=
 cOf aD aF jr4 LO Tryz.func116 trivial (j9 (λh=>by kernel_rfl) trivial)
def LQ:Con:=⟨306,[.v dz,.v bI,.v iT,.v iT],[dz,bI,iT,iT],⟨[.own 99 aa],[]⟩,[aa],Pw.unc4 Pw.j4s⟩
def jm1:FnD where
 N:=90
 np:=4
 cs:=[Aj,LL,LM,DC,LO]
 ds:=[]
 modes:=[(116,[false,false]),(117,[false,false,false,false]),(220,[false,false]),(232,[false,false,false]),(353,[false,false,false,false])]
 ro:=[true]
 dw:=[(7,[[],[],[],[],[],[],[],[],[],[],[3584],[]]),(10,[[],[],[],[],[],[],[],[],[],[],[],[4608],[4672],[]]),(12,[[],[],[],[],[],[],[],[],[],[],[],[5568],[5632],[]])]
theorem jl3:Con.OK Tryz.prog LQ:=
 cOf aD aF jm1 LQ Tryz.func306 (j9 Gu (j9 joj (j9 jm0 (j9 LN (j9 jpb trivial))))) trivial
def LS:Con:=⟨265,[.v cb,.v iT],[cb,iT],⟨[.v iT],[]⟩,[iT],Pw.unc2 Pw.j4c⟩
def jjG:FnD where
 N:=10
 np:=2
 cs:=[Gr,Gs]
 ds:=[]
 modes:=[(271,[false,false]),(272,[false,false])]
 ro:=[false]
theorem jiK:Con.OK Tryz.prog LS:=
 cOf aD aF jjG LS Tryz.func265 (j9 Up (j9 Uq trivial)) trivial
def LU:Con:=⟨264,[.v iT],[iT],⟨[.v aQ],[]⟩,[aQ],λh=>Pw.jiu h⟩
def jsQ:FnD where
 N:=17
 np:=1
 cs:=[]
 ds:=[]
 ro:=[false]
theorem jr5:Con.OK Tryz.prog LU:=
 cOf aD aF jsQ LU Tryz.func264 trivial trivial
end Go.Proofs.Pk
