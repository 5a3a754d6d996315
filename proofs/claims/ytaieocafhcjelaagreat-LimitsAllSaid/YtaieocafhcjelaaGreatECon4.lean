/- cJ: each given function is its plain function, printed by a program. -/
import Derived.Test.YtaieocafhcjelaaGreatECon3
noncomputable section
open Go Go.Lft
set_option linter.unusedVariables false
set_option maxRecDepth 100000
namespace Go.Proofs.Pk
def TI:Con:=⟨267,[.v ae],[ae],⟨[.own 99 ae],[]⟩,[ae],λh=>Pw.j4E h⟩
def jaD:FnD where
 N:=8
 np:=1
 cs:=[]
 ds:=[]
 ro:=[true]
theorem jai:Con.OK Tryz.prog TI:=
 Rv aM aN jaD 267 aV 99 Tryz.f267 (Tryz.f267.body.getD .skip) Tryz.func267 (by kernel_rfl) (by kernel_rfl) (Nat.le_of_ble_eq_true (by kernel_rfl)) (by kernel_rfl) trivial (by kernel_rfl)
  (λh R k=>by kernel_rfl)
def Gz:Con:=⟨268,[.v aV],[aV],⟨[.v .bool],[]⟩,[.bool],λh=>Pw.ja4 h⟩
def jm6:FnD where
 N:=8
 np:=1
 cs:=[]
 ds:=[]
 ro:=[false]
theorem TJ:Con.OK Tryz.prog Gz:=
 cOf aM aN jm6 Gz Tryz.func268 trivial trivial
def LH:Con:=⟨325,[.rl 99 ae,.clo 268 []],[ae],⟨[.v iT],[.rl ae]⟩,[iT,ae],λh=>Pw.j1s h⟩
def j9l:FnD where
 N:=19
 np:=2
 cs:=[Gz]
 ds:=[⟨0,[.s (.one (.ol 0)),.s (.one (.clo 268 [])),sI,sI,.b (.lst 99 aV false)],[iT,iT,ae],[⟨.ret,[sI,.b (.lst 99 aV false)],[iT,ae]⟩,⟨.exit 0,[.b (.lst 99 aV false)],[ae]⟩],Pw.unc3 (Pw.j1h)⟩]
 modes:=[(268,[false])]
 keep:=[(0,⟨[0,1,7,8],[0],[],[]⟩)]
 keepX:=[(0,.ret,⟨[4],[0],[],[]⟩),
  (0,.exit 0,⟨[],[0],[],[]⟩)]
 ro:=[false]
theorem j92:Con.OK Tryz.prog LH:=
 cOf aM aN j9l LH Tryz.func325 (j9 TJ trivial) (j9 (λh=>by kernel_rfl) trivial)
def LI:Con:=⟨266,[.rl 99 ae,.clo 268 []],[ae],⟨[.hd],[.rl ae]⟩,[iT,ae],λh=>Pw.j0X h⟩
def j93:FnD where
 N:=42
 np:=2
 cs:=[Gz,LH]
 ds:=[⟨0,[.s (.one (.ol 0)),.s (.one (.clo 268 [])),sI,sI,.b (.lst 99 aV false)],[iT,iT,ae],[⟨.exit 0,[.s (.one (.ol 0)),sI,.b (.lst 99 aV false)],[iT,ae]⟩],Pw.unc3 (Pw.j19)⟩]
 modes:=[(268,[false]),(325,[true,false])]
 keep:=[(0,⟨[0,1,5,6],[0],[],[]⟩)]
 keepX:=[(0,.exit 0,⟨[0,5],[0],[],[]⟩)]
 ro:=[false]
 hd:=true
theorem j8C:Con.OK Tryz.prog LI:=
 cOf aM aN j93 LI Tryz.func266 (j9 TJ (j9 j92 trivial)) (j9 (λh=>by kernel_rfl) trivial)
def LJ:Con:=⟨270,[.v aV,.v aV],[aV,aV],⟨[.v iT],[]⟩,[iT],Pw.unc2 Pw.j8x⟩
def jm7:FnD where
 N:=10
 np:=2
 cs:=[]
 ds:=[]
 ro:=[false]
theorem jtV:Con.OK Tryz.prog LJ:=
 cOf aM aN jm7 LJ Tryz.func270 trivial trivial
def TK:Con:=⟨269,[.rl 99 ae,.clo 270 []],[ae],⟨[],[.rl ae]⟩,[ae],λh=>Pw.j1R h⟩
def jcK:FnD where
 N:=14
 np:=2
 cs:=[LJ]
 ds:=[]
 modes:=[(270,[false,false])]
theorem j5q:Con.OK Tryz.prog TK:=
 Ke Tryz.sort269 (aV) rfl 99 (by kernel_rfl) Tryz.isAgg99 Tryz.sizeOf99 _ 270 (enters_of Tryz.func270 (by kernel_rfl) rfl) jrs jrt 269 rfl
def vQ:Con:=⟨185,[.v ae],[ae],⟨[.own 99 ae],[]⟩,[ae],λh=>Pw.j61 h⟩
def jqq:FnD where
 N:=54
 np:=1
 cs:=[TI,LI,TK]
 ds:=[⟨0,[.s (.one (.ol 1000000)),.s (.one (.ol 1000001)),sI,sI,.b (.lst 99 aV false),.b (.lst 99 aV false)],[iT,iT,ae,ae],[⟨.exit 0,[.s (.one (.ol 1500100)),.b (.lst 99 aV false)],[ae]⟩],Pw.unc4 (Pw.j4S)⟩]
 modes:=[(266,[true,false]),(267,[false]),(269,[true,false])]
 keep:=[(0,⟨[4,13,14,15],[],[⟨1000000,99,aV,[.slot 4],false⟩,⟨1000001,99,aV,[.slot 13],false⟩],[]⟩)]
 keepX:=[(0,.exit 0,⟨[4],[],[⟨1500100,99,aV,[.slot 4],false⟩],[]⟩)]
 ro:=[true]
 dw:=[(9,[[],[],[],[],[],[],[],[],[],[],[],[],[],[],[1000000]])]
theorem Ba:Con.OK Tryz.prog vQ:=
 cOf aM aN jqq vQ Tryz.func185 (j9 jai (j9 j8C (j9 j5q trivial))) (j9 (λh=>by kernel_rfl) trivial)
def GA:Con:=⟨117,[.v cb,.v ae,.v iT,.v iT],[cb,ae,iT,iT],⟨[.own 99 ae],[]⟩,[ae],Pw.unc4 Pw.j2x⟩
def jmX:FnD where
 N:=73
 np:=4
 cs:=[DN,vQ]
 ds:=[⟨0,[.s (.one (.d ae)),.s (.one (.ol 1000000)),.s (.one (.ol 1000001)),sI,sI,.b (.lst 99 aV false),.b (.lst 251 an false)],[ae,iT,iT,ae,ak],[⟨.exit 0,[.s (.one (.ol 1500100)),.b (.lst 99 aV false)],[ae]⟩],Pw.unc5 (Pw.j2L)⟩,
  ⟨2,[.s (.one (.d ae)),.s (.one (.ol 1002000)),.s (.one (.bp 704 0)),sI,.s (.one (.ol 1002001)),sI,sI,.b (.cell [.d iT,.d iT,.d iT] false),.b (.lst 99 aV false),.b (.lst 251 an false)],[ae,iT,iT,iT,iT,iT,iT,ae,ak],[⟨.exit 2,[.s (.one (.d ae)),.s (.one (.ol 1502300)),.s (.one (.ol 1502301)),sI,sI,.b (.lst 99 aV false),.b (.lst 251 an false)],[ae,iT,iT,ae,ak]⟩],Pw.unc9 (Pw.j2K)⟩,
  ⟨4,[.s (.one (.d ae)),.s (.one (.ol 1004000)),.s (.one (.bp 704 0)),sI,.s (.one (.ol 1004001)),sI,sI,.s (.one (.d ae)),sI,sI,.b (.cell [.d iT,.d iT,.d iT] false),.b (.lst 99 aV false),.b (.lst 251 an false)],[ae,iT,iT,iT,ae,iT,iT,iT,iT,iT,ae,ak],[⟨.exit 4,[.s (.one (.d ae)),.s (.one (.ol 1504500)),.s (.one (.bp 704 0)),sI,.s (.one (.ol 1504501)),sI,sI,.b (.cell [.d iT,.d iT,.d iT] false),.b (.lst 99 aV false),.b (.lst 251 an false)],[ae,iT,iT,iT,iT,iT,iT,ae,ak]⟩],Pw.jtI (Pw.j59)⟩]
 modes:=[(185,[false]),(186,[false,false,false])]
 keep:=[(0,⟨[1,9,19,20,21],[],[⟨1000000,99,aV,[.slot 9],false⟩,⟨1000001,251,an,[.slot 19],false⟩],[]⟩),
  (2,⟨[1,9,11,13,19,20,21],[704],[⟨1002000,99,aV,[.slot 9],false⟩,⟨1002001,251,an,[.slot 19],false⟩],[]⟩),
  (4,⟨[1,9,11,13,19,20,21,45,46,47],[704],[⟨1004000,99,aV,[.slot 9],false⟩,⟨1004001,251,an,[.slot 19],false⟩],[]⟩)]
 keepX:=[(0,.exit 0,⟨[9],[],[⟨1500100,99,aV,[.slot 9],false⟩],[]⟩),
  (2,.exit 2,⟨[1,9,19,20,21],[],[⟨1502300,99,aV,[.slot 9],false⟩,⟨1502301,251,an,[.slot 19],false⟩],[]⟩),
  (4,.exit 4,⟨[1,9,11,13,19,20,21],[704],[⟨1504500,99,aV,[.slot 9],false⟩,⟨1504501,251,an,[.slot 19],false⟩],[]⟩)]
 ro:=[true]
theorem TL:Con.OK Tryz.prog GA:=
 cOf aM aN jmX GA Tryz.func117 (j9 LC (j9 Ba trivial)) (j9 (λh=>by kernel_rfl) (j9 (λh=>by kernel_rfl) (j9 (λh=>by kernel_rfl) trivial)))
def LK:Con:=⟨353,[.v dQ,.v eb,.v iT,.v iT],[dQ,eb,iT,iT],⟨[.own 99 ae],[]⟩,[ae],Pw.unc4 Pw.j2s⟩
def jkz:FnD where
 N:=58
 np:=4
 cs:=[DN,vQ]
 ds:=[⟨0,[.s (.one (.bp 320 0)),.s (.one (.ol 1000000)),.s (.one (.ol 1000001)),sI,sI,.b (.cell [.d .str,.d iT,.d (.list iT)] false),.b (.lst 99 aV false),.b (.lst 251 an false)],[iT,iT,.str,iT,(.list iT),ae,ak],[⟨.exit 0,[.s (.one (.ol 1500100)),.b (.lst 99 aV false)],[ae]⟩],Pw.unc7 (Pw.j2h)⟩,
  ⟨2,[.s (.one (.bp 320 0)),.s (.one (.ol 1002000)),.s (.one (.bp 704 0)),.s (.one (.ol 1002001)),sI,sI,.s (.one (.d (.list iT))),sI,sI,.b (.cell [.d .str,.d iT,.d (.list iT)] false),.b (.cell [.d iT,.d iT,.d iT] false),.b (.lst 99 aV false),.b (.lst 251 an false)],[iT,iT,(.list iT),iT,iT,.str,iT,(.list iT),iT,iT,iT,ae,ak],[⟨.exit 2,[.s (.one (.bp 320 0)),.s (.one (.ol 1502300)),.s (.one (.ol 1502301)),sI,sI,.b (.cell [.d .str,.d iT,.d (.list iT)] false),.b (.lst 99 aV false),.b (.lst 251 an false)],[iT,iT,.str,iT,(.list iT),ae,ak]⟩],Pw.jx4 (Pw.j4j)⟩]
 modes:=[(185,[false]),(186,[false,false,false])]
 keep:=[(0,⟨[5,9,23,24,25],[320],[⟨1000000,99,aV,[.slot 9],false⟩,⟨1000001,251,an,[.slot 23],false⟩],[]⟩),
  (2,⟨[5,9,11,23,24,25,30,31,32],[320,704],[⟨1002000,99,aV,[.slot 9],false⟩,⟨1002001,251,an,[.slot 23],false⟩],[]⟩)]
 keepX:=[(0,.exit 0,⟨[9],[],[⟨1500100,99,aV,[.slot 9],false⟩],[]⟩),
  (2,.exit 2,⟨[5,9,23,24,25],[320],[⟨1502300,99,aV,[.slot 9],false⟩,⟨1502301,251,an,[.slot 23],false⟩],[]⟩)]
 ro:=[true]
theorem jjV:Con.OK Tryz.prog LK:=
 cOf aM aN jkz LK Tryz.func353 (j9 LC (j9 Ba trivial)) (j9 (λh=>by kernel_rfl) (j9 (λh=>by kernel_rfl) trivial))
def DP:Con:=⟨220,[.v ae,.v ae],[ae,ae],⟨[.own 99 ae],[]⟩,[ae],Pw.unc2 Pw.j32⟩
def jmY:FnD where
 N:=89
 np:=2
 cs:=[]
 ds:=[⟨0,[.s (.one (.d ae)),.s (.one (.ol 1000000)),sI,.s (.one (.d ae)),sI,sI,.b (.lst 99 aV false)],[ae,iT,ae,iT,iT,ae],[⟨.exit 0,[.s (.one (.ol 1500100)),.b (.lst 99 aV false)],[ae]⟩],Pw.unc6 (Pw.j2M)⟩,
  ⟨2,[.s (.one (.d ae)),.s (.one (.ol 1002000)),sI,.s (.one (.bp 512 0)),.s (.one (.d ae)),sI,sI,.b (.cell [.d iT,.d iT] false),.b (.lst 99 aV false)],[ae,iT,ae,iT,iT,iT,iT,ae],[⟨.exit 2,[.s (.one (.d ae)),.s (.one (.ol 1502300)),sI,.s (.one (.bp 512 0)),.s (.one (.d ae)),sI,sI,.b (.cell [.d iT,.d iT] false),.b (.lst 99 aV false)],[ae,iT,ae,iT,iT,iT,iT,ae]⟩],Pw.unc8 (Pw.j5a)⟩,
  ⟨4,[.s (.one (.d ae)),.s (.one (.ol 1004000)),sI,.s (.one (.bp 512 0)),sI,sI,.s (.one (.d ae)),sI,sI,.b (.cell [.d iT,.d iT] false),.b (.lst 99 aV false)],[ae,iT,iT,iT,ae,iT,iT,iT,iT,ae],[⟨.exit 4,[.s (.one (.d ae)),.s (.one (.ol 1504500)),sI,.s (.one (.bp 512 0)),sI,.s (.one (.d ae)),sI,sI,.b (.cell [.d iT,.d iT] false),.b (.lst 99 aV false)],[ae,iT,iT,ae,iT,iT,iT,iT,ae]⟩],Pw.jtG (Pw.j5b)⟩]
 keep:=[(0,⟨[1,5,6,11,12,13],[],[⟨1000000,99,aV,[.slot 5],false⟩],[]⟩),
  (2,⟨[1,5,6,8,11,12,13],[512],[⟨1002000,99,aV,[.slot 5],false⟩],[]⟩),
  (4,⟨[1,5,6,8,9,10,11,12,13],[512],[⟨1004000,99,aV,[.slot 5],false⟩],[]⟩)]
 keepX:=[(0,.exit 0,⟨[5],[],[⟨1500100,99,aV,[.slot 5],false⟩],[]⟩),
  (2,.exit 2,⟨[1,5,6,8,11,12,13],[512],[⟨1502300,99,aV,[.slot 5],false⟩],[]⟩),
  (4,.exit 4,⟨[1,5,6,8,9,11,12,13],[512],[⟨1504500,99,aV,[.slot 5],false⟩],[]⟩)]
 ro:=[true]
theorem LL:Con.OK Tryz.prog DP:=
 cOf aM aN jmY DP Tryz.func220 trivial (j9 (λh=>by kernel_rfl) (j9 (λh=>by kernel_rfl) (j9 (λh=>by kernel_rfl) trivial)))
def GB:Con:=⟨116,[.v ae,.v ae],[ae,ae],⟨[.own 99 ae],[]⟩,[ae],Pw.unc2 Pw.j4p⟩
def joO:FnD where
 N:=67
 np:=2
 cs:=[]
 ds:=[⟨0,[.s (.one (.d ae)),.s (.one (.d ae)),.s (.one (.ol 1000000)),sI,sI,.b (.lst 99 aV false)],[ae,ae,iT,iT,ae],[⟨.exit 0,[.s (.one (.ol 1500100)),.b (.lst 99 aV false)],[ae]⟩],Pw.unc5 (Pw.j7d)⟩]
 keep:=[(0,⟨[0,1,5,6,7],[],[⟨1000000,99,aV,[.slot 5],false⟩],[]⟩)]
 keepX:=[(0,.exit 0,⟨[5],[],[⟨1500100,99,aV,[.slot 5],false⟩],[]⟩)]
 ro:=[true]
 dw:=[(4,[[],[],[],[],[],[],[],[],[],[],[],[],[],[],[],[],[],[],[],[],[],[],[],[512],[512]])]
theorem TM:Con.OK Tryz.prog GB:=
 cOf aM aN joO GB Tryz.func116 trivial (j9 (λh=>by kernel_rfl) trivial)
def LM:Con:=⟨306,[.v dQ,.v cw,.v iT,.v iT],[dQ,cw,iT,iT],⟨[.own 99 ae],[]⟩,[ae],Pw.unc4 Pw.j4G⟩
def jjW:FnD where
 N:=90
 np:=4
 cs:=[DO,GA,LK,DP,GB]
 ds:=[]
 modes:=[(116,[false,false]),(117,[false,false,false,false]),(220,[false,false]),(232,[false,false,false]),(353,[false,false,false,false])]
 ro:=[true]
 dw:=[(7,[[],[],[],[],[],[],[],[],[],[],[3584],[]]),(10,[[],[],[],[],[],[],[],[],[],[],[],[4608],[4672],[]]),(12,[[],[],[],[],[],[],[],[],[],[],[],[5568],[5632],[]])]
theorem jj5:Con.OK Tryz.prog LM:=
 cOf aM aN jjW LM Tryz.func306 (j9 LG (j9 TL (j9 jjV (j9 LL (j9 TM trivial))))) trivial
def LN:Con:=⟨265,[.v cb,.v iT],[cb,iT],⟨[.v iT],[]⟩,[iT],Pw.unc2 Pw.j4q⟩
def ji7:FnD where
 N:=10
 np:=2
 cs:=[Gx,Gy]
 ds:=[]
 modes:=[(271,[false,false]),(272,[false,false])]
 ro:=[false]
theorem jhj:Con.OK Tryz.prog LN:=
 cOf aM aN ji7 LN Tryz.func265 (j9 TG (j9 TH trivial)) trivial
def LO:Con:=⟨264,[.v iT],[iT],⟨[.v aV],[]⟩,[aV],λh=>Pw.jh8 h⟩
def jqr:FnD where
 N:=17
 np:=1
 cs:=[]
 ds:=[]
 ro:=[false]
theorem joP:Con.OK Tryz.prog LO:=
 cOf aM aN jqr LO Tryz.func264 trivial trivial
def GC:Con:=⟨184,[.v cb,.v iT],[cb,iT],⟨[.v aV],[]⟩,[aV],Pw.unc2 Pw.j1B⟩
def jj6:FnD where
 N:=11
 np:=2
 cs:=[LN,LO]
 ds:=[]
 modes:=[(264,[false]),(265,[false,false])]
 ro:=[false]
theorem TN:Con.OK Tryz.prog GC:=
 cOf aM aN jj6 GC Tryz.func184 (j9 jhj (j9 joP trivial)) trivial
def LQ:Con:=⟨307,[.v cb,.v cw,.v iT],[cb,cw,iT],⟨[.v iT],[]⟩,[iT],Pw.unc3 Pw.j3v⟩
def jm8:FnD where
 N:=84
 np:=3
 cs:=[Gw,DO,GC]
 ds:=[⟨0,[sI,.s (.one (.bp 192 0)),.s (.one (.bp 256 0)),sI,.b (.cell [.d iT,.d ae] false),.b (.cell [.d .str,.d iT,.d iT,.d iT,.d iT,.d iT,.d (.list iT),.d ae,.d iT,.d iT] false)],[iT,iT,iT,ae,.str,iT,iT,iT,iT,iT,(.list iT),ae,iT,iT],[⟨.exit 0,[sI,.s (.one (.bp 192 0)),.s (.one (.bp 256 0)),sI,.b (.cell [.d iT,.d ae] false),.b (.cell [.d .str,.d iT,.d iT,.d iT,.d iT,.d iT,.d (.list iT),.d ae,.d iT,.d iT] false)],[iT,iT,iT,ae,.str,iT,iT,iT,iT,iT,(.list iT),ae,iT,iT]⟩],Pw.jmL (Pw.j2y)⟩,
  ⟨2,[sI,.s (.one (.bp 192 0)),.s (.one (.bp 256 0)),sI,.b (.cell [.d iT,.d ae] false),.b (.cell [.d .str,.d iT,.d iT,.d iT,.d iT,.d iT,.d (.list iT),.d ae,.d iT,.d iT] false)],[iT,iT,iT,ae,.str,iT,iT,iT,iT,iT,(.list iT),ae,iT,iT],[⟨.ret,[sI],[iT]⟩],Pw.jmL (Pw.j33)⟩]
 modes:=[(184,[false,false]),(232,[false,false,false]),(316,[false])]
 keep:=[(0,⟨[2,3,4,9],[192,256],[],[]⟩),
  (2,⟨[2,3,4,9],[192,256],[],[]⟩)]
 keepX:=[(0,.exit 0,⟨[2,3,4,9],[192,256],[],[]⟩),
  (2,.ret,⟨[6],[],[],[]⟩)]
 ro:=[false]
theorem jkA:Con.OK Tryz.prog LQ:=
 cOf aM aN jm8 LQ Tryz.func307 (j9 TF (j9 LG (j9 TN trivial))) (j9 (λh=>by kernel_rfl) (j9 (λh=>by kernel_rfl) trivial))
def DQ:Con:=⟨153,[.v ak],[ak],⟨[.own 41 ak],[]⟩,[ak],λh=>Pw.j7C h⟩
def jqs:FnD where
 N:=57
 np:=1
 cs:=[]
 ds:=[⟨0,[.s (.one (.ol 1000000)),.s (.one (.d ak)),sI,sI,.b (.lst 41 an false)],[ak,iT,iT,ak],[⟨.exit 0,[.s (.one (.ol 1500100)),.b (.lst 41 an false)],[ak]⟩],Pw.unc4 (Pw.j6a)⟩]
 keep:=[(0,⟨[3,7,8,9],[],[⟨1000000,41,an,[.slot 3],false⟩],[]⟩)]
 keepX:=[(0,.exit 0,⟨[3],[],[⟨1500100,41,an,[.slot 3],false⟩],[]⟩)]
 ro:=[true]
theorem LS:Con.OK Tryz.prog DQ:=
 cOf aM aN jqs DQ Tryz.func153 trivial (j9 (λh=>by kernel_rfl) trivial)
def LU:Con:=⟨219,[.v dQ,.v cw,.v iT,.v iT],[dQ,cw,iT,iT],⟨[.own 41 ak],[]⟩,[ak],Pw.unc4 Pw.j21⟩
def jhk:FnD where
 N:=95
 np:=4
 cs:=[DO,LM,LQ,DQ]
 ds:=[⟨0,[sI,.s (.one (.bp 320 0)),.s (.one (.ol 1000000)),.s (.one (.bp 640 0)),sI,sI,sI,.s (.one (.ol 1000001)),sI,sI,.b (.cell [.d .str,.d iT,.d iT,.d iT,.d iT,.d iT,.d (.list iT),.d ae,.d iT,.d iT] false),.b (.cell [.d iT,.d ae] false),.b (.lst 41 an false),.b (.lst 99 aV false)],[iT,iT,iT,iT,iT,iT,.str,iT,iT,iT,iT,iT,(.list iT),ae,iT,iT,iT,ae,ak,ae],[⟨.exit 0,[sI,.s (.one (.ol 1500100)),sI,.b (.lst 41 an false)],[iT,iT,ak]⟩],Pw.jAb (Pw.j1y)⟩,
  ⟨2,[sI,.s (.one (.bp 320 0)),.s (.one (.ol 1002000)),.s (.one (.bp 640 0)),sI,sI,sI,.s (.one (.bp 960 0)),.s (.one (.ol 1002001)),sI,sI,.b (.cell [.d .str,.d iT,.d iT,.d iT,.d iT,.d iT,.d (.list iT),.d ae,.d iT,.d iT] false),.b (.cell [.d iT,.d ae] false),.b (.cell [.d iT,.d iT] false),.b (.lst 41 an false),.b (.lst 99 aV false)],[iT,iT,iT,iT,iT,iT,.str,iT,iT,iT,iT,iT,(.list iT),ae,iT,iT,iT,ae,iT,iT,ak,ae],[⟨.exit 2,[sI,.s (.one (.bp 320 0)),.s (.one (.ol 1502300)),.s (.one (.bp 640 0)),sI,sI,sI,.s (.one (.ol 1502301)),sI,sI,.b (.cell [.d .str,.d iT,.d iT,.d iT,.d iT,.d iT,.d (.list iT),.d ae,.d iT,.d iT] false),.b (.cell [.d iT,.d ae] false),.b (.lst 41 an false),.b (.lst 99 aV false)],[iT,iT,iT,iT,iT,iT,.str,iT,iT,iT,iT,iT,(.list iT),ae,iT,iT,iT,ae,ak,ae]⟩],Pw.jAc (Pw.j1X)⟩]
 modes:=[(153,[false]),(232,[false,false,false]),(306,[false,false,false,false]),(307,[false,false,false])]
 keep:=[(0,⟨[3,5,9,10,11,12,13,30,31,32],[320,640],[⟨1000000,41,an,[.slot 9],false⟩,⟨1000001,99,aV,[.slot 30],false⟩],[]⟩),
  (2,⟨[3,5,9,10,11,12,13,15,30,31,32],[320,640,960],[⟨1002000,41,an,[.slot 9],false⟩,⟨1002001,99,aV,[.slot 30],false⟩],[]⟩)]
 keepX:=[(0,.exit 0,⟨[3,9,11],[],[⟨1500100,41,an,[.slot 9],false⟩],[]⟩),
  (2,.exit 2,⟨[3,5,9,10,11,12,13,30,31,32],[320,640],[⟨1502300,41,an,[.slot 9],false⟩,⟨1502301,99,aV,[.slot 30],false⟩],[]⟩)]
 ro:=[true]
 dw:=[(17,[[],[],[],[],[],[],[],[],[],[],[],[],[],[5376],[5440,1002000],[]])]
theorem jgG:Con.OK Tryz.prog LU:=
 cOf aM aN jhk LU Tryz.func219 (j9 LG (j9 jj5 (j9 jkA (j9 LS trivial)))) (j9 (λh=>by kernel_rfl) (j9 (λh=>by kernel_rfl) trivial))
def LV:Con:=⟨305,[.v cG,.v iT],[cG,iT],⟨[.own 99 ae],[]⟩,[ae],Pw.unc2 Pw.j5v⟩
def jmZ:FnD where
 N:=35
 np:=2
 cs:=[vQ]
 ds:=[⟨0,[sI,.s (.one (.ol 1000000)),.s (.one (.d ay)),sI,sI,.b (.lst 99 aV false)],[iT,ay,iT,iT,ae],[⟨.exit 0,[.s (.one (.ol 1500100)),.b (.lst 99 aV false)],[ae]⟩],Pw.unc5 (Pw.j5c)⟩]
 modes:=[(185,[false])]
 keep:=[(0,⟨[1,5,9,10,11],[],[⟨1000000,99,aV,[.slot 5],false⟩],[]⟩)]
 keepX:=[(0,.exit 0,⟨[5],[],[⟨1500100,99,aV,[.slot 5],false⟩],[]⟩)]
 ro:=[true]
theorem jm9:Con.OK Tryz.prog LV:=
 cOf aM aN jmZ LV Tryz.func305 (j9 Ba trivial) (j9 (λh=>by kernel_rfl) trivial)
def LW:Con:=⟨218,[.v cG,.v ak],[cG,ak],⟨[.own 41 ak],[]⟩,[ak],Pw.unc2 Pw.j6c⟩
def jma:FnD where
 N:=68
 np:=2
 cs:=[DP,LV]
 ds:=[⟨0,[.s (.one (.bp 128 0)),.s (.one (.ol 1000000)),.s (.one (.ol 1000001)),.s (.one (.d ak)),sI,sI,.b (.cell [.d .str,.d cd,.d ay] false),.b (.lst 4294967637 cb false),.b (.lst 41 an false)],[ak,iT,iT,.str,cd,ay,ec,ak],[⟨.exit 0,[.s (.one (.ol 1500100)),.b (.lst 41 an false)],[ak]⟩],Pw.unc8 (Pw.j2z)⟩,
  ⟨2,[.s (.one (.bp 128 0)),.s (.one (.ol 1002000)),.s (.one (.ol 1002001)),.s (.one (.bp 512 0)),.s (.one (.d ak)),sI,sI,.s (.one (.ol 1002002)),sI,sI,.b (.cell [.d .str,.d cd,.d ay] false),.b (.cell [.d iT,.d iT,.d iT] false),.b (.lst 4294967637 cb false),.b (.lst 41 an false),.b (.lst 99 aV false)],[ak,iT,iT,iT,iT,.str,cd,ay,iT,iT,iT,ec,ak,ae],[⟨.exit 2,[.s (.one (.bp 128 0)),.s (.one (.ol 1502300)),.s (.one (.ol 1502301)),.s (.one (.d ak)),sI,sI,.b (.cell [.d .str,.d cd,.d ay] false),.b (.lst 4294967637 cb false),.b (.lst 41 an false)],[ak,iT,iT,.str,cd,ay,ec,ak]⟩],Pw.jmL (Pw.j4H)⟩]
 modes:=[(220,[false,false]),(305,[false,false])]
 keep:=[(0,⟨[2,5,6,14,15,16],[128],[⟨1000000,4294967637,cb,[.slot 5],false⟩,⟨1000001,41,an,[.slot 6],false⟩],[]⟩),
  (2,⟨[2,5,6,8,14,15,16,49,50,51],[128,512],[⟨1002000,4294967637,cb,[.slot 5],false⟩,⟨1002001,41,an,[.slot 6],false⟩,⟨1002002,99,aV,[.slot 49],false⟩],[]⟩)]
 keepX:=[(0,.exit 0,⟨[6],[],[⟨1500100,41,an,[.slot 6],false⟩],[]⟩),
  (2,.exit 2,⟨[2,5,6,14,15,16],[128],[⟨1502300,4294967637,cb,[.slot 5],false⟩,⟨1502301,41,an,[.slot 6],false⟩],[]⟩)]
 ro:=[true]
 dw:=[(9,[[],[],[],[],[],[],[2432],[2432,1000000]])]
theorem jkB:Con.OK Tryz.prog LW:=
 cOf aM aN jma LW Tryz.func218 (j9 LL (j9 jm9 trivial)) (j9 (λh=>by kernel_rfl) (j9 (λh=>by kernel_rfl) trivial))
end Go.Proofs.Pk
