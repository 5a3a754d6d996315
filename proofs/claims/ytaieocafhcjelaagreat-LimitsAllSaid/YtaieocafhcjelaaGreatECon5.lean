/- cJ: each given function is its plain function, printed by a program. -/
import Derived.Test.YtaieocafhcjelaaGreatECon4
noncomputable section
open Go Go.Lft
set_option linter.unusedVariables false
set_option maxRecDepth 100000
namespace Go.Proofs.Pk
def LX:Con:=⟨217,[.v ak,.v ae],[ak,ae],⟨[.own 41 ak],[]⟩,[ak],Pw.unc2 Pw.j89⟩
def jn0:FnD where
 N:=72
 np:=2
 cs:=[]
 ds:=[⟨0,[.s (.one (.d ak)),.s (.one (.d ae)),.s (.one (.ol 1000000)),sI,sI,.b (.lst 41 an false)],[ak,ae,iT,iT,ak],[⟨.exit 0,[.s (.one (.ol 1500100)),.b (.lst 41 an false)],[ak]⟩],Pw.unc5 (Pw.j6I)⟩]
 keep:=[(0,⟨[0,1,5,6,7],[],[⟨1000000,41,an,[.slot 5],false⟩],[]⟩)]
 keepX:=[(0,.exit 0,⟨[5],[],[⟨1500100,41,an,[.slot 5],false⟩],[]⟩)]
 ro:=[true]
 dw:=[(4,[[],[],[],[],[],[],[],[],[],[],[],[],[],[],[],[],[],[],[],[],[],[],[],[],[],[],[],[],[512],[512]])]
theorem jmb:Con.OK Tryz.prog LX:=
 cOf aM aN jn0 LX Tryz.func217 trivial (j9 (λh=>by kernel_rfl) trivial)
def LY:Con:=⟨221,[.v ak],[ak],⟨[.own 99 ae],[]⟩,[ae],λh=>Pw.j8a h⟩
def joQ:FnD where
 N:=23
 np:=1
 cs:=[vQ]
 ds:=[⟨0,[.s (.one (.ol 1000000)),.s (.one (.d ak)),sI,sI,.b (.lst 99 aV false)],[ak,iT,iT,ae],[⟨.exit 0,[.s (.one (.ol 1500100)),.b (.lst 99 aV false)],[ae]⟩],Pw.unc4 (Pw.j5J)⟩]
 modes:=[(185,[false])]
 keep:=[(0,⟨[3,6,7,8],[],[⟨1000000,99,aV,[.slot 3],false⟩],[]⟩)]
 keepX:=[(0,.exit 0,⟨[3],[],[⟨1500100,99,aV,[.slot 3],false⟩],[]⟩)]
 ro:=[true]
theorem jn1:Con.OK Tryz.prog LY:=
 cOf aM aN joQ LY Tryz.func221 (j9 Ba trivial) (j9 (λh=>by kernel_rfl) trivial)
def LZ:Con:=⟨223,[.v an,.v an],[an,an],⟨[.v iT],[]⟩,[iT],Pw.unc2 Pw.j4r⟩
def jgH:FnD where
 N:=10
 np:=2
 cs:=[]
 ds:=[]
 ro:=[false]
theorem jpl:Con.OK Tryz.prog LZ:=
 cOf aM aN jgH LZ Tryz.func223 trivial trivial
def TO:Con:=⟨222,[.rl 41 ak,.clo 223 []],[ak],⟨[],[.rl ak]⟩,[ak],λh=>Pw.j1e h⟩
def j9Z:FnD where
 N:=14
 np:=2
 cs:=[LZ]
 ds:=[]
 modes:=[(223,[false,false])]
theorem j3U:Con.OK Tryz.prog TO:=
 Ke Tryz.sort222 (an) rfl 41 (by kernel_rfl) Tryz.isAgg41 Tryz.sizeOf41 _ 223 (enters_of Tryz.func223 (by kernel_rfl) rfl) jru jrv 222 rfl
def L0:Con:=⟨151,[.v dQ,.v cG,.v iT,.v iT],[dQ,cG,iT,iT],⟨[.own 41 ak],[]⟩,[ak],Pw.unc4 Pw.j3x⟩
def jj7:FnD where
 N:=63
 np:=4
 cs:=[Lz,DP,DQ,LU,LW,LX,LY,TO]
 ds:=[⟨0,[sI,.s (.one (.bp 256 0)),.s (.one (.bp 320 0)),.s (.one (.bp 384 0)),.s (.one (.bp 448 0)),.s (.one (.bp 576 0)),.s (.one (.bp 640 0)),.s (.one (.clo 261 [.p [cd]])),.b (.cell [.d aD,.d aH,.d aG,.d aO,.d ec] false),.b (.cell [.d .str,.d cd,.d ay] false),.b (.cell [.d iT] false),.b (.cell [.d iT] false),.b (.cell [.ol 1000000] false),.b (.cell [.ol 1000001] false),.b (.lst 99 aV false),.b (.lst 41 an false)],[iT,cd,aD,aH,aG,aO,ec,.str,cd,ay,iT,iT,ae,ak],[⟨.normal,[.s (.one (.bp 576 0)),.s (.one (.bp 640 0)),.b (.cell [.ol 1500050] false),.b (.cell [.ol 1500051] false),.b (.lst 99 aV false),.b (.lst 41 an false)],[ae,ak]⟩],Pw.jmL (Pw.j1K)⟩,
  ⟨2,[.s (.one (.bp 640 0)),.s (.one (.ol 1002000)),sI,sI,.b (.cell [.ol 1002001] false),.b (.lst 99 aV false),.b (.lst 41 an false)],[iT,iT,ae,ak],[⟨.exit 2,[.s (.one (.bp 640 0)),.b (.cell [.ol 1502300] false),.b (.lst 41 an false)],[ak]⟩],Pw.unc4 (Pw.j3P)⟩]
 modes:=[(153,[false]),(180,[false]),(217,[false,false]),(218,[false,false]),(219,[false,false,false,false]),(220,[false,false]),(221,[false]),(222,[true,false])]
 keep:=[(0,⟨[4,5,6,7,9,10,25],[256,320,384,448,576,640],[⟨1000000,99,aV,[.cell 576 0],false⟩,⟨1000001,41,an,[.cell 640 0],false⟩],[]⟩),
  (2,⟨[10,44,45,46],[640],[⟨1002000,99,aV,[.slot 44],false⟩,⟨1002001,41,an,[.cell 640 0],false⟩],[]⟩)]
 keepX:=[(0,.normal,⟨[9,10],[576,640],[⟨1500050,99,aV,[.cell 576 0],false⟩,⟨1500051,41,an,[.cell 640 0],false⟩],[]⟩),
  (2,.exit 2,⟨[10],[640],[⟨1502300,41,an,[.cell 640 0],false⟩],[]⟩)]
 ro:=[true]
 dw:=[(7,[[],[],[],[],[],[2112],[2176],[],[2304],[]]),(9,[[],[],[2688],[2752],[576]])]
 bw:=[(261,(false,cw))]
theorem jx5:ItOK Tryz.prog 261 false (cw):=jBh <| jA8 aM Tryz.func261 (fn:=Tryz.f261) (A0:=bwA Tryz.f261 0) (A1:=bwA Tryz.f261 1) (A2:=bwA Tryz.f261 2) (A3:=bwA Tryz.f261 3) (by kernel_rfl) (by kernel_rfl) (by kernel_rfl) (by kernel_rfl) (by kernel_rfl) (by kernel_rfl) (by kernel_rfl) (by kernel_rfl) (by kernel_rfl) (by kernel_rfl) (by kernel_rfl) ⟨(by kernel_rfl),(by kernel_rfl)⟩
 (λxs=>by kernel_rfl) (λi=>by kernel_rfl) (λi=>by kernel_rfl) (λxs i=>by kernel_rfl) (λb i=>by kernel_rfl)
theorem ji8:Con.OK Tryz.prog L0:=
 cOf aM aN jj7 L0 Tryz.func151 (j9 j8A (j9 LL (j9 LS (j9 jgG (j9 jkB (j9 jmb (j9 jn1 (j9 j3U trivial)))))))) (j9 (λh=>by kernel_rfl) (j9 (λh=>by kernel_rfl) trivial)) (j9 jx5 trivial)
def L3:Con:=⟨309,[.v iT],[iT],⟨[.v .bool],[]⟩,[.bool],λh=>Pw.jcv h⟩
def jmc:FnD where
 N:=6
 np:=1
 cs:=[]
 ds:=[]
 ro:=[false]
theorem jkC:Con.OK Tryz.prog L3:=
 cOf aM aN jmc L3 Tryz.func309 trivial trivial
def L4:Con:=⟨224,[.v iT,.v iT],[iT,iT],⟨[.v .bool],[]⟩,[.bool],Pw.unc2 Pw.jdY⟩
def jn2:FnD where
 N:=17
 np:=2
 cs:=[L3]
 ds:=[]
 modes:=[(309,[false])]
 ro:=[false]
theorem jmd:Con.OK Tryz.prog L4:=
 cOf aM aN jn2 L4 Tryz.func224 (j9 jkC trivial) trivial
def L5:Con:=⟨225,[.v iT],[iT],⟨[.v .bool],[]⟩,[.bool],λh=>Pw.j9w h⟩
def jj8:FnD where
 N:=6
 np:=1
 cs:=[]
 ds:=[]
 ro:=[false]
theorem ji9:Con.OK Tryz.prog L5:=
 cOf aM aN jj8 L5 Tryz.func225 trivial trivial
def L6:Con:=⟨152,[.v (.list iT),.v iT],[(.list iT),iT],⟨[.v iT,.v .bool],[]⟩,[iT,.bool],Pw.unc2 Pw.j1F⟩
def jcb:FnD where
 N:=54
 np:=2
 cs:=[L4,L5]
 ds:=[⟨0,[.s (.one (.d (.list iT))),sI,sI,sI,sI],[(.list iT),iT,iT,iT,iT],[⟨.exit 0,[.s (.one (.d (.list iT))),sI,sI,sI],[(.list iT),iT,iT,iT]⟩],Pw.unc5 (Pw.j2E)⟩]
 modes:=[(224,[false,false]),(225,[false])]
 keep:=[(0,⟨[0,1,6,7,8],[],[],[]⟩)]
 keepX:=[(0,.exit 0,⟨[0,1,6,7],[],[],[]⟩)]
 ro:=[false,false]
theorem jbM:Con.OK Tryz.prog L6:=
 cOf aM aN jcb L6 Tryz.func152 (j9 jmd (j9 ji9 trivial)) (j9 (λh=>by kernel_rfl) trivial)
def L7:Con:=⟨101,[.v bd,.v iT],[bd,iT],⟨[.v .bool],[]⟩,[.bool],Pw.unc2 Pw.jhT⟩
def joR:FnD where
 N:=15
 np:=2
 cs:=[]
 ds:=[]
 ro:=[false]
theorem jn3:Con.OK Tryz.prog L7:=
 cOf aM aN joR L7 Tryz.func101 trivial trivial
def L8:Con:=⟨42,[.v ay,.v iT,.v iT],[ay,iT,iT],⟨[.v iT],[]⟩,[iT],Pw.unc3 Pw.jcV⟩
def jrC:FnD where
 N:=51
 np:=3
 cs:=[L7]
 ds:=[⟨0,[sI,sI,.s (.one (.d ay)),sI,sI],[iT,iT,ay,iT,iT],[⟨.exit 0,[sI],[iT]⟩],Pw.unc5 (Pw.j6W)⟩]
 modes:=[(101,[false,false])]
 keep:=[(0,⟨[1,2,9,10,11],[],[],[]⟩)]
 keepX:=[(0,.exit 0,⟨[1],[],[],[]⟩)]
 ro:=[false]
theorem jqt:Con.OK Tryz.prog L8:=
 cOf aM aN jrC L8 Tryz.func42 (j9 jn3 trivial) (j9 (λh=>by kernel_rfl) trivial)
def GD:Con:=⟨76,[.v dQ,.v cG,.v iT,.v iT],[dQ,cG,iT,iT],⟨[.own 41 ak],[]⟩,[ak],Pw.unc4 Pw.j0N⟩
def jjX:FnD where
 N:=88
 np:=4
 cs:=[Gv,DQ,L0,L6,L8]
 ds:=[⟨0,[sI,sI,.s (.one (.bp 256 0)),.s (.one (.bp 320 0)),.s (.one (.ol 1000000)),.s (.one (.d ay)),sI,sI,.b (.cell [.d aD,.d aH,.d aG,.d aO,.d ec] false),.b (.cell [.d .str,.d cd,.d ay] false),.b (.lst 3 iT false)],[iT,iT,ay,iT,iT,aD,aH,aG,aO,ec,.str,cd,ay,(.list iT)],[⟨.exit 0,[sI,sI,.s (.one (.bp 256 0)),.s (.one (.bp 320 0)),.s (.one (.ol 1500100)),.b (.cell [.d aD,.d aH,.d aG,.d aO,.d ec] false),.b (.cell [.d .str,.d cd,.d ay] false),.b (.lst 3 iT false)],[iT,iT,aD,aH,aG,aO,ec,.str,cd,ay,(.list iT)]⟩],Pw.jmL (Pw.j41)⟩,
  ⟨2,[.s (.one (.bp 320 0)),.s (.one (.ol 1002000)),.s (.one (.ol 1002001)),.s (.one (.ol 1002002)),sI,sI,.b (.cell [.d .str,.d cd,.d ay] false),.b (.lst 3 iT false),.b (.lst 41 an false),.b (.lst 41 an false)],[iT,iT,.str,cd,ay,(.list iT),ak,ak],[⟨.exit 2,[.s (.one (.ol 1502300)),.b (.lst 41 an false)],[ak]⟩],Pw.unc8 (Pw.j23)⟩,
  ⟨4,[.s (.one (.bp 320 0)),.s (.one (.ol 1004000)),.s (.one (.ol 1004001)),.s (.one (.bp 960 0)),sI,sI,.s (.one (.ol 1004002)),sI,sI,.b (.cell [.d .str,.d cd,.d ay] false),.b (.cell [.d iT,.d iT,.d iT] false),.b (.lst 3 iT false),.b (.lst 41 an false),.b (.lst 41 an false)],[iT,iT,iT,iT,.str,cd,ay,iT,iT,iT,(.list iT),ak,ak],[⟨.exit 4,[.s (.one (.bp 320 0)),.s (.one (.ol 1504500)),.s (.one (.ol 1504501)),.s (.one (.ol 1504502)),sI,sI,.b (.cell [.d .str,.d cd,.d ay] false),.b (.lst 3 iT false),.b (.lst 41 an false),.b (.lst 41 an false)],[iT,iT,.str,cd,ay,(.list iT),ak,ak]⟩],Pw.jx4 (Pw.j22)⟩]
 modes:=[(42,[false,false,false]),(150,[false,false,false]),(151,[false,false,false,false]),(152,[false,false]),(153,[false])]
 keep:=[(0,⟨[2,3,4,5,9,21,22,23],[256,320],[⟨1000000,3,iT,[.slot 9],false⟩],[]⟩),
  (2,⟨[5,12,13,43,44,45],[320],[⟨1002000,3,iT,[.slot 12],false⟩,⟨1002001,41,an,[.slot 13],false⟩,⟨1002002,41,an,[.slot 43],false⟩],[]⟩),
  (4,⟨[5,12,13,15,16,18,43,44,45],[320,960],[⟨1004000,3,iT,[.slot 12],false⟩,⟨1004001,41,an,[.slot 13],false⟩,⟨1004002,41,an,[.slot 43],false⟩],[]⟩)]
 keepX:=[(0,.exit 0,⟨[2,3,4,5,9],[256,320],[⟨1500100,3,iT,[.slot 9],false⟩],[]⟩),
  (2,.exit 2,⟨[13],[],[⟨1502300,41,an,[.slot 13],false⟩],[]⟩),
  (4,.exit 4,⟨[5,12,13,43,44,45],[320],[⟨1504500,3,iT,[.slot 12],false⟩,⟨1504501,41,an,[.slot 13],false⟩,⟨1504502,41,an,[.slot 43],false⟩],[]⟩)]
 ro:=[true]
theorem TP:Con.OK Tryz.prog GD:=
 cOf aM aN jjX GD Tryz.func76 (j9 TE (j9 LS (j9 ji8 (j9 jbM (j9 jqt trivial))))) (j9 (λh=>by kernel_rfl) (j9 (λh=>by kernel_rfl) (j9 (λh=>by kernel_rfl) trivial)))
def L9:Con:=⟨141,[.v ak,.v iT],[ak,iT],⟨[.own 99 ae],[]⟩,[ae],Pw.unc2 Pw.j6x⟩
def jkD:FnD where
 N:=29
 np:=2
 cs:=[vQ]
 ds:=[⟨0,[sI,.s (.one (.ol 1000000)),.s (.one (.d ak)),sI,sI,.b (.lst 99 aV false)],[iT,ak,iT,iT,ae],[⟨.exit 0,[.s (.one (.ol 1500100)),.b (.lst 99 aV false)],[ae]⟩],Pw.unc5 (Pw.j4k)⟩]
 modes:=[(185,[false])]
 keep:=[(0,⟨[1,5,8,9,10],[],[⟨1000000,99,aV,[.slot 5],false⟩],[]⟩)]
 keepX:=[(0,.exit 0,⟨[5],[],[⟨1500100,99,aV,[.slot 5],false⟩],[]⟩)]
 ro:=[true]
theorem jjY:Con.OK Tryz.prog L9:=
 cOf aM aN jkD L9 Tryz.func141 (j9 Ba trivial) (j9 (λh=>by kernel_rfl) trivial)
def GF:Con:=⟨113,[.v dQ,.v iT,.v iT,.v iT],[dQ,iT,iT,iT],⟨[.own 99 ae,.v iT],[]⟩,[ae,iT],Pw.unc4 Pw.j5k⟩
def jme:FnD where
 N:=43
 np:=4
 cs:=[vQ,GD,L9]
 ds:=[⟨0,[sI,sI,sI,.s (.one (.bp 256 0)),.s (.one (.ol 1000000)),.s (.one (.d aO)),sI,sI,.b (.cell [.d aD,.d aH,.d aG,.d aO,.d ec] false),.b (.lst 99 aV false)],[iT,iT,iT,aO,iT,iT,aD,aH,aG,aO,ec,ae],[⟨.ret,[.s (.one (.nil)),sI],[iT]⟩,⟨.exit 0,[.s (.one (.ol 1500100)),.b (.lst 99 aV false)],[ae]⟩],Pw.jtI (Pw.j2A)⟩]
 modes:=[(76,[false,false,false,false]),(141,[false,false]),(185,[false])]
 keep:=[(0,⟨[1,2,3,4,10,17,18,19],[256],[⟨1000000,99,aV,[.slot 10],false⟩],[]⟩)]
 keepX:=[(0,.ret,⟨[8,9],[],[],[]⟩),
  (0,.exit 0,⟨[10],[],[⟨1500100,99,aV,[.slot 10],false⟩],[]⟩)]
 ro:=[true,false]
theorem TQ:Con.OK Tryz.prog GF:=
 cOf aM aN jme GF Tryz.func113 (j9 Ba (j9 TP (j9 jjY trivial))) (j9 (λh=>by kernel_rfl) trivial)
def Ma:Con:=⟨88,[.v ak,.v ak,.v iT,.v iT],[ak,ak,iT,iT],⟨[.own 70 ay],[]⟩,[ay],Pw.unc4 Pw.j5K⟩
def jjZ:FnD where
 N:=93
 np:=4
 cs:=[]
 ds:=[⟨0,[.s (.one (.d ak)),.s (.one (.d ak)),sI,sI,.s (.one (.ol 1000000)),sI,sI,.b (.lst 70 bd false)],[ak,ak,iT,iT,iT,iT,ay],[⟨.exit 0,[.s (.one (.ol 1500100)),.b (.lst 70 bd false)],[ay]⟩],Pw.unc7 (Pw.j44)⟩]
 keep:=[(0,⟨[0,1,2,3,9,10,11],[],[⟨1000000,70,bd,[.slot 9],false⟩],[]⟩)]
 keepX:=[(0,.exit 0,⟨[9],[],[⟨1500100,70,bd,[.slot 9],false⟩],[]⟩)]
 ro:=[true]
theorem jj9:Con.OK Tryz.prog Ma:=
 cOf aM aN jjZ Ma Tryz.func88 trivial (j9 (λh=>by kernel_rfl) trivial)
def GG:Con:=⟨90,[.v bd,.v bd],[bd,bd],⟨[.v iT],[]⟩,[iT],Pw.unc2 Pw.j3G⟩
def jgI:FnD where
 N:=10
 np:=2
 cs:=[]
 ds:=[]
 ro:=[false]
theorem TR:Con.OK Tryz.prog GG:=
 cOf aM aN jgI GG Tryz.func90 trivial trivial
def Mb:Con:=⟨235,[.rl 70 ay,.v iT,.v iT,.clo 90 []],[ay,iT,iT],⟨[],[.rl ay]⟩,[ay],Pw.unc3 Pw.j0p⟩
def j8n:FnD where
 N:=53
 np:=4
 cs:=[GG]
 ds:=[⟨0,[.s (.one (.ol 0)),sI,sI,.s (.one (.clo 90 [])),sI,.b (.lst 70 bd false)],[iT,iT,iT,ay],[⟨.exit 0,[.b (.lst 70 bd false)],[ay]⟩],Pw.unc4 (Pw.j0e)⟩,
  ⟨2,[.s (.one (.ol 0)),sI,sI,.s (.one (.clo 90 [])),sI,sI,.b (.lst 70 bd false)],[iT,iT,iT,iT,ay],[⟨.exit 2,[.s (.one (.ol 0)),sI,sI,.s (.one (.clo 90 [])),sI,.b (.lst 70 bd false)],[iT,iT,iT,ay]⟩],Pw.unc5 (Pw.j13)⟩]
 modes:=[(90,[false,false])]
 keep:=[(0,⟨[0,1,2,3,8],[0],[],[]⟩),
  (2,⟨[0,1,2,3,8,9],[0],[],[]⟩)]
 keepX:=[(0,.exit 0,⟨[],[0],[],[]⟩),
  (2,.exit 2,⟨[0,1,2,3,8],[0],[],[]⟩)]
 dw:=[(6,[[],[],[],[],[],[],[],[],[],[],[],[],[],[],[],[0],[],[0]])]
theorem j7U:Con.OK Tryz.prog Mb:=
 cOf aM aN j8n Mb Tryz.func235 (j9 TR trivial) (j9 (λh=>by kernel_rfl) (j9 (λh=>by kernel_rfl) trivial))
def Mc:Con:=⟨365,[.rl 70 ay,.v iT,.v iT,.v iT,.clo 90 []],[ay,iT,iT,iT],⟨[],[.rl ay]⟩,[ay],Pw.unc4 Pw.j0r⟩
def j9I:FnD where
 N:=38
 np:=5
 cs:=[]
 ds:=[⟨0,[.s (.one (.ol 0)),sI,sI,sI,sI,.b (.lst 70 bd false)],[iT,iT,iT,iT,ay],[⟨.exit 0,[.b (.lst 70 bd false)],[ay]⟩],Pw.unc5 (Pw.j1k)⟩]
 keep:=[(0,⟨[0,1,2,3,10],[0],[],[]⟩)]
 keepX:=[(0,.exit 0,⟨[],[0],[],[]⟩)]
 dw:=[(3,[[],[],[],[],[],[],[],[],[],[],[],[],[],[],[],[],[],[],[],[],[],[0],[],[0]])]
theorem j9n:Con.OK Tryz.prog Mc:=
 cOf aM aN j9I Mc Tryz.func365 trivial (j9 (λh=>by kernel_rfl) trivial)
def Md:Con:=⟨318,[.rl 70 ay,.v iT,.v iT,.v iT,.clo 90 []],[ay,iT,iT,iT],⟨[],[.rl ay]⟩,[ay],Pw.unc4 Pw.j0R⟩
def jaE:FnD where
 N:=58
 np:=5
 cs:=[Mc]
 ds:=[⟨0,[.s (.one (.ol 0)),sI,.s (.one (.clo 90 [])),sI,sI,.b (.lst 70 bd false)],[iT,iT,iT,ay],[⟨.exit 0,[.s (.one (.ol 0)),sI,.s (.one (.clo 90 [])),sI,.b (.lst 70 bd false)],[iT,iT,ay]⟩],Pw.unc4 (Pw.j0K)⟩]
 modes:=[(365,[true,false,false,false,false])]
 keep:=[(0,⟨[0,2,4,10,11],[0],[],[]⟩)]
 keepX:=[(0,.exit 0,⟨[0,2,4,10],[0],[],[]⟩)]
theorem jam:Con.OK Tryz.prog Md:=
 cOf aM aN jaE Md Tryz.func318 (j9 j9n trivial) (j9 (λh=>by kernel_rfl) trivial)
def TS:Con:=⟨236,[.rl 70 ay,.v iT,.v iT,.v iT,.clo 90 []],[ay,iT,iT,iT],⟨[],[.rl ay]⟩,[ay],λh=>Pw.j1i h.1 h.2.1 h.2.2.1 h.2.2.2⟩
def GH(g:HL [ay,iT,iT,iT]->Option (HL [ay])):Con:=⟨236,[.rl 70 ay,.v iT,.v iT,.v iT,.clo 90 []],[ay,iT,iT,iT],⟨[],[.rl ay]⟩,[ay],g⟩
def j9V(g:HL [ay,iT,iT,iT]->Option (HL [ay])):FnD where
 N:=220
 np:=5
 cs:=[GH g,GG,Md]
 ds:=[⟨0,[.s (.one (.ol 0)),sI,.s (.one (.clo 90 [])),sI,sI,.b (.lst 70 bd false)],[iT,iT,iT,ay],[⟨.exit 0,[.s (.one (.ol 0)),sI,sI,.b (.lst 70 bd false)],[iT,iT,ay]⟩],Pw.unc4 (Pw.j1m (λv0 v1 v2 v3=>g (v0,v1,v2,v3)))⟩,
  ⟨2,[.s (.one (.ol 0)),sI,sI,.b (.lst 70 bd false)],[iT,iT,ay],[⟨.exit 2,[.b (.lst 70 bd false)],[ay]⟩],Pw.unc3 (Pw.j1n (λv0 v1 v2 v3=>g (v0,v1,v2,v3)))⟩,
  ⟨4,[.s (.one (.ol 0)),sI,.s (.one (.clo 90 [])),sI,sI,.b (.lst 70 bd false)],[iT,iT,iT,ay],[⟨.exit 4,[.s (.one (.ol 0)),sI,sI,.b (.lst 70 bd false)],[iT,iT,ay]⟩],Pw.unc4 (Pw.j1o (λv0 v1 v2 v3=>g (v0,v1,v2,v3)))⟩,
  ⟨6,[.s (.one (.ol 0)),sI,sI,.b (.lst 70 bd false)],[iT,iT,ay],[⟨.exit 6,[.b (.lst 70 bd false)],[ay]⟩],Pw.unc3 (Pw.j1p (λv0 v1 v2 v3=>g (v0,v1,v2,v3)))⟩,
  ⟨8,[.s (.one (.ol 0)),sI,sI,sI,.s (.one (.clo 90 [])),sI,sI,sI,sI,sI,.b (.lst 70 bd false)],[iT,iT,iT,iT,iT,iT,iT,iT,ay],[⟨.exit 8,[.s (.one (.ol 0)),sI,sI,sI,.s (.one (.clo 90 [])),sI,sI,sI,.b (.lst 70 bd false)],[iT,iT,iT,iT,iT,iT,ay]⟩],Pw.unc9 (Pw.j1q (λv0 v1 v2 v3=>g (v0,v1,v2,v3)))⟩]
 modes:=[(90,[false,false]),(236,[true,false,false,false,false]),(318,[true,false,false,false,false])]
 keep:=[(0,⟨[0,1,4,10,11],[0],[],[]⟩),
  (2,⟨[0,10,13],[0],[],[]⟩),
  (4,⟨[0,2,4,14,15],[0],[],[]⟩),
  (6,⟨[0,14,17],[0],[],[]⟩),
  (8,⟨[0,1,2,3,4,18,19,20,21,22],[0],[],[]⟩)]
 keepX:=[(0,.exit 0,⟨[0,1,10],[0],[],[]⟩),
  (2,.exit 2,⟨[],[0],[],[]⟩),
  (4,.exit 4,⟨[0,2,14],[0],[],[]⟩),
  (6,.exit 6,⟨[],[0],[],[]⟩),
  (8,.exit 8,⟨[0,1,2,3,4,18,19,20],[0],[],[]⟩)]
 dw:=[(11,[[],[],[],[],[],[],[],[],[],[],[],[],[],[],[],[0],[],[0]]),(23,[[],[],[],[],[],[],[],[],[],[],[],[],[],[],[],[0],[],[0]])]
theorem j96(g:HL [ay,iT,iT,iT]->Option (HL [ay]))(hg:Con.OK Tryz.prog (GH g)):Con.OK Tryz.prog (GH (Pw.j0i g)):=
 cOf aM aN (j9V g) (GH (Pw.j0i g)) Tryz.func236 (j9 hg (j9 TR (j9 jam trivial))) (j9 (λh=>by kernel_rfl) (j9 (λh=>by kernel_rfl) (j9 (λh=>by kernel_rfl) (j9 (λh=>by kernel_rfl) (j9 (λh=>by kernel_rfl) trivial)))))
theorem j9J:Con.OK Tryz.prog TS:=jA4 (f:=236) (ps:=[.rl 70 ay,.v iT,.v iT,.v iT,.clo 90 []]) (ts:=[ay,iT,iT,iT]) (rp:=⟨[],[.rl ay]⟩) (rs:=[ay]) (B:=Pw.j0i) j96
end Go.Proofs.Pk
