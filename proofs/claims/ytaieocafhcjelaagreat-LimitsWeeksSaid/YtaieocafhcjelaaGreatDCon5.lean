/- cI: each given function is its plain function, printed by a program. -/
import Derived.Test.YtaieocafhcjelaaGreatDCon4
noncomputable section
open Go Go.Lft
set_option linter.unusedVariables false
set_option maxRecDepth 100000
namespace Go.Proofs.Pk
def LK:Con:=⟨217,[.v aq,.v aa],[aq,aa],⟨[.own 41 aq],[]⟩,[aq],Pw.unc2 Pw.j86⟩
def jmV:FnD where
 N:=72
 np:=2
 cs:=[]
 ds:=[⟨0,[.s (.one (.d aq)),.s (.one (.d aa)),.s (.one (.ol 1000000)),sI,sI,.b (.lst 41 ay false)],[aq,aa,iT,iT,aq],[⟨.exit 0,[.s (.one (.ol 1500100)),.b (.lst 41 ay false)],[aq]⟩],Pw.unc5 (Pw.j6F)⟩]
 keep:=[(0,⟨[0,1,5,6,7],[],[⟨1000000,41,ay,[.slot 5],false⟩],[]⟩)]
 keepX:=[(0,.exit 0,⟨[5],[],[⟨1500100,41,ay,[.slot 5],false⟩],[]⟩)]
 ro:=[true]
 dw:=[(4,[[],[],[],[],[],[],[],[],[],[],[],[],[],[],[],[],[],[],[],[],[],[],[],[],[],[],[],[],[512],[512]])]
theorem jm4:Con.OK Tryz.prog LK:=
 cOf aJ aL jmV LK Tryz.func217 trivial (j9 (λh=>by kernel_rfl) trivial)
def LL:Con:=⟨221,[.v aq],[aq],⟨[.own 99 aa],[]⟩,[aa],λh=>Pw.j87 h⟩
def joK:FnD where
 N:=23
 np:=1
 cs:=[vJ]
 ds:=[⟨0,[.s (.one (.ol 1000000)),.s (.one (.d aq)),sI,sI,.b (.lst 99 aQ false)],[aq,iT,iT,aa],[⟨.exit 0,[.s (.one (.ol 1500100)),.b (.lst 99 aQ false)],[aa]⟩],Pw.unc4 (Pw.j5L)⟩]
 modes:=[(185,[false])]
 keep:=[(0,⟨[3,6,7,8],[],[⟨1000000,99,aQ,[.slot 3],false⟩],[]⟩)]
 keepX:=[(0,.exit 0,⟨[3],[],[⟨1500100,99,aQ,[.slot 3],false⟩],[]⟩)]
 ro:=[true]
theorem jmW:Con.OK Tryz.prog LL:=
 cOf aJ aL joK LL Tryz.func221 (j9 AR trivial) (j9 (λh=>by kernel_rfl) trivial)
def LM:Con:=⟨223,[.v ay,.v ay],[ay,ay],⟨[.v iT],[]⟩,[iT],Pw.unc2 Pw.j4q⟩
def jgz:FnD where
 N:=10
 np:=2
 cs:=[]
 ds:=[]
 ro:=[false]
theorem jpb:Con.OK Tryz.prog LM:=
 cOf aJ aL jgz LM Tryz.func223 trivial trivial
def Tz:Con:=⟨222,[.rl 41 aq,.clo 223 []],[aq],⟨[],[.rl aq]⟩,[aq],λh=>Pw.j1b h⟩
def j9V:FnD where
 N:=14
 np:=2
 cs:=[LM]
 ds:=[]
 modes:=[(223,[false,false])]
theorem j3U:Con.OK Tryz.prog Tz:=
 J6 Tryz.sort222 (ay) rfl 41 (by kernel_rfl) Tryz.isAgg41 Tryz.sizeOf41 _ 223 (enters_of Tryz.func223 (by kernel_rfl) rfl) jrk jrl 222 rfl
def LN:Con:=⟨151,[.v dN,.v cF,.v iT,.v iT],[dN,cF,iT,iT],⟨[.own 41 aq],[]⟩,[aq],Pw.unc4 Pw.j3w⟩
def jj2:FnD where
 N:=63
 np:=4
 cs:=[Lp,DD,DE,LH,LJ,LK,LL,Tz]
 ds:=[⟨0,[sI,.s (.one (.bp 256 0)),.s (.one (.bp 320 0)),.s (.one (.bp 384 0)),.s (.one (.bp 448 0)),.s (.one (.bp 576 0)),.s (.one (.bp 640 0)),.s (.one (.clo 261 [.p [ca]])),.b (.cell [.d aG,.d aP,.d aO,.d aV,.d ea] false),.b (.cell [.d .str,.d ca,.d au] false),.b (.cell [.d iT] false),.b (.cell [.d iT] false),.b (.cell [.ol 1000000] false),.b (.cell [.ol 1000001] false),.b (.lst 99 aQ false),.b (.lst 41 ay false)],[iT,ca,aG,aP,aO,aV,ea,.str,ca,au,iT,iT,aa,aq],[⟨.normal,[.s (.one (.bp 576 0)),.s (.one (.bp 640 0)),.b (.cell [.ol 1500050] false),.b (.cell [.ol 1500051] false),.b (.lst 99 aQ false),.b (.lst 41 ay false)],[aa,aq]⟩],Pw.jmG (Pw.j1I)⟩,
  ⟨2,[.s (.one (.bp 640 0)),.s (.one (.ol 1002000)),sI,sI,.b (.cell [.ol 1002001] false),.b (.lst 99 aQ false),.b (.lst 41 ay false)],[iT,iT,aa,aq],[⟨.exit 2,[.s (.one (.bp 640 0)),.b (.cell [.ol 1502300] false),.b (.lst 41 ay false)],[aq]⟩],Pw.unc4 (Pw.j3P)⟩]
 modes:=[(153,[false]),(180,[false]),(217,[false,false]),(218,[false,false]),(219,[false,false,false,false]),(220,[false,false]),(221,[false]),(222,[true,false])]
 keep:=[(0,⟨[4,5,6,7,9,10,25],[256,320,384,448,576,640],[⟨1000000,99,aQ,[.cell 576 0],false⟩,⟨1000001,41,ay,[.cell 640 0],false⟩],[]⟩),
  (2,⟨[10,44,45,46],[640],[⟨1002000,99,aQ,[.slot 44],false⟩,⟨1002001,41,ay,[.cell 640 0],false⟩],[]⟩)]
 keepX:=[(0,.normal,⟨[9,10],[576,640],[⟨1500050,99,aQ,[.cell 576 0],false⟩,⟨1500051,41,ay,[.cell 640 0],false⟩],[]⟩),
  (2,.exit 2,⟨[10],[640],[⟨1502300,41,ay,[.cell 640 0],false⟩],[]⟩)]
 ro:=[true]
 dw:=[(7,[[],[],[],[],[],[2112],[2176],[],[2304],[]]),(9,[[],[],[2688],[2752],[576]])]
 bw:=[(261,(false,cu))]
theorem jwU:ItOK Tryz.prog 261 false (cu):=Z4 <| jzS aJ Tryz.func261 (fn:=Tryz.f261) (A0:=bwA Tryz.f261 0) (A1:=bwA Tryz.f261 1) (A2:=bwA Tryz.f261 2) (A3:=bwA Tryz.f261 3) (by kernel_rfl) (by kernel_rfl) (by kernel_rfl) (by kernel_rfl) (by kernel_rfl) (by kernel_rfl) (by kernel_rfl) (by kernel_rfl) (by kernel_rfl) (by kernel_rfl) (by kernel_rfl) ⟨(by kernel_rfl),(by kernel_rfl)⟩
 (λxs=>by kernel_rfl) (λi=>by kernel_rfl) (λi=>by kernel_rfl) (λxs i=>by kernel_rfl) (λb i=>by kernel_rfl)
theorem ji1:Con.OK Tryz.prog LN:=
 cOf aJ aL jj2 LN Tryz.func151 (j9 j8v (j9 LA (j9 LG (j9 jgy (j9 jkt (j9 jm4 (j9 jmW (j9 j3U trivial)))))))) (j9 (λh=>by kernel_rfl) (j9 (λh=>by kernel_rfl) trivial)) (j9 jwU trivial)
def LO:Con:=⟨309,[.v iT],[iT],⟨[.v .bool],[]⟩,[.bool],λh=>Pw.jcq h⟩
def jm5:FnD where
 N:=6
 np:=1
 cs:=[]
 ds:=[]
 ro:=[false]
theorem jku:Con.OK Tryz.prog LO:=
 cOf aJ aL jm5 LO Tryz.func309 trivial trivial
def LQ:Con:=⟨224,[.v iT,.v iT],[iT,iT],⟨[.v .bool],[]⟩,[.bool],Pw.unc2 Pw.jdQ⟩
def jmX:FnD where
 N:=17
 np:=2
 cs:=[LO]
 ds:=[]
 modes:=[(309,[false])]
 ro:=[false]
theorem jm6:Con.OK Tryz.prog LQ:=
 cOf aJ aL jmX LQ Tryz.func224 (j9 jku trivial) trivial
def LS:Con:=⟨225,[.v iT],[iT],⟨[.v .bool],[]⟩,[.bool],λh=>Pw.j9r h⟩
def jj3:FnD where
 N:=6
 np:=1
 cs:=[]
 ds:=[]
 ro:=[false]
theorem ji2:Con.OK Tryz.prog LS:=
 cOf aJ aL jj3 LS Tryz.func225 trivial trivial
def LU:Con:=⟨152,[.v (.list iT),.v iT],[(.list iT),iT],⟨[.v iT,.v .bool],[]⟩,[iT,.bool],Pw.unc2 Pw.j1D⟩
def jc5:FnD where
 N:=54
 np:=2
 cs:=[LQ,LS]
 ds:=[⟨0,[.s (.one (.d (.list iT))),sI,sI,sI,sI],[(.list iT),iT,iT,iT,iT],[⟨.exit 0,[.s (.one (.d (.list iT))),sI,sI,sI],[(.list iT),iT,iT,iT]⟩],Pw.unc5 (Pw.j2C)⟩]
 modes:=[(224,[false,false]),(225,[false])]
 keep:=[(0,⟨[0,1,6,7,8],[],[],[]⟩)]
 keepX:=[(0,.exit 0,⟨[0,1,6,7],[],[],[]⟩)]
 ro:=[false,false]
theorem jbF:Con.OK Tryz.prog LU:=
 cOf aJ aL jc5 LU Tryz.func152 (j9 jm6 (j9 ji2 trivial)) (j9 (λh=>by kernel_rfl) trivial)
def LV:Con:=⟨101,[.v bd,.v iT],[bd,iT],⟨[.v .bool],[]⟩,[.bool],Pw.unc2 Pw.jhM⟩
def joL:FnD where
 N:=15
 np:=2
 cs:=[]
 ds:=[]
 ro:=[false]
theorem jmY:Con.OK Tryz.prog LV:=
 cOf aJ aL joL LV Tryz.func101 trivial trivial
def LW:Con:=⟨42,[.v au,.v iT,.v iT],[au,iT,iT],⟨[.v iT],[]⟩,[iT],Pw.unc3 Pw.jcQ⟩
def jrs:FnD where
 N:=51
 np:=3
 cs:=[LV]
 ds:=[⟨0,[sI,sI,.s (.one (.d au)),sI,sI],[iT,iT,au,iT,iT],[⟨.exit 0,[sI],[iT]⟩],Pw.unc5 (Pw.j6T)⟩]
 modes:=[(101,[false,false])]
 keep:=[(0,⟨[1,2,9,10,11],[],[],[]⟩)]
 keepX:=[(0,.exit 0,⟨[1],[],[],[]⟩)]
 ro:=[false]
theorem jqj:Con.OK Tryz.prog LW:=
 cOf aJ aL jrs LW Tryz.func42 (j9 jmY trivial) (j9 (λh=>by kernel_rfl) trivial)
def Gt:Con:=⟨76,[.v dN,.v cF,.v iT,.v iT],[dN,cF,iT,iT],⟨[.own 41 aq],[]⟩,[aq],Pw.unc4 Pw.j35⟩
def jjQ:FnD where
 N:=88
 np:=4
 cs:=[Gk,DE,LN,LU,LW]
 ds:=[⟨0,[sI,sI,.s (.one (.bp 256 0)),.s (.one (.bp 320 0)),.s (.one (.ol 1000000)),.s (.one (.d au)),sI,sI,.b (.cell [.d aG,.d aP,.d aO,.d aV,.d ea] false),.b (.cell [.d .str,.d ca,.d au] false),.b (.lst 3 iT false)],[iT,iT,au,iT,iT,aG,aP,aO,aV,ea,.str,ca,au,(.list iT)],[⟨.exit 0,[sI,sI,.s (.one (.bp 256 0)),.s (.one (.bp 320 0)),.s (.one (.ol 1500100)),.b (.cell [.d aG,.d aP,.d aO,.d aV,.d ea] false),.b (.cell [.d .str,.d ca,.d au] false),.b (.lst 3 iT false)],[iT,iT,aG,aP,aO,aV,ea,.str,ca,au,(.list iT)]⟩],Pw.jmG (Pw.j41)⟩,
  ⟨2,[.s (.one (.bp 320 0)),.s (.one (.ol 1002000)),.s (.one (.ol 1002001)),.s (.one (.ol 1002002)),sI,sI,.b (.cell [.d .str,.d ca,.d au] false),.b (.lst 3 iT false),.b (.lst 41 ay false),.b (.lst 41 ay false)],[iT,iT,.str,ca,au,(.list iT),aq,aq],[⟨.exit 2,[.s (.one (.ol 1502300)),.b (.lst 41 ay false)],[aq]⟩],Pw.unc8 (Pw.j21)⟩,
  ⟨4,[.s (.one (.bp 320 0)),.s (.one (.ol 1004000)),.s (.one (.ol 1004001)),.s (.one (.bp 960 0)),sI,sI,.s (.one (.ol 1004002)),sI,sI,.b (.cell [.d .str,.d ca,.d au] false),.b (.cell [.d iT,.d iT,.d iT] false),.b (.lst 3 iT false),.b (.lst 41 ay false),.b (.lst 41 ay false)],[iT,iT,iT,iT,.str,ca,au,iT,iT,iT,(.list iT),aq,aq],[⟨.exit 4,[.s (.one (.bp 320 0)),.s (.one (.ol 1504500)),.s (.one (.ol 1504501)),.s (.one (.ol 1504502)),sI,sI,.b (.cell [.d .str,.d ca,.d au] false),.b (.lst 3 iT false),.b (.lst 41 ay false),.b (.lst 41 ay false)],[iT,iT,.str,ca,au,(.list iT),aq,aq]⟩],Pw.jwT (Pw.j20)⟩]
 modes:=[(42,[false,false,false]),(150,[false,false,false]),(151,[false,false,false,false]),(152,[false,false]),(153,[false])]
 keep:=[(0,⟨[2,3,4,5,9,21,22,23],[256,320],[⟨1000000,3,iT,[.slot 9],false⟩],[]⟩),
  (2,⟨[5,12,13,43,44,45],[320],[⟨1002000,3,iT,[.slot 12],false⟩,⟨1002001,41,ay,[.slot 13],false⟩,⟨1002002,41,ay,[.slot 43],false⟩],[]⟩),
  (4,⟨[5,12,13,15,16,18,43,44,45],[320,960],[⟨1004000,3,iT,[.slot 12],false⟩,⟨1004001,41,ay,[.slot 13],false⟩,⟨1004002,41,ay,[.slot 43],false⟩],[]⟩)]
 keepX:=[(0,.exit 0,⟨[2,3,4,5,9],[256,320],[⟨1500100,3,iT,[.slot 9],false⟩],[]⟩),
  (2,.exit 2,⟨[13],[],[⟨1502300,41,ay,[.slot 13],false⟩],[]⟩),
  (4,.exit 4,⟨[5,12,13,43,44,45],[320],[⟨1504500,3,iT,[.slot 12],false⟩,⟨1504501,41,ay,[.slot 13],false⟩,⟨1504502,41,ay,[.slot 43],false⟩],[]⟩)]
 ro:=[true]
theorem TA:Con.OK Tryz.prog Gt:=
 cOf aJ aL jjQ Gt Tryz.func76 (j9 To (j9 LG (j9 ji1 (j9 jbF (j9 jqj trivial))))) (j9 (λh=>by kernel_rfl) (j9 (λh=>by kernel_rfl) (j9 (λh=>by kernel_rfl) trivial)))
def LX:Con:=⟨141,[.v aq,.v iT],[aq,iT],⟨[.own 99 aa],[]⟩,[aa],Pw.unc2 Pw.j6u⟩
def jkv:FnD where
 N:=29
 np:=2
 cs:=[vJ]
 ds:=[⟨0,[sI,.s (.one (.ol 1000000)),.s (.one (.d aq)),sI,sI,.b (.lst 99 aQ false)],[iT,aq,iT,iT,aa],[⟨.exit 0,[.s (.one (.ol 1500100)),.b (.lst 99 aQ false)],[aa]⟩],Pw.unc5 (Pw.j4j)⟩]
 modes:=[(185,[false])]
 keep:=[(0,⟨[1,5,8,9,10],[],[⟨1000000,99,aQ,[.slot 5],false⟩],[]⟩)]
 keepX:=[(0,.exit 0,⟨[5],[],[⟨1500100,99,aQ,[.slot 5],false⟩],[]⟩)]
 ro:=[true]
theorem jjR:Con.OK Tryz.prog LX:=
 cOf aJ aL jkv LX Tryz.func141 (j9 AR trivial) (j9 (λh=>by kernel_rfl) trivial)
def Gu:Con:=⟨113,[.v dN,.v iT,.v iT,.v iT],[dN,iT,iT,iT],⟨[.own 99 aa,.v iT],[]⟩,[aa,iT],Pw.unc4 Pw.j4B⟩
def jm7:FnD where
 N:=43
 np:=4
 cs:=[vJ,Gt,LX]
 ds:=[⟨0,[sI,sI,sI,.s (.one (.bp 256 0)),.s (.one (.ol 1000000)),.s (.one (.d aV)),sI,sI,.b (.cell [.d aG,.d aP,.d aO,.d aV,.d ea] false),.b (.lst 99 aQ false)],[iT,iT,iT,aV,iT,iT,aG,aP,aO,aV,ea,aa],[⟨.ret,[.s (.one (.nil)),sI],[iT]⟩,⟨.exit 0,[.s (.one (.ol 1500100)),.b (.lst 99 aQ false)],[aa]⟩],Pw.jtx (Pw.j2x)⟩]
 modes:=[(76,[false,false,false,false]),(141,[false,false]),(185,[false])]
 keep:=[(0,⟨[1,2,3,4,10,17,18,19],[256],[⟨1000000,99,aQ,[.slot 10],false⟩],[]⟩)]
 keepX:=[(0,.ret,⟨[8,9],[],[],[]⟩),
  (0,.exit 0,⟨[10],[],[⟨1500100,99,aQ,[.slot 10],false⟩],[]⟩)]
 ro:=[true,false]
theorem TB:Con.OK Tryz.prog Gu:=
 cOf aJ aL jm7 Gu Tryz.func113 (j9 AR (j9 TA (j9 jjR trivial))) (j9 (λh=>by kernel_rfl) trivial)
def LY:Con:=⟨88,[.v aq,.v aq,.v iT,.v iT],[aq,aq,iT,iT],⟨[.own 70 au],[]⟩,[au],Pw.unc4 Pw.j5M⟩
def jjS:FnD where
 N:=93
 np:=4
 cs:=[]
 ds:=[⟨0,[.s (.one (.d aq)),.s (.one (.d aq)),sI,sI,.s (.one (.ol 1000000)),sI,sI,.b (.lst 70 bd false)],[aq,aq,iT,iT,iT,iT,au],[⟨.exit 0,[.s (.one (.ol 1500100)),.b (.lst 70 bd false)],[au]⟩],Pw.unc7 (Pw.j44)⟩]
 keep:=[(0,⟨[0,1,2,3,9,10,11],[],[⟨1000000,70,bd,[.slot 9],false⟩],[]⟩)]
 keepX:=[(0,.exit 0,⟨[9],[],[⟨1500100,70,bd,[.slot 9],false⟩],[]⟩)]
 ro:=[true]
theorem jj4:Con.OK Tryz.prog LY:=
 cOf aJ aL jjS LY Tryz.func88 trivial (j9 (λh=>by kernel_rfl) trivial)
def Gv:Con:=⟨90,[.v bd,.v bd],[bd,bd],⟨[.v iT],[]⟩,[iT],Pw.unc2 Pw.j3G⟩
def jgA:FnD where
 N:=10
 np:=2
 cs:=[]
 ds:=[]
 ro:=[false]
theorem TC:Con.OK Tryz.prog Gv:=
 cOf aJ aL jgA Gv Tryz.func90 trivial trivial
def LZ:Con:=⟨235,[.rl 70 au,.v iT,.v iT,.clo 90 []],[au,iT,iT],⟨[],[.rl au]⟩,[au],Pw.unc3 Pw.j0p⟩
def j8j:FnD where
 N:=53
 np:=4
 cs:=[Gv]
 ds:=[⟨0,[.s (.one (.ol 0)),sI,sI,.s (.one (.clo 90 [])),sI,.b (.lst 70 bd false)],[iT,iT,iT,au],[⟨.exit 0,[.b (.lst 70 bd false)],[au]⟩],Pw.unc4 (Pw.j0e)⟩,
  ⟨2,[.s (.one (.ol 0)),sI,sI,.s (.one (.clo 90 [])),sI,sI,.b (.lst 70 bd false)],[iT,iT,iT,iT,au],[⟨.exit 2,[.s (.one (.ol 0)),sI,sI,.s (.one (.clo 90 [])),sI,.b (.lst 70 bd false)],[iT,iT,iT,au]⟩],Pw.unc5 (Pw.j12)⟩]
 modes:=[(90,[false,false])]
 keep:=[(0,⟨[0,1,2,3,8],[0],[],[]⟩),
  (2,⟨[0,1,2,3,8,9],[0],[],[]⟩)]
 keepX:=[(0,.exit 0,⟨[],[0],[],[]⟩),
  (2,.exit 2,⟨[0,1,2,3,8],[0],[],[]⟩)]
 dw:=[(6,[[],[],[],[],[],[],[],[],[],[],[],[],[],[],[],[0],[],[0]])]
theorem j7R:Con.OK Tryz.prog LZ:=
 cOf aJ aL j8j LZ Tryz.func235 (j9 TC trivial) (j9 (λh=>by kernel_rfl) (j9 (λh=>by kernel_rfl) trivial))
def L0:Con:=⟨365,[.rl 70 au,.v iT,.v iT,.v iT,.clo 90 []],[au,iT,iT,iT],⟨[],[.rl au]⟩,[au],Pw.unc4 Pw.j0r⟩
def j9D:FnD where
 N:=38
 np:=5
 cs:=[]
 ds:=[⟨0,[.s (.one (.ol 0)),sI,sI,sI,sI,.b (.lst 70 bd false)],[iT,iT,iT,iT,au],[⟨.exit 0,[.b (.lst 70 bd false)],[au]⟩],Pw.unc5 (Pw.j1h)⟩]
 keep:=[(0,⟨[0,1,2,3,10],[0],[],[]⟩)]
 keepX:=[(0,.exit 0,⟨[],[0],[],[]⟩)]
 dw:=[(3,[[],[],[],[],[],[],[],[],[],[],[],[],[],[],[],[],[],[],[],[],[],[0],[],[0]])]
theorem j9i:Con.OK Tryz.prog L0:=
 cOf aJ aL j9D L0 Tryz.func365 trivial (j9 (λh=>by kernel_rfl) trivial)
def L3:Con:=⟨318,[.rl 70 au,.v iT,.v iT,.v iT,.clo 90 []],[au,iT,iT,iT],⟨[],[.rl au]⟩,[au],Pw.unc4 Pw.j0Q⟩
def jaA:FnD where
 N:=58
 np:=5
 cs:=[L0]
 ds:=[⟨0,[.s (.one (.ol 0)),sI,.s (.one (.clo 90 [])),sI,sI,.b (.lst 70 bd false)],[iT,iT,iT,au],[⟨.exit 0,[.s (.one (.ol 0)),sI,.s (.one (.clo 90 [])),sI,.b (.lst 70 bd false)],[iT,iT,au]⟩],Pw.unc4 (Pw.j0K)⟩]
 modes:=[(365,[true,false,false,false,false])]
 keep:=[(0,⟨[0,2,4,10,11],[0],[],[]⟩)]
 keepX:=[(0,.exit 0,⟨[0,2,4,10],[0],[],[]⟩)]
theorem jai:Con.OK Tryz.prog L3:=
 cOf aJ aL jaA L3 Tryz.func318 (j9 j9i trivial) (j9 (λh=>by kernel_rfl) trivial)
def TD:Con:=⟨236,[.rl 70 au,.v iT,.v iT,.v iT,.clo 90 []],[au,iT,iT,iT],⟨[],[.rl au]⟩,[au],λh=>Pw.j1f h.1 h.2.1 h.2.2.1 h.2.2.2⟩
def Gw(g:HL [au,iT,iT,iT]->Option (HL [au])):Con:=⟨236,[.rl 70 au,.v iT,.v iT,.v iT,.clo 90 []],[au,iT,iT,iT],⟨[],[.rl au]⟩,[au],g⟩
def j9R(g:HL [au,iT,iT,iT]->Option (HL [au])):FnD where
 N:=220
 np:=5
 cs:=[Gw g,Gv,L3]
 ds:=[⟨0,[.s (.one (.ol 0)),sI,.s (.one (.clo 90 [])),sI,sI,.b (.lst 70 bd false)],[iT,iT,iT,au],[⟨.exit 0,[.s (.one (.ol 0)),sI,sI,.b (.lst 70 bd false)],[iT,iT,au]⟩],Pw.unc4 (Pw.j1j (λv0 v1 v2 v3=>g (v0,v1,v2,v3)))⟩,
  ⟨2,[.s (.one (.ol 0)),sI,sI,.b (.lst 70 bd false)],[iT,iT,au],[⟨.exit 2,[.b (.lst 70 bd false)],[au]⟩],Pw.unc3 (Pw.j1k (λv0 v1 v2 v3=>g (v0,v1,v2,v3)))⟩,
  ⟨4,[.s (.one (.ol 0)),sI,.s (.one (.clo 90 [])),sI,sI,.b (.lst 70 bd false)],[iT,iT,iT,au],[⟨.exit 4,[.s (.one (.ol 0)),sI,sI,.b (.lst 70 bd false)],[iT,iT,au]⟩],Pw.unc4 (Pw.j1l (λv0 v1 v2 v3=>g (v0,v1,v2,v3)))⟩,
  ⟨6,[.s (.one (.ol 0)),sI,sI,.b (.lst 70 bd false)],[iT,iT,au],[⟨.exit 6,[.b (.lst 70 bd false)],[au]⟩],Pw.unc3 (Pw.j1m (λv0 v1 v2 v3=>g (v0,v1,v2,v3)))⟩,
  ⟨8,[.s (.one (.ol 0)),sI,sI,sI,.s (.one (.clo 90 [])),sI,sI,sI,sI,sI,.b (.lst 70 bd false)],[iT,iT,iT,iT,iT,iT,iT,iT,au],[⟨.exit 8,[.s (.one (.ol 0)),sI,sI,sI,.s (.one (.clo 90 [])),sI,sI,sI,.b (.lst 70 bd false)],[iT,iT,iT,iT,iT,iT,au]⟩],Pw.unc9 (Pw.j1n (λv0 v1 v2 v3=>g (v0,v1,v2,v3)))⟩]
 modes:=[(90,[false,false]),(236,[true,false,false,false,false]),(318,[true,false,false,false,false])]
 keep:=[(0,⟨[0,1,4,10,11],[0],[],[]⟩),
  (2,⟨[0,10,13],[0],[],[]⟩),
  (4,⟨[0,2,4,14,15],[0],[],[]⟩),
  (6,⟨[0,14,17],[0],[],[]⟩),
  (8,⟨[0,1,2,3,4,18,19,20,21,22],[0],[],[]⟩)]
 keepX:=[(0,.exit 0,⟨[0,1,10],[0],[],[]⟩),
  (2,.exit 2,⟨[],[0],[],[]⟩),
  (4,.exit 4,⟨[0,2,14],[0],[],[]⟩),
  (6,.exit 6,⟨[],[0],[],[]⟩),
  (8,.exit 8,⟨[0,1,2,3,4,18,19,20],[0],[],[]⟩)]
 dw:=[(11,[[],[],[],[],[],[],[],[],[],[],[],[],[],[],[],[0],[],[0]]),(23,[[],[],[],[],[],[],[],[],[],[],[],[],[],[],[],[0],[],[0]])]
theorem j93(g:HL [au,iT,iT,iT]->Option (HL [au]))(hg:Con.OK Tryz.prog (Gw g)):Con.OK Tryz.prog (Gw (Pw.j0i g)):=
 cOf aJ aL (j9R g) (Gw (Pw.j0i g)) Tryz.func236 (j9 hg (j9 TC (j9 jai trivial))) (j9 (λh=>by kernel_rfl) (j9 (λh=>by kernel_rfl) (j9 (λh=>by kernel_rfl) (j9 (λh=>by kernel_rfl) (j9 (λh=>by kernel_rfl) trivial)))))
theorem j9E:Con.OK Tryz.prog TD:=jzO (f:=236) (ps:=[.rl 70 au,.v iT,.v iT,.v iT,.clo 90 []]) (ts:=[au,iT,iT,iT]) (rp:=⟨[],[.rl au]⟩) (rs:=[au]) (B:=Pw.j0i) j93
end Go.Proofs.Pk
