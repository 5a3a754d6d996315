/- bZ: each given function is its plain function, printed by a program. -/
import Derived.Test.YtaieocafhcjelaaGreatCCon4
noncomputable section
open Go Go.Lft
set_option linter.unusedVariables false
set_option maxRecDepth 100000
namespace Go.Proofs.Pk
def LV:Con:=⟨184,[.v cb,.v iT],[cb,iT],⟨[.v aQ],[]⟩,[aQ],Pw.unc2 Pw.j1C⟩
def jl4:FnD where
 N:=11
 np:=2
 cs:=[LS,LU]
 ds:=[]
 modes:=[(264,[false]),(265,[false,false])]
 ro:=[false]
theorem jjH:Con.OK Tryz.prog LV:=
 cOf aD aF jl4 LV Tryz.func184 (j9 jiK (j9 jr5 trivial)) trivial
def LW:Con:=⟨307,[.v cb,.v bI,.v iT],[cb,bI,iT],⟨[.v iT],[]⟩,[iT],Pw.unc3 Pw.j3a⟩
def jok:FnD where
 N:=84
 np:=3
 cs:=[Gq,Aj,LV]
 ds:=[⟨0,[sI,.s (.one (.bp 192 0)),.s (.one (.bp 256 0)),sI,.b (.cell [.d iT,.d aa] false),.b (.cell [.d .str,.d iT,.d iT,.d iT,.d iT,.d iT,.d (.list iT),.d aa,.d iT,.d iT] false)],[iT,iT,iT,aa,.str,iT,iT,iT,iT,iT,(.list iT),aa,iT,iT],[⟨.exit 0,[sI,.s (.one (.bp 192 0)),.s (.one (.bp 256 0)),sI,.b (.cell [.d iT,.d aa] false),.b (.cell [.d .str,.d iT,.d iT,.d iT,.d iT,.d iT,.d (.list iT),.d aa,.d iT,.d iT] false)],[iT,iT,iT,aa,.str,iT,iT,iT,iT,iT,(.list iT),aa,iT,iT]⟩],Pw.jmH (Pw.j2d)⟩,
  ⟨2,[sI,.s (.one (.bp 192 0)),.s (.one (.bp 256 0)),sI,.b (.cell [.d iT,.d aa] false),.b (.cell [.d .str,.d iT,.d iT,.d iT,.d iT,.d iT,.d (.list iT),.d aa,.d iT,.d iT] false)],[iT,iT,iT,aa,.str,iT,iT,iT,iT,iT,(.list iT),aa,iT,iT],[⟨.ret,[sI],[iT]⟩],Pw.jmH (Pw.j2P)⟩]
 modes:=[(184,[false,false]),(232,[false,false,false]),(316,[false])]
 keep:=[(0,⟨[2,3,4,9],[192,256],[],[]⟩),
  (2,⟨[2,3,4,9],[192,256],[],[]⟩)]
 keepX:=[(0,.exit 0,⟨[2,3,4,9],[192,256],[],[]⟩),
  (2,.ret,⟨[6],[],[],[]⟩)]
 ro:=[false]
theorem jmM:Con.OK Tryz.prog LW:=
 cOf aD aF jok LW Tryz.func307 (j9 Uo (j9 Gu (j9 jjH trivial))) (j9 (λh=>by kernel_rfl) (j9 (λh=>by kernel_rfl) trivial))
def DD:Con:=⟨153,[.v aG],[aG],⟨[.own 41 aG],[]⟩,[aG],λh=>Pw.j7H h⟩
def jsR:FnD where
 N:=57
 np:=1
 cs:=[]
 ds:=[⟨0,[.s (.one (.ol 1000000)),.s (.one (.d aG)),sI,sI,.b (.lst 41 aL false)],[aG,iT,iT,aG],[⟨.exit 0,[.s (.one (.ol 1500100)),.b (.lst 41 aL false)],[aG]⟩],Pw.unc4 (Pw.j5V)⟩]
 keep:=[(0,⟨[3,7,8,9],[],[⟨1000000,41,aL,[.slot 3],false⟩],[]⟩)]
 keepX:=[(0,.exit 0,⟨[3],[],[⟨1500100,41,aL,[.slot 3],false⟩],[]⟩)]
 ro:=[true]
theorem LX:Con.OK Tryz.prog DD:=
 cOf aD aF jsR DD Tryz.func153 trivial (j9 (λh=>by kernel_rfl) trivial)
def LY:Con:=⟨219,[.v dz,.v bI,.v iT,.v iT],[dz,bI,iT,iT],⟨[.own 41 aG],[]⟩,[aG],Pw.unc4 Pw.j1E⟩
def jiL:FnD where
 N:=95
 np:=4
 cs:=[Aj,LQ,LW,DD]
 ds:=[⟨0,[sI,.s (.one (.bp 320 0)),.s (.one (.ol 1000000)),.s (.one (.bp 640 0)),sI,sI,sI,.s (.one (.ol 1000001)),sI,sI,.b (.cell [.d .str,.d iT,.d iT,.d iT,.d iT,.d iT,.d (.list iT),.d aa,.d iT,.d iT] false),.b (.cell [.d iT,.d aa] false),.b (.lst 41 aL false),.b (.lst 99 aQ false)],[iT,iT,iT,iT,iT,iT,.str,iT,iT,iT,iT,iT,(.list iT),aa,iT,iT,iT,aa,aG,aa],[⟨.exit 0,[sI,.s (.one (.ol 1500100)),sI,.b (.lst 41 aL false)],[iT,iT,aG]⟩],Pw.jDn (Pw.j1a)⟩,
  ⟨2,[sI,.s (.one (.bp 320 0)),.s (.one (.ol 1002000)),.s (.one (.bp 640 0)),sI,sI,sI,.s (.one (.bp 960 0)),.s (.one (.ol 1002001)),sI,sI,.b (.cell [.d .str,.d iT,.d iT,.d iT,.d iT,.d iT,.d (.list iT),.d aa,.d iT,.d iT] false),.b (.cell [.d iT,.d aa] false),.b (.cell [.d iT,.d iT] false),.b (.lst 41 aL false),.b (.lst 99 aQ false)],[iT,iT,iT,iT,iT,iT,.str,iT,iT,iT,iT,iT,(.list iT),aa,iT,iT,iT,aa,iT,iT,aG,aa],[⟨.exit 2,[sI,.s (.one (.bp 320 0)),.s (.one (.ol 1502300)),.s (.one (.bp 640 0)),sI,sI,sI,.s (.one (.ol 1502301)),sI,sI,.b (.cell [.d .str,.d iT,.d iT,.d iT,.d iT,.d iT,.d (.list iT),.d aa,.d iT,.d iT] false),.b (.cell [.d iT,.d aa] false),.b (.lst 41 aL false),.b (.lst 99 aQ false)],[iT,iT,iT,iT,iT,iT,.str,iT,iT,iT,iT,iT,(.list iT),aa,iT,iT,iT,aa,aG,aa]⟩],Pw.jDo (Pw.j1y)⟩]
 modes:=[(153,[false]),(232,[false,false,false]),(306,[false,false,false,false]),(307,[false,false,false])]
 keep:=[(0,⟨[3,5,9,10,11,12,13,30,31,32],[320,640],[⟨1000000,41,aL,[.slot 9],false⟩,⟨1000001,99,aQ,[.slot 30],false⟩],[]⟩),
  (2,⟨[3,5,9,10,11,12,13,15,30,31,32],[320,640,960],[⟨1002000,41,aL,[.slot 9],false⟩,⟨1002001,99,aQ,[.slot 30],false⟩],[]⟩)]
 keepX:=[(0,.exit 0,⟨[3,9,11],[],[⟨1500100,41,aL,[.slot 9],false⟩],[]⟩),
  (2,.exit 2,⟨[3,5,9,10,11,12,13,30,31,32],[320,640],[⟨1502300,41,aL,[.slot 9],false⟩,⟨1502301,99,aQ,[.slot 30],false⟩],[]⟩)]
 ro:=[true]
 dw:=[(17,[[],[],[],[],[],[],[],[],[],[],[],[],[],[5376],[5440,1002000],[]])]
theorem jhT:Con.OK Tryz.prog LY:=
 cOf aD aF jiL LY Tryz.func219 (j9 Gu (j9 jl3 (j9 jmM (j9 LX trivial)))) (j9 (λh=>by kernel_rfl) (j9 (λh=>by kernel_rfl) trivial))
def LZ:Con:=⟨305,[.v cq,.v iT],[cq,iT],⟨[.own 99 aa],[]⟩,[aa],Pw.unc2 Pw.j5h⟩
def jpc:FnD where
 N:=35
 np:=2
 cs:=[xM]
 ds:=[⟨0,[sI,.s (.one (.ol 1000000)),.s (.one (.d au)),sI,sI,.b (.lst 99 aQ false)],[iT,au,iT,iT,aa],[⟨.exit 0,[.s (.one (.ol 1500100)),.b (.lst 99 aQ false)],[aa]⟩],Pw.unc5 (Pw.j51)⟩]
 modes:=[(185,[false])]
 keep:=[(0,⟨[1,5,9,10,11],[],[⟨1000000,99,aQ,[.slot 5],false⟩],[]⟩)]
 keepX:=[(0,.exit 0,⟨[5],[],[⟨1500100,99,aQ,[.slot 5],false⟩],[]⟩)]
 ro:=[true]
theorem jol:Con.OK Tryz.prog LZ:=
 cOf aD aF jpc LZ Tryz.func305 (j9 DB trivial) (j9 (λh=>by kernel_rfl) trivial)
def L0:Con:=⟨218,[.v cq,.v aG],[cq,aG],⟨[.own 41 aG],[]⟩,[aG],Pw.unc2 Pw.j5X⟩
def jom:FnD where
 N:=68
 np:=2
 cs:=[DC,LZ]
 ds:=[⟨0,[.s (.one (.bp 128 0)),.s (.one (.ol 1000000)),.s (.one (.ol 1000001)),.s (.one (.d aG)),sI,sI,.b (.cell [.d .str,.d bn,.d au] false),.b (.lst 4294967637 cb false),.b (.lst 41 aL false)],[aG,iT,iT,.str,bn,au,cu,aG],[⟨.exit 0,[.s (.one (.ol 1500100)),.b (.lst 41 aL false)],[aG]⟩],Pw.unc8 (Pw.j2e)⟩,
  ⟨2,[.s (.one (.bp 128 0)),.s (.one (.ol 1002000)),.s (.one (.ol 1002001)),.s (.one (.bp 512 0)),.s (.one (.d aG)),sI,sI,.s (.one (.ol 1002002)),sI,sI,.b (.cell [.d .str,.d bn,.d au] false),.b (.cell [.d iT,.d iT,.d iT] false),.b (.lst 4294967637 cb false),.b (.lst 41 aL false),.b (.lst 99 aQ false)],[aG,iT,iT,iT,iT,.str,bn,au,iT,iT,iT,cu,aG,aa],[⟨.exit 2,[.s (.one (.bp 128 0)),.s (.one (.ol 1502300)),.s (.one (.ol 1502301)),.s (.one (.d aG)),sI,sI,.b (.cell [.d .str,.d bn,.d au] false),.b (.lst 4294967637 cb false),.b (.lst 41 aL false)],[aG,iT,iT,.str,bn,au,cu,aG]⟩],Pw.jmH (Pw.j4t)⟩]
 modes:=[(220,[false,false]),(305,[false,false])]
 keep:=[(0,⟨[2,5,6,14,15,16],[128],[⟨1000000,4294967637,cb,[.slot 5],false⟩,⟨1000001,41,aL,[.slot 6],false⟩],[]⟩),
  (2,⟨[2,5,6,8,14,15,16,49,50,51],[128,512],[⟨1002000,4294967637,cb,[.slot 5],false⟩,⟨1002001,41,aL,[.slot 6],false⟩,⟨1002002,99,aQ,[.slot 49],false⟩],[]⟩)]
 keepX:=[(0,.exit 0,⟨[6],[],[⟨1500100,41,aL,[.slot 6],false⟩],[]⟩),
  (2,.exit 2,⟨[2,5,6,14,15,16],[128],[⟨1502300,4294967637,cb,[.slot 5],false⟩,⟨1502301,41,aL,[.slot 6],false⟩],[]⟩)]
 ro:=[true]
 dw:=[(9,[[],[],[],[],[],[],[2432],[2432,1000000]])]
theorem jmN:Con.OK Tryz.prog L0:=
 cOf aD aF jom L0 Tryz.func218 (j9 LN (j9 jol trivial)) (j9 (λh=>by kernel_rfl) (j9 (λh=>by kernel_rfl) trivial))
def L3:Con:=⟨217,[.v aG,.v aa],[aG,aa],⟨[.own 41 aG],[]⟩,[aG],Pw.unc2 Pw.j86⟩
def jpd:FnD where
 N:=72
 np:=2
 cs:=[]
 ds:=[⟨0,[.s (.one (.d aG)),.s (.one (.d aa)),.s (.one (.ol 1000000)),sI,sI,.b (.lst 41 aL false)],[aG,aa,iT,iT,aG],[⟨.exit 0,[.s (.one (.ol 1500100)),.b (.lst 41 aL false)],[aG]⟩],Pw.unc5 (Pw.j6u)⟩]
 keep:=[(0,⟨[0,1,5,6,7],[],[⟨1000000,41,aL,[.slot 5],false⟩],[]⟩)]
 keepX:=[(0,.exit 0,⟨[5],[],[⟨1500100,41,aL,[.slot 5],false⟩],[]⟩)]
 ro:=[true]
 dw:=[(4,[[],[],[],[],[],[],[],[],[],[],[],[],[],[],[],[],[],[],[],[],[],[],[],[],[],[],[],[],[512],[512]])]
theorem jon:Con.OK Tryz.prog L3:=
 cOf aD aF jpd L3 Tryz.func217 trivial (j9 (λh=>by kernel_rfl) trivial)
def L4:Con:=⟨221,[.v aG],[aG],⟨[.own 99 aa],[]⟩,[aa],λh=>Pw.j87 h⟩
def jr6:FnD where
 N:=23
 np:=1
 cs:=[xM]
 ds:=[⟨0,[.s (.one (.ol 1000000)),.s (.one (.d aG)),sI,sI,.b (.lst 99 aQ false)],[aG,iT,iT,aa],[⟨.exit 0,[.s (.one (.ol 1500100)),.b (.lst 99 aQ false)],[aa]⟩],Pw.unc4 (Pw.j5t)⟩]
 modes:=[(185,[false])]
 keep:=[(0,⟨[3,6,7,8],[],[⟨1000000,99,aQ,[.slot 3],false⟩],[]⟩)]
 keepX:=[(0,.exit 0,⟨[3],[],[⟨1500100,99,aQ,[.slot 3],false⟩],[]⟩)]
 ro:=[true]
theorem jpe:Con.OK Tryz.prog L4:=
 cOf aD aF jr6 L4 Tryz.func221 (j9 DB trivial) (j9 (λh=>by kernel_rfl) trivial)
def L5:Con:=⟨223,[.v aL,.v aL],[aL,aL],⟨[.v iT],[]⟩,[iT],Pw.unc2 Pw.j4d⟩
def jhU:FnD where
 N:=10
 np:=2
 cs:=[]
 ds:=[]
 ro:=[false]
theorem jrF:Con.OK Tryz.prog L5:=
 cOf aD aF jhU L5 Tryz.func223 trivial trivial
def Uz:Con:=⟨222,[.rl 41 aG,.clo 223 []],[aG],⟨[],[.rl aG]⟩,[aG],λh=>Pw.j0P h⟩
def ja2:FnD where
 N:=14
 np:=2
 cs:=[L5]
 ds:=[]
 modes:=[(223,[false,false])]
theorem j3E:Con.OK Tryz.prog Uz:=
 Se Tryz.sort222 (aL) rfl 41 (by kernel_rfl) Tryz.isAgg41 Tryz.sizeOf41 _ 223 (enters_of Tryz.func223 (by kernel_rfl) rfl) juc jud 222 rfl
def L6:Con:=⟨151,[.v dz,.v cq,.v iT,.v iT],[dz,cq,iT,iT],⟨[.own 41 aG],[]⟩,[aG],Pw.unc4 Pw.j3c⟩
def jl5:FnD where
 N:=63
 np:=4
 cs:=[LH,DC,DD,LY,L0,L3,L4,Uz]
 ds:=[⟨0,[sI,.s (.one (.bp 256 0)),.s (.one (.bp 320 0)),.s (.one (.bp 384 0)),.s (.one (.bp 448 0)),.s (.one (.bp 576 0)),.s (.one (.bp 640 0)),.s (.one (.clo 261 [.p [bn]])),.b (.cell [.d ar,.d ax,.d aw,.d az,.d cu] false),.b (.cell [.d .str,.d bn,.d au] false),.b (.cell [.d iT] false),.b (.cell [.d iT] false),.b (.cell [.ol 1000000] false),.b (.cell [.ol 1000001] false),.b (.lst 99 aQ false),.b (.lst 41 aL false)],[iT,bn,ar,ax,aw,az,cu,.str,bn,au,iT,iT,aa,aG],[⟨.normal,[.s (.one (.bp 576 0)),.s (.one (.bp 640 0)),.b (.cell [.ol 1500050] false),.b (.cell [.ol 1500051] false),.b (.lst 99 aQ false),.b (.lst 41 aL false)],[aa,aG]⟩],Pw.jmH (Pw.j1n)⟩,
  ⟨2,[.s (.one (.bp 640 0)),.s (.one (.ol 1002000)),sI,sI,.b (.cell [.ol 1002001] false),.b (.lst 99 aQ false),.b (.lst 41 aL false)],[iT,iT,aa,aG],[⟨.exit 2,[.s (.one (.bp 640 0)),.b (.cell [.ol 1502300] false),.b (.lst 41 aL false)],[aG]⟩],Pw.unc4 (Pw.j3s)⟩]
 modes:=[(153,[false]),(180,[false]),(217,[false,false]),(218,[false,false]),(219,[false,false,false,false]),(220,[false,false]),(221,[false]),(222,[true,false])]
 keep:=[(0,⟨[4,5,6,7,9,10,25],[256,320,384,448,576,640],[⟨1000000,99,aQ,[.cell 576 0],false⟩,⟨1000001,41,aL,[.cell 640 0],false⟩],[]⟩),
  (2,⟨[10,44,45,46],[640],[⟨1002000,99,aQ,[.slot 44],false⟩,⟨1002001,41,aL,[.cell 640 0],false⟩],[]⟩)]
 keepX:=[(0,.normal,⟨[9,10],[576,640],[⟨1500050,99,aQ,[.cell 576 0],false⟩,⟨1500051,41,aL,[.cell 640 0],false⟩],[]⟩),
  (2,.exit 2,⟨[10],[640],[⟨1502300,41,aL,[.cell 640 0],false⟩],[]⟩)]
 ro:=[true]
 dw:=[(7,[[],[],[],[],[],[2112],[2176],[],[2304],[]]),(9,[[],[],[2688],[2752],[576]])]
 bw:=[(261,(false,bI))]
theorem jAq:ItOK Tryz.prog 261 false (bI):=jEy <| jDk aD Tryz.func261 (fn:=Tryz.f261) (A0:=bwA Tryz.f261 0) (A1:=bwA Tryz.f261 1) (A2:=bwA Tryz.f261 2) (A3:=bwA Tryz.f261 3) (by kernel_rfl) (by kernel_rfl) (by kernel_rfl) (by kernel_rfl) (by kernel_rfl) (by kernel_rfl) (by kernel_rfl) (by kernel_rfl) (by kernel_rfl) (by kernel_rfl) (by kernel_rfl) ⟨(by kernel_rfl),(by kernel_rfl)⟩
 (λxs=>by kernel_rfl) (λi=>by kernel_rfl) (λi=>by kernel_rfl) (λxs i=>by kernel_rfl) (λb i=>by kernel_rfl)
theorem jjI:Con.OK Tryz.prog L6:=
 cOf aD aF jl5 L6 Tryz.func151 (j9 j8F (j9 LN (j9 LX (j9 jhT (j9 jmN (j9 jon (j9 jpe (j9 j3E trivial)))))))) (j9 (λh=>by kernel_rfl) (j9 (λh=>by kernel_rfl) trivial)) (j9 jAq trivial)
def L7:Con:=⟨309,[.v iT],[iT],⟨[.v .bool],[]⟩,[.bool],λh=>Pw.jcS h⟩
def joo:FnD where
 N:=6
 np:=1
 cs:=[]
 ds:=[]
 ro:=[false]
theorem jmO:Con.OK Tryz.prog L7:=
 cOf aD aF joo L7 Tryz.func309 trivial trivial
def L8:Con:=⟨224,[.v iT,.v iT],[iT,iT],⟨[.v .bool],[]⟩,[.bool],Pw.unc2 Pw.jeD⟩
def jpf:FnD where
 N:=17
 np:=2
 cs:=[L7]
 ds:=[]
 modes:=[(309,[false])]
 ro:=[false]
theorem jop:Con.OK Tryz.prog L8:=
 cOf aD aF jpf L8 Tryz.func224 (j9 jmO trivial) trivial
def L9:Con:=⟨225,[.v iT],[iT],⟨[.v .bool],[]⟩,[.bool],λh=>Pw.j9v h⟩
def jl6:FnD where
 N:=6
 np:=1
 cs:=[]
 ds:=[]
 ro:=[false]
theorem jjJ:Con.OK Tryz.prog L9:=
 cOf aD aF jl6 L9 Tryz.func225 trivial trivial
def Ma:Con:=⟨152,[.v (.list iT),.v iT],[(.list iT),iT],⟨[.v iT,.v .bool],[]⟩,[iT,.bool],Pw.unc2 Pw.j1g⟩
def jcx:FnD where
 N:=54
 np:=2
 cs:=[L8,L9]
 ds:=[⟨0,[.s (.one (.d (.list iT))),sI,sI,sI,sI],[(.list iT),iT,iT,iT,iT],[⟨.exit 0,[.s (.one (.d (.list iT))),sI,sI,sI],[(.list iT),iT,iT,iT]⟩],Pw.unc5 (Pw.j2j)⟩]
 modes:=[(224,[false,false]),(225,[false])]
 keep:=[(0,⟨[0,1,6,7,8],[],[],[]⟩)]
 keepX:=[(0,.exit 0,⟨[0,1,6,7],[],[],[]⟩)]
 ro:=[false,false]
theorem jc5:Con.OK Tryz.prog Ma:=
 cOf aD aF jcx Ma Tryz.func152 (j9 jop (j9 jjJ trivial)) (j9 (λh=>by kernel_rfl) trivial)
def Mb:Con:=⟨101,[.v aV,.v iT],[aV,iT],⟨[.v .bool],[]⟩,[.bool],Pw.unc2 Pw.jjt⟩
def jr7:FnD where
 N:=15
 np:=2
 cs:=[]
 ds:=[]
 ro:=[false]
theorem jpg:Con.OK Tryz.prog Mb:=
 cOf aD aF jr7 Mb Tryz.func101 trivial trivial
def Mc:Con:=⟨42,[.v au,.v iT,.v iT],[au,iT,iT],⟨[.v iT],[]⟩,[iT],Pw.unc3 Pw.jdo⟩
def jui:FnD where
 N:=51
 np:=3
 cs:=[Mb]
 ds:=[⟨0,[sI,sI,.s (.one (.d au)),sI,sI],[iT,iT,au,iT,iT],[⟨.exit 0,[sI],[iT]⟩],Pw.unc5 (Pw.j6K)⟩]
 modes:=[(101,[false,false])]
 keep:=[(0,⟨[1,2,9,10,11],[],[],[]⟩)]
 keepX:=[(0,.exit 0,⟨[1],[],[],[]⟩)]
 ro:=[false]
theorem jsS:Con.OK Tryz.prog Mc:=
 cOf aD aF jui Mc Tryz.func42 (j9 jpg trivial) (j9 (λh=>by kernel_rfl) trivial)
def DE:Con:=⟨76,[.v dz,.v cq,.v iT,.v iT],[dz,cq,iT,iT],⟨[.own 41 aG],[]⟩,[aG],Pw.unc4 Pw.j2S⟩
def jm2:FnD where
 N:=88
 np:=4
 cs:=[LG,DD,L6,Ma,Mc]
 ds:=[⟨0,[sI,sI,.s (.one (.bp 256 0)),.s (.one (.bp 320 0)),.s (.one (.ol 1000000)),.s (.one (.d au)),sI,sI,.b (.cell [.d ar,.d ax,.d aw,.d az,.d cu] false),.b (.cell [.d .str,.d bn,.d au] false),.b (.lst 3 iT false)],[iT,iT,au,iT,iT,ar,ax,aw,az,cu,.str,bn,au,(.list iT)],[⟨.exit 0,[sI,sI,.s (.one (.bp 256 0)),.s (.one (.bp 320 0)),.s (.one (.ol 1500100)),.b (.cell [.d ar,.d ax,.d aw,.d az,.d cu] false),.b (.cell [.d .str,.d bn,.d au] false),.b (.lst 3 iT false)],[iT,iT,ar,ax,aw,az,cu,.str,bn,au,(.list iT)]⟩],Pw.jmH (Pw.j3L)⟩,
  ⟨2,[.s (.one (.bp 320 0)),.s (.one (.ol 1002000)),.s (.one (.ol 1002001)),.s (.one (.ol 1002002)),sI,sI,.b (.cell [.d .str,.d bn,.d au] false),.b (.lst 3 iT false),.b (.lst 41 aL false),.b (.lst 41 aL false)],[iT,iT,.str,bn,au,(.list iT),aG,aG],[⟨.exit 2,[.s (.one (.ol 1502300)),.b (.lst 41 aL false)],[aG]⟩],Pw.unc8 (Pw.j1G)⟩,
  ⟨4,[.s (.one (.bp 320 0)),.s (.one (.ol 1004000)),.s (.one (.ol 1004001)),.s (.one (.bp 960 0)),sI,sI,.s (.one (.ol 1004002)),sI,sI,.b (.cell [.d .str,.d bn,.d au] false),.b (.cell [.d iT,.d iT,.d iT] false),.b (.lst 3 iT false),.b (.lst 41 aL false),.b (.lst 41 aL false)],[iT,iT,iT,iT,.str,bn,au,iT,iT,iT,(.list iT),aG,aG],[⟨.exit 4,[.s (.one (.bp 320 0)),.s (.one (.ol 1504500)),.s (.one (.ol 1504501)),.s (.one (.ol 1504502)),sI,sI,.b (.cell [.d .str,.d bn,.d au] false),.b (.lst 3 iT false),.b (.lst 41 aL false),.b (.lst 41 aL false)],[iT,iT,.str,bn,au,(.list iT),aG,aG]⟩],Pw.jsx (Pw.j1F)⟩]
 modes:=[(42,[false,false,false]),(150,[false,false,false]),(151,[false,false,false,false]),(152,[false,false]),(153,[false])]
 keep:=[(0,⟨[2,3,4,5,9,21,22,23],[256,320],[⟨1000000,3,iT,[.slot 9],false⟩],[]⟩),
  (2,⟨[5,12,13,43,44,45],[320],[⟨1002000,3,iT,[.slot 12],false⟩,⟨1002001,41,aL,[.slot 13],false⟩,⟨1002002,41,aL,[.slot 43],false⟩],[]⟩),
  (4,⟨[5,12,13,15,16,18,43,44,45],[320,960],[⟨1004000,3,iT,[.slot 12],false⟩,⟨1004001,41,aL,[.slot 13],false⟩,⟨1004002,41,aL,[.slot 43],false⟩],[]⟩)]
 keepX:=[(0,.exit 0,⟨[2,3,4,5,9],[256,320],[⟨1500100,3,iT,[.slot 9],false⟩],[]⟩),
  (2,.exit 2,⟨[13],[],[⟨1502300,41,aL,[.slot 13],false⟩],[]⟩),
  (4,.exit 4,⟨[5,12,13,43,44,45],[320],[⟨1504500,3,iT,[.slot 12],false⟩,⟨1504501,41,aL,[.slot 13],false⟩,⟨1504502,41,aL,[.slot 43],false⟩],[]⟩)]
 ro:=[true]
theorem Md:Con.OK Tryz.prog DE:=
 cOf aD aF jm2 DE Tryz.func76 (j9 jsO (j9 LX (j9 jjI (j9 jc5 (j9 jsS trivial))))) (j9 (λh=>by kernel_rfl) (j9 (λh=>by kernel_rfl) (j9 (λh=>by kernel_rfl) trivial)))
def Me:Con:=⟨159,[.v dz,.v cq,.v iT,.v iT],[dz,cq,iT,iT],⟨[.v iT,.v .bool],[]⟩,[iT,.bool],Pw.unc4 Pw.jbL⟩
def jph:FnD where
 N:=37
 np:=4
 cs:=[DE]
 ds:=[⟨0,[sI,sI,.s (.one (.bp 256 0)),.s (.one (.bp 320 0)),.b (.cell [.d ar,.d ax,.d aw,.d az,.d cu] false),.b (.cell [.d .str,.d bn,.d au] false)],[iT,iT,ar,ax,aw,az,cu,.str,bn,au],[⟨.ret,[sI,.s (.one (.d .bool))],[iT,.bool]⟩,⟨.exit 0,[],[]⟩],Pw.jkB (Pw.j52)⟩,
  ⟨2,[sI,.s (.one (.bp 256 0)),.s (.one (.bp 320 0)),sI,.s (.one (.ol 1002000)),sI,sI,.b (.cell [.d ar,.d ax,.d aw,.d az,.d cu] false),.b (.cell [.d .str,.d bn,.d au] false),.b (.lst 41 aL false)],[iT,iT,iT,iT,ar,ax,aw,az,cu,.str,bn,au,aG],[⟨.ret,[sI,.s (.one (.d .bool))],[iT,.bool]⟩,⟨.exit 2,[sI,.s (.one (.bp 256 0)),.s (.one (.bp 320 0)),sI,.b (.cell [.d ar,.d ax,.d aw,.d az,.d cu] false),.b (.cell [.d .str,.d bn,.d au] false)],[iT,iT,ar,ax,aw,az,cu,.str,bn,au]⟩],Pw.jsx (Pw.jcM)⟩]
 modes:=[(76,[false,false,false,false])]
 keep:=[(0,⟨[2,3,4,5],[256,320],[],[]⟩),
  (2,⟨[3,4,5,10,24,25,26],[256,320],[⟨1002000,41,aL,[.slot 24],false⟩],[]⟩)]
 keepX:=[(0,.ret,⟨[8,9],[],[],[]⟩),
  (0,.exit 0,⟨[],[],[],[]⟩),
  (2,.ret,⟨[8,9],[],[],[]⟩),
  (2,.exit 2,⟨[3,4,5,10],[256,320],[],[]⟩)]
 ro:=[false,false]
theorem joq:Con.OK Tryz.prog Me:=
 cOf aD aF jph Me Tryz.func159 (j9 Md trivial) (j9 (λh=>by kernel_rfl) (j9 (λh=>by kernel_rfl) trivial))
def Mf:Con:=⟨82,[.v aT,.v iT,.v iT],[aT,iT,iT],⟨[.v iT,.v .bool,.v iT],[]⟩,[iT,.bool,iT],Pw.unc3 Pw.j5O⟩
def jl7:FnD where
 N:=49
 np:=3
 cs:=[Gn,Gv,Me]
 ds:=[]
 modes:=[(75,[false,false,false,false]),(158,[false,false]),(159,[false,false,false,false])]
 ro:=[false,false,false]
theorem jjK:Con.OK Tryz.prog Mf:=
 cOf aD aF jl7 Mf Tryz.func82 (j9 Um (j9 Us (j9 joq trivial))) trivial
end Go.Proofs.Pk
