/- Contracts: each given function is its plain function, printed by a program. -/
import Derived.Test.YtcegmhnnglcgeaaGreatFCon5
noncomputable section
open Go Go.Lft
set_option linter.unusedVariables false
set_option maxRecDepth 100000
namespace Go.Proofs.Pk
def j0Y:Con:=⟨164,[.rl 78 ty40,.v iT,.v iT,.clo 63 []],[ty40,iT,iT],⟨[],[.rl ty40]⟩,[ty40],fun h=>Pw.j0i h.1 h.2.1 h.2.2⟩
def j4T:FnD where
 N:=53
 np:=4
 cs:=[j4f]
 ds:=[⟨0,[.s (.one (.ol 0)),sI,sI,.s (.one (.clo 63 [])),sI,.b (.lst 78 ty38 false)],[iT,iT,iT,ty40],[⟨.exit 0,[.b (.lst 78 ty38 false)],[ty40]⟩],fun h=>Pw.j0e h.1 h.2.1 h.2.2.1 h.2.2.2⟩,
  ⟨2,[.s (.one (.ol 0)),sI,sI,.s (.one (.clo 63 [])),sI,sI,.b (.lst 78 ty38 false)],[iT,iT,iT,iT,ty40],[⟨.exit 2,[.s (.one (.ol 0)),sI,sI,.s (.one (.clo 63 [])),sI,.b (.lst 78 ty38 false)],[iT,iT,iT,ty40]⟩],fun h=>Pw.j1D h.1 h.2.1 h.2.2.1 h.2.2.2.1 h.2.2.2.2⟩]
 modes:=[(63,[false,false])]
 keep:=[(0,⟨[0,1,2,3,8],[0],[],[]⟩),
  (2,⟨[0,1,2,3,8,9],[0],[],[]⟩)]
 keepX:=[(0,.exit 0,⟨[],[0],[],[]⟩),
  (2,.exit 2,⟨[0,1,2,3,8],[0],[],[]⟩)]
 dw:=[(6,[[],[],[],[],[],[],[],[],[],[],[],[],[],[],[],[0],[],[0]])]
theorem j4D:Con.OK Tryz.prog j0Y:=
 cOf j0c j01 j4T j0Y Tryz.func164 (j6 jci trivial) (j6 (fun h=>by kernel_rfl) (j6 (fun h=>by kernel_rfl) trivial))
def j1L:Con:=⟨103,[.rl 78 ty40,.v iT,.clo 63 []],[ty40,iT],⟨[],[.rl ty40]⟩,[ty40],fun h=>Pw.j0V h.1 h.2⟩
def j6Q:FnD where
 N:=63
 np:=3
 cs:=[j0Y]
 ds:=[⟨0,[.s (.one (.ol 0)),sI,.s (.one (.clo 63 [])),sI,sI,sI,.b (.lst 78 ty38 false)],[iT,iT,iT,iT,ty40],[⟨.exit 0,[.s (.one (.ol 0)),sI,.s (.one (.clo 63 [])),sI,sI,.b (.lst 78 ty38 false)],[iT,iT,iT,ty40]⟩],fun h=>Pw.j0o h.1 h.2.1 h.2.2.1 h.2.2.2.1 h.2.2.2.2⟩,
  ⟨2,[.s (.one (.ol 0)),sI,.s (.one (.clo 63 [])),sI,.b (.lst 78 ty38 false)],[iT,iT,ty40],[⟨.exit 2,[.b (.lst 78 ty38 false)],[ty40]⟩],fun h=>Pw.j0p h.1 h.2.1 h.2.2⟩,
  ⟨4,[.s (.one (.ol 0)),sI,.s (.one (.clo 63 [])),sI,sI,sI,.b (.lst 78 ty38 false)],[iT,iT,iT,iT,ty40],[⟨.exit 4,[.s (.one (.ol 0)),sI,.s (.one (.clo 63 [])),sI,sI,.b (.lst 78 ty38 false)],[iT,iT,iT,ty40]⟩],fun h=>Pw.j2s h.1 h.2.1 h.2.2.1 h.2.2.2.1 h.2.2.2.2⟩]
 modes:=[(164,[true,false,false,false])]
 keep:=[(0,⟨[0,1,2,6,7,8],[0],[],[]⟩),
  (2,⟨[0,1,2,6],[0],[],[]⟩),
  (4,⟨[0,1,2,6,7,8],[0],[],[]⟩)]
 keepX:=[(0,.exit 0,⟨[0,1,2,6,7],[0],[],[]⟩),
  (2,.exit 2,⟨[],[0],[],[]⟩),
  (4,.exit 4,⟨[0,1,2,6,7],[0],[],[]⟩)]
theorem j6G:Con.OK Tryz.prog j1L:=
 cOf j0c j01 j6Q j1L Tryz.func103 (j6 j4D trivial) (j6 (fun h=>by kernel_rfl) (j6 (fun h=>by kernel_rfl) (j6 (fun h=>by kernel_rfl) trivial)))
def j0Q:Con:=⟨62,[.rl 78 ty40,.clo 63 []],[ty40],⟨[],[.rl ty40]⟩,[ty40],fun h=>Pw.j0k h⟩
def j4g:FnD where
 N:=9
 np:=2
 cs:=[j1L]
 ds:=[]
 modes:=[(103,[true,false,false])]
theorem j40:Con.OK Tryz.prog j0Q:=
 cOf j0c j01 j4g j0Q Tryz.func62 (j6 j6G trivial) trivial
def j5q:Con:=⟨29,[.v ty80,.v iT,.v iT],[ty80,iT,iT],⟨[.own 78 ty40,.v iT],[]⟩,[ty40,iT],fun h=>Pw.j4p h.1 h.2.1 h.2.2⟩
def jfb:FnD where
 N:=83
 np:=3
 cs:=[jbJ,j7s,j4e,j65,j0Q]
 ds:=[⟨1,[sI,sI,.s (.one (.bp 512 0)),.s (.one (.ol 1001000)),.s (.one (.d ty74)),sI,sI,.b (.cell [.d ty62,.d ty52,.d ty26,.d ty74,.d ty29] false),.b (.lst 36 ty24 false)],[iT,iT,ty74,iT,iT,ty62,ty52,ty26,ty74,ty29,ty28],[⟨.ret,[.s (.one (.nil)),sI],[iT]⟩,⟨.exit 1,[.s (.one (.ol 1501200)),.b (.lst 36 ty24 false)],[ty28]⟩],fun h=>Pw.j1E h.1 h.2.1 h.2.2.1 h.2.2.2.1 h.2.2.2.2.1 h.2.2.2.2.2.1 h.2.2.2.2.2.2.1 h.2.2.2.2.2.2.2.1 h.2.2.2.2.2.2.2.2.1 h.2.2.2.2.2.2.2.2.2.1 h.2.2.2.2.2.2.2.2.2.2⟩,
  ⟨3,[.s (.one (.ol 1003000)),.s (.one (.ol 1003001)),sI,sI,.b (.lst 36 ty24 false),.b (.lst 78 ty38 false)],[iT,iT,ty28,ty40],[⟨.exit 3,[.s (.one (.ol 1503400)),.b (.lst 78 ty38 false)],[ty40]⟩],fun h=>Pw.j1G h.1 h.2.1 h.2.2.1 h.2.2.2⟩,
  ⟨5,[.s (.one (.ol 1005000)),.s (.one (.ol 1005001)),sI,sI,sI,sI,.b (.lst 36 ty24 false),.b (.lst 78 ty38 false)],[iT,iT,iT,iT,ty28,ty40],[⟨.exit 5,[.s (.one (.ol 1505600)),.s (.one (.ol 1505601)),sI,sI,.b (.lst 36 ty24 false),.b (.lst 78 ty38 false)],[iT,iT,ty28,ty40]⟩],fun h=>Pw.j1F h.1 h.2.1 h.2.2.1 h.2.2.2.1 h.2.2.2.2.1 h.2.2.2.2.2⟩]
 modes:=[(46,[false,false,false,false]),(54,[false]),(60,[false,false]),(61,[false,false,false,false]),(62,[true,false])]
 keep:=[(1,⟨[1,2,8,10,31,32,33],[512],[⟨1001000,36,ty24,[.slot 10],false⟩],[]⟩),
  (3,⟨[10,14,51,52],[],[⟨1003000,36,ty24,[.slot 10],false⟩,⟨1003001,78,ty38,[.slot 14],false⟩],[]⟩),
  (5,⟨[10,14,15,16,51,52],[],[⟨1005000,36,ty24,[.slot 10],false⟩,⟨1005001,78,ty38,[.slot 14],false⟩],[]⟩)]
 keepX:=[(1,.ret,⟨[6,7],[],[],[]⟩),
  (1,.exit 1,⟨[10],[],[⟨1501200,36,ty24,[.slot 10],false⟩],[]⟩),
  (3,.exit 3,⟨[14],[],[⟨1503400,78,ty38,[.slot 14],false⟩],[]⟩),
  (5,.exit 5,⟨[10,14,51,52],[],[⟨1505600,36,ty24,[.slot 10],false⟩,⟨1505601,78,ty38,[.slot 14],false⟩],[]⟩)]
 ro:=[true,false]
 dw:=[(22,[[],[],[],[],[],[],[],[],[],[],[],[4736],[4800,1005001],[]])]
theorem jed:Con.OK Tryz.prog j5q:=
 cOf j0c j01 jfb j5q Tryz.func29 (j6 jiU (j6 jf0 (j6 jag (j6 jfa (j6 j40 trivial))))) (j6 (fun h=>by kernel_rfl) (j6 (fun h=>by kernel_rfl) (j6 (fun h=>by kernel_rfl) trivial)))
def j7j:Con:=⟨106,[.v ty12,.v iT],[ty12,iT],⟨[.v iT],[]⟩,[iT],fun h=>Pw.j4Y h.1 h.2⟩
def jhH:FnD where
 N:=29
 np:=2
 cs:=[]
 ds:=[⟨0,[sI,sI,.s (.one (.d ty12)),sI,sI],[iT,iT,ty12,iT,iT],[⟨.exit 0,[sI],[iT]⟩],fun h=>Pw.j7E h.1 h.2.1 h.2.2.1 h.2.2.2.1 h.2.2.2.2⟩]
 keep:=[(0,⟨[1,5,8,9,10],[],[],[]⟩)]
 keepX:=[(0,.exit 0,⟨[5],[],[],[]⟩)]
 ro:=[false]
theorem jgm:Con.OK Tryz.prog j7j:=
 cOf j0c j01 jhH j7j Tryz.func106 trivial (j6 (fun h=>by kernel_rfl) trivial)
def j8d:Con:=⟨67,[.v ty12,.v iT,.v iT,.v iT],[ty12,iT,iT,iT],⟨[.own 3 (.list iT)],[]⟩,[(.list iT)],fun h=>Pw.j7F h.1 h.2.1 h.2.2.1 h.2.2.2⟩
def jih:FnD where
 N:=74
 np:=4
 cs:=[j8H,j7j]
 ds:=[⟨0,[.s (.one (.d ty12)),sI,sI,sI,.s (.one (.ol 1000000)),.s (.one (.d ty12)),sI,sI,.b (.lst 3 iT false)],[ty12,iT,iT,iT,ty12,iT,iT,(.list iT)],[⟨.exit 0,[.s (.one (.d ty12)),sI,sI,sI,.s (.one (.ol 1500100)),.b (.lst 3 iT false)],[ty12,iT,iT,iT,(.list iT)]⟩],fun h=>Pw.j8v h.1 h.2.1 h.2.2.1 h.2.2.2.1 h.2.2.2.2.1 h.2.2.2.2.2.1 h.2.2.2.2.2.2.1 h.2.2.2.2.2.2.2⟩,
  ⟨2,[.s (.one (.d ty12)),sI,.s (.one (.ol 1002000)),sI,.s (.one (.ol 1002001)),sI,sI,.b (.lst 3 iT false),.b (.lst 3 iT false)],[ty12,iT,iT,iT,iT,(.list iT),(.list iT)],[⟨.exit 2,[.s (.one (.ol 1502300)),.b (.lst 3 iT false)],[(.list iT)]⟩],fun h=>Pw.j2E h.1 h.2.1 h.2.2.1 h.2.2.2.1 h.2.2.2.2.1 h.2.2.2.2.2.1 h.2.2.2.2.2.2⟩]
 modes:=[(88,[false,false,false]),(106,[false,false])]
 keep:=[(0,⟨[0,1,2,3,9,18,19,20],[],[⟨1000000,3,iT,[.slot 9],false⟩],[]⟩),
  (2,⟨[0,1,12,13,42,43,44],[],[⟨1002000,3,iT,[.slot 12],false⟩,⟨1002001,3,iT,[.slot 42],false⟩],[]⟩)]
 keepX:=[(0,.exit 0,⟨[0,1,2,3,9],[],[⟨1500100,3,iT,[.slot 9],false⟩],[]⟩),
  (2,.exit 2,⟨[12],[],[⟨1502300,3,iT,[.slot 12],false⟩],[]⟩)]
 ro:=[true]
theorem jhI:Con.OK Tryz.prog j8d:=
 cOf j0c j01 jih j8d Tryz.func67 (j6 jg9 (j6 jgm trivial)) (j6 (fun h=>by kernel_rfl) (j6 (fun h=>by kernel_rfl) trivial))
def j8e:Con:=⟨68,[.v ty12,.v iT],[ty12,iT],⟨[.own 3 (.list iT)],[]⟩,[(.list iT)],fun h=>Pw.j6e h.1 h.2⟩
def jii:FnD where
 N:=36
 np:=2
 cs:=[]
 ds:=[⟨0,[.s (.one (.d ty12)),sI,.s (.one (.ol 1000000)),sI,.b (.lst 3 iT false)],[ty12,iT,iT,(.list iT)],[⟨.exit 0,[.s (.one (.ol 1500100)),.b (.lst 3 iT false)],[(.list iT)]⟩],fun h=>Pw.j8w h.1 h.2.1 h.2.2.1 h.2.2.2⟩]
 keep:=[(0,⟨[0,1,5,6],[],[⟨1000000,3,iT,[.slot 5],false⟩],[]⟩)]
 keepX:=[(0,.exit 0,⟨[5],[],[⟨1500100,3,iT,[.slot 5],false⟩],[]⟩)]
 ro:=[true]
theorem jhJ:Con.OK Tryz.prog j8e:=
 cOf j0c j01 jii j8e Tryz.func68 trivial (j6 (fun h=>by kernel_rfl) trivial)
def j4h:Con:=⟨71,[.v ty82,.v iT],[ty82,iT],⟨[.v ty25],[]⟩,[ty25],fun h=>Pw.j32 h.1 h.2⟩
def jfT:FnD where
 N:=10
 np:=2
 cs:=[]
 ds:=[]
 ro:=[false]
theorem jah:Con.OK Tryz.prog j4h:=
 cOf j0c j01 jfT j4h Tryz.func71 trivial trivial
def j7k:Con:=⟨72,[.v ty12],[ty12],⟨[.own 3 (.list iT)],[]⟩,[(.list iT)],fun h=>Pw.j3p h⟩
def jhK:FnD where
 N:=19
 np:=1
 cs:=[]
 ds:=[⟨0,[.s (.one (.ol 1000000)),.s (.one (.d ty12)),sI,sI,.b (.lst 3 iT false)],[ty12,iT,iT,(.list iT)],[⟨.exit 0,[.s (.one (.ol 1500100)),.b (.lst 3 iT false)],[(.list iT)]⟩],fun h=>Pw.j7G h.1 h.2.1 h.2.2.1 h.2.2.2⟩]
 keep:=[(0,⟨[3,6,7,8],[],[⟨1000000,3,iT,[.slot 3],false⟩],[]⟩)]
 keepX:=[(0,.exit 0,⟨[3],[],[⟨1500100,3,iT,[.slot 3],false⟩],[]⟩)]
 ro:=[true]
theorem jgn:Con.OK Tryz.prog j7k:=
 cOf j0c j01 jhK j7k Tryz.func72 trivial (j6 (fun h=>by kernel_rfl) trivial)
def j8f:Con:=⟨74,[.v ty20,.v ty20],[ty20,ty20],⟨[.v iT],[]⟩,[iT],fun h=>Pw.jaf h.1 h.2⟩
def jij:FnD where
 N:=32
 np:=2
 cs:=[]
 ds:=[]
 ro:=[false]
theorem joh:Con.OK Tryz.prog j8f:=
 cOf j0c j01 jij j8f Tryz.func74 trivial trivial
def j0C:Con:=⟨73,[.rl 85 ty24,.clo 74 []],[ty24],⟨[],[.rl ty24]⟩,[ty24],fun h=>Pw.j00 h⟩
def j6R:FnD where
 N:=14
 np:=2
 cs:=[j8f]
 ds:=[]
 modes:=[(74,[false,false])]
theorem j1V:Con.OK Tryz.prog j0C:=
 jjt Tryz.sort73 (ty20) rfl 85 (by kernel_rfl) Tryz.isAgg85 Tryz.sizeOf85 _ 74 (enters_of Tryz.func74 (by kernel_rfl) rfl) jmR jmS 73 rfl
def j0J:Con:=⟨75,[.rl 85 ty24],[ty24],⟨[.hd],[.rl ty24]⟩,[iT,ty24],fun h=>Pw.j02 h⟩
def j41:FnD where
 N:=61
 np:=1
 cs:=[]
 ds:=[⟨0,[.s (.one (.ol 0)),sI,.b (.lst 85 ty20 false)],[iT,ty24],[⟨.ret,[.s (.one (.hd 0)),.b (.lst 85 ty20 false)],[iT,ty24]⟩,⟨.exit 0,[.s (.one (.ol 0)),.b (.lst 85 ty20 false)],[ty24]⟩],fun h=>Pw.j0a h.1 h.2⟩,
  ⟨2,[.s (.one (.ol 0)),sI,.s (.one (.tl 0)),sI,.b (.lst 85 ty20 false)],[iT,iT,iT,ty24],[⟨.exit 2,[.s (.one (.ol 0)),sI,.b (.lst 85 ty20 false)],[iT,ty24]⟩],fun h=>Pw.j1g h.1 h.2.1 h.2.2.1 h.2.2.2⟩]
 keep:=[(0,⟨[0,3],[0],[],[]⟩),
  (2,⟨[0,3,4,5],[0],[],[]⟩)]
 keepX:=[(0,.ret,⟨[2],[0],[],[]⟩),
  (0,.exit 0,⟨[0],[0],[],[]⟩),
  (2,.exit 2,⟨[0,3],[0],[],[]⟩)]
 ro:=[false]
 hd:=true
theorem j3W:Con.OK Tryz.prog j0J:=
 cOf j0c j01 j41 j0J Tryz.func75 trivial (j6 (fun h=>by kernel_rfl) (j6 (fun h=>by kernel_rfl) trivial))
def j3s:Con:=⟨33,[.v ty80,.v iT,.v iT,.v iT],[ty80,iT,iT,iT],⟨[.own 85 ty24,.v iT],[]⟩,[ty24,iT],fun h=>Pw.j08 h.1 h.2.1 h.2.2.1 h.2.2.2⟩
def jee:FnD where
 N:=146
 np:=4
 cs:=[j4R,j5P,j6E,j55,j5q,j8d,j8e,j4h,j7k,j0C,j0J]
 ds:=[⟨0,[sI,.s (.one (.bp 960 0)),.s (.one (.ol 1000000)),sI,sI,.b (.arr 4 (.list iT)),.b (.lst 78 ty38 false)],[iT,iT,iT,ty3,ty40],[⟨.exit 0,[sI,.s (.one (.bp 960 0)),.b (.arr 4 (.list iT))],[iT,ty3]⟩],fun h=>Pw.j5A h.1 h.2.1 h.2.2.1 h.2.2.2.1 h.2.2.2.2⟩,
  ⟨2,[sI,.s (.one (.ol 1002000)),.s (.av 4 (.list iT)),sI,.b (.lst 85 ty20 false)],[iT,ty3,iT,ty24],[⟨.exit 2,[.s (.one (.ol 1502300)),.b (.lst 85 ty20 false)],[ty24]⟩],fun h=>Pw.j1r h.1 h.2.1 h.2.2.1 h.2.2.2⟩,
  ⟨4,[sI,.s (.one (.ol 1004000)),sI,.s (.av 4 (.list iT)),sI,.s (.one (.d (.list iT))),sI,sI,.b (.lst 85 ty20 false)],[iT,iT,ty3,iT,(.list iT),iT,iT,ty24],[⟨.exit 4,[sI,.s (.one (.ol 1504500)),.s (.av 4 (.list iT)),sI,.b (.lst 85 ty20 false)],[iT,ty3,iT,ty24]⟩],fun h=>Pw.j5B h.1 h.2.1 h.2.2.1 h.2.2.2.1 h.2.2.2.2.1 h.2.2.2.2.2.1 h.2.2.2.2.2.2.1 h.2.2.2.2.2.2.2⟩]
 modes:=[(29,[false,false,false]),(65,[false,false,false,false]),(66,[false,false,false,false]),(67,[false,false,false,false]),(68,[false,false]),(69,[false,false]),(70,[false,false,false,false]),(71,[false,false]),(72,[false]),(73,[true,false]),(75,[true])]
 keep:=[(0,⟨[1,15,100,101,102],[960],[⟨1000000,78,ty38,[.slot 100],false⟩],[]⟩),
  (2,⟨[1,19,118,119],[],[⟨1002000,85,ty20,[.slot 19],false⟩],[]⟩),
  (4,⟨[1,19,20,118,119,123,124,125],[],[⟨1004000,85,ty20,[.slot 19],false⟩],[]⟩)]
 keepX:=[(0,.exit 0,⟨[1,15],[960],[],[]⟩),
  (2,.exit 2,⟨[19],[],[⟨1502300,85,ty20,[.slot 19],false⟩],[]⟩),
  (4,.exit 4,⟨[1,19,118,119],[],[⟨1504500,85,ty20,[.slot 19],false⟩],[]⟩)]
 ro:=[true,false]
 dw:=[(17,[[],[],[],[],[],[],[],[],[],[5888],[5952],[]])]
theorem j8y:Con.OK Tryz.prog j3s:=
 cOf j0c j01 jee j3s Tryz.func33 (j6 jay (j6 jd0 (j6 jdE (j6 jc9 (j6 jed (j6 jhI (j6 jhJ (j6 jah (j6 jgn (j6 j1V (j6 j3W trivial))))))))))) (j6 (fun h=>by kernel_rfl) (j6 (fun h=>by kernel_rfl) (j6 (fun h=>by kernel_rfl) trivial)))
def j7l:Con:=⟨76,[.v ty80,.v iT,.v iT,.v iT],[ty80,iT,iT,iT],⟨[.own 118 ty12,.v iT],[]⟩,[ty12,iT],fun h=>Pw.j6x h.1 h.2.1 h.2.2.1 h.2.2.2⟩
def jhL:FnD where
 N:=30
 np:=4
 cs:=[j4R,j55]
 ds:=[]
 modes:=[(65,[false,false,false,false]),(66,[false,false,false,false])]
 ro:=[true,false]
theorem jgo:Con.OK Tryz.prog j7l:=
 cOf j0c j01 jhL j7l Tryz.func76 (j6 jay (j6 jc9 trivial)) trivial
def j7m:Con:=⟨80,[.v ty7],[ty7],⟨[.v iT],[]⟩,[iT],fun h=>Pw.jbA h⟩
def jhM:FnD where
 N:=10
 np:=1
 cs:=[j4Z]
 ds:=[]
 modes:=[(113,[false])]
 ro:=[false]
theorem jgp:Con.OK Tryz.prog j7m:=
 cOf j0c j01 jhM j7m Tryz.func80 (j6 jc7 trivial) trivial
def jd4:Con:=⟨79,[.v ty12,.v iT],[ty12,iT],⟨[.v .bool],[]⟩,[.bool],fun h=>Pw.jdm h.1 h.2⟩
def jmV:FnD where
 N:=24
 np:=2
 cs:=[]
 ds:=[⟨0,[sI,.s (.one (.d ty12)),sI,sI],[iT,ty12,iT,iT],[⟨.ret,[.s (.one (.d .bool))],[.bool]⟩,⟨.exit 0,[],[]⟩],fun h=>Pw.jc6 h.1 h.2.1 h.2.2.1 h.2.2.2⟩]
 keep:=[(0,⟨[1,7,8,9],[],[],[]⟩)]
 keepX:=[(0,.ret,⟨[4],[],[],[]⟩),
  (0,.exit 0,⟨[],[],[],[]⟩)]
 ro:=[false]
theorem jlH:Con.OK Tryz.prog jd4:=
 cOf j0c j01 jmV jd4 Tryz.func79 trivial (j6 (fun h=>by kernel_rfl) trivial)
def j5r:Con:=⟨36,[.v ty80,.v iT,.v iT,.v .bool],[ty80,iT,iT,.bool],⟨[.v .bool],[]⟩,[.bool],fun h=>Pw.j3h h.1 h.2.1 h.2.2.1 h.2.2.2⟩
def jfc:FnD where
 N:=45
 np:=4
 cs:=[j4R,j3L,j4h,j7m,jd4]
 ds:=[]
 modes:=[(65,[false,false,false,false]),(71,[false,false]),(79,[false,false]),(80,[false]),(81,[false,false])]
 ro:=[false]
theorem jef:Con.OK Tryz.prog j5r:=
 cOf j0c j01 jfc j5r Tryz.func36 (j6 jay (j6 j9C (j6 jah (j6 jgp (j6 jlH trivial))))) trivial
def jaB:Con:=⟨34,[],[],⟨[.v .bool],[]⟩,[.bool],fun h=>Pw.j8U⟩
def jkV:FnD where
 N:=85
 np:=0
 cs:=[j6y,j3s,j7l,j5r]
 ds:=[]
 modes:=[(32,[false,false,false]),(33,[false,false,false,false]),(36,[false,false,false,false]),(76,[false,false,false,false])]
 ro:=[false]
theorem jjM:Con.OK Tryz.prog jaB:=
 cOf j0c j01 jkV jaB Tryz.func34 (j6 jdC (j6 j8y (j6 jgo (j6 jef trivial)))) trivial
def j7L:Con:=⟨7,[.v iT],[iT],⟨[.v .bool],[]⟩,[.bool],fun h=>Pw.j7b h⟩
def jeg:FnD where
 N:=134
 np:=1
 cs:=[jcS,j6y,j3s,jaB]
 ds:=[]
 modes:=[(16,[false,false]),(32,[false,false,false]),(33,[false,false,false,false]),(34,[])]
 ro:=[false]
theorem law18_LimitsEdges_ok:Con.OK Tryz.prog j7L:=
 cOf j0c j01 jeg j7L Tryz.func7 (j6 jlB (j6 jdC (j6 j8y (j6 jjM trivial)))) trivial
end Go.Proofs.Pk
