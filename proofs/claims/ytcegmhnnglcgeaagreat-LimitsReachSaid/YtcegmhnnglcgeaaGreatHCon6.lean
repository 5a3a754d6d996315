/- Contracts: each given function is its plain function, printed by a program. -/
import Derived.Test.YtcegmhnnglcgeaaGreatHCon5
noncomputable section
open Go Go.Lft
set_option linter.unusedVariables false
set_option maxRecDepth 100000
namespace Go.Proofs.Pk
def j1B:Con:=⟨164,[.rl 78 ty40,.v iT,.v iT,.clo 63 []],[ty40,iT,iT],⟨[],[.rl ty40]⟩,[ty40],fun h=>Pw.j0A h.1 h.2.1 h.2.2⟩
def j6u:FnD where
 N:=53
 np:=4
 cs:=[j5A]
 ds:=[⟨0,[.s (.one (.ol 0)),sI,sI,.s (.one (.clo 63 [])),sI,.b (.lst 78 ty38 false)],[iT,iT,iT,ty40],[⟨.exit 0,[.b (.lst 78 ty38 false)],[ty40]⟩],fun h=>Pw.j0x h.1 h.2.1 h.2.2.1 h.2.2.2⟩,
  ⟨2,[.s (.one (.ol 0)),sI,sI,.s (.one (.clo 63 [])),sI,sI,.b (.lst 78 ty38 false)],[iT,iT,iT,iT,ty40],[⟨.exit 2,[.s (.one (.ol 0)),sI,sI,.s (.one (.clo 63 [])),sI,.b (.lst 78 ty38 false)],[iT,iT,iT,ty40]⟩],fun h=>Pw.j2r h.1 h.2.1 h.2.2.1 h.2.2.2.1 h.2.2.2.2⟩]
 modes:=[(63,[false,false])]
 keep:=[(0,⟨[0,1,2,3,8],[0],[],[]⟩),
  (2,⟨[0,1,2,3,8,9],[0],[],[]⟩)]
 keepX:=[(0,.exit 0,⟨[],[0],[],[]⟩),
  (2,.exit 2,⟨[0,1,2,3,8],[0],[],[]⟩)]
 dw:=[(6,[[],[],[],[],[],[],[],[],[],[],[],[],[],[],[],[0],[],[0]])]
theorem j65:Con.OK Tryz.prog j1B:=
 cOf j0c j00 j6u j1B Tryz.func164 (j9 jeL trivial) (j9 (fun h=>by kernel_rfl) (j9 (fun h=>by kernel_rfl) trivial))
def j2C:Con:=⟨103,[.rl 78 ty40,.v iT,.clo 63 []],[ty40,iT],⟨[],[.rl ty40]⟩,[ty40],fun h=>Pw.j1s h.1 h.2⟩
def j8L:FnD where
 N:=63
 np:=3
 cs:=[j1B]
 ds:=[⟨0,[.s (.one (.ol 0)),sI,.s (.one (.clo 63 [])),sI,sI,sI,.b (.lst 78 ty38 false)],[iT,iT,iT,iT,ty40],[⟨.exit 0,[.s (.one (.ol 0)),sI,.s (.one (.clo 63 [])),sI,sI,.b (.lst 78 ty38 false)],[iT,iT,iT,ty40]⟩],fun h=>Pw.j0I h.1 h.2.1 h.2.2.1 h.2.2.2.1 h.2.2.2.2⟩,
  ⟨2,[.s (.one (.ol 0)),sI,.s (.one (.clo 63 [])),sI,.b (.lst 78 ty38 false)],[iT,iT,ty40],[⟨.exit 2,[.b (.lst 78 ty38 false)],[ty40]⟩],fun h=>Pw.j0J h.1 h.2.1 h.2.2⟩,
  ⟨4,[.s (.one (.ol 0)),sI,.s (.one (.clo 63 [])),sI,sI,sI,.b (.lst 78 ty38 false)],[iT,iT,iT,iT,ty40],[⟨.exit 4,[.s (.one (.ol 0)),sI,.s (.one (.clo 63 [])),sI,sI,.b (.lst 78 ty38 false)],[iT,iT,iT,ty40]⟩],fun h=>Pw.j3r h.1 h.2.1 h.2.2.1 h.2.2.2.1 h.2.2.2.2⟩]
 modes:=[(164,[true,false,false,false])]
 keep:=[(0,⟨[0,1,2,6,7,8],[0],[],[]⟩),
  (2,⟨[0,1,2,6],[0],[],[]⟩),
  (4,⟨[0,1,2,6,7,8],[0],[],[]⟩)]
 keepX:=[(0,.exit 0,⟨[0,1,2,6,7],[0],[],[]⟩),
  (2,.exit 2,⟨[],[0],[],[]⟩),
  (4,.exit 4,⟨[0,1,2,6,7],[0],[],[]⟩)]
theorem j8x:Con.OK Tryz.prog j2C:=
 cOf j0c j00 j8L j2C Tryz.func103 (j9 j65 trivial) (j9 (fun h=>by kernel_rfl) (j9 (fun h=>by kernel_rfl) (j9 (fun h=>by kernel_rfl) trivial)))
def j1m:Con:=⟨62,[.rl 78 ty40,.clo 63 []],[ty40],⟨[],[.rl ty40]⟩,[ty40],fun h=>Pw.j0D h⟩
def j5B:FnD where
 N:=9
 np:=2
 cs:=[j2C]
 ds:=[]
 modes:=[(103,[true,false,false])]
theorem j5g:Con.OK Tryz.prog j1m:=
 cOf j0c j00 j5B j1m Tryz.func62 (j9 j8x trivial) trivial
def j79:Con:=⟨29,[.v ty80,.v iT,.v iT],[ty80,iT,iT],⟨[.own 78 ty40,.v iT],[]⟩,[ty40,iT],fun h=>Pw.j5J h.1 h.2.1 h.2.2⟩
def ji9:FnD where
 N:=83
 np:=3
 cs:=[jea,j9y,j5z,j7N,j1m]
 ds:=[⟨1,[sI,sI,.s (.one (.bp 512 0)),.s (.one (.ol 1001000)),.s (.one (.d ty74)),sI,sI,.b (.cell [.d ty62,.d ty52,.d ty26,.d ty74,.d ty29] false),.b (.lst 36 ty24 false)],[iT,iT,ty74,iT,iT,ty62,ty52,ty26,ty74,ty29,ty28],[⟨.ret,[.s (.one (.nil)),sI],[iT]⟩,⟨.exit 1,[.s (.one (.ol 1501200)),.b (.lst 36 ty24 false)],[ty28]⟩],fun h=>Pw.j2s h.1 h.2.1 h.2.2.1 h.2.2.2.1 h.2.2.2.2.1 h.2.2.2.2.2.1 h.2.2.2.2.2.2.1 h.2.2.2.2.2.2.2.1 h.2.2.2.2.2.2.2.2.1 h.2.2.2.2.2.2.2.2.2.1 h.2.2.2.2.2.2.2.2.2.2⟩,
  ⟨3,[.s (.one (.ol 1003000)),.s (.one (.ol 1003001)),sI,sI,.b (.lst 36 ty24 false),.b (.lst 78 ty38 false)],[iT,iT,ty28,ty40],[⟨.exit 3,[.s (.one (.ol 1503400)),.b (.lst 78 ty38 false)],[ty40]⟩],fun h=>Pw.j2u h.1 h.2.1 h.2.2.1 h.2.2.2⟩,
  ⟨5,[.s (.one (.ol 1005000)),.s (.one (.ol 1005001)),sI,sI,sI,sI,.b (.lst 36 ty24 false),.b (.lst 78 ty38 false)],[iT,iT,iT,iT,ty28,ty40],[⟨.exit 5,[.s (.one (.ol 1505600)),.s (.one (.ol 1505601)),sI,sI,.b (.lst 36 ty24 false),.b (.lst 78 ty38 false)],[iT,iT,ty28,ty40]⟩],fun h=>Pw.j2t h.1 h.2.1 h.2.2.1 h.2.2.2.1 h.2.2.2.2.1 h.2.2.2.2.2⟩]
 modes:=[(46,[false,false,false,false]),(54,[false]),(60,[false,false]),(61,[false,false,false,false]),(62,[true,false])]
 keep:=[(1,⟨[1,2,8,10,31,32,33],[512],[⟨1001000,36,ty24,[.slot 10],false⟩],[]⟩),
  (3,⟨[10,14,51,52],[],[⟨1003000,36,ty24,[.slot 10],false⟩,⟨1003001,78,ty38,[.slot 14],false⟩],[]⟩),
  (5,⟨[10,14,15,16,51,52],[],[⟨1005000,36,ty24,[.slot 10],false⟩,⟨1005001,78,ty38,[.slot 14],false⟩],[]⟩)]
 keepX:=[(1,.ret,⟨[6,7],[],[],[]⟩),
  (1,.exit 1,⟨[10],[],[⟨1501200,36,ty24,[.slot 10],false⟩],[]⟩),
  (3,.exit 3,⟨[14],[],[⟨1503400,78,ty38,[.slot 14],false⟩],[]⟩),
  (5,.exit 5,⟨[10,14,51,52],[],[⟨1505600,36,ty24,[.slot 10],false⟩,⟨1505601,78,ty38,[.slot 14],false⟩],[]⟩)]
 ro:=[true,false]
 dw:=[(22,[[],[],[],[],[],[],[],[],[],[],[],[4736],[4800,1005001],[]])]
theorem jh0:Con.OK Tryz.prog j79:=
 cOf j0c j00 ji9 j79 Tryz.func29 (j9 jmu (j9 jhY (j9 jcA (j9 ji8 (j9 j5g trivial))))) (j9 (fun h=>by kernel_rfl) (j9 (fun h=>by kernel_rfl) (j9 (fun h=>by kernel_rfl) trivial)))
def j9o:Con:=⟨106,[.v ty12,.v iT],[ty12,iT],⟨[.v iT],[]⟩,[iT],fun h=>Pw.j6D h.1 h.2⟩
def jl5:FnD where
 N:=29
 np:=2
 cs:=[]
 ds:=[⟨0,[sI,sI,.s (.one (.d ty12)),sI,sI],[iT,iT,ty12,iT,iT],[⟨.exit 0,[sI],[iT]⟩],fun h=>Pw.j9K h.1 h.2.1 h.2.2.1 h.2.2.2.1 h.2.2.2.2⟩]
 keep:=[(0,⟨[1,5,8,9,10],[],[],[]⟩)]
 keepX:=[(0,.exit 0,⟨[5],[],[],[]⟩)]
 ro:=[false]
theorem jjC:Con.OK Tryz.prog j9o:=
 cOf j0c j00 jl5 j9o Tryz.func106 trivial (j9 (fun h=>by kernel_rfl) trivial)
def jax:Con:=⟨67,[.v ty12,.v iT,.v iT,.v iT],[ty12,iT,iT,iT],⟨[.own 3 (.list iT)],[]⟩,[(.list iT)],fun h=>Pw.j9L h.1 h.2.1 h.2.2.1 h.2.2.2⟩
def jlQ:FnD where
 N:=74
 np:=4
 cs:=[jb2,j9o]
 ds:=[⟨0,[.s (.one (.d ty12)),sI,sI,sI,.s (.one (.ol 1000000)),.s (.one (.d ty12)),sI,sI,.b (.lst 3 iT false)],[ty12,iT,iT,iT,ty12,iT,iT,(.list iT)],[⟨.exit 0,[.s (.one (.d ty12)),sI,sI,sI,.s (.one (.ol 1500100)),.b (.lst 3 iT false)],[ty12,iT,iT,iT,(.list iT)]⟩],fun h=>Pw.jaO h.1 h.2.1 h.2.2.1 h.2.2.2.1 h.2.2.2.2.1 h.2.2.2.2.2.1 h.2.2.2.2.2.2.1 h.2.2.2.2.2.2.2⟩,
  ⟨2,[.s (.one (.d ty12)),sI,.s (.one (.ol 1002000)),sI,.s (.one (.ol 1002001)),sI,sI,.b (.lst 3 iT false),.b (.lst 3 iT false)],[ty12,iT,iT,iT,iT,(.list iT),(.list iT)],[⟨.exit 2,[.s (.one (.ol 1502300)),.b (.lst 3 iT false)],[(.list iT)]⟩],fun h=>Pw.j3F h.1 h.2.1 h.2.2.1 h.2.2.2.1 h.2.2.2.2.1 h.2.2.2.2.2.1 h.2.2.2.2.2.2⟩]
 modes:=[(88,[false,false,false]),(106,[false,false])]
 keep:=[(0,⟨[0,1,2,3,9,18,19,20],[],[⟨1000000,3,iT,[.slot 9],false⟩],[]⟩),
  (2,⟨[0,1,12,13,42,43,44],[],[⟨1002000,3,iT,[.slot 12],false⟩,⟨1002001,3,iT,[.slot 42],false⟩],[]⟩)]
 keepX:=[(0,.exit 0,⟨[0,1,2,3,9],[],[⟨1500100,3,iT,[.slot 9],false⟩],[]⟩),
  (2,.exit 2,⟨[12],[],[⟨1502300,3,iT,[.slot 12],false⟩],[]⟩)]
 ro:=[true]
theorem jl6:Con.OK Tryz.prog jax:=
 cOf j0c j00 jlQ jax Tryz.func67 (j9 jjn (j9 jjC trivial)) (j9 (fun h=>by kernel_rfl) (j9 (fun h=>by kernel_rfl) trivial))
def jay:Con:=⟨68,[.v ty12,.v iT],[ty12,iT],⟨[.own 3 (.list iT)],[]⟩,[(.list iT)],fun h=>Pw.j81 h.1 h.2⟩
def jlR:FnD where
 N:=36
 np:=2
 cs:=[]
 ds:=[⟨0,[.s (.one (.d ty12)),sI,.s (.one (.ol 1000000)),sI,.b (.lst 3 iT false)],[ty12,iT,iT,(.list iT)],[⟨.exit 0,[.s (.one (.ol 1500100)),.b (.lst 3 iT false)],[(.list iT)]⟩],fun h=>Pw.jaP h.1 h.2.1 h.2.2.1 h.2.2.2⟩]
 keep:=[(0,⟨[0,1,5,6],[],[⟨1000000,3,iT,[.slot 5],false⟩],[]⟩)]
 keepX:=[(0,.exit 0,⟨[5],[],[⟨1500100,3,iT,[.slot 5],false⟩],[]⟩)]
 ro:=[true]
theorem jl7:Con.OK Tryz.prog jay:=
 cOf j0c j00 jlR jay Tryz.func68 trivial (j9 (fun h=>by kernel_rfl) trivial)
def j5C:Con:=⟨71,[.v ty82,.v iT],[ty82,iT],⟨[.v ty25],[]⟩,[ty25],fun h=>Pw.j2a h.1 h.2⟩
def jiX:FnD where
 N:=10
 np:=2
 cs:=[]
 ds:=[]
 ro:=[false]
theorem jcB:Con.OK Tryz.prog j5C:=
 cOf j0c j00 jiX j5C Tryz.func71 trivial trivial
def j9p:Con:=⟨72,[.v ty12],[ty12],⟨[.own 3 (.list iT)],[]⟩,[(.list iT)],fun h=>Pw.j4u h⟩
def jl8:FnD where
 N:=19
 np:=1
 cs:=[]
 ds:=[⟨0,[.s (.one (.ol 1000000)),.s (.one (.d ty12)),sI,sI,.b (.lst 3 iT false)],[ty12,iT,iT,(.list iT)],[⟨.exit 0,[.s (.one (.ol 1500100)),.b (.lst 3 iT false)],[(.list iT)]⟩],fun h=>Pw.j9M h.1 h.2.1 h.2.2.1 h.2.2.2⟩]
 keep:=[(0,⟨[3,6,7,8],[],[⟨1000000,3,iT,[.slot 3],false⟩],[]⟩)]
 keepX:=[(0,.exit 0,⟨[3],[],[⟨1500100,3,iT,[.slot 3],false⟩],[]⟩)]
 ro:=[true]
theorem jjD:Con.OK Tryz.prog j9p:=
 cOf j0c j00 jl8 j9p Tryz.func72 trivial (j9 (fun h=>by kernel_rfl) trivial)
def jaz:Con:=⟨74,[.v ty20,.v ty20],[ty20,ty20],⟨[.v iT],[]⟩,[iT],fun h=>Pw.jcx h.1 h.2⟩
def jlS:FnD where
 N:=32
 np:=2
 cs:=[]
 ds:=[]
 ro:=[false]
theorem jsW:Con.OK Tryz.prog jaz:=
 cOf j0c j00 jlS jaz Tryz.func74 trivial trivial
def j18:Con:=⟨73,[.rl 85 ty24,.clo 74 []],[ty24],⟨[],[.rl ty24]⟩,[ty24],fun h=>Pw.j04 h⟩
def j8M:FnD where
 N:=14
 np:=2
 cs:=[jaz]
 ds:=[]
 modes:=[(74,[false,false])]
theorem j2V:Con.OK Tryz.prog j18:=
 jn8 Tryz.sort73 (ty20) rfl 85 (by kernel_rfl) Tryz.isAgg85 Tryz.sizeOf85 _ 74 (enters_of Tryz.func74 (by kernel_rfl) rfl) jrr jrs 73 rfl
def j1e:Con:=⟨75,[.rl 85 ty24],[ty24],⟨[.hd],[.rl ty24]⟩,[iT,ty24],fun h=>Pw.j05 h⟩
def j5h:FnD where
 N:=61
 np:=1
 cs:=[]
 ds:=[⟨0,[.s (.one (.ol 0)),sI,.b (.lst 85 ty20 false)],[iT,ty24],[⟨.ret,[.s (.one (.hd 0)),.b (.lst 85 ty20 false)],[iT,ty24]⟩,⟨.exit 0,[.s (.one (.ol 0)),.b (.lst 85 ty20 false)],[ty24]⟩],fun h=>Pw.j0p h.1 h.2⟩,
  ⟨2,[.s (.one (.ol 0)),sI,.s (.one (.tl 0)),sI,.b (.lst 85 ty20 false)],[iT,iT,iT,ty24],[⟨.exit 2,[.s (.one (.ol 0)),sI,.b (.lst 85 ty20 false)],[iT,ty24]⟩],fun h=>Pw.j1U h.1 h.2.1 h.2.2.1 h.2.2.2⟩]
 keep:=[(0,⟨[0,3],[0],[],[]⟩),
  (2,⟨[0,3,4,5],[0],[],[]⟩)]
 keepX:=[(0,.ret,⟨[2],[0],[],[]⟩),
  (0,.exit 0,⟨[0],[0],[],[]⟩),
  (2,.exit 2,⟨[0,3],[0],[],[]⟩)]
 ro:=[false]
 hd:=true
theorem j5b:Con.OK Tryz.prog j1e:=
 cOf j0c j00 j5h j1e Tryz.func75 trivial (j9 (fun h=>by kernel_rfl) (j9 (fun h=>by kernel_rfl) trivial))
def j6v:Con:=⟨33,[.v ty80,.v iT,.v iT,.v iT],[ty80,iT,iT,iT],⟨[.own 85 ty24,.v iT],[]⟩,[ty24,iT],fun h=>Pw.j3X h.1 h.2.1 h.2.2.1 h.2.2.2⟩
def jh1:FnD where
 N:=146
 np:=4
 cs:=[j6s,j7z,j8v,j6K,j79,jax,jay,j5C,j9p,j18,j1e]
 ds:=[⟨0,[sI,.s (.one (.bp 960 0)),.s (.one (.ol 1000000)),sI,sI,.b (.arr 4 (.list iT)),.b (.lst 78 ty38 false)],[iT,iT,iT,ty3,ty40],[⟨.exit 0,[sI,.s (.one (.bp 960 0)),.b (.arr 4 (.list iT))],[iT,ty3]⟩],fun h=>Pw.j7j h.1 h.2.1 h.2.2.1 h.2.2.2.1 h.2.2.2.2⟩,
  ⟨2,[sI,.s (.one (.ol 1002000)),.s (.av 4 (.list iT)),sI,.b (.lst 85 ty20 false)],[iT,ty3,iT,ty24],[⟨.exit 2,[.s (.one (.ol 1502300)),.b (.lst 85 ty20 false)],[ty24]⟩],fun h=>Pw.j2b h.1 h.2.1 h.2.2.1 h.2.2.2⟩,
  ⟨4,[sI,.s (.one (.ol 1004000)),sI,.s (.av 4 (.list iT)),sI,.s (.one (.d (.list iT))),sI,sI,.b (.lst 85 ty20 false)],[iT,iT,ty3,iT,(.list iT),iT,iT,ty24],[⟨.exit 4,[sI,.s (.one (.ol 1504500)),.s (.av 4 (.list iT)),sI,.b (.lst 85 ty20 false)],[iT,ty3,iT,ty24]⟩],fun h=>Pw.j7k h.1 h.2.1 h.2.2.1 h.2.2.2.1 h.2.2.2.2.1 h.2.2.2.2.2.1 h.2.2.2.2.2.2.1 h.2.2.2.2.2.2.2⟩]
 modes:=[(29,[false,false,false]),(65,[false,false,false,false]),(66,[false,false,false,false]),(67,[false,false,false,false]),(68,[false,false]),(69,[false,false]),(70,[false,false,false,false]),(71,[false,false]),(72,[false]),(73,[true,false]),(75,[true])]
 keep:=[(0,⟨[1,15,100,101,102],[960],[⟨1000000,78,ty38,[.slot 100],false⟩],[]⟩),
  (2,⟨[1,19,118,119],[],[⟨1002000,85,ty20,[.slot 19],false⟩],[]⟩),
  (4,⟨[1,19,20,118,119,123,124,125],[],[⟨1004000,85,ty20,[.slot 19],false⟩],[]⟩)]
 keepX:=[(0,.exit 0,⟨[1,15],[960],[],[]⟩),
  (2,.exit 2,⟨[19],[],[⟨1502300,85,ty20,[.slot 19],false⟩],[]⟩),
  (4,.exit 4,⟨[1,19,118,119],[],[⟨1504500,85,ty20,[.slot 19],false⟩],[]⟩)]
 ro:=[true,false]
 dw:=[(17,[[],[],[],[],[],[],[],[],[],[5888],[5952],[]])]
theorem jgc:Con.OK Tryz.prog j6v:=
 cOf j0c j00 jh1 j6v Tryz.func33 (j9 jcS (j9 jfu (j9 jgq (j9 jeC (j9 jh0 (j9 jl6 (j9 jl7 (j9 jcB (j9 jjD (j9 j2V (j9 j5b trivial))))))))))) (j9 (fun h=>by kernel_rfl) (j9 (fun h=>by kernel_rfl) (j9 (fun h=>by kernel_rfl) trivial)))
def j9q:Con:=⟨76,[.v ty80,.v iT,.v iT,.v iT],[ty80,iT,iT,iT],⟨[.own 118 ty12,.v iT],[]⟩,[ty12,iT],fun h=>Pw.j8j h.1 h.2.1 h.2.2.1 h.2.2.2⟩
def jl9:FnD where
 N:=30
 np:=4
 cs:=[j6s,j6K]
 ds:=[]
 modes:=[(65,[false,false,false,false]),(66,[false,false,false,false])]
 ro:=[true,false]
theorem jjE:Con.OK Tryz.prog j9q:=
 cOf j0c j00 jl9 j9q Tryz.func76 (j9 jcS (j9 jeC trivial)) trivial
def j9r:Con:=⟨80,[.v ty7],[ty7],⟨[.v iT],[]⟩,[iT],fun h=>Pw.j3M h⟩
def jla:FnD where
 N:=10
 np:=1
 cs:=[j6E]
 ds:=[]
 modes:=[(113,[false])]
 ro:=[false]
theorem jjF:Con.OK Tryz.prog j9r:=
 cOf j0c j00 jla j9r Tryz.func80 (j9 jeA trivial) trivial
def jfy:Con:=⟨79,[.v ty12,.v iT],[ty12,iT],⟨[.v .bool],[]⟩,[.bool],fun h=>Pw.jcy h.1 h.2⟩
def jru:FnD where
 N:=24
 np:=2
 cs:=[]
 ds:=[⟨0,[sI,.s (.one (.d ty12)),sI,sI],[iT,ty12,iT,iT],[⟨.ret,[.s (.one (.d .bool))],[.bool]⟩,⟨.exit 0,[],[]⟩],fun h=>Pw.j5K h.1 h.2.1 h.2.2.1 h.2.2.2⟩]
 keep:=[(0,⟨[1,7,8,9],[],[],[]⟩)]
 keepX:=[(0,.ret,⟨[4],[],[],[]⟩),
  (0,.exit 0,⟨[],[],[],[]⟩)]
 ro:=[false]
theorem jpP:Con.OK Tryz.prog jfy:=
 cOf j0c j00 jru jfy Tryz.func79 trivial (j9 (fun h=>by kernel_rfl) trivial)
def j51:Con:=⟨36,[.v ty80,.v iT,.v iT,.v .bool],[ty80,iT,iT,.bool],⟨[.v .bool],[]⟩,[.bool],fun h=>Pw.j0F h.1 h.2.1 h.2.2.1 h.2.2.2⟩
def jia:FnD where
 N:=45
 np:=4
 cs:=[j6s,j50,j5C,j9r,jfy]
 ds:=[]
 modes:=[(65,[false,false,false,false]),(71,[false,false]),(79,[false,false]),(80,[false]),(81,[false,false])]
 ro:=[false]
theorem jbV:Con.OK Tryz.prog j51:=
 cOf j0c j00 jia j51 Tryz.func36 (j9 jcS (j9 jbS (j9 jcB (j9 jjF (j9 jpP trivial))))) trivial
def jcV:Con:=⟨34,[],[],⟨[.v .bool],[]⟩,[.bool],fun h=>Pw.j9e⟩
def joQ:FnD where
 N:=85
 np:=0
 cs:=[jbC,j6v,j9q,j51]
 ds:=[]
 modes:=[(32,[false,false,false]),(33,[false,false,false,false]),(36,[false,false,false,false]),(76,[false,false,false,false])]
 ro:=[false]
theorem jnu:Con.OK Tryz.prog jcV:=
 cOf j0c j00 joQ jcV Tryz.func34 (j9 jly (j9 jgc (j9 jjE (j9 jbV trivial)))) trivial
def jee:Con:=⟨11,[.v (.list iT)],[(.list iT)],⟨[.box [(.list iT),iT]],[]⟩,[(.list iT),iT],fun h=>Pw.jkO h⟩
def jpQ:FnD where
 N:=6
 np:=1
 cs:=[]
 ds:=[]
 ro:=[false]
theorem joR:Con.OK Tryz.prog jee:=
 cOf j0c j00 jpQ jee Tryz.func11 trivial trivial
def j0Q:Con:=⟨22,[.ref [(.list iT),iT],.v iT],[(.list iT),iT,iT],⟨[.v iT],[.ref [(.list iT),iT]]⟩,[iT,(.list iT),iT],fun h=>Pw.j02 h.1 h.2.1 h.2.2⟩
def jjG:FnD where
 N:=45
 np:=2
 cs:=[]
 ds:=[]
 ro:=[false]
theorem j1y:Con.OK Tryz.prog j0Q:=
 cOf j0c j00 jjG j0Q Tryz.func22 trivial trivial
end Go.Proofs.Pk
