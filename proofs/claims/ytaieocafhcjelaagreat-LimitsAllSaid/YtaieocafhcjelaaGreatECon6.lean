/- cJ: each given function is its plain function, printed by a program. -/
import Derived.Test.YtaieocafhcjelaaGreatECon5
noncomputable section
open Go Go.Lft
set_option linter.unusedVariables false
set_option maxRecDepth 100000
namespace Go.Proofs.Pk
def Me:Con:=⟨161,[.rl 70 ay,.v iT,.clo 90 []],[ay,iT],⟨[],[.rl ay]⟩,[ay],Pw.unc2 Pw.j1M⟩
def jaF:FnD where
 N:=63
 np:=3
 cs:=[Mb,TS]
 ds:=[⟨0,[.s (.one (.ol 0)),sI,.s (.one (.clo 90 [])),sI,sI,sI,.b (.lst 70 bd false)],[iT,iT,iT,iT,ay],[⟨.exit 0,[.s (.one (.ol 0)),sI,.s (.one (.clo 90 [])),sI,sI,.b (.lst 70 bd false)],[iT,iT,iT,ay]⟩],Pw.unc5 (Pw.j0m)⟩,
  ⟨2,[.s (.one (.ol 0)),sI,.s (.one (.clo 90 [])),sI,.b (.lst 70 bd false)],[iT,iT,ay],[⟨.exit 2,[.b (.lst 70 bd false)],[ay]⟩],Pw.unc3 (Pw.j0x)⟩,
  ⟨4,[.s (.one (.ol 0)),sI,.s (.one (.clo 90 [])),sI,sI,sI,.b (.lst 70 bd false)],[iT,iT,iT,iT,ay],[⟨.exit 4,[.s (.one (.ol 0)),sI,.s (.one (.clo 90 [])),sI,sI,.b (.lst 70 bd false)],[iT,iT,iT,ay]⟩],Pw.unc5 (Pw.j0n)⟩]
 modes:=[(235,[true,false,false,false]),(236,[true,false,false,false,false])]
 keep:=[(0,⟨[0,1,2,6,7,8],[0],[],[]⟩),
  (2,⟨[0,1,2,6],[0],[],[]⟩),
  (4,⟨[0,1,2,6,7,8],[0],[],[]⟩)]
 keepX:=[(0,.exit 0,⟨[0,1,2,6,7],[0],[],[]⟩),
  (2,.exit 2,⟨[],[0],[],[]⟩),
  (4,.exit 4,⟨[0,1,2,6,7],[0],[],[]⟩)]
theorem jan:Con.OK Tryz.prog Me:=
 cOf aM aN jaF Me Tryz.func161 (j9 j7U (j9 j9J trivial)) (j9 (λh=>by kernel_rfl) (j9 (λh=>by kernel_rfl) (j9 (λh=>by kernel_rfl) trivial)))
def Mf:Con:=⟨89,[.rl 70 ay,.clo 90 []],[ay],⟨[],[.rl ay]⟩,[ay],λh=>Pw.j0o h⟩
def j7l:FnD where
 N:=9
 np:=2
 cs:=[Me]
 ds:=[]
 modes:=[(161,[true,false,false])]
theorem j76:Con.OK Tryz.prog Mf:=
 cOf aM aN j7l Mf Tryz.func89 (j9 jan trivial) trivial
def Mg:Con:=⟨31,[.v bQ,.v iT,.v iT],[bQ,iT,iT],⟨[.own 70 ay,.v iT],[]⟩,[ay,iT],Pw.unc3 Pw.j39⟩
def jja:FnD where
 N:=83
 np:=3
 cs:=[DK,DL,GD,Ma,Mf]
 ds:=[⟨1,[sI,sI,.s (.one (.bp 512 0)),.s (.one (.ol 1001000)),.s (.one (.d aO)),sI,sI,.b (.cell [.d aD,.d aH,.d aG,.d aO,.d ec] false),.b (.lst 36 ak false)],[iT,iT,aO,iT,iT,aD,aH,aG,aO,ec,qM],[⟨.ret,[.s (.one (.nil)),sI],[iT]⟩,⟨.exit 1,[.s (.one (.ol 1501200)),.b (.lst 36 ak false)],[qM]⟩],Pw.jtH (Pw.j1N)⟩,
  ⟨3,[.s (.one (.ol 1003000)),.s (.one (.ol 1003001)),sI,sI,.b (.lst 36 ak false),.b (.lst 70 bd false)],[iT,iT,qM,ay],[⟨.exit 3,[.s (.one (.ol 1503400)),.b (.lst 70 bd false)],[ay]⟩],Pw.unc4 (Pw.j1P)⟩,
  ⟨5,[.s (.one (.ol 1005000)),.s (.one (.ol 1005001)),sI,sI,sI,sI,.b (.lst 36 ak false),.b (.lst 70 bd false)],[iT,iT,iT,iT,qM,ay],[⟨.exit 5,[.s (.one (.ol 1505600)),.s (.one (.ol 1505601)),sI,sI,.b (.lst 36 ak false),.b (.lst 70 bd false)],[iT,iT,qM,ay]⟩],Pw.unc6 (Pw.j1O)⟩]
 modes:=[(76,[false,false,false,false]),(86,[false]),(87,[false,false]),(88,[false,false,false,false]),(89,[true,false])]
 keep:=[(1,⟨[1,2,8,10,31,32,33],[512],[⟨1001000,36,ak,[.slot 10],false⟩],[]⟩),
  (3,⟨[10,14,51,52],[],[⟨1003000,36,ak,[.slot 10],false⟩,⟨1003001,70,bd,[.slot 14],false⟩],[]⟩),
  (5,⟨[10,14,15,16,51,52],[],[⟨1005000,36,ak,[.slot 10],false⟩,⟨1005001,70,bd,[.slot 14],false⟩],[]⟩)]
 keepX:=[(1,.ret,⟨[6,7],[],[],[]⟩),
  (1,.exit 1,⟨[10],[],[⟨1501200,36,ak,[.slot 10],false⟩],[]⟩),
  (3,.exit 3,⟨[14],[],[⟨1503400,70,bd,[.slot 14],false⟩],[]⟩),
  (5,.exit 5,⟨[10,14,51,52],[],[⟨1505600,36,ak,[.slot 10],false⟩,⟨1505601,70,bd,[.slot 14],false⟩],[]⟩)]
 ro:=[true,false]
 dw:=[(22,[[],[],[],[],[],[],[],[],[],[],[],[4736],[4800,1005001],[]])]
theorem jia:Con.OK Tryz.prog Mg:=
 cOf aM aN jja Mg Tryz.func31 (j9 Lt (j9 Lu (j9 TP (j9 jj9 (j9 j76 trivial))))) (j9 (λh=>by kernel_rfl) (j9 (λh=>by kernel_rfl) (j9 (λh=>by kernel_rfl) trivial)))
def Mh:Con:=⟨134,[.v ae,.v iT],[ae,iT],⟨[.v iT],[]⟩,[iT],Pw.unc2 Pw.j6d⟩
def jmf:FnD where
 N:=29
 np:=2
 cs:=[]
 ds:=[⟨0,[sI,sI,.s (.one (.d ae)),sI,sI],[iT,iT,ae,iT,iT],[⟨.exit 0,[sI],[iT]⟩],Pw.unc5 (Pw.j4J)⟩]
 keep:=[(0,⟨[1,5,8,9,10],[],[],[]⟩)]
 keepX:=[(0,.exit 0,⟨[5],[],[],[]⟩)]
 ro:=[false]
theorem jkE:Con.OK Tryz.prog Mh:=
 cOf aM aN jmf Mh Tryz.func134 trivial (j9 (λh=>by kernel_rfl) trivial)
def Mi:Con:=⟨114,[.v ae,.v iT,.v iT,.v iT],[ae,iT,iT,iT],⟨[.own 3 (.list iT)],[]⟩,[(.list iT)],Pw.unc4 Pw.j8c⟩
def jn4:FnD where
 N:=74
 np:=4
 cs:=[Gv,Mh]
 ds:=[⟨0,[.s (.one (.d ae)),sI,sI,sI,.s (.one (.ol 1000000)),.s (.one (.d ae)),sI,sI,.b (.lst 3 iT false)],[ae,iT,iT,iT,ae,iT,iT,(.list iT)],[⟨.exit 0,[.s (.one (.d ae)),sI,sI,sI,.s (.one (.ol 1500100)),.b (.lst 3 iT false)],[ae,iT,iT,iT,(.list iT)]⟩],Pw.unc8 (Pw.j5d)⟩,
  ⟨2,[.s (.one (.d ae)),sI,.s (.one (.ol 1002000)),sI,.s (.one (.ol 1002001)),sI,sI,.b (.lst 3 iT false),.b (.lst 3 iT false)],[ae,iT,iT,iT,iT,(.list iT),(.list iT)],[⟨.exit 2,[.s (.one (.ol 1502300)),.b (.lst 3 iT false)],[(.list iT)]⟩],Pw.unc7 (Pw.j2N)⟩]
 modes:=[(134,[false,false]),(150,[false,false,false])]
 keep:=[(0,⟨[0,1,2,3,9,18,19,20],[],[⟨1000000,3,iT,[.slot 9],false⟩],[]⟩),
  (2,⟨[0,1,12,13,42,43,44],[],[⟨1002000,3,iT,[.slot 12],false⟩,⟨1002001,3,iT,[.slot 42],false⟩],[]⟩)]
 keepX:=[(0,.exit 0,⟨[0,1,2,3,9],[],[⟨1500100,3,iT,[.slot 9],false⟩],[]⟩),
  (2,.exit 2,⟨[12],[],[⟨1502300,3,iT,[.slot 12],false⟩],[]⟩)]
 ro:=[true]
theorem jmg:Con.OK Tryz.prog Mi:=
 cOf aM aN jn4 Mi Tryz.func114 (j9 TE (j9 jkE trivial)) (j9 (λh=>by kernel_rfl) (j9 (λh=>by kernel_rfl) trivial))
def Mj:Con:=⟨115,[.v ae,.v iT],[ae,iT],⟨[.own 3 (.list iT)],[]⟩,[(.list iT)],Pw.unc2 Pw.j7a⟩
def jn5:FnD where
 N:=36
 np:=2
 cs:=[]
 ds:=[⟨0,[.s (.one (.d ae)),sI,.s (.one (.ol 1000000)),sI,.b (.lst 3 iT false)],[ae,iT,iT,(.list iT)],[⟨.exit 0,[.s (.one (.ol 1500100)),.b (.lst 3 iT false)],[(.list iT)]⟩],Pw.unc4 (Pw.j4d)⟩]
 keep:=[(0,⟨[0,1,5,6],[],[⟨1000000,3,iT,[.slot 5],false⟩],[]⟩)]
 keepX:=[(0,.exit 0,⟨[5],[],[⟨1500100,3,iT,[.slot 5],false⟩],[]⟩)]
 ro:=[true]
theorem jmh:Con.OK Tryz.prog Mj:=
 cOf aM aN jn5 Mj Tryz.func115 trivial (j9 (λh=>by kernel_rfl) trivial)
def GI:Con:=⟨118,[.v dQ,.v iT],[dQ,iT],⟨[.v cb],[]⟩,[cb],Pw.unc2 Pw.j3r⟩
def jk0:FnD where
 N:=10
 np:=2
 cs:=[]
 ds:=[]
 ro:=[false]
theorem TT:Con.OK Tryz.prog GI:=
 cOf aM aN jk0 GI Tryz.func118 trivial trivial
def Mk:Con:=⟨119,[.v ae],[ae],⟨[.own 3 (.list iT)],[]⟩,[(.list iT)],λh=>Pw.j4B h⟩
def jmi:FnD where
 N:=19
 np:=1
 cs:=[]
 ds:=[⟨0,[.s (.one (.ol 1000000)),.s (.one (.d ae)),sI,sI,.b (.lst 3 iT false)],[ae,iT,iT,(.list iT)],[⟨.exit 0,[.s (.one (.ol 1500100)),.b (.lst 3 iT false)],[(.list iT)]⟩],Pw.unc4 (Pw.j4K)⟩]
 keep:=[(0,⟨[3,6,7,8],[],[⟨1000000,3,iT,[.slot 3],false⟩],[]⟩)]
 keepX:=[(0,.exit 0,⟨[3],[],[⟨1500100,3,iT,[.slot 3],false⟩],[]⟩)]
 ro:=[true]
theorem jkF:Con.OK Tryz.prog Mk:=
 cOf aM aN jmi Mk Tryz.func119 trivial (j9 (λh=>by kernel_rfl) trivial)
def Ml:Con:=⟨121,[.v an,.v an],[an,an],⟨[.v iT],[]⟩,[iT],Pw.unc2 Pw.j5x⟩
def jn6:FnD where
 N:=32
 np:=2
 cs:=[]
 ds:=[]
 ro:=[false]
theorem jvi:Con.OK Tryz.prog Ml:=
 cOf aM aN jn6 Ml Tryz.func121 trivial trivial
def Mm:Con:=⟨120,[.rl 96 ak,.clo 121 []],[ak],⟨[],[.rl ak]⟩,[ak],λh=>Pw.j03 h⟩
def jaG:FnD where
 N:=14
 np:=2
 cs:=[Ml]
 ds:=[]
 modes:=[(121,[false,false])]
theorem TU:Con.OK Tryz.prog Mm:=
 Ke Tryz.sort120 (an) rfl 96 (by kernel_rfl) Tryz.isAgg96 Tryz.sizeOf96 _ 121 (enters_of Tryz.func121 (by kernel_rfl) rfl) jrw jrx 120 rfl
def Mn:Con:=⟨122,[.rl 96 ak],[ak],⟨[.hd],[.rl ak]⟩,[iT,ak],λh=>Pw.j05 h⟩
def j77:FnD where
 N:=61
 np:=1
 cs:=[]
 ds:=[⟨0,[.s (.one (.ol 0)),sI,.b (.lst 96 an false)],[iT,ak],[⟨.ret,[.s (.one (.hd 0)),.b (.lst 96 an false)],[iT,ak]⟩,⟨.exit 0,[.s (.one (.ol 0)),.b (.lst 96 an false)],[ak]⟩],Pw.unc2 (Pw.j0d)⟩,
  ⟨2,[.s (.one (.ol 0)),sI,.s (.one (.tl 0)),sI,.b (.lst 96 an false)],[iT,iT,iT,ak],[⟨.exit 2,[.s (.one (.ol 0)),sI,.b (.lst 96 an false)],[iT,ak]⟩],Pw.unc4 (Pw.j0J)⟩]
 keep:=[(0,⟨[0,3],[0],[],[]⟩),
  (2,⟨[0,3,4,5],[0],[],[]⟩)]
 keepX:=[(0,.ret,⟨[2],[0],[],[]⟩),
  (0,.exit 0,⟨[0],[0],[],[]⟩),
  (2,.exit 2,⟨[0,3],[0],[],[]⟩)]
 ro:=[false]
 hd:=true
theorem j72:Con.OK Tryz.prog Mn:=
 cOf aM aN j77 Mn Tryz.func122 trivial (j9 (λh=>by kernel_rfl) (j9 (λh=>by kernel_rfl) trivial))
def DR:Con:=⟨48,[.v bQ,.v iT,.v iT,.v iT],[bQ,iT,iT,iT],⟨[.own 96 ak,.v iT],[]⟩,[ak,iT],Pw.unc4 Pw.j14⟩
def jib:FnD where
 N:=146
 np:=4
 cs:=[DM,GA,GB,GF,Mg,Mi,Mj,GI,Mk,Mm,Mn]
 ds:=[⟨0,[sI,.s (.one (.bp 960 0)),.s (.one (.ol 1000000)),sI,sI,.b (.cell [.ol 1000001,.ol 1000002,.ol 1000003,.ol 1000004] false),.b (.lst 70 bd false),.b (.lst 3 iT false),.b (.lst 3 iT false),.b (.lst 3 iT false),.b (.lst 3 iT false)],[iT,iT,iT,ay,(.list iT),(.list iT),(.list iT),(.list iT)],[⟨.exit 0,[sI,.s (.one (.bp 960 0)),.b (.cell [.ol 1500100,.ol 1500101,.ol 1500102,.ol 1500103] false),.b (.lst 3 iT false),.b (.lst 3 iT false),.b (.lst 3 iT false),.b (.lst 3 iT false)],[iT,(.list iT),(.list iT),(.list iT),(.list iT)]⟩],Pw.unc8 (Pw.j3s)⟩,
  ⟨2,[sI,.s (.one (.ol 1002000)),.s (.av 4 (.list iT)),sI,.b (.lst 96 an false)],[iT,Ky,iT,ak],[⟨.exit 2,[.s (.one (.ol 1502300)),.b (.lst 96 an false)],[ak]⟩],Pw.unc4 (Pw.j0T)⟩,
  ⟨4,[sI,.s (.one (.ol 1004000)),sI,.s (.av 4 (.list iT)),sI,.s (.one (.d (.list iT))),sI,sI,.b (.lst 96 an false)],[iT,iT,Ky,iT,(.list iT),iT,iT,ak],[⟨.exit 4,[sI,.s (.one (.ol 1504500)),.s (.av 4 (.list iT)),sI,.b (.lst 96 an false)],[iT,Ky,iT,ak]⟩],Pw.unc8 (Pw.j3t)⟩]
 modes:=[(31,[false,false,false]),(112,[false,false,false,false]),(113,[false,false,false,false]),(114,[false,false,false,false]),(115,[false,false]),(116,[false,false]),(117,[false,false,false,false]),(118,[false,false]),(119,[false]),(120,[true,false]),(122,[true])]
 keep:=[(0,⟨[1,15,100,101,102],[960],[⟨1000000,70,bd,[.slot 100],false⟩,⟨1000001,3,iT,[.cell 960 0],false⟩,⟨1000002,3,iT,[.cell 960 1],false⟩,⟨1000003,3,iT,[.cell 960 2],false⟩,⟨1000004,3,iT,[.cell 960 3],false⟩],[]⟩),
  (2,⟨[1,19,118,119],[],[⟨1002000,96,an,[.slot 19],false⟩],[]⟩),
  (4,⟨[1,19,20,118,119,123,124,125],[],[⟨1004000,96,an,[.slot 19],false⟩],[]⟩)]
 keepX:=[(0,.exit 0,⟨[1,15],[960],[⟨1500100,3,iT,[.cell 960 0],false⟩,⟨1500101,3,iT,[.cell 960 1],false⟩,⟨1500102,3,iT,[.cell 960 2],false⟩,⟨1500103,3,iT,[.cell 960 3],false⟩],[]⟩),
  (2,.exit 2,⟨[19],[],[⟨1502300,96,an,[.slot 19],false⟩],[]⟩),
  (4,.exit 4,⟨[1,19,118,119],[],[⟨1504500,96,an,[.slot 19],false⟩],[]⟩)]
 ro:=[true,false]
 dw:=[(17,[[],[],[],[],[],[],[],[],[],[5888],[5952],[]])]
theorem Mo:Con.OK Tryz.prog DR:=
 cOf aM aN jib DR Tryz.func48 (j9 Lv (j9 TL (j9 TM (j9 TQ (j9 jia (j9 jmg (j9 jmh (j9 TT (j9 jkF (j9 TU (j9 j72 trivial))))))))))) (j9 (λh=>by kernel_rfl) (j9 (λh=>by kernel_rfl) (j9 (λh=>by kernel_rfl) trivial)))
def Mp:Con:=⟨49,[.v bQ,.v iT,.v iT,.v iT],[bQ,iT,iT,iT],⟨[.own 99 ae,.v iT],[]⟩,[ae,iT],Pw.unc4 Pw.ja9⟩
def jmj:FnD where
 N:=30
 np:=4
 cs:=[DM,GF]
 ds:=[]
 modes:=[(112,[false,false,false,false]),(113,[false,false,false,false])]
 ro:=[true,false]
theorem jkG:Con.OK Tryz.prog Mp:=
 cOf aM aN jmj Mp Tryz.func49 (j9 Lv (j9 TQ trivial)) trivial
def Mq:Con:=⟨183,[.v aV],[aV],⟨[.v iT],[]⟩,[iT],λh=>Pw.j5l h⟩
def jmk:FnD where
 N:=10
 np:=1
 cs:=[Gr]
 ds:=[]
 modes:=[(263,[false])]
 ro:=[false]
theorem jkH:Con.OK Tryz.prog Mq:=
 cOf aM aN jmk Mq Tryz.func183 (j9 Tx trivial) trivial
def Mr:Con:=⟨182,[.v ae,.v iT],[ae,iT],⟨[.v .bool],[]⟩,[.bool],Pw.unc2 Pw.jh9⟩
def jtK:FnD where
 N:=24
 np:=2
 cs:=[]
 ds:=[⟨0,[sI,.s (.one (.d ae)),sI,sI],[iT,ae,iT,iT],[⟨.ret,[.s (.one (.d .bool))],[.bool]⟩,⟨.exit 0,[],[]⟩],Pw.unc4 (Pw.jfQ)⟩]
 keep:=[(0,⟨[1,7,8,9],[],[],[]⟩)]
 keepX:=[(0,.ret,⟨[4],[],[],[]⟩),
  (0,.exit 0,⟨[],[],[],[]⟩)]
 ro:=[false]
theorem jrD:Con.OK Tryz.prog Mr:=
 cOf aM aN jtK Mr Tryz.func182 trivial (j9 (λh=>by kernel_rfl) trivial)
def Ms:Con:=⟨111,[.v bQ,.v iT,.v iT,.v .bool],[bQ,iT,iT,.bool],⟨[.v .bool],[]⟩,[.bool],Pw.unc4 Pw.j65⟩
def jjb:FnD where
 N:=45
 np:=4
 cs:=[DM,GC,GI,Mq,Mr]
 ds:=[]
 modes:=[(112,[false,false,false,false]),(118,[false,false]),(182,[false,false]),(183,[false]),(184,[false,false])]
 ro:=[false]
theorem jic:Con.OK Tryz.prog Ms:=
 cOf aM aN jjb Ms Tryz.func111 (j9 Lv (j9 TN (j9 TT (j9 jkH (j9 jrD trivial))))) trivial
def Mt:Con:=⟨47,[],[],⟨[.v .bool],[]⟩,[.bool],λh=>Pw.jb7⟩
def jqu:FnD where
 N:=85
 np:=0
 cs:=[KA,DR,Mp,Ms]
 ds:=[]
 modes:=[(48,[false,false,false,false]),(49,[false,false,false,false]),(110,[false,false,false]),(111,[false,false,false,false])]
 ro:=[false]
theorem joS:Con.OK Tryz.prog Mt:=
 cOf aM aN jqu Mt Tryz.func47 (j9 jmM (j9 Mo (j9 jkG (j9 jic trivial)))) trivial
def Mu:Con:=⟨19,[.v (.list iT)],[(.list iT)],⟨[.box [(.list iT),iT]],[]⟩,[(.list iT),iT],λh=>Pw.jlY h⟩
def jrE:FnD where
 N:=6
 np:=1
 cs:=[]
 ds:=[]
 ro:=[false]
theorem jqv:Con.OK Tryz.prog Mu:=
 cOf aM aN jrE Mu Tryz.func19 trivial trivial
def qO:Con:=⟨40,[.ref [(.list iT),iT],.v iT],[(.list iT),iT,iT],⟨[.v iT],[.ref [(.list iT),iT]]⟩,[iT,(.list iT),iT],Pw.unc3 Pw.j07⟩
def jkI:FnD where
 N:=45
 np:=2
 cs:=[]
 ds:=[]
 ro:=[false]
theorem tJ:Con.OK Tryz.prog qO:=
 cOf aM aN jkI qO Tryz.func40 trivial trivial
def vR:Con:=⟨45,[.ref [(.list iT),iT],.v (.list iT)],[(.list iT),iT,(.list iT)],⟨[.v iT],[.ref [(.list iT),iT]]⟩,[iT,(.list iT),iT],Pw.unc3 Pw.j2b⟩
def jkJ:FnD where
 N:=12
 np:=2
 cs:=[qO]
 ds:=[]
 modes:=[(40,[false,false])]
 ro:=[false]
theorem Bb:Con.OK Tryz.prog vR:=
 cOf aM aN jkJ vR Tryz.func45 (j9 tJ trivial) trivial
end Go.Proofs.Pk
