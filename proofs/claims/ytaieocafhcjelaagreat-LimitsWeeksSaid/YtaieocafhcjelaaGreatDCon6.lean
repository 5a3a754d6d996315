/- cI: each given function is its plain function, printed by a program. -/
import Derived.Test.YtaieocafhcjelaaGreatDCon5
noncomputable section
open Go Go.Lft
set_option linter.unusedVariables false
set_option maxRecDepth 100000
namespace Go.Proofs.Pk
def L4:Con:=⟨161,[.rl 70 au,.v iT,.clo 90 []],[au,iT],⟨[],[.rl au]⟩,[au],Pw.unc2 Pw.j1K⟩
def jaB:FnD where
 N:=63
 np:=3
 cs:=[LZ,TD]
 ds:=[⟨0,[.s (.one (.ol 0)),sI,.s (.one (.clo 90 [])),sI,sI,sI,.b (.lst 70 bd false)],[iT,iT,iT,iT,au],[⟨.exit 0,[.s (.one (.ol 0)),sI,.s (.one (.clo 90 [])),sI,sI,.b (.lst 70 bd false)],[iT,iT,iT,au]⟩],Pw.unc5 (Pw.j0m)⟩,
  ⟨2,[.s (.one (.ol 0)),sI,.s (.one (.clo 90 [])),sI,.b (.lst 70 bd false)],[iT,iT,au],[⟨.exit 2,[.b (.lst 70 bd false)],[au]⟩],Pw.unc3 (Pw.j0x)⟩,
  ⟨4,[.s (.one (.ol 0)),sI,.s (.one (.clo 90 [])),sI,sI,sI,.b (.lst 70 bd false)],[iT,iT,iT,iT,au],[⟨.exit 4,[.s (.one (.ol 0)),sI,.s (.one (.clo 90 [])),sI,sI,.b (.lst 70 bd false)],[iT,iT,iT,au]⟩],Pw.unc5 (Pw.j0n)⟩]
 modes:=[(235,[true,false,false,false]),(236,[true,false,false,false,false])]
 keep:=[(0,⟨[0,1,2,6,7,8],[0],[],[]⟩),
  (2,⟨[0,1,2,6],[0],[],[]⟩),
  (4,⟨[0,1,2,6,7,8],[0],[],[]⟩)]
 keepX:=[(0,.exit 0,⟨[0,1,2,6,7],[0],[],[]⟩),
  (2,.exit 2,⟨[],[0],[],[]⟩),
  (4,.exit 4,⟨[0,1,2,6,7],[0],[],[]⟩)]
theorem jaj:Con.OK Tryz.prog L4:=
 cOf aJ aL jaB L4 Tryz.func161 (j9 j7R (j9 j9E trivial)) (j9 (λh=>by kernel_rfl) (j9 (λh=>by kernel_rfl) (j9 (λh=>by kernel_rfl) trivial)))
def L5:Con:=⟨89,[.rl 70 au,.clo 90 []],[au],⟨[],[.rl au]⟩,[au],λh=>Pw.j0o h⟩
def j7i:FnD where
 N:=9
 np:=2
 cs:=[L4]
 ds:=[]
 modes:=[(161,[true,false,false])]
theorem j73:Con.OK Tryz.prog L5:=
 cOf aJ aL j7i L5 Tryz.func89 (j9 jaj trivial) trivial
def L6:Con:=⟨31,[.v bS,.v iT,.v iT],[bS,iT,iT],⟨[.own 70 au,.v iT],[]⟩,[au,iT],Pw.unc3 Pw.j39⟩
def jj5:FnD where
 N:=83
 np:=3
 cs:=[Gg,Gh,Gt,LY,L5]
 ds:=[⟨1,[sI,sI,.s (.one (.bp 512 0)),.s (.one (.ol 1001000)),.s (.one (.d aV)),sI,sI,.b (.cell [.d aG,.d aP,.d aO,.d aV,.d ea] false),.b (.lst 36 aq false)],[iT,iT,aV,iT,iT,aG,aP,aO,aV,ea,qK],[⟨.ret,[.s (.one (.nil)),sI],[iT]⟩,⟨.exit 1,[.s (.one (.ol 1501200)),.b (.lst 36 aq false)],[qK]⟩],Pw.jtw (Pw.j1L)⟩,
  ⟨3,[.s (.one (.ol 1003000)),.s (.one (.ol 1003001)),sI,sI,.b (.lst 36 aq false),.b (.lst 70 bd false)],[iT,iT,qK,au],[⟨.exit 3,[.s (.one (.ol 1503400)),.b (.lst 70 bd false)],[au]⟩],Pw.unc4 (Pw.j1N)⟩,
  ⟨5,[.s (.one (.ol 1005000)),.s (.one (.ol 1005001)),sI,sI,sI,sI,.b (.lst 36 aq false),.b (.lst 70 bd false)],[iT,iT,iT,iT,qK,au],[⟨.exit 5,[.s (.one (.ol 1505600)),.s (.one (.ol 1505601)),sI,sI,.b (.lst 36 aq false),.b (.lst 70 bd false)],[iT,iT,qK,au]⟩],Pw.unc6 (Pw.j1M)⟩]
 modes:=[(76,[false,false,false,false]),(86,[false]),(87,[false,false]),(88,[false,false,false,false]),(89,[true,false])]
 keep:=[(1,⟨[1,2,8,10,31,32,33],[512],[⟨1001000,36,aq,[.slot 10],false⟩],[]⟩),
  (3,⟨[10,14,51,52],[],[⟨1003000,36,aq,[.slot 10],false⟩,⟨1003001,70,bd,[.slot 14],false⟩],[]⟩),
  (5,⟨[10,14,15,16,51,52],[],[⟨1005000,36,aq,[.slot 10],false⟩,⟨1005001,70,bd,[.slot 14],false⟩],[]⟩)]
 keepX:=[(1,.ret,⟨[6,7],[],[],[]⟩),
  (1,.exit 1,⟨[10],[],[⟨1501200,36,aq,[.slot 10],false⟩],[]⟩),
  (3,.exit 3,⟨[14],[],[⟨1503400,70,bd,[.slot 14],false⟩],[]⟩),
  (5,.exit 5,⟨[10,14,51,52],[],[⟨1505600,36,aq,[.slot 10],false⟩,⟨1505601,70,bd,[.slot 14],false⟩],[]⟩)]
 ro:=[true,false]
 dw:=[(22,[[],[],[],[],[],[],[],[],[],[],[],[4736],[4800,1005001],[]])]
theorem ji3:Con.OK Tryz.prog L6:=
 cOf aJ aL jj5 L6 Tryz.func31 (j9 Tj (j9 Tk (j9 TA (j9 jj4 (j9 j73 trivial))))) (j9 (λh=>by kernel_rfl) (j9 (λh=>by kernel_rfl) (j9 (λh=>by kernel_rfl) trivial)))
def Gx:Con:=⟨134,[.v aa,.v iT],[aa,iT],⟨[.v iT],[]⟩,[iT],Pw.unc2 Pw.j5l⟩
def jm8:FnD where
 N:=29
 np:=2
 cs:=[]
 ds:=[⟨0,[sI,sI,.s (.one (.d aa)),sI,sI],[iT,iT,aa,iT,iT],[⟨.exit 0,[sI],[iT]⟩],Pw.unc5 (Pw.j4L)⟩]
 keep:=[(0,⟨[1,5,8,9,10],[],[],[]⟩)]
 keepX:=[(0,.exit 0,⟨[5],[],[],[]⟩)]
 ro:=[false]
theorem TE:Con.OK Tryz.prog Gx:=
 cOf aJ aL jm8 Gx Tryz.func134 trivial (j9 (λh=>by kernel_rfl) trivial)
def L7:Con:=⟨114,[.v aa,.v iT,.v iT,.v iT],[aa,iT,iT,iT],⟨[.own 3 (.list iT)],[]⟩,[(.list iT)],Pw.unc4 Pw.j89⟩
def jmZ:FnD where
 N:=74
 np:=4
 cs:=[Gk,Gx]
 ds:=[⟨0,[.s (.one (.d aa)),sI,sI,sI,.s (.one (.ol 1000000)),.s (.one (.d aa)),sI,sI,.b (.lst 3 iT false)],[aa,iT,iT,iT,aa,iT,iT,(.list iT)],[⟨.exit 0,[.s (.one (.d aa)),sI,sI,sI,.s (.one (.ol 1500100)),.b (.lst 3 iT false)],[aa,iT,iT,iT,(.list iT)]⟩],Pw.unc8 (Pw.j5d)⟩,
  ⟨2,[.s (.one (.d aa)),sI,.s (.one (.ol 1002000)),sI,.s (.one (.ol 1002001)),sI,sI,.b (.lst 3 iT false),.b (.lst 3 iT false)],[aa,iT,iT,iT,iT,(.list iT),(.list iT)],[⟨.exit 2,[.s (.one (.ol 1502300)),.b (.lst 3 iT false)],[(.list iT)]⟩],Pw.unc7 (Pw.j2M)⟩]
 modes:=[(134,[false,false]),(150,[false,false,false])]
 keep:=[(0,⟨[0,1,2,3,9,18,19,20],[],[⟨1000000,3,iT,[.slot 9],false⟩],[]⟩),
  (2,⟨[0,1,12,13,42,43,44],[],[⟨1002000,3,iT,[.slot 12],false⟩,⟨1002001,3,iT,[.slot 42],false⟩],[]⟩)]
 keepX:=[(0,.exit 0,⟨[0,1,2,3,9],[],[⟨1500100,3,iT,[.slot 9],false⟩],[]⟩),
  (2,.exit 2,⟨[12],[],[⟨1502300,3,iT,[.slot 12],false⟩],[]⟩)]
 ro:=[true]
theorem jm9:Con.OK Tryz.prog L7:=
 cOf aJ aL jmZ L7 Tryz.func114 (j9 To (j9 TE trivial)) (j9 (λh=>by kernel_rfl) (j9 (λh=>by kernel_rfl) trivial))
def L8:Con:=⟨115,[.v aa,.v iT],[aa,iT],⟨[.own 3 (.list iT)],[]⟩,[(.list iT)],Pw.unc2 Pw.j77⟩
def jn0:FnD where
 N:=36
 np:=2
 cs:=[]
 ds:=[⟨0,[.s (.one (.d aa)),sI,.s (.one (.ol 1000000)),sI,.b (.lst 3 iT false)],[aa,iT,iT,(.list iT)],[⟨.exit 0,[.s (.one (.ol 1500100)),.b (.lst 3 iT false)],[(.list iT)]⟩],Pw.unc4 (Pw.j4b)⟩]
 keep:=[(0,⟨[0,1,5,6],[],[⟨1000000,3,iT,[.slot 5],false⟩],[]⟩)]
 keepX:=[(0,.exit 0,⟨[5],[],[⟨1500100,3,iT,[.slot 5],false⟩],[]⟩)]
 ro:=[true]
theorem jma:Con.OK Tryz.prog L8:=
 cOf aJ aL jn0 L8 Tryz.func115 trivial (j9 (λh=>by kernel_rfl) trivial)
def Gy:Con:=⟨118,[.v dN,.v iT],[dN,iT],⟨[.v bZ],[]⟩,[bZ],Pw.unc2 Pw.j3o⟩
def jjT:FnD where
 N:=10
 np:=2
 cs:=[]
 ds:=[]
 ro:=[false]
theorem TF:Con.OK Tryz.prog Gy:=
 cOf aJ aL jjT Gy Tryz.func118 trivial trivial
def L9:Con:=⟨119,[.v aa],[aa],⟨[.own 3 (.list iT)],[]⟩,[(.list iT)],λh=>Pw.j4C h⟩
def jmb:FnD where
 N:=19
 np:=1
 cs:=[]
 ds:=[⟨0,[.s (.one (.ol 1000000)),.s (.one (.d aa)),sI,sI,.b (.lst 3 iT false)],[aa,iT,iT,(.list iT)],[⟨.exit 0,[.s (.one (.ol 1500100)),.b (.lst 3 iT false)],[(.list iT)]⟩],Pw.unc4 (Pw.j4M)⟩]
 keep:=[(0,⟨[3,6,7,8],[],[⟨1000000,3,iT,[.slot 3],false⟩],[]⟩)]
 keepX:=[(0,.exit 0,⟨[3],[],[⟨1500100,3,iT,[.slot 3],false⟩],[]⟩)]
 ro:=[true]
theorem jkw:Con.OK Tryz.prog L9:=
 cOf aJ aL jmb L9 Tryz.func119 trivial (j9 (λh=>by kernel_rfl) trivial)
def Ma:Con:=⟨121,[.v ay,.v ay],[ay,ay],⟨[.v iT],[]⟩,[iT],Pw.unc2 Pw.j5y⟩
def jn1:FnD where
 N:=32
 np:=2
 cs:=[]
 ds:=[]
 ro:=[false]
theorem jv9:Con.OK Tryz.prog Ma:=
 cOf aJ aL jn1 Ma Tryz.func121 trivial trivial
def TG:Con:=⟨120,[.rl 96 aq,.clo 121 []],[aq],⟨[],[.rl aq]⟩,[aq],λh=>Pw.j04 h⟩
def jaC:FnD where
 N:=14
 np:=2
 cs:=[Ma]
 ds:=[]
 modes:=[(121,[false,false])]
theorem j4d:Con.OK Tryz.prog TG:=
 J6 Tryz.sort120 (ay) rfl 96 (by kernel_rfl) Tryz.isAgg96 Tryz.sizeOf96 _ 121 (enters_of Tryz.func121 (by kernel_rfl) rfl) jrm jrn 120 rfl
def Mb:Con:=⟨122,[.rl 96 aq],[aq],⟨[.hd],[.rl aq]⟩,[iT,aq],λh=>Pw.j06 h⟩
def j74:FnD where
 N:=61
 np:=1
 cs:=[]
 ds:=[⟨0,[.s (.one (.ol 0)),sI,.b (.lst 96 ay false)],[iT,aq],[⟨.ret,[.s (.one (.hd 0)),.b (.lst 96 ay false)],[iT,aq]⟩,⟨.exit 0,[.s (.one (.ol 0)),.b (.lst 96 ay false)],[aq]⟩],Pw.unc2 (Pw.j0d)⟩,
  ⟨2,[.s (.one (.ol 0)),sI,.s (.one (.tl 0)),sI,.b (.lst 96 ay false)],[iT,iT,iT,aq],[⟨.exit 2,[.s (.one (.ol 0)),sI,.b (.lst 96 ay false)],[iT,aq]⟩],Pw.unc4 (Pw.j0J)⟩]
 keep:=[(0,⟨[0,3],[0],[],[]⟩),
  (2,⟨[0,3,4,5],[0],[],[]⟩)]
 keepX:=[(0,.ret,⟨[2],[0],[],[]⟩),
  (0,.exit 0,⟨[0],[0],[],[]⟩),
  (2,.exit 2,⟨[0,3],[0],[],[]⟩)]
 ro:=[false]
 hd:=true
theorem j6Z:Con.OK Tryz.prog Mb:=
 cOf aJ aL j74 Mb Tryz.func122 trivial (j9 (λh=>by kernel_rfl) (j9 (λh=>by kernel_rfl) trivial))
def Gz:Con:=⟨48,[.v bS,.v iT,.v iT,.v iT],[bS,iT,iT,iT],⟨[.own 96 aq,.v iT],[]⟩,[aq,iT],Pw.unc4 Pw.j2l⟩
def ji4:FnD where
 N:=146
 np:=4
 cs:=[DA,Gq,Gr,Gu,L6,L7,L8,Gy,L9,TG,Mb]
 ds:=[⟨0,[sI,.s (.one (.bp 960 0)),.s (.one (.ol 1000000)),sI,sI,.b (.cell [.ol 1000001,.ol 1000002,.ol 1000003,.ol 1000004] false),.b (.lst 70 bd false),.b (.lst 3 iT false),.b (.lst 3 iT false),.b (.lst 3 iT false),.b (.lst 3 iT false)],[iT,iT,iT,au,(.list iT),(.list iT),(.list iT),(.list iT)],[⟨.exit 0,[sI,.s (.one (.bp 960 0)),.b (.cell [.ol 1500100,.ol 1500101,.ol 1500102,.ol 1500103] false),.b (.lst 3 iT false),.b (.lst 3 iT false),.b (.lst 3 iT false),.b (.lst 3 iT false)],[iT,(.list iT),(.list iT),(.list iT),(.list iT)]⟩],Pw.unc8 (Pw.j3p)⟩,
  ⟨2,[sI,.s (.one (.ol 1002000)),.s (.av 4 (.list iT)),sI,.b (.lst 96 ay false)],[iT,Kq,iT,aq],[⟨.exit 2,[.s (.one (.ol 1502300)),.b (.lst 96 ay false)],[aq]⟩],Pw.unc4 (Pw.j0S)⟩,
  ⟨4,[sI,.s (.one (.ol 1004000)),sI,.s (.av 4 (.list iT)),sI,.s (.one (.d (.list iT))),sI,sI,.b (.lst 96 ay false)],[iT,iT,Kq,iT,(.list iT),iT,iT,aq],[⟨.exit 4,[sI,.s (.one (.ol 1504500)),.s (.av 4 (.list iT)),sI,.b (.lst 96 ay false)],[iT,Kq,iT,aq]⟩],Pw.unc8 (Pw.j3q)⟩]
 modes:=[(31,[false,false,false]),(112,[false,false,false,false]),(113,[false,false,false,false]),(114,[false,false,false,false]),(115,[false,false]),(116,[false,false]),(117,[false,false,false,false]),(118,[false,false]),(119,[false]),(120,[true,false]),(122,[true])]
 keep:=[(0,⟨[1,15,100,101,102],[960],[⟨1000000,70,bd,[.slot 100],false⟩,⟨1000001,3,iT,[.cell 960 0],false⟩,⟨1000002,3,iT,[.cell 960 1],false⟩,⟨1000003,3,iT,[.cell 960 2],false⟩,⟨1000004,3,iT,[.cell 960 3],false⟩],[]⟩),
  (2,⟨[1,19,118,119],[],[⟨1002000,96,ay,[.slot 19],false⟩],[]⟩),
  (4,⟨[1,19,20,118,119,123,124,125],[],[⟨1004000,96,ay,[.slot 19],false⟩],[]⟩)]
 keepX:=[(0,.exit 0,⟨[1,15],[960],[⟨1500100,3,iT,[.cell 960 0],false⟩,⟨1500101,3,iT,[.cell 960 1],false⟩,⟨1500102,3,iT,[.cell 960 2],false⟩,⟨1500103,3,iT,[.cell 960 3],false⟩],[]⟩),
  (2,.exit 2,⟨[19],[],[⟨1502300,96,ay,[.slot 19],false⟩],[]⟩),
  (4,.exit 4,⟨[1,19,118,119],[],[⟨1504500,96,ay,[.slot 19],false⟩],[]⟩)]
 ro:=[true,false]
 dw:=[(17,[[],[],[],[],[],[],[],[],[],[5888],[5952],[]])]
theorem TH:Con.OK Tryz.prog Gz:=
 cOf aJ aL ji4 Gz Tryz.func48 (j9 Ll (j9 Tv (j9 Tw (j9 TB (j9 ji3 (j9 jm9 (j9 jma (j9 TF (j9 jkw (j9 j4d (j9 j6Z trivial))))))))))) (j9 (λh=>by kernel_rfl) (j9 (λh=>by kernel_rfl) (j9 (λh=>by kernel_rfl) trivial)))
def GA:Con:=⟨49,[.v bS,.v iT,.v iT,.v iT],[bS,iT,iT,iT],⟨[.own 99 aa,.v iT],[]⟩,[aa,iT],Pw.unc4 Pw.j4D⟩
def jmc:FnD where
 N:=30
 np:=4
 cs:=[DA,Gu]
 ds:=[]
 modes:=[(112,[false,false,false,false]),(113,[false,false,false,false])]
 ro:=[true,false]
theorem TI:Con.OK Tryz.prog GA:=
 cOf aJ aL jmc GA Tryz.func49 (j9 Ll (j9 TB trivial)) trivial
def Mc:Con:=⟨183,[.v aQ],[aQ],⟨[.v iT],[]⟩,[iT],λh=>Pw.j5m h⟩
def jmd:FnD where
 N:=10
 np:=1
 cs:=[Gd]
 ds:=[]
 modes:=[(263,[false])]
 ro:=[false]
theorem jkx:Con.OK Tryz.prog Mc:=
 cOf aJ aL jmd Mc Tryz.func183 (j9 Tg trivial) trivial
def Md:Con:=⟨182,[.v aa,.v iT],[aa,iT],⟨[.v .bool],[]⟩,[.bool],Pw.unc2 Pw.jh2⟩
def jtz:FnD where
 N:=24
 np:=2
 cs:=[]
 ds:=[⟨0,[sI,.s (.one (.d aa)),sI,sI],[iT,aa,iT,iT],[⟨.ret,[.s (.one (.d .bool))],[.bool]⟩,⟨.exit 0,[],[]⟩],Pw.unc4 (Pw.jfG)⟩]
 keep:=[(0,⟨[1,7,8,9],[],[],[]⟩)]
 keepX:=[(0,.ret,⟨[4],[],[],[]⟩),
  (0,.exit 0,⟨[],[],[],[]⟩)]
 ro:=[false]
theorem jrt:Con.OK Tryz.prog Md:=
 cOf aJ aL jtz Md Tryz.func182 trivial (j9 (λh=>by kernel_rfl) trivial)
def Me:Con:=⟨111,[.v bS,.v iT,.v iT,.v .bool],[bS,iT,iT,.bool],⟨[.v .bool],[]⟩,[.bool],Pw.unc4 Pw.j67⟩
def jj6:FnD where
 N:=45
 np:=4
 cs:=[DA,Gs,Gy,Mc,Md]
 ds:=[]
 modes:=[(112,[false,false,false,false]),(118,[false,false]),(182,[false,false]),(183,[false]),(184,[false,false])]
 ro:=[false]
theorem ji5:Con.OK Tryz.prog Me:=
 cOf aJ aL jj6 Me Tryz.func111 (j9 Ll (j9 Tx (j9 TF (j9 jkx (j9 jrt trivial))))) trivial
def Mf:Con:=⟨47,[],[],⟨[.v .bool],[]⟩,[.bool],λh=>Pw.j9P⟩
def jqk:FnD where
 N:=85
 np:=0
 cs:=[Ks,Gz,GA,Me]
 ds:=[]
 modes:=[(48,[false,false,false,false]),(49,[false,false,false,false]),(110,[false,false,false]),(111,[false,false,false,false])]
 ro:=[false]
theorem joM:Con.OK Tryz.prog Mf:=
 cOf aJ aL jqk Mf Tryz.func47 (j9 jmH (j9 TH (j9 TI (j9 ji5 trivial)))) trivial
def Mg:Con:=⟨19,[.v (.list iT)],[(.list iT)],⟨[.box [(.list iT),iT]],[]⟩,[(.list iT),iT],λh=>Pw.jlR h⟩
def jru:FnD where
 N:=6
 np:=1
 cs:=[]
 ds:=[]
 ro:=[false]
theorem jql:Con.OK Tryz.prog Mg:=
 cOf aJ aL jru Mg Tryz.func19 trivial trivial
def oW:Con:=⟨40,[.ref [(.list iT),iT],.v iT],[(.list iT),iT,iT],⟨[.v iT],[.ref [(.list iT),iT]]⟩,[iT,(.list iT),iT],Pw.unc3 Pw.j07⟩
def jky:FnD where
 N:=45
 np:=2
 cs:=[]
 ds:=[]
 ro:=[false]
theorem rS:Con.OK Tryz.prog oW:=
 cOf aJ aL jky oW Tryz.func40 trivial trivial
def vL:Con:=⟨45,[.ref [(.list iT),iT],.v (.list iT)],[(.list iT),iT,(.list iT)],⟨[.v iT],[.ref [(.list iT),iT]]⟩,[iT,(.list iT),iT],Pw.unc3 Pw.j27⟩
def jkz:FnD where
 N:=12
 np:=2
 cs:=[oW]
 ds:=[]
 modes:=[(40,[false,false])]
 ro:=[false]
theorem AS:Con.OK Tryz.prog vL:=
 cOf aJ aL jkz vL Tryz.func45 (j9 rS trivial) trivial
end Go.Proofs.Pk
