/- cJ: each given function is its plain function, printed by a program. -/
import Derived.Test.YtaieocafhcjelaaGreatECon6
noncomputable section
open Go Go.Lft
set_option linter.unusedVariables false
set_option maxRecDepth 100000
namespace Go.Proofs.Pk
def Mv:Con:=⟨149,[.ref [(.list iT),iT],.v .str],[(.list iT),iT,.str],⟨[.v cj],[.ref [(.list iT),iT]]⟩,[cj,(.list iT),iT],Pw.unc3 Pw.j5y⟩
def jkK:FnD where
 N:=98
 np:=2
 cs:=[qO,vR]
 ds:=[]
 modes:=[(40,[false,false]),(45,[false,false])]
 ro:=[false]
 dw:=[(7,[[],[],[0],[],[],[0],[],[0],[],[],[],[],[0],[],[],[],[],[],[],[0],[],[],[3968],[0,3968],[],[0],[],[0],[],[],[],[],[4608],[],[320]]),(9,[[],[],[],[5056],[0,5056],[],[]])]
theorem jk1:Con.OK Tryz.prog Mv:=
 cOf aM aN jkK Mv Tryz.func149 (j9 tJ (j9 Bb trivial)) trivial
def GJ:Con:=⟨73,[],[],⟨[.own 9 (.list .str)],[]⟩,[(.list .str)],λh=>Pw.jha⟩
def jqw:FnD where
 N:=2
 np:=0
 cs:=[]
 ds:=[]
 ro:=[true]
theorem TW:Con.OK Tryz.prog GJ:=
 cOf aM aN jqw GJ Tryz.func73 trivial trivial
def Bc:Con:=⟨74,[.ref [(.list iT),iT],.v iT],[(.list iT),iT,iT],⟨[.v .bool],[.ref [(.list iT),iT]]⟩,[.bool,(.list iT),iT],Pw.unc3 Pw.j1T⟩
def jkL:FnD where
 N:=11
 np:=2
 cs:=[qO]
 ds:=[]
 modes:=[(40,[false,false])]
 ro:=[false]
theorem GK:Con.OK Tryz.prog Bc:=
 cOf aM aN jkL Bc Tryz.func74 (j9 tJ trivial) trivial
def GL:Con:=⟨143,[.ref [(.list iT),iT]],[(.list iT),iT],⟨[.own 200 ae],[.ref [(.list iT),iT]]⟩,[ae,(.list iT),iT],Pw.unc2 Pw.j5E⟩
def jid:FnD where
 N:=38
 np:=1
 cs:=[qO,vR]
 ds:=[⟨0,[.s (.one (.bp 0 0)),.s (.one (.ol 1000000)),sI,sI,.b (.cell [.d (.list iT),.d iT] false),.b (.lst 200 aV false)],[iT,iT,(.list iT),iT,ae],[⟨.exit 0,[.s (.one (.ol 1500100)),.b (.cell [.d (.list iT),.d iT] false),.b (.lst 200 aV false)],[(.list iT),iT,ae]⟩],Pw.unc5 (Pw.j3u)⟩]
 modes:=[(40,[false,false]),(45,[false,false])]
 keep:=[(0,⟨[0,3,4,5],[0],[⟨1000000,200,aV,[.slot 3],false⟩],[]⟩)]
 keepX:=[(0,.exit 0,⟨[3],[0],[⟨1500100,200,aV,[.slot 3],false⟩],[]⟩)]
 ro:=[true]
theorem TX:Con.OK Tryz.prog GL:=
 cOf aM aN jid GL Tryz.func143 (j9 tJ (j9 Bb trivial)) (j9 (λh=>by kernel_rfl) trivial)
def Mw:Con:=⟨71,[.ref [(.list iT),iT]],[(.list iT),iT],⟨[.vn bQ [3]],[.ref [(.list iT),iT]]⟩,[bQ,(.list iT),iT],Pw.unc2 Pw.jab⟩
def jk2:FnD where
 N:=109
 np:=1
 cs:=[qO,vR,Mv,GJ,Bc,GL]
 ds:=[⟨0,[.s (.one (.bp 0 0)),.s (.one (.bp 128 0)),.s (.one (.bp 192 0)),sI,.b (.cell [.d (.list iT),.d iT] false),.b (.cell [.nil,.nil,.nil,.nil] false),.b (.cell [.ol 1000000,.nil,.nil,.nil] false),.b (.lst 91 cj false)],[iT,(.list iT),iT,aD],[⟨.exit 0,[.s (.one (.bp 0 0)),.s (.one (.bp 128 0)),.s (.one (.bp 192 0)),.b (.cell [.d (.list iT),.d iT] false),.b (.cell [.nil,.nil,.nil,.nil] false),.b (.cell [.ol 1500100,.nil,.nil,.nil] false),.b (.lst 91 cj false)],[(.list iT),iT,aD]⟩],Pw.unc4 (Pw.j47)⟩,
  ⟨2,[.s (.one (.bp 0 0)),.s (.one (.bp 128 0)),.s (.one (.bp 192 0)),sI,.b (.cell [.d (.list iT),.d iT] false),.b (.cell [.nil,.nil,.nil,.nil] false),.b (.cell [.ol 1002000,.ol 1002001,.nil,.nil] false),.b (.lst 91 cj false),.b (.lst 93 fh false)],[iT,(.list iT),iT,aD,aH],[⟨.exit 2,[.s (.one (.bp 0 0)),.s (.one (.bp 128 0)),.s (.one (.bp 192 0)),.b (.cell [.d (.list iT),.d iT] false),.b (.cell [.nil,.nil,.nil,.nil] false),.b (.cell [.ol 1502300,.ol 1502301,.nil,.nil] false),.b (.lst 91 cj false),.b (.lst 93 fh false)],[(.list iT),iT,aD,aH]⟩],Pw.unc5 (Pw.j48)⟩,
  ⟨4,[.s (.one (.bp 0 0)),.s (.one (.bp 128 0)),.s (.one (.bp 192 0)),sI,.b (.cell [.d (.list iT),.d iT] false),.b (.cell [.nil,.nil,.nil,.nil] false),.b (.cell [.ol 1004000,.ol 1004001,.ol 1004002,.nil] false),.b (.lst 91 cj false),.b (.lst 93 fh false),.b (.lst 152 eb false)],[iT,(.list iT),iT,aD,aH,aG],[⟨.exit 4,[.s (.one (.bp 128 0)),.s (.one (.bp 192 0)),.b (.cell [.d (.list iT),.d iT] false),.b (.cell [.nil,.nil,.nil,.nil] false),.b (.cell [.ol 1504500,.ol 1504501,.ol 1504502,.nil] false),.b (.lst 91 cj false),.b (.lst 93 fh false),.b (.lst 152 eb false)],[(.list iT),iT,aD,aH,aG]⟩],Pw.unc6 (Pw.j3c)⟩,
  ⟨6,[.s (.one (.bp 0 0)),.s (.one (.bp 128 0)),.s (.one (.bp 192 0)),sI,.s (.one (.bp 512 0)),sI,sI,.b (.cell [.d (.list iT),.d iT] false),.b (.cell [.nil,.nil,.nil,.nil] false),.b (.cell [.ol 1006000,.ol 1006001,.ol 1006002,.nil] false),.b (.cell [.d .str,.d iT,.ol 1006003] false),.b (.lst 91 cj false),.b (.lst 93 fh false),.b (.lst 152 eb false),.b (.lst 3 iT false)],[iT,iT,iT,(.list iT),iT,.str,iT,aD,aH,aG,(.list iT)],[⟨.exit 6,[.s (.one (.bp 0 0)),.s (.one (.bp 128 0)),.s (.one (.bp 192 0)),sI,.s (.one (.bp 512 0)),.b (.cell [.d (.list iT),.d iT] false),.b (.cell [.nil,.nil,.nil,.nil] false),.b (.cell [.ol 1506700,.ol 1506701,.ol 1506702,.nil] false),.b (.cell [.d .str,.d iT,.ol 1506703] false),.b (.lst 91 cj false),.b (.lst 93 fh false),.b (.lst 152 eb false),.b (.lst 3 iT false)],[iT,(.list iT),iT,.str,iT,aD,aH,aG,(.list iT)]⟩],Pw.jtH (Pw.j49)⟩]
 modes:=[(40,[false,false]),(45,[false,false]),(73,[]),(74,[false,false]),(143,[false]),(149,[false,false])]
 keep:=[(0,⟨[0,2,3,4],[0,128,192],[⟨1000000,91,cj,[.cell 192 0],false⟩],[]⟩),
  (2,⟨[0,2,3,5],[0,128,192],[⟨1002000,91,cj,[.cell 192 0],false⟩,⟨1002001,93,fh,[.cell 192 1],false⟩],[]⟩),
  (4,⟨[0,2,3,7],[0,128,192],[⟨1004000,91,cj,[.cell 192 0],false⟩,⟨1004001,93,fh,[.cell 192 1],false⟩,⟨1004002,152,eb,[.cell 192 2],false⟩],[]⟩),
  (6,⟨[0,2,3,7,8,9,10],[0,128,192,512],[⟨1006000,91,cj,[.cell 192 0],false⟩,⟨1006001,93,fh,[.cell 192 1],false⟩,⟨1006002,152,eb,[.cell 192 2],false⟩,⟨1006003,3,iT,[.cell 512 2],false⟩],[]⟩)]
 keepX:=[(0,.exit 0,⟨[0,2,3],[0,128,192],[⟨1500100,91,cj,[.cell 192 0],false⟩],[]⟩),
  (2,.exit 2,⟨[0,2,3],[0,128,192],[⟨1502300,91,cj,[.cell 192 0],false⟩,⟨1502301,93,fh,[.cell 192 1],false⟩],[]⟩),
  (4,.exit 4,⟨[2,3],[0,128,192],[⟨1504500,91,cj,[.cell 192 0],false⟩,⟨1504501,93,fh,[.cell 192 1],false⟩,⟨1504502,152,eb,[.cell 192 2],false⟩],[]⟩),
  (6,.exit 6,⟨[0,2,3,7,8],[0,128,192,512],[⟨1506700,91,cj,[.cell 192 0],false⟩,⟨1506701,93,fh,[.cell 192 1],false⟩,⟨1506702,152,eb,[.cell 192 2],false⟩,⟨1506703,3,iT,[.cell 512 2],false⟩],[]⟩)]
 ro:=[false]
 dw:=[(5,[[],[],[],[1344],[],[],[],[],[],[0],[1792],[1856,1000000],[],[192]]),(9,[[2432],[],[],[],[],[],[],[],[],[],[0],[],[0],[],[384],[384]])]
 ns:=[3]
theorem jjd:Con.OK Tryz.prog Mw:=
 cOf aM aN jk2 Mw Tryz.func71 (j9 tJ (j9 Bb (j9 jk1 (j9 TW (j9 GK (j9 TX trivial)))))) (j9 (λh=>by kernel_rfl) (j9 (λh=>by kernel_rfl) (j9 (λh=>by kernel_rfl) (j9 (λh=>by kernel_rfl) trivial))))
def Mx:Con:=⟨72,[.ref [(.list iT),iT],.v bQ,.v .str],[(.list iT),iT,bQ,.str],⟨[.v cw],[.ref [(.list iT),iT]]⟩,[cw,(.list iT),iT],Pw.unc4 Pw.jac⟩
def jk3:FnD where
 N:=77
 np:=3
 cs:=[qO,vR,Bc,GL]
 ds:=[⟨0,[.s (.one (.bp 0 0)),.s (.one (.bp 256 0)),.s (.one (.bp 384 0)),.s (.one (.bp 448 0)),sI,.b (.cell [.d (.list iT),.d iT] false),.b (.cell [.d aD,.d aH,.d aG,.d aO] false),.b (.cell [.d .str,.d iT,.d iT,.d iT,.d iT,.d iT,.nil,.nil,.d iT,.d iT] false),.b (.cell [.d .str,.d iT,.d iT,.d iT,.d iT,.d iT,.ol 1000000,.nil,.d iT,.d iT] false),.b (.lst 3 iT false)],[iT,(.list iT),iT,aD,aH,aG,aO,.str,iT,iT,iT,iT,iT,iT,iT,.str,iT,iT,iT,iT,iT,iT,iT,(.list iT)],[⟨.exit 0,[.s (.one (.bp 0 0)),.s (.one (.bp 256 0)),.s (.one (.bp 384 0)),.s (.one (.bp 448 0)),.b (.cell [.d (.list iT),.d iT] false),.b (.cell [.d aD,.d aH,.d aG,.d aO] false),.b (.cell [.d .str,.d iT,.d iT,.d iT,.d iT,.d iT,.nil,.nil,.d iT,.d iT] false),.b (.cell [.d .str,.d iT,.d iT,.d iT,.d iT,.d iT,.ol 1500100,.nil,.d iT,.d iT] false),.b (.lst 3 iT false)],[(.list iT),iT,aD,aH,aG,aO,.str,iT,iT,iT,iT,iT,iT,iT,.str,iT,iT,iT,iT,iT,iT,iT,(.list iT)]⟩],Pw.jAd (Pw.j4a)⟩]
 modes:=[(40,[false,false]),(45,[false,false]),(74,[false,false]),(143,[false])]
 keep:=[(0,⟨[0,4,6,7,8],[0,256,384,448],[⟨1000000,3,iT,[.cell 448 6],false⟩],[]⟩)]
 keepX:=[(0,.exit 0,⟨[0,4,6,7],[0,256,384,448],[⟨1500100,3,iT,[.cell 448 6],false⟩],[]⟩)]
 ro:=[false]
 dw:=[(7,[[],[],[],[],[],[],[0],[3200],[3264,1000000],[],[448]])]
theorem jje:Con.OK Tryz.prog Mx:=
 cOf aM aN jk3 Mx Tryz.func72 (j9 tJ (j9 Bb (j9 GK (j9 TX trivial)))) (j9 (λh=>by kernel_rfl) trivial)
def GM:Con:=⟨22,[.ref [(.list iT),iT]],[(.list iT),iT],⟨[.v iT],[.ref [(.list iT),iT]]⟩,[iT,(.list iT),iT],Pw.unc2 Pw.j6Y⟩
def jie:FnD where
 N:=16
 np:=1
 cs:=[qO,vR,Bc]
 ds:=[]
 modes:=[(40,[false,false]),(45,[false,false]),(74,[false,false])]
 ro:=[false]
theorem TY:Con.OK Tryz.prog GM:=
 cOf aM aN jie GM Tryz.func22 (j9 tJ (j9 Bb (j9 GK trivial))) trivial
def My:Con:=⟨37,[.ref [(.list iT),iT],.v bQ],[(.list iT),iT,bQ],⟨[.v bd],[.ref [(.list iT),iT]]⟩,[bd,(.list iT),iT],Pw.unc3 Pw.jbl⟩
def jkM:FnD where
 N:=52
 np:=2
 cs:=[qO,vR,Bc,GM]
 ds:=[]
 modes:=[(22,[false]),(40,[false,false]),(45,[false,false]),(74,[false,false])]
 ro:=[false]
 dw:=[(3,[[],[],[],[1344],[0,1344],[],[],[384]]),(8,[[],[],[],[],[],[],[0],[],[],[],[],[384]])]
theorem jk4:Con.OK Tryz.prog My:=
 cOf aM aN jkM My Tryz.func37 (j9 tJ (j9 Bb (j9 GK (j9 TY trivial)))) trivial
def Mz:Con:=⟨21,[.ref [(.list iT),iT],.v iT],[(.list iT),iT,iT],⟨[.v bQ],[.ref [(.list iT),iT]]⟩,[bQ,(.list iT),iT],Pw.unc3 Pw.j9x⟩
def jjf:FnD where
 N:=69
 np:=2
 cs:=[qO,GJ,Mw,Mx,My]
 ds:=[⟨0,[.s (.one (.bp 0 0)),.s (.one (.bp 256 0)),.s (.one (.bp 320 0)),sI,.b (.cell [.d (.list iT),.d iT] false),.b (.cell [.nil,.nil,.nil,.nil] false),.b (.cell [.d aD,.d aH,.d aG,.ol 1000000] false),.b (.lst 45 cG true)],[iT,(.list iT),iT,aD,aH,aG,aO],[⟨.exit 0,[.s (.one (.bp 256 0)),.s (.one (.bp 320 0)),.b (.cell [.d (.list iT),.d iT] false),.b (.cell [.nil,.nil,.nil,.nil] false),.b (.cell [.d aD,.d aH,.d aG,.ol 1500100] false),.b (.lst 45 cG true)],[(.list iT),iT,aD,aH,aG,aO]⟩],Pw.unc7 (Pw.j3S)⟩,
  ⟨2,[.s (.one (.bp 0 0)),.s (.one (.bp 256 0)),.s (.one (.bp 320 0)),sI,.s (.one (.bp 448 0)),sI,.b (.cell [.d (.list iT),.d iT] false),.b (.cell [.nil,.nil,.nil,.nil] false),.b (.cell [.d aD,.d aH,.d aG,.ol 1002000] false),.b (.cell [.d .str,.ol 1002001,.nil] false),.b (.lst 45 cG true),.b (.lst 52 cw false)],[iT,iT,(.list iT),iT,aD,aH,aG,.str,aO,cd],[⟨.exit 2,[.s (.one (.bp 0 0)),.s (.one (.bp 256 0)),.s (.one (.bp 320 0)),sI,.s (.one (.bp 448 0)),.b (.cell [.d (.list iT),.d iT] false),.b (.cell [.nil,.nil,.nil,.nil] false),.b (.cell [.d aD,.d aH,.d aG,.ol 1502300] false),.b (.cell [.d .str,.ol 1502301,.nil] false),.b (.lst 45 cG true),.b (.lst 52 cw false)],[iT,(.list iT),iT,aD,aH,aG,.str,aO,cd]⟩],Pw.jtG (Pw.j3Q)⟩,
  ⟨4,[.s (.one (.bp 0 0)),.s (.one (.bp 256 0)),.s (.one (.bp 320 0)),sI,.s (.one (.bp 448 0)),sI,.b (.cell [.d (.list iT),.d iT] false),.b (.cell [.nil,.nil,.nil,.nil] false),.b (.cell [.d aD,.d aH,.d aG,.ol 1004000] false),.b (.cell [.d .str,.ol 1004001,.ol 1004002] false),.b (.lst 45 cG true),.b (.lst 52 cw false),.b (.lst 56 bd false)],[iT,iT,(.list iT),iT,aD,aH,aG,.str,aO,cd,ay],[⟨.exit 4,[.s (.one (.bp 0 0)),.s (.one (.bp 256 0)),.s (.one (.bp 320 0)),sI,.s (.one (.bp 448 0)),.b (.cell [.d (.list iT),.d iT] false),.b (.cell [.nil,.nil,.nil,.nil] false),.b (.cell [.d aD,.d aH,.d aG,.ol 1504500] false),.b (.cell [.d .str,.ol 1504501,.ol 1504502] false),.b (.lst 45 cG true),.b (.lst 52 cw false),.b (.lst 56 bd false)],[iT,(.list iT),iT,aD,aH,aG,.str,aO,cd,ay]⟩],Pw.jtH (Pw.j3R)⟩]
 modes:=[(37,[false,false]),(40,[false,false]),(71,[false]),(72,[false,false,false]),(73,[])]
 keep:=[(0,⟨[0,4,5,6],[0,256,320],[⟨1000000,45,cG,[.cell 320 3],true⟩],[]⟩),
  (2,⟨[0,4,5,6,7,8],[0,256,320,448],[⟨1002000,45,cG,[.cell 320 3],false⟩,⟨1002001,52,cw,[.cell 448 1],false⟩],[]⟩),
  (4,⟨[0,4,5,6,7,9],[0,256,320,448],[⟨1004000,45,cG,[.cell 320 3],false⟩,⟨1004001,52,cw,[.cell 448 1],false⟩,⟨1004002,56,bd,[.cell 448 2],false⟩],[]⟩)]
 keepX:=[(0,.exit 0,⟨[4,5],[0,256,320],[⟨1500100,45,cG,[.cell 320 3],false⟩],[]⟩),
  (2,.exit 2,⟨[0,4,5,6,7],[0,256,320,448],[⟨1502300,45,cG,[.cell 320 3],false⟩,⟨1502301,52,cw,[.cell 448 1],false⟩],[]⟩),
  (4,.exit 4,⟨[0,4,5,6,7],[0,256,320,448],[⟨1504500,45,cG,[.cell 320 3],false⟩,⟨1504501,52,cw,[.cell 448 1],false⟩,⟨1504502,56,bd,[.cell 448 2],false⟩],[]⟩)]
 ro:=[false]
 dw:=[(9,[[],[],[],[],[2432],[],[],[],[],[],[0,1002000],[2880],[2944,1002000,1002001],[],[448]]),(13,[[],[],[],[],[0,1004000],[3776],[3840,1004001,1004002],[],[448]])]
theorem jif:Con.OK Tryz.prog Mz:=
 cOf aM aN jjf Mz Tryz.func21 (j9 tJ (j9 TW (j9 jjd (j9 jje (j9 jk4 trivial))))) (j9 (λh=>by kernel_rfl) (j9 (λh=>by kernel_rfl) (j9 (λh=>by kernel_rfl) trivial)))
def MA:Con:=⟨55,[.v bQ,.v iT,.v iT],[bQ,iT,iT],⟨[.own 96 ak,.v iT],[]⟩,[ak,iT],Pw.unc3 Pw.jeP⟩
def jqx:FnD where
 N:=55
 np:=3
 cs:=[DK,DL,Mm,DR]
 ds:=[⟨1,[sI,sI,.s (.one (.bp 192 0)),.s (.one (.ol 1001000)),sI,sI,.b (.cell [.d aD,.d aH,.d aG,.d aO] false),.b (.lst 96 an false)],[iT,iT,iT,iT,aD,aH,aG,aO,ak],[⟨.ret,[.s (.one (.nil)),sI],[iT]⟩,⟨.exit 1,[.s (.one (.ol 1501200)),.b (.lst 96 an false)],[ak]⟩],Pw.unc9 (Pw.j6f)⟩]
 modes:=[(48,[false,false,false,false]),(86,[false]),(87,[false,false]),(120,[true,false])]
 keep:=[(1,⟨[1,2,3,10,30,31],[192],[⟨1001000,96,an,[.slot 10],false⟩],[]⟩)]
 keepX:=[(1,.ret,⟨[6,7],[],[],[]⟩),
  (1,.exit 1,⟨[10],[],[⟨1501200,96,an,[.slot 10],false⟩],[]⟩)]
 ro:=[true,false]
theorem joT:Con.OK Tryz.prog MA:=
 cOf aM aN jqx MA Tryz.func55 (j9 Lt (j9 Lu (j9 TU (j9 Mo trivial)))) (j9 (λh=>by kernel_rfl) trivial)
def MB:Con:=⟨56,[.v ak,.v ak],[ak,ak],⟨[.v .bool],[]⟩,[.bool],Pw.unc2 Pw.jhb⟩
def jqy:FnD where
 N:=26
 np:=2
 cs:=[]
 ds:=[⟨0,[.s (.one (.d ak)),.s (.one (.d ak)),sI,sI],[ak,ak,iT,iT],[⟨.ret,[.s (.one (.d .bool))],[.bool]⟩,⟨.exit 0,[],[]⟩],Pw.unc4 (Pw.j6g)⟩]
 keep:=[(0,⟨[0,1,12,13],[],[],[]⟩)]
 keepX:=[(0,.ret,⟨[4],[],[],[]⟩),
  (0,.exit 0,⟨[],[],[],[]⟩)]
 ro:=[false]
theorem joU:Con.OK Tryz.prog MB:=
 cOf aM aN jqy MB Tryz.func56 trivial (j9 (λh=>by kernel_rfl) trivial)
def TZ:Con:=⟨13,[.v (.list iT)],[(.list iT)],⟨[.v .bool],[]⟩,[.bool],λh=>Pw.jcZ h⟩
def jk5:FnD where
 N:=141
 np:=1
 cs:=[Kz,DR,Mt,Mu,GM,Mz,MA,MB]
 ds:=[⟨0,[.s (.one (.bp 256 0)),sI,sI,.s (.one (.ol 1000000)),sI,sI,sI,.b (.cell [.d aD,.d aH,.d aG,.d aO] false),.b (.lst 96 an false)],[iT,iT,iT,iT,iT,aD,aH,aG,aO,ak],[⟨.ret,[.s (.one (.d .bool))],[.bool]⟩,⟨.exit 0,[.s (.one (.ol 1500100)),sI,.b (.lst 96 an false)],[iT,ak]⟩],Pw.jtG (Pw.j4c)⟩,
  ⟨2,[.s (.one (.bp 256 0)),sI,sI,.s (.one (.ol 1002000)),sI,sI,.s (.one (.ol 1002001)),sI,.s (.one (.ol 1002002)),sI,sI,sI,sI,.b (.cell [.d aD,.d aH,.d aG,.d aO] false),.b (.lst 96 an false),.b (.lst 96 an false),.b (.lst 96 an false)],[iT,iT,iT,iT,iT,iT,iT,iT,iT,aD,aH,aG,aO,ak,ak,ak],[⟨.exit 2,[.s (.one (.bp 256 0)),sI,sI,.s (.one (.ol 1502300)),sI,.s (.one (.ol 1502301)),sI,.s (.one (.ol 1502302)),sI,sI,.b (.cell [.d aD,.d aH,.d aG,.d aO] false),.b (.lst 96 an false),.b (.lst 96 an false),.b (.lst 96 an false)],[iT,iT,iT,iT,iT,iT,aD,aH,aG,aO,ak,ak,ak]⟩],Pw.jAa (Pw.j4b)⟩,
  ⟨4,[.s (.one (.ol 1004000)),sI,sI,.b (.lst 96 an false)],[iT,iT,ak],[⟨.ret,[.s (.one (.d .bool))],[.bool]⟩,⟨.exit 4,[.s (.one (.ol 1504500)),sI,.b (.lst 96 an false)],[iT,ak]⟩],Pw.unc3 (Pw.j3d)⟩]
 modes:=[(17,[false]),(19,[false]),(21,[false,false]),(22,[false]),(47,[]),(48,[false,false,false,false]),(55,[false,false,false]),(56,[false,false])]
 keep:=[(0,⟨[4,5,6,7,9,41,42],[256],[⟨1000000,96,an,[.slot 7],false⟩],[]⟩),
  (2,⟨[4,5,6,7,9,10,11,12,13,41,42,54,55],[256],[⟨1002000,96,an,[.slot 7],false⟩,⟨1002001,96,an,[.slot 11],false⟩,⟨1002002,96,an,[.slot 13],false⟩],[]⟩),
  (4,⟨[7,9,15],[],[⟨1004000,96,an,[.slot 7],false⟩],[]⟩)]
 keepX:=[(0,.ret,⟨[2],[],[],[]⟩),
  (0,.exit 0,⟨[7,9],[],[⟨1500100,96,an,[.slot 7],false⟩],[]⟩),
  (2,.exit 2,⟨[4,5,6,7,9,11,12,13,41,42],[256],[⟨1502300,96,an,[.slot 7],false⟩,⟨1502301,96,an,[.slot 11],false⟩,⟨1502302,96,an,[.slot 13],false⟩],[]⟩),
  (4,.ret,⟨[2],[],[],[]⟩),
  (4,.exit 4,⟨[7,9],[],[⟨1504500,96,an,[.slot 7],false⟩],[]⟩)]
 ro:=[false]
 dw:=[(29,[[],[],[],[],[],[],[],[],[],[1024],[1088],[1024],[1088]])]
theorem law18_LimitsAll_ok:Con.OK Tryz.prog TZ:=
 cOf aM aN jk5 TZ Tryz.func13 (j9 joz (j9 Mo (j9 joS (j9 jqv (j9 TY (j9 jif (j9 joT (j9 joU trivial)))))))) (j9 (λh=>by kernel_rfl) (j9 (λh=>by kernel_rfl) (j9 (λh=>by kernel_rfl) trivial)))
end Go.Proofs.Pk
