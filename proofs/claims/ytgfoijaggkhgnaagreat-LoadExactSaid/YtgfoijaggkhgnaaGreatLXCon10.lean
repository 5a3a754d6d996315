/- cB: each given function is its plain function, printed by a program. -/
import Derived.Test.YtgfoijaggkhgnaaGreatLXCon9
open Bool renaming false->e,true->j
open _root_ renaming trivial->i
noncomputable section
open Go Go.Lft
set_option linter.unusedVariables false
set_option maxRecDepth 100000
namespace Go.Proofs.Pk
def P5:Con:=⟨200,[.v bh,.v bX,.v iT],[bh,bX,iT],⟨[.v iT],[]⟩,[iT],Pw.unc3 Pw.joc⟩
def jAo:FnD where
 N:=27
 np:=3
 cs:=[P6]
theorem jyg:aG P5:=
 cOf aJ aK jAo P5 Tryz.func200 (ja jvM i) i
def P7:Con:=⟨201,[.v dA,.v iT,.v iT],[dA,iT,iT],⟨[.v .bool],[]⟩,[.bool],Pw.unc3 Pw.jng⟩
def jyh:FnD where
 N:=42
 np:=3
 ds:=[⟨0,[sI,sI,sB 192 0,sI,.b (.cell [.d .str,.d bS,.d bL] e)],[iT,iT,iT,.str,bS,bL],[⟨.ret,[sD .bool],[.bool]⟩,⟨.exit 0,[],[]⟩],Pw.unc6 (Pw.j6V)⟩]
 keep:=[(0,⟨[1,2,3,7],[192],[],[]⟩)]
 keepX:=[(0,.ret,⟨[6],[],[],[]⟩)]
theorem jva:aG P7:=
 cOf aJ aK jyh P7 Tryz.func201 i (ja (λh=>by kernel_rfl) i)
def P8:Con:=⟨140,[.v bh,.v iT,.v iT],[bh,iT,iT],⟨[.v iT,.v iT],[]⟩,[iT,iT],Pw.unc3 Pw.jrd⟩
def jAp:FnD where
 N:=43
 np:=3
 cs:=[P5,P7]
 ds:=[⟨0,[sI,sB 192 0,sB 512 0,sI,.b (.cell [.d ay,.d aB,.d aA,.d aF] e),.b (.cell [.d .str,.d bS,.d bL] e)],[iT,iT,ay,aB,aA,aF,.str,bS,bL],[⟨.ret,[sI,sI],[iT,iT]⟩,⟨.exit 0,[],[]⟩],Pw.unc9 (Pw.j7M)⟩]
 keep:=[(0,⟨[2,3,8,9],[192,512],[],[]⟩)]
 keepX:=[(0,.ret,⟨[6,7],[],[],[]⟩)]
theorem jyi:aG P8:=
 cOf aJ aK jAp P8 Tryz.func140 (ja jyg (ja jva i)) (ja (λh=>by kernel_rfl) i)
def P9:Con:=⟨141,[.v bL,.v iT,.v iT],[bL,iT,iT],⟨[.v iT],[]⟩,[iT],Pw.unc3 Pw.jre⟩
def jyj:FnD where
 N:=61
 np:=3
 ds:=[⟨0,[sD bL,sI,sI,sI],[bL,iT,iT,iT],[⟨.exit 0,[sI],[iT]⟩],Pw.unc4 (Pw.j6W)⟩]
 keep:=[(0,⟨[0,1,2,7],[],[],[]⟩)]
 keepX:=[(0,.exit 0,⟨[1],[],[],[]⟩)]
theorem jvb:aG P9:=
 cOf aJ aK jyj P9 Tryz.func141 i (ja (λh=>by kernel_rfl) i)
def Qa:Con:=⟨101,[.v bh,.v iT,.v iT],[bh,iT,iT],⟨[.v iT],[]⟩,[iT],Pw.unc3 Pw.jod⟩
def jAq:FnD where
 N:=25
 np:=3
 cs:=[P8,P9]
theorem jyk:aG Qa:=
 cOf aJ aK jAq Qa Tryz.func101 (ja jyi (ja jvb i)) i
def Qb:Con:=⟨100,[.mv 103 ak,.v aw],[ak,aw],⟨[.own 103 ak],[]⟩,[ak],Pw.unc2 Pw.jiK⟩
def jtn:FnD where
 N:=50
 np:=2
 ro:=[j]
theorem jro:aG Qb:=
 cOf aJ aK jtn Qb Tryz.func100 i i
def Qc:Con:=⟨66,[.v bh,.v iT,.v iT,.v iT],[bh,iT,iT,iT],⟨[.own 103 ak],[]⟩,[ak],Pw.unc4 Pw.jiL⟩
def jto:FnD where
 N:=44
 np:=4
 cs:=[Qd,Qa,Qb]
 ds:=[⟨0,[sI,sB 256 0,sO 1000000,sO 1000001,sI,.b (.cell [.d ay,.d aB,.d aA,.d aF] e),.b (.lst 3 iT e),.b (.lst 103 aw e)],[iT,iT,ay,aB,aA,aF,(.list iT),ak],[⟨.exit 0,[sO 1500100,.b (.lst 103 aw e)],[ak]⟩],Pw.unc8 (Pw.j5g)⟩]
 modes:=[(100,[j,e])]
 keep:=[(0,⟨[1,4,9,10,11],[256],[⟨1000000,3,iT,[.slot 9],e⟩,⟨1000001,103,aw,[.slot 10],e⟩],[]⟩)]
 keepX:=[(0,.exit 0,⟨[10],[],[⟨1500100,103,aw,[.slot 10],e⟩],[]⟩)]
 ro:=[j]
 dw:=[(6,[[],[],[],[],[],[],[],[],[],[],[],[],[],[],[],[],[],[],[2688,1000001],[]])]
 mvf:=[100]
theorem jrp:aG Qc:=
 cOf aJ aK jto Qc Tryz.func66 (ja jvK (ja jyk (ja jro i))) (ja (λh=>by kernel_rfl) i)
def Qe:Con:=⟨46,[.v bh,.v iT,.v iT,.v iT],[bh,iT,iT,iT],⟨[.own 103 ak,.v iT],[]⟩,[ak,iT],Pw.unc4 Pw.j6i⟩
def jpa:FnD where
 N:=29
 np:=4
 cs:=[Qf,Qc]
 ro:=[j,e]
theorem jok:aG Qe:=
 cOf aJ aK jpa Qe Tryz.func46 (ja jtT (ja jrp i)) i
def KN:Con:=⟨47,[.mv 56 ak,.v aw],[ak,aw],⟨[.own 56 ak],[]⟩,[ak],Pw.unc2 Pw.jjO⟩
def jAr:FnD where
 N:=74
 np:=2
 ds:=[⟨0,[sO 1000000,sB 192 0,sI,.b (.cell [.d iT,.d iT,.d iT] e),.b (.lst 56 aw e)],[iT,iT,iT,iT,ak],[⟨.exit 0,[sO 1500100,sB 192 0,sI,.b (.cell [.d iT,.d iT,.d iT] e),.b (.lst 56 aw e)],[iT,iT,iT,iT,ak]⟩],Pw.unc5 (Pw.j7N)⟩]
 keep:=[(0,⟨[0,3,5],[192],[⟨1000000,56,aw,[.slot 0],e⟩],[]⟩)]
 keepX:=[(0,.exit 0,⟨[0,3,5],[192],[⟨1500100,56,aw,[.slot 0],e⟩],[]⟩)]
 ro:=[j]
 dw:=[(5,[[],[],[],[],[],[],[],[],[],[],[1500100]]),(6,[[],[],[],[],[],[],[],[],[],[],[1500100]]),(9,[[],[],[],[],[],[],[],[3840]])]
theorem _y:aG KN:=
 cOf aJ aK jAr KN Tryz.func47 i (ja (λh=>by kernel_rfl) i)
def Qg:Con:=⟨15,[.v bh,.v iT,.v iT,.v iT,.v iT,.v bG],[bh,iT,iT,iT,iT,bG],⟨[.own 56 ak,.v iT],[]⟩,[ak,iT],Pw.unc6 Pw.jdu⟩
def jvc:FnD where
 N:=182
 np:=6
 cs:=[KM,KO,Qe,KN]
 ds:=[⟨1,[sI,sI,sI,sD bG,sB 384 0,sO 1001000,sO 1001001,sI,.b (.cell [.d ay,.d aB,.d aA,.d aF] e),.b (.lst 103 aw e),.b (.lst 56 aw e)],[iT,iT,iT,bG,iT,ay,aB,aA,aF,ak,ak],[⟨.exit 1,[sI,sI,sI,sD bG,sB 384 0,sO 1501200,sO 1501201,.b (.cell [.d ay,.d aB,.d aA,.d aF] e),.b (.lst 103 aw e),.b (.lst 56 aw e)],[iT,iT,iT,bG,ay,aB,aA,aF,ak,ak]⟩],Pw.u8 Pw.unc3 (Pw.j65)⟩,⟨3,[sI,sI,sI,sD bG,sB 384 0,sO 1003000,sO 1003001,sI,.b (.cell [.d ay,.d aB,.d aA,.d aF] e),.b (.lst 103 aw e),.b (.lst 56 aw e)],[iT,iT,iT,bG,iT,ay,aB,aA,aF,ak,ak],[⟨.exit 3,[sO 1503400,.b (.lst 56 aw e)],[ak]⟩],Pw.u8 Pw.unc3 (Pw.j67)⟩,⟨5,[sI,sI,sI,sD bG,sB 384 0,sO 1005000,sO 1005001,sI,sO 1005002,sI,sI,.b (.cell [.d ay,.d aB,.d aA,.d aF] e),.b (.lst 103 aw e),.b (.lst 56 aw e),.b (.lst 113 aN e)],[iT,iT,iT,bG,iT,iT,iT,ay,aB,aA,aF,ak,ak,ag],[⟨.exit 5,[sI,sI,sI,sD bG,sB 384 0,sO 1505600,sO 1505601,sI,.b (.cell [.d ay,.d aB,.d aA,.d aF] e),.b (.lst 103 aw e),.b (.lst 56 aw e)],[iT,iT,iT,bG,iT,ay,aB,aA,aF,ak,ak]⟩],Pw.u8 Pw.unc6 (Pw.j66)⟩]
 modes:=[(47,[j,e])]
 keep:=[(1,⟨[2,3,4,5,6,14,16,17],[384],[⟨1001000,103,aw,[.slot 14],e⟩,⟨1001001,56,aw,[.slot 16],e⟩],[]⟩),(3,⟨[2,3,4,5,6,14,16,19],[384],[⟨1003000,103,aw,[.slot 14],e⟩,⟨1003001,56,aw,[.slot 16],e⟩],[]⟩),(5,⟨[2,3,4,5,6,14,16,19,20,22,23],[384],[⟨1005000,103,aw,[.slot 14],e⟩,⟨1005001,56,aw,[.slot 16],e⟩,⟨1005002,113,aN,[.slot 20],e⟩],[]⟩)]
 keepX:=[(1,.exit 1,⟨[2,3,4,5,6,14,16],[384],[⟨1501200,103,aw,[.slot 14],e⟩,⟨1501201,56,aw,[.slot 16],e⟩],[]⟩),(3,.exit 3,⟨[16],[],[⟨1503400,56,aw,[.slot 16],e⟩],[]⟩),(5,.exit 5,⟨[2,3,4,5,6,14,16,19],[384],[⟨1505600,103,aw,[.slot 14],e⟩,⟨1505601,56,aw,[.slot 16],e⟩],[]⟩)]
 ro:=[j,e]
 dw:=[(18,[[],[],[],[],[],[],[],[],[],[],[6464],[],[],[6656],[],[],[],[],[]]),(23,[[],[],[],[],[],[],[],[],[],[],[],[],[],[],[],[10560,1005001],[]])]
 mvf:=[47]
theorem jtp:aG Qg:=
 cOf aJ aK jvc Qg Tryz.func15 (ja _x (ja _z (ja jok (ja _y i)))) (ja (λh=>by kernel_rfl) (ja (λh=>by kernel_rfl) (ja (λh=>by kernel_rfl) i)))
def Qh:Con:=⟨16,[.v ak,.v ak],[ak,ak],⟨[.v .bool],[]⟩,[.bool],Pw.unc2 Pw.jfC⟩
def jtq:FnD where
 N:=26
 np:=2
 ds:=[⟨0,[sD ak,sD ak,sI,sI],[ak,ak,iT,iT],[⟨.ret,[sD .bool],[.bool]⟩,⟨.exit 0,[],[]⟩],Pw.unc4 (Pw.j5h)⟩]
 keep:=[(0,⟨[0,1,12,13],[],[],[]⟩)]
 keepX:=[(0,.ret,⟨[4],[],[],[]⟩)]
theorem jrq:aG Qh:=
 cOf aJ aK jtq Qh Tryz.func16 i (ja (λh=>by kernel_rfl) i)
def Qi:Con:=⟨17,[.ref [(.list iT),iT]],[(.list iT),iT],⟨[.own 56 ak],[.ref [(.list iT),iT]]⟩,[ak,(.list iT),iT],Pw.unc2 Pw.j7P⟩
def jm1:FnD where
 N:=35
 np:=1
 cs:=[pW,uI]
 ds:=[⟨0,[sB 0 0,sO 1000000,sI,sI,.b (.cell [.d (.list iT),.d iT] e),.b (.lst 56 aw e)],[iT,iT,(.list iT),iT,ak],[⟨.exit 0,[sO 1500100,.b (.cell [.d (.list iT),.d iT] e),.b (.lst 56 aw e)],[(.list iT),iT,ak]⟩],Pw.unc5 (Pw.j2K)⟩]
 keep:=[(0,⟨[0,3,4,5],[0],[⟨1000000,56,aw,[.slot 3],e⟩],[]⟩)]
 keepX:=[(0,.exit 0,⟨[3],[0],[⟨1500100,56,aw,[.slot 3],e⟩],[]⟩)]
 ro:=[j]
theorem jl8:aG Qi:=
 cOf aJ aK jm1 Qi Tryz.func17 (ja r7 (ja xV i)) (ja (λh=>by kernel_rfl) i)
def Qj:Con:=⟨50,[.v kV],[kV],⟨[.own 56 ak],[]⟩,[ak],λh=>Pw.j1Q h⟩
def jaf:FnD where
 N:=36
 np:=1
 ds:=[⟨0,[sD kV,sI,sD kV,sI,sI],[kV,iT,kV,iT,iT],[⟨.exit 0,[sD kV,sI],[kV,iT]⟩],Pw.unc5 (Pw.j0m)⟩,⟨2,[sO 1002000,sD kV,sI,sI,.b (.lst 56 aw e)],[kV,iT,iT,ak],[⟨.exit 2,[sO 1502300,.b (.lst 56 aw e)],[ak]⟩],Pw.unc4 (Pw.j0n)⟩]
 keep:=[(0,⟨[0,3,9,10,11],[],[],[]⟩),(2,⟨[6,25,26,27],[],[⟨1002000,56,aw,[.slot 6],e⟩],[]⟩)]
 keepX:=[(0,.exit 0,⟨[0,3],[],[],[]⟩),(2,.exit 2,⟨[6],[],[⟨1502300,56,aw,[.slot 6],e⟩],[]⟩)]
 ro:=[j]
 bw:=[(71,(j,(.arr 56 (.arr 3 .unit))))]
 ks:=[9]
theorem jFk:BwK Tryz.prog 71 (j,(.arr 56 (.arr 3 .unit))):=
 jAl Tryz.grow71 (bt:=24) (by kernel_rfl) (by kernel_rfl) (by kernel_rfl) (by decide) (by decide)
theorem j9F:aG Qj:=
 cOf aJ aK jaf Qj Tryz.func50 i (ja (λh=>by kernel_rfl) (ja (λh=>by kernel_rfl) i)) (ja jFk i)
def Qk:Con:=⟨18,[.v ak,.v ak],[ak,ak],⟨[.own 56 ak,.v iT],[]⟩,[ak,iT],Pw.unc2 Pw.jkZ⟩
def jvd:FnD where
 N:=57
 np:=2
 cs:=[Bb,KP,Qj]
 ds:=[⟨0,[sO 1000000,sO 1000001,sI,sI,.b (.lst 4294967397 fI e),.b (.lst 56 aw e)],[iT,iT,iI,ak],[⟨.ret,[.s (.one (.nil)),sI],[iT]⟩,⟨.exit 0,[sO 1500100,.b (.lst 4294967397 fI e)],[iI]⟩],Pw.unc4 (Pw.j68)⟩]
 modes:=[(45,[j])]
 keep:=[(0,⟨[6,22,23,24],[],[⟨1000000,4294967397,fI,[.slot 6],e⟩,⟨1000001,56,aw,[.slot 22],e⟩],[]⟩)]
 keepX:=[(0,.ret,⟨[4,5],[],[],[]⟩),(0,.exit 0,⟨[6],[],[⟨1500100,4294967397,fI,[.slot 6],e⟩],[]⟩)]
 ro:=[j,e]
theorem jtr:aG Qk:=
 cOf aJ aK jvd Qk Tryz.func18 (ja GV (ja _A (ja j9F i))) (ja (λh=>by kernel_rfl) i)
def Be:Con:=⟨51,[.v ak],[ak],⟨[.v .bool],[]⟩,[.bool],λh=>Pw.j8Q h⟩
def jve:FnD where
 N:=66
 np:=1
 ds:=[⟨0,[sD ak,sI],[ak,iT],[⟨.ret,[sD .bool],[.bool]⟩,⟨.exit 0,[],[]⟩],Pw.unc2 (Pw.j4m)⟩]
 keep:=[(0,⟨[0,3],[],[],[]⟩)]
 keepX:=[(0,.ret,⟨[2],[],[],[]⟩)]
theorem G3:aG Be:=
 cOf aJ aK jve Be Tryz.func51 i (ja (λh=>by kernel_rfl) i)
def Ql:Con:=⟨19,[.v ak,.v ak],[ak,ak],⟨[.own 56 ak,.v iT],[]⟩,[ak,iT],Pw.unc2 Pw.jnh⟩
def jyl:FnD where
 N:=44
 np:=2
 cs:=[KN,Be]
 ds:=[⟨0,[sD ak,sO 1000000,sI,.b (.lst 56 aw e)],[ak,iT,ak],[⟨.exit 0,[sO 1500100,.b (.lst 56 aw e)],[ak]⟩],Pw.unc3 (Pw.j6X)⟩,⟨2,[sO 1002000,sI,.b (.lst 56 aw e)],[iT,ak],[⟨.ret,[.s (.one (.nil)),sI],[iT]⟩,⟨.exit 2,[sO 1502300,.b (.lst 56 aw e)],[ak]⟩],Pw.unc2 (Pw.j6Y)⟩]
 modes:=[(47,[j,e])]
 keep:=[(0,⟨[1,6,7],[],[⟨1000000,56,aw,[.slot 6],e⟩],[]⟩),(2,⟨[6,8],[],[⟨1002000,56,aw,[.slot 6],e⟩],[]⟩)]
 keepX:=[(0,.exit 0,⟨[6],[],[⟨1500100,56,aw,[.slot 6],e⟩],[]⟩),(2,.ret,⟨[4,5],[],[],[]⟩),(2,.exit 2,⟨[6],[],[⟨1502300,56,aw,[.slot 6],e⟩],[]⟩)]
 ro:=[j,e]
 mvf:=[47]
theorem jvf:aG Ql:=
 cOf aJ aK jyl Ql Tryz.func19 (ja _y (ja G3 i)) (ja (λh=>by kernel_rfl) (ja (λh=>by kernel_rfl) i))
def KQ:Con:=⟨21,[.v ak],[ak],⟨[.v aw],[]⟩,[aw],λh=>Pw.joe h⟩
def jAs:FnD where
 N:=35
 np:=1
 cs:=[Be]
 ds:=[⟨0,[sD ak,sB 128 0,sB 192 0,sI,.b (.cell [.d iT,.d iT,.d iT] e),.b (.cell [.d iT,.d iT,.d iT] e)],[ak,iT,iT,iT,iT,iT,iT,iT],[⟨.exit 0,[sB 128 0,sB 192 0,.b (.cell [.d iT,.d iT,.d iT] e),.b (.cell [.d iT,.d iT,.d iT] e)],[iT,iT,iT,iT,iT,iT]⟩],Pw.unc8 (Pw.j69)⟩]
 keep:=[(0,⟨[0,2,3,4],[128,192],[],[]⟩)]
 keepX:=[(0,.exit 0,⟨[2,3],[128,192],[],[]⟩)]
 dw:=[(5,[[],[],[],[],[],[],[],[],[],[192]]),(6,[[],[],[],[],[],[],[],[],[],[192]])]
theorem _B:aG KQ:=
 cOf aJ aK jAs KQ Tryz.func21 (ja G3 i) (ja (λh=>by kernel_rfl) i)
def G4:Con:=⟨54,[.v ak,.v iT],[ak,iT],⟨[.v iT],[]⟩,[iT],Pw.unc2 Pw.j5i⟩
def jpb:FnD where
 N:=24
 np:=2
 ds:=[⟨0,[sD ak,sI,sI],[ak,iT,iT],[⟨.ret,[sI],[iT]⟩,⟨.exit 0,[],[]⟩],Pw.unc3 (Pw.j46)⟩]
 keep:=[(0,⟨[0,1,5],[],[],[]⟩)]
 keepX:=[(0,.ret,⟨[4],[],[],[]⟩)]
theorem Qm:aG G4:=
 cOf aJ aK jpb G4 Tryz.func54 i (ja (λh=>by kernel_rfl) i)
def Qn:Con:=⟨75,[.v iT],[iT],⟨[.v .bool],[]⟩,[.bool],λh=>Pw.jAm h⟩
def jCN:FnD where
 N:=9
 np:=1
theorem jAt:aG Qn:=
 cOf aJ aK jCN Qn Tryz.func75 i i
def Qo:Con:=⟨77,[.v iT],[iT],⟨[.v iT],[]⟩,[iT],λh=>Pw.jrf h⟩
def jym:FnD where
 N:=8
 np:=1
theorem jvg:aG Qo:=
 cOf aJ aK jym Qo Tryz.func77 i i
end Go.Proofs.Pk
