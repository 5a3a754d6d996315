/- ej: each given function is its plain function, printed by a program. -/
import Derived.Test.YtbpjdcbbmibehaaZECon0
noncomputable section
open Go Go.Lft
set_option linter.unusedVariables false
set_option maxRecDepth 100000
namespace Go.Proofs.Pk
def xG:Con:=⟨35,[.v aF],[aF],⟨[.v cF,.v iT],[]⟩,[cF,iT],λh=>Pw.j7b h⟩
def Ro:FnD where
 N:=16
 np:=1
 cs:=[xF]
 ds:=[]
 modes:=[(10,[false])]
 ro:=[false,false]
theorem Ey:Con.OK Try.prog xG:=
 cOf bd bg Ro xG Try.func35 (j8 Ew trivial) trivial
def An:Con:=⟨42,[.v aF,.v aN],[aF,aN],⟨[.v cF,.v iT],[]⟩,[cF,iT],Pw.unc2 Pw.j1i⟩
def Rp:FnD where
 N:=24
 np:=2
 cs:=[sX,xG]
 ds:=[]
 modes:=[(31,[false,false,false]),(35,[false])]
 ro:=[false,false]
theorem JW:Con.OK Try.prog An:=
 cOf bd bg Rp An Try.func42 (j8 xD (j8 Ey trivial)) trivial
def Ez:Con:=⟨65,[.v iT,.ip [iT,aC],.ip [iT]],[iT,iT,aC,iT],⟨[.v .bool],[]⟩,[.bool],Pw.unc4 Pw.j49⟩
def Rq:FnD where
 N:=13
 np:=3
 cs:=[]
 ds:=[]
 ro:=[false]
theorem Rr:Con.OK Try.prog Ez:=
 cOf bd bg Rq Ez Try.func65 trivial trivial
def EA:Con:=⟨64,[.v iT,.clo 65 [.p [iT,aC],.p [iT]]],[iT,iT,aC,iT],⟨[.v iT],[]⟩,[iT],Pw.unc4 Pw.j4Q⟩
def Rs:FnD where
 N:=26
 np:=2
 cs:=[Ez]
 ds:=[⟨0,[.s (.one (.clo 65 [.p [iT,aC],.p [iT]])),sI,sI],[iT,aC,iT,iT,iT],[⟨.exit 0,[sI],[iT]⟩],Pw.unc5 (Pw.j1U)⟩]
 modes:=[(65,[false])]
 keep:=[(0,⟨[1,5,6],[],[],[]⟩)]
 keepX:=[(0,.exit 0,⟨[5],[],[],[]⟩)]
 ro:=[false]
theorem Rt:Con.OK Try.prog EA:=
 cOf bd bg Rs EA Try.func64 (j8 Rr trivial) (j8 (λh=>by kernel_rfl) trivial)
def Ao:Con:=⟨52,[.v cF,.v iT],[cF,iT],⟨[.v iT],[]⟩,[iT],Pw.unc2 Pw.j1M⟩
def Ru:FnD where
 N:=10
 np:=2
 cs:=[EA]
 ds:=[]
 modes:=[(64,[false,false])]
 ro:=[false]
theorem JX:Con.OK Try.prog Ao:=
 cOf bd bg Ru Ao Try.func52 (j8 Rt trivial) trivial
def Ap:Con:=⟨51,[.v cF,.v iT],[cF,iT],⟨[.v iT],[]⟩,[iT],Pw.unc2 Pw.j2e⟩
def Rv:FnD where
 N:=16
 np:=2
 cs:=[]
 ds:=[]
 ro:=[false]
theorem JY:Con.OK Try.prog Ap:=
 cOf bd bg Rv Ap Try.func51 trivial trivial
def Aq:Con:=⟨54,[.v cF,.v iT,.v iT],[cF,iT,iT],⟨[.own 95 kP],[]⟩,[kP],Pw.unc3 Pw.j1t⟩
def Rw:FnD where
 N:=41
 np:=3
 cs:=[Ao,Ap]
 ds:=[⟨0,[sI,sI,.s (.one (.bp 192 0)),.s (.one (.ol 1000000)),.b (.cell [.d iT,.d aC] false),.b (.lst 95 dj false)],[iT,iT,iT,aC,kP],[⟨.exit 0,[.s (.one (.ol 1500100)),.b (.lst 95 dj false)],[kP]⟩],Pw.unc5 (Pw.j0S)⟩]
 modes:=[(51,[false,false]),(52,[false,false])]
 keep:=[(0,⟨[1,2,3,7],[192],[⟨1000000,95,dj,[.slot 7],false⟩],[]⟩)]
 keepX:=[(0,.exit 0,⟨[7],[],[⟨1500100,95,dj,[.slot 7],false⟩],[]⟩)]
 ro:=[true]
theorem JZ:Con.OK Try.prog Aq:=
 cOf bd bg Rw Aq Try.func54 (j8 JX (j8 JY trivial)) (j8 (λh=>by kernel_rfl) trivial)
def Ar:Con:=⟨55,[.v aN],[aN],⟨[.v iT],[]⟩,[iT],λh=>Pw.j3B h⟩
def Rx:FnD where
 N:=11
 np:=1
 cs:=[]
 ds:=[]
 ro:=[false]
theorem J0:Con.OK Try.prog Ar:=
 cOf bd bg Rx Ar Try.func55 trivial trivial
def EB:Con:=⟨43,[.v cF,.v aN],[cF,aN],⟨[.own 3 (.list iT)],[]⟩,[(.list iT)],Pw.unc2 Pw.j3l⟩
def Ry:FnD where
 N:=37
 np:=2
 cs:=[Aq,Ar]
 ds:=[⟨0,[.s (.one (.bp 192 0)),.s (.one (.ol 1000000)),.s (.one (.ol 1000001)),sI,sI,.b (.cell [.d iT,.d iT] false),.b (.lst 3 iT false),.b (.lst 95 dj false)],[iT,iT,iT,iT,(.list iT),kP],[⟨.exit 0,[.s (.one (.ol 1500100)),.b (.lst 3 iT false)],[(.list iT)]⟩],Pw.unc6 (Pw.j1Q)⟩]
 modes:=[(54,[false,false,false]),(55,[false])]
 keep:=[(0,⟨[3,5,10,11,12],[192],[⟨1000000,3,iT,[.slot 5],false⟩,⟨1000001,95,dj,[.slot 10],false⟩],[]⟩)]
 keepX:=[(0,.exit 0,⟨[5],[],[⟨1500100,3,iT,[.slot 5],false⟩],[]⟩)]
 ro:=[true]
theorem Rz:Con.OK Try.prog EB:=
 cOf bd bg Ry EB Try.func43 (j8 JZ (j8 J0 trivial)) (j8 (λh=>by kernel_rfl) trivial)
def As:Con:=⟨22,[.v aF,.v aN],[aF,aN],⟨[.own 3 (.list iT),.v iT],[]⟩,[(.list iT),iT],Pw.unc2 Pw.j19⟩
def RA:FnD where
 N:=20
 np:=2
 cs:=[An,EB]
 ds:=[]
 modes:=[(42,[false,false]),(43,[false,false])]
 ro:=[true,false]
theorem J1:Con.OK Try.prog As:=
 cOf bd bg RA As Try.func22 (j8 JW (j8 Rz trivial)) trivial
def EC:Con:=⟨45,[.v cF,.v aN],[cF,aN],⟨[.v iT,.v .bool],[]⟩,[iT,.bool],Pw.unc2 Pw.j2n⟩
def RB:FnD where
 N:=30
 np:=2
 cs:=[Aq,Ar]
 ds:=[⟨0,[.s (.one (.bp 192 0)),.s (.one (.ol 1000000)),sI,sI,.b (.cell [.d iT,.d iT] false),.b (.lst 95 dj false)],[iT,iT,iT,iT,kP],[⟨.ret,[sI,.s (.one (.d .bool))],[iT,.bool]⟩,⟨.exit 0,[],[]⟩],Pw.unc5 (Pw.j1u)⟩]
 modes:=[(54,[false,false,false]),(55,[false])]
 keep:=[(0,⟨[3,10,11,12],[192],[⟨1000000,95,dj,[.slot 10],false⟩],[]⟩)]
 keepX:=[(0,.ret,⟨[4,5],[],[],[]⟩),
  (0,.exit 0,⟨[],[],[],[]⟩)]
 ro:=[false,false]
theorem RC:Con.OK Try.prog EC:=
 cOf bd bg RB EC Try.func45 (j8 JZ (j8 J0 trivial)) (j8 (λh=>by kernel_rfl) trivial)
def Au:Con:=⟨24,[.v aF,.v aN],[aF,aN],⟨[.v iT,.v iT],[]⟩,[iT,iT],Pw.unc2 Pw.j2o⟩
def RD:FnD where
 N:=28
 np:=2
 cs:=[An,EC]
 ds:=[]
 modes:=[(42,[false,false]),(45,[false,false])]
 ro:=[false,false]
theorem J2:Con.OK Try.prog Au:=
 cOf bd bg RD Au Try.func24 (j8 JW (j8 RC trivial)) trivial
def Av:Con:=⟨37,[.v aF,.v iT],[aF,iT],⟨[.v cF,.v iT],[]⟩,[cF,iT],Pw.unc2 Pw.j3d⟩
def RE:FnD where
 N:=23
 np:=2
 cs:=[sX,xG]
 ds:=[]
 modes:=[(31,[false,false,false]),(35,[false])]
 ro:=[false,false]
theorem J3:Con.OK Try.prog Av:=
 cOf bd bg RE Av Try.func37 (j8 xD (j8 Ey trivial)) trivial
def Aw:Con:=⟨38,[.v cF,.v iT],[cF,iT],⟨[.v iT],[]⟩,[iT],Pw.unc2 Pw.j1v⟩
def RF:FnD where
 N:=10
 np:=2
 cs:=[Ao,Ap]
 ds:=[]
 modes:=[(51,[false,false]),(52,[false,false])]
 ro:=[false]
theorem J4:Con.OK Try.prog Aw:=
 cOf bd bg RF Aw Try.func38 (j8 JX (j8 JY trivial)) trivial
def ED:Con:=⟨53,[.v iT],[iT],⟨[.v aN],[]⟩,[aN],λh=>Pw.j8l h⟩
def RG:FnD where
 N:=17
 np:=1
 cs:=[]
 ds:=[]
 ro:=[false]
theorem RH:Con.OK Try.prog ED:=
 cOf bd bg RG ED Try.func53 trivial trivial
def EE:Con:=⟨40,[.v cF,.v iT],[cF,iT],⟨[.v aN],[]⟩,[aN],Pw.unc2 Pw.j27⟩
def RI:FnD where
 N:=11
 np:=2
 cs:=[Aw,ED]
 ds:=[]
 modes:=[(38,[false,false]),(53,[false])]
 ro:=[false]
theorem RJ:Con.OK Try.prog EE:=
 cOf bd bg RI EE Try.func40 (j8 J4 (j8 RH trivial)) trivial
def Ax:Con:=⟨20,[.v aF,.v iT],[aF,iT],⟨[.v aN,.v iT],[]⟩,[aN,iT],Pw.unc2 Pw.j1W⟩
def RK:FnD where
 N:=21
 np:=2
 cs:=[Av,EE]
 ds:=[]
 modes:=[(37,[false,false]),(40,[false,false])]
 ro:=[false,false]
theorem J5:Con.OK Try.prog Ax:=
 cOf bd bg RK Ax Try.func20 (j8 J3 (j8 RJ trivial)) trivial
def EF:Con:=⟨5,[],[],⟨[.v .bool],[]⟩,[.bool],λh=>Pw.j4i⟩
def RM:FnD where
 N:=80
 np:=0
 cs:=[Ak,As,Au,Ax]
 ds:=[]
 modes:=[(9,[]),(20,[false,false]),(22,[false,false]),(24,[false,false])]
 ro:=[false]
theorem RN:Con.OK Try.prog EF:=
 cOf bd bg RM EF Try.func5 (j8 JT (j8 J1 (j8 J2 (j8 J5 trivial)))) trivial
def EG:Con:=⟨4,[.v (.list iT)],[(.list iT)],⟨[.v .bool],[]⟩,[.bool],λh=>Pw.ja2 h⟩
def RO:FnD where
 N:=6
 np:=1
 cs:=[]
 ds:=[]
 ro:=[false]
theorem RP:Con.OK Try.prog EG:=
 cOf bd bg RO EG Try.func4 trivial trivial
def EH:Con:=⟨6,[.v (.list iT)],[(.list iT)],⟨[.box [(.list iT),iT]],[]⟩,[(.list iT),iT],λh=>Pw.jbW h⟩
def RQ:FnD where
 N:=6
 np:=1
 cs:=[]
 ds:=[]
 ro:=[false]
theorem RR:Con.OK Try.prog EH:=
 cOf bd bg RQ EH Try.func6 trivial trivial
end Go.Proofs.Pk
