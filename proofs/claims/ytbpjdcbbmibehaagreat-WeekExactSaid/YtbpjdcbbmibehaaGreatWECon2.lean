/- dv: each given function is its plain function, printed by a program. -/
import Derived.Test.YtbpjdcbbmibehaaGreatWECon1
noncomputable section
open Go Go.Lft
set_option linter.unusedVariables false
set_option maxRecDepth 100000
namespace Go.Proofs.Pk
def Ez:Con:=⟨14,[.ref [(.list iT),iT]],[(.list iT),iT],⟨[.v iT],[.ref [(.list iT),iT]]⟩,[iT,(.list iT),iT],Pw.unc2 Pw.j2k⟩
def RY:FnD where
 N:=16
 np:=1
 cs:=[sH,uw,Ey]
 ds:=[]
 modes:=[(16,[false,false]),(33,[false,false]),(70,[false,false])]
 ro:=[false]
theorem RZ:Con.OK Tryz.prog Ez:=
 cOf aW aX RY Ez Tryz.func14 (ja xv (ja Al (ja RX trivial))) trivial
def sJ:Con:=⟨53,[.v aa],[aa],⟨[.v iT],[]⟩,[iT],λh=>Pw.j2X h⟩
def R0:FnD where
 N:=56
 np:=1
 cs:=[]
 ds:=[⟨0,[.s (.one (.d aa)),sI],[aa,iT],[⟨.ret,[sI],[iT]⟩,⟨.exit 0,[],[]⟩],Pw.unc2 (Pw.j2l)⟩]
 keep:=[(0,⟨[0,3],[],[],[]⟩)]
 keepX:=[(0,.ret,⟨[2],[],[],[]⟩),
  (0,.exit 0,⟨[],[],[],[]⟩)]
 ro:=[false]
theorem xw:Con.OK Tryz.prog sJ:=
 cOf aW aX R0 sJ Tryz.func53 trivial (ja (λh=>by kernel_rfl) trivial)
def EA:Con:=⟨51,[.v aa],[aa],⟨[.own 99 aa,.v iT],[]⟩,[aa,iT],λh=>Pw.j6t h⟩
def R1:FnD where
 N:=46
 np:=1
 cs:=[sJ]
 ds:=[⟨0,[.s (.one (.d aa)),.s (.one (.ol 1000000)),sI,sI,.b (.lst 99 aA false)],[aa,iT,iT,aa],[⟨.exit 0,[.s (.one (.ol 1500100)),.b (.lst 99 aA false)],[aa]⟩],Pw.unc4 (Pw.j1x)⟩]
 modes:=[(53,[false])]
 keep:=[(0,⟨[0,4,5,6],[],[⟨1000000,99,aA,[.slot 4],false⟩],[]⟩)]
 keepX:=[(0,.exit 0,⟨[4],[],[⟨1500100,99,aA,[.slot 4],false⟩],[]⟩)]
 ro:=[true,false]
theorem R2:Con.OK Tryz.prog EA:=
 cOf aW aX R1 EA Tryz.func51 (ja xw trivial) (ja (λh=>by kernel_rfl) trivial)
def EB:Con:=⟨54,[.v aa],[aa],⟨[.v iT],[]⟩,[iT],λh=>Pw.j4m h⟩
def R3:FnD where
 N:=24
 np:=1
 cs:=[sG]
 ds:=[⟨0,[sI,.s (.one (.d aa)),sI,sI],[iT,aa,iT,iT],[⟨.exit 0,[sI],[iT]⟩],Pw.unc4 (Pw.j1R)⟩]
 modes:=[(52,[false])]
 keep:=[(0,⟨[3,9,10,11],[],[],[]⟩)]
 keepX:=[(0,.exit 0,⟨[3],[],[],[]⟩)]
 ro:=[false]
theorem R4:Con.OK Tryz.prog EB:=
 cOf aW aX R3 EB Tryz.func54 (ja xr trivial) (ja (λh=>by kernel_rfl) trivial)
def EC:Con:=⟨55,[.v aa],[aa],⟨[.v iT],[]⟩,[iT],λh=>Pw.j6v h⟩
def R5:FnD where
 N:=30
 np:=1
 cs:=[sJ]
 ds:=[⟨0,[.s (.one (.d aa)),sI,sI],[aa,iT,iT],[⟨.exit 0,[sI],[iT]⟩],Pw.unc3 (Pw.j1y)⟩]
 modes:=[(53,[false])]
 keep:=[(0,⟨[0,3,4],[],[],[]⟩)]
 keepX:=[(0,.exit 0,⟨[3],[],[],[]⟩)]
 ro:=[false]
theorem R6:Con.OK Tryz.prog EC:=
 cOf aW aX R5 EC Tryz.func55 (ja xw trivial) (ja (λh=>by kernel_rfl) trivial)
def ED:Con:=⟨56,[.v aa,.v aa],[aa,aa],⟨[.v .bool],[]⟩,[.bool],Pw.unc2 Pw.j8h⟩
def R7:FnD where
 N:=26
 np:=2
 cs:=[]
 ds:=[⟨0,[.s (.one (.d aa)),.s (.one (.d aa)),sI,sI],[aa,aa,iT,iT],[⟨.ret,[.s (.one (.d .bool))],[.bool]⟩,⟨.exit 0,[],[]⟩],Pw.unc4 (Pw.j20)⟩]
 keep:=[(0,⟨[0,1,12,13],[],[],[]⟩)]
 keepX:=[(0,.ret,⟨[4],[],[],[]⟩),
  (0,.exit 0,⟨[],[],[],[]⟩)]
 ro:=[false]
theorem R8:Con.OK Tryz.prog ED:=
 cOf aW aX R7 ED Tryz.func56 trivial (ja (λh=>by kernel_rfl) trivial)
def xx:Con:=⟨161,[.v iT,.v iT,.v iT],[iT,iT,iT],⟨[.v .bool],[]⟩,[.bool],Pw.unc3 Pw.j5l⟩
def R9:FnD where
 N:=15
 np:=3
 cs:=[]
 ds:=[]
 ro:=[false]
theorem EE:Con.OK Tryz.prog xx:=
 cOf aW aX R9 xx Tryz.func161 trivial trivial
def EF:Con:=⟨162,[.v mN],[mN],⟨[.v .bool],[]⟩,[.bool],λh=>Pw.j7Q h⟩
def Sa:FnD where
 N:=38
 np:=1
 cs:=[xx]
 ds:=[]
 modes:=[(161,[false,false,false])]
 ro:=[false]
theorem Sb:Con.OK Tryz.prog EF:=
 cOf aW aX Sa EF Tryz.func162 (ja EE trivial) trivial
def EG:Con:=⟨352,[.v iT],[iT],⟨[.v .bool],[]⟩,[.bool],λh=>Pw.j0G h⟩
def Sc:FnD where
 N:=16
 np:=1
 cs:=[]
 ds:=[]
 ro:=[false]
theorem Sd:Con.OK Tryz.prog EG:=
 cOf aW aX Sc EG Tryz.func352 trivial trivial
def xy:Con:=⟨300,[.v iT,.v iT],[iT,iT],⟨[.v iT],[]⟩,[iT],Pw.unc2 Pw.j6W⟩
def Se:FnD where
 N:=23
 np:=2
 cs:=[EG]
 ds:=[]
 modes:=[(352,[false])]
 ro:=[false]
theorem EH:Con.OK Tryz.prog xy:=
 cOf aW aX Se xy Tryz.func300 (ja Sd trivial) trivial
def EI:Con:=⟨351,[.v cb],[cb],⟨[.v .bool],[]⟩,[.bool],λh=>Pw.j9B h⟩
def Sf:FnD where
 N:=36
 np:=1
 cs:=[xy]
 ds:=[]
 modes:=[(300,[false,false])]
 ro:=[false]
theorem Sh:Con.OK Tryz.prog EI:=
 cOf aW aX Sf EI Tryz.func351 (ja EH trivial) trivial
def EJ:Con:=⟨298,[.v iT],[iT],⟨[.v iT],[]⟩,[iT],λh=>Pw.jaZ h⟩
def Si:FnD where
 N:=18
 np:=1
 cs:=[]
 ds:=[]
 ro:=[false]
theorem Sj:Con.OK Tryz.prog EJ:=
 cOf aW aX Si EJ Tryz.func298 trivial trivial
def EK:Con:=⟨299,[.v cb],[cb],⟨[.v iT,.v iT],[]⟩,[iT,iT],λh=>Pw.jdZ h⟩
def Sk:FnD where
 N:=29
 np:=1
 cs:=[xy,EI,EJ]
 ds:=[⟨0,[.s (.one (.bp 64 0)),sI,sI,.b (.cell [.d iT,.d iT,.d iT] false)],[iT,iT,iT,iT,iT],[⟨.exit 0,[.s (.one (.bp 64 0)),sI,.b (.cell [.d iT,.d iT,.d iT] false)],[iT,iT,iT,iT]⟩],Pw.unc5 (Pw.j2Y)⟩]
 modes:=[(298,[false]),(300,[false,false]),(351,[false])]
 keep:=[(0,⟨[1,4,5],[64],[],[]⟩)]
 keepX:=[(0,.exit 0,⟨[1,4],[64],[],[]⟩)]
 ro:=[false,false]
theorem dQ:Con.OK Tryz.prog EK:=
 cOf aW aX Sk EK Tryz.func299 (ja EH (ja Sh (ja Sj trivial))) (ja (λh=>by kernel_rfl) trivial)
def Am:Con:=⟨191,[.v iT],[iT],⟨[.v iT],[]⟩,[iT],λh=>Pw.j5m h⟩
def Sl:FnD where
 N:=7
 np:=1
 cs:=[]
 ds:=[]
 ro:=[false]
theorem J0:Con.OK Tryz.prog Am:=
 cOf aW aX Sl Am Tryz.func191 trivial trivial
def EL:Con:=⟨239,[.v iT,.v iT,.v iT,.v iT],[iT,iT,iT,iT],⟨[.v iT,.v iT],[]⟩,[iT,iT],Pw.unc4 Pw.je0⟩
def Sn:FnD where
 N:=63
 np:=4
 cs:=[xy,EK,Am]
 ds:=[⟨0,[sI,sI,sI,sI,sI,sI],[iT,iT,iT,iT,iT,iT],[⟨.exit 0,[sI,sI,sI,sI,sI],[iT,iT,iT,iT,iT]⟩],Pw.unc6 (Pw.j2Z)⟩,
  ⟨2,[sI,sI,sI,sI],[iT,iT,iT,iT],[⟨.exit 2,[sI],[iT]⟩],Pw.unc4 (Pw.j30)⟩]
 modes:=[(191,[false]),(299,[false]),(300,[false,false])]
 keep:=[(0,⟨[0,1,2,3,10,12],[],[],[]⟩),
  (2,⟨[0,1,10,12],[],[],[]⟩)]
 keepX:=[(0,.exit 0,⟨[0,1,2,10,12],[],[],[]⟩),
  (2,.exit 2,⟨[12],[],[],[]⟩)]
 ro:=[false,false]
theorem dR:Con.OK Tryz.prog EL:=
 cOf aW aX Sn EL Tryz.func239 (ja EH (ja dQ (ja J0 trivial))) (ja (λh=>by kernel_rfl) (ja (λh=>by kernel_rfl) trivial))
def EM:Con:=⟨163,[.v aV],[aV],⟨[.own 238 aa],[]⟩,[aa],λh=>Pw.j3R h⟩
def Sp:FnD where
 N:=98
 np:=1
 cs:=[EL]
 ds:=[⟨0,[.s (.one (.d aV)),.s (.one (.ol 1000000)),sI,.b (.lst 238 aA false)],[aV,iT,aa],[⟨.exit 0,[.s (.one (.ol 1500100)),.b (.lst 238 aA false)],[aa]⟩],Pw.unc3 (Pw.j1c)⟩,
  ⟨2,[.s (.one (.d aV)),.s (.one (.ol 1002000)),sI,sI,.b (.lst 238 aA false)],[aV,iT,iT,aa],[⟨.exit 2,[.s (.one (.d aV)),.s (.one (.ol 1502300)),sI,.b (.lst 238 aA false)],[aV,iT,aa]⟩],Pw.unc4 (Pw.j1b)⟩,
  ⟨4,[.s (.one (.d aV)),.s (.one (.ol 1004000)),sI,sI,.s (.one (.bp 512 0)),sI,.b (.cell [.d iT,.d iT] false),.b (.lst 238 aA false)],[aV,iT,iT,iT,iT,iT,aa],[⟨.exit 4,[.s (.one (.d aV)),.s (.one (.ol 1504500)),sI,sI,.s (.one (.bp 512 0)),sI,.b (.cell [.d iT,.d iT] false),.b (.lst 238 aA false)],[aV,iT,iT,iT,iT,iT,aa]⟩],Pw.unc7 (Pw.j1a)⟩]
 modes:=[(239,[false,false,false,false])]
 keep:=[(0,⟨[0,3,4],[],[⟨1000000,238,aA,[.slot 3],false⟩],[]⟩),
  (2,⟨[0,3,4,5],[],[⟨1002000,238,aA,[.slot 3],false⟩],[]⟩),
  (4,⟨[0,3,4,5,8,9],[512],[⟨1004000,238,aA,[.slot 3],false⟩],[]⟩)]
 keepX:=[(0,.exit 0,⟨[3],[],[⟨1500100,238,aA,[.slot 3],false⟩],[]⟩),
  (2,.exit 2,⟨[0,3,4],[],[⟨1502300,238,aA,[.slot 3],false⟩],[]⟩),
  (4,.exit 4,⟨[0,3,4,5,8,9],[512],[⟨1504500,238,aA,[.slot 3],false⟩],[]⟩)]
 ro:=[true]
 dw:=[(9,[[],[],[],[],[],[],[],[],[],[],[],[],[],[],[512],[512]]),(14,[[],[],[],[],[],[],[],[5376]])]
theorem Sq:Con.OK Tryz.prog EM:=
 cOf aW aX Sp EM Tryz.func163 (ja dR trivial) (ja (λh=>by kernel_rfl) (ja (λh=>by kernel_rfl) (ja (λh=>by kernel_rfl) trivial)))
def An:Con:=⟨99,[.v bz],[bz],⟨[.own 175 aa,.v iT],[]⟩,[aa,iT],λh=>Pw.j0V h⟩
def Sr:FnD where
 N:=119
 np:=1
 cs:=[xx,EF,EM]
 ds:=[⟨0,[.s (.one (.bp 64 0)),sI,sI,.b (.cell [.d .str,.d iT,.d aV] false)],[iT,iT,.str,iT,aV],[⟨.ret,[.s (.one (.nil)),sI],[iT]⟩,⟨.exit 0,[.s (.one (.bp 64 0)),sI,.b (.cell [.d .str,.d iT,.d aV] false)],[iT,.str,iT,aV]⟩],Pw.unc5 (Pw.j1d)⟩,
  ⟨2,[.s (.one (.ol 1002000)),.s (.one (.ol 1002001)),sI,sI,.b (.lst 175 aA false),.b (.lst 238 aA false)],[iT,iT,aa,aa],[⟨.ret,[.s (.one (.nil)),sI],[iT]⟩,⟨.exit 2,[.s (.one (.ol 1502300)),.b (.lst 175 aA false)],[aa]⟩],Pw.unc4 (Pw.j1e)⟩]
 modes:=[(161,[false,false,false]),(162,[false]),(163,[false])]
 keep:=[(0,⟨[1,4,5],[64],[],[]⟩),
  (2,⟨[6,7,8,9],[],[⟨1002000,175,aA,[.slot 6],false⟩,⟨1002001,238,aA,[.slot 7],false⟩],[]⟩)]
 keepX:=[(0,.ret,⟨[2,3],[],[],[]⟩),
  (0,.exit 0,⟨[1,4],[64],[],[]⟩),
  (2,.ret,⟨[2,3],[],[],[]⟩),
  (2,.exit 2,⟨[6],[],[⟨1502300,175,aA,[.slot 6],false⟩],[]⟩)]
 ro:=[true,false]
 dw:=[(21,[[],[],[],[],[],[],[],[],[],[],[],[],[],[640],[640]]),(24,[[],[],[7296],[7360,1002000],[],[],[],[]])]
theorem J1:Con.OK Tryz.prog An:=
 cOf aW aX Sr An Tryz.func99 (ja EE (ja Sb (ja Sq trivial))) (ja (λh=>by kernel_rfl) (ja (λh=>by kernel_rfl) trivial))
def EN:Con:=⟨265,[.v bz,.v aa,.v iT],[bz,aa,iT],⟨[.v iT],[]⟩,[iT],Pw.unc3 Pw.j8l⟩
def Ss:FnD where
 N:=32
 np:=3
 cs:=[]
 ds:=[⟨0,[.s (.one (.d aa)),sI,sI,sI],[aa,iT,iT,iT],[⟨.exit 0,[sI],[iT]⟩],Pw.unc4 (Pw.j25)⟩]
 keep:=[(0,⟨[1,2,7,8],[],[],[]⟩)]
 keepX:=[(0,.exit 0,⟨[7],[],[],[]⟩)]
 ro:=[false]
theorem Su:Con.OK Tryz.prog EN:=
 cOf aW aX Ss EN Tryz.func265 trivial (ja (λh=>by kernel_rfl) trivial)
def EO:Con:=⟨189,[.v bz,.v iT],[bz,iT],⟨[.v iT,.v iT],[]⟩,[iT,iT],Pw.unc2 Pw.j3E⟩
def Sv:FnD where
 N:=22
 np:=2
 cs:=[xx,An,EN]
 ds:=[]
 modes:=[(99,[false]),(161,[false,false,false]),(265,[false,false,false])]
 ro:=[false,false]
theorem Sw:Con.OK Tryz.prog EO:=
 cOf aW aX Sv EO Tryz.func189 (ja EE (ja J1 (ja Su trivial))) trivial
def EP:Con:=⟨190,[.v iT,.v iT],[iT,iT],⟨[.v aA],[]⟩,[aA],Pw.unc2 Pw.j9F⟩
def Sz:FnD where
 N:=16
 np:=2
 cs:=[]
 ds:=[]
 ro:=[false]
theorem SA:Con.OK Tryz.prog EP:=
 cOf aW aX Sz EP Tryz.func190 trivial trivial
end Go.Proofs.Pk
