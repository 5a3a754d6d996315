/- ej: each given function is its plain function, printed by a program. -/
import Derived.Test.YtbpjdcbbmibehaaZECon1
noncomputable section
open Go Go.Lft
set_option linter.unusedVariables false
set_option maxRecDepth 100000
namespace Go.Proofs.Pk
def uN:Con:=⟨28,[.ref [(.list iT),iT],.v iT],[(.list iT),iT,iT],⟨[.v iT],[.ref [(.list iT),iT]]⟩,[iT,(.list iT),iT],Pw.unc3 Pw.j0I⟩
def RS:FnD where
 N:=45
 np:=2
 cs:=[]
 ds:=[]
 ro:=[false]
theorem Ay:Con.OK Try.prog uN:=
 cOf bd bg RS uN Try.func28 trivial trivial
def Az:Con:=⟨27,[.ref [(.list iT),iT],.v (.list iT)],[(.list iT),iT,(.list iT)],⟨[.v iT],[.ref [(.list iT),iT]]⟩,[iT,(.list iT),iT],Pw.unc3 Pw.j0T⟩
def RT:FnD where
 N:=12
 np:=2
 cs:=[uN]
 ds:=[]
 modes:=[(28,[false,false])]
 ro:=[false]
theorem J6:Con.OK Try.prog Az:=
 cOf bd bg RT Az Try.func27 (j8 Ay trivial) trivial
def EI:Con:=⟨7,[.ref [(.list iT),iT],.v .str],[(.list iT),iT,.str],⟨[.v aF],[.ref [(.list iT),iT]]⟩,[aF,(.list iT),iT],Pw.unc3 Pw.j4X⟩
def RU:FnD where
 N:=98
 np:=2
 cs:=[uN,Az]
 ds:=[]
 modes:=[(27,[false,false]),(28,[false,false])]
 ro:=[false]
 dw:=[(7,[[],[],[0],[],[],[0],[],[0],[],[],[],[],[0],[],[],[],[],[],[],[0],[],[],[3968],[0,3968],[],[0],[],[0],[],[],[],[],[4608],[],[320]]),(9,[[],[],[],[5056],[0,5056],[],[]])]
theorem RW:Con.OK Try.prog EI:=
 cOf bd bg RU EI Try.func7 (j8 Ay (j8 J6 trivial)) trivial
def EJ:Con:=⟨29,[.ref [(.list iT),iT],.v iT],[(.list iT),iT,iT],⟨[.v .bool],[.ref [(.list iT),iT]]⟩,[.bool,(.list iT),iT],Pw.unc3 Pw.j6g⟩
def RX:FnD where
 N:=11
 np:=2
 cs:=[uN]
 ds:=[]
 modes:=[(28,[false,false])]
 ro:=[false]
theorem RY:Con.OK Try.prog EJ:=
 cOf bd bg RX EJ Try.func29 (j8 Ay trivial) trivial
def EK:Con:=⟨8,[.ref [(.list iT),iT],.v aF],[(.list iT),iT,aF],⟨[.v aF],[.ref [(.list iT),iT]]⟩,[aF,(.list iT),iT],Pw.unc3 Pw.j9s⟩
def RZ:FnD where
 N:=131
 np:=2
 cs:=[uN,Az,EJ]
 ds:=[]
 modes:=[(27,[false,false]),(28,[false,false]),(29,[false,false])]
 ro:=[false]
 dw:=[(5,[[],[],[],[],[],[],[0],[],[]]),(7,[[],[],[],[],[],[],[2496],[512,2560],[],[192]]),(8,[[],[],[],[],[],[],[],[3136],[0,3136],[],[],[2560]]),(10,[[],[],[],[],[],[],[],[],[],[],[],[4224],[0,4224],[],[],[512]])]
theorem R0:Con.OK Try.prog EK:=
 cOf bd bg RZ EK Try.func8 (j8 Ay (j8 J6 (j8 RY trivial))) trivial
def qX:Con:=⟨32,[.v iT,.v iT,.v iT],[iT,iT,iT],⟨[.v .bool],[]⟩,[.bool],Pw.unc3 Pw.j3Z⟩
def R1:FnD where
 N:=15
 np:=3
 cs:=[]
 ds:=[]
 ro:=[false]
theorem uO:Con.OK Try.prog qX:=
 cOf bd bg R1 qX Try.func32 trivial trivial
def EL:Con:=⟨33,[.v mC],[mC],⟨[.v .bool],[]⟩,[.bool],λh=>Pw.j59 h⟩
def R2:FnD where
 N:=38
 np:=1
 cs:=[qX]
 ds:=[]
 modes:=[(32,[false,false,false])]
 ro:=[false]
theorem R3:Con.OK Try.prog EL:=
 cOf bd bg R2 EL Try.func33 (j8 uO trivial) trivial
def EM:Con:=⟨72,[.v iT],[iT],⟨[.v .bool],[]⟩,[.bool],λh=>Pw.j12 h⟩
def R4:FnD where
 N:=16
 np:=1
 cs:=[]
 ds:=[]
 ro:=[false]
theorem R5:Con.OK Try.prog EM:=
 cOf bd bg R4 EM Try.func72 trivial trivial
def xH:Con:=⟨63,[.v iT,.v iT],[iT,iT],⟨[.v iT],[]⟩,[iT],Pw.unc2 Pw.j7c⟩
def R6:FnD where
 N:=23
 np:=2
 cs:=[EM]
 ds:=[]
 modes:=[(72,[false])]
 ro:=[false]
theorem EN:Con.OK Try.prog xH:=
 cOf bd bg R6 xH Try.func63 (j8 R5 trivial) trivial
def EO:Con:=⟨70,[.v dj],[dj],⟨[.v .bool],[]⟩,[.bool],λh=>Pw.j9t h⟩
def R7:FnD where
 N:=36
 np:=1
 cs:=[xH]
 ds:=[]
 modes:=[(63,[false,false])]
 ro:=[false]
theorem R8:Con.OK Try.prog EO:=
 cOf bd bg R7 EO Try.func70 (j8 EN trivial) trivial
def EP:Con:=⟨71,[.v iT],[iT],⟨[.v iT],[]⟩,[iT],λh=>Pw.jb7 h⟩
def R9:FnD where
 N:=18
 np:=1
 cs:=[]
 ds:=[]
 ro:=[false]
theorem Sa:Con.OK Try.prog EP:=
 cOf bd bg R9 EP Try.func71 trivial trivial
def ER:Con:=⟨61,[.v dj],[dj],⟨[.v iT,.v iT],[]⟩,[iT,iT],λh=>Pw.jdY h⟩
def Sb:FnD where
 N:=29
 np:=1
 cs:=[xH,EO,EP]
 ds:=[⟨0,[.s (.one (.bp 64 0)),sI,sI,.b (.cell [.d iT,.d iT,.d iT] false)],[iT,iT,iT,iT,iT],[⟨.exit 0,[.s (.one (.bp 64 0)),sI,.b (.cell [.d iT,.d iT,.d iT] false)],[iT,iT,iT,iT]⟩],Pw.unc5 (Pw.j3C)⟩]
 modes:=[(63,[false,false]),(70,[false]),(71,[false])]
 keep:=[(0,⟨[1,4,5],[64],[],[]⟩)]
 keepX:=[(0,.exit 0,⟨[1,4],[64],[],[]⟩)]
 ro:=[false,false]
theorem dT:Con.OK Try.prog ER:=
 cOf bd bg Sb ER Try.func61 (j8 EN (j8 R8 (j8 Sa trivial))) (j8 (λh=>by kernel_rfl) trivial)
def ES:Con:=⟨62,[.v iT],[iT],⟨[.v iT],[]⟩,[iT],λh=>Pw.j8Q h⟩
def Sc:FnD where
 N:=7
 np:=1
 cs:=[]
 ds:=[]
 ro:=[false]
theorem Sd:Con.OK Try.prog ES:=
 cOf bd bg Sc ES Try.func62 trivial trivial
def ET:Con:=⟨50,[.v iT,.v iT,.v iT,.v iT],[iT,iT,iT,iT],⟨[.v iT,.v iT],[]⟩,[iT,iT],Pw.unc4 Pw.jdZ⟩
def Se:FnD where
 N:=63
 np:=4
 cs:=[xH,ER,ES]
 ds:=[⟨0,[sI,sI,sI,sI,sI,sI],[iT,iT,iT,iT,iT,iT],[⟨.exit 0,[sI,sI,sI,sI,sI],[iT,iT,iT,iT,iT]⟩],Pw.unc6 (Pw.j3D)⟩,
  ⟨2,[sI,sI,sI,sI],[iT,iT,iT,iT],[⟨.exit 2,[sI],[iT]⟩],Pw.unc4 (Pw.j3E)⟩]
 modes:=[(61,[false]),(62,[false]),(63,[false,false])]
 keep:=[(0,⟨[0,1,2,3,10,12],[],[],[]⟩),
  (2,⟨[0,1,10,12],[],[],[]⟩)]
 keepX:=[(0,.exit 0,⟨[0,1,2,10,12],[],[],[]⟩),
  (2,.exit 2,⟨[12],[],[],[]⟩)]
 ro:=[false,false]
theorem dU:Con.OK Try.prog ET:=
 cOf bd bg Se ET Try.func50 (j8 EN (j8 dT (j8 Sd trivial))) (j8 (λh=>by kernel_rfl) (j8 (λh=>by kernel_rfl) trivial))
def EU:Con:=⟨34,[.v aZ],[aZ],⟨[.own 74 aC],[]⟩,[aC],λh=>Pw.j4s h⟩
def Sf:FnD where
 N:=98
 np:=1
 cs:=[ET]
 ds:=[⟨0,[.s (.one (.d aZ)),.s (.one (.ol 1000000)),sI,.b (.lst 74 aN false)],[aZ,iT,aC],[⟨.exit 0,[.s (.one (.ol 1500100)),.b (.lst 74 aN false)],[aC]⟩],Pw.unc3 (Pw.j1H)⟩,
  ⟨2,[.s (.one (.d aZ)),.s (.one (.ol 1002000)),sI,sI,.b (.lst 74 aN false)],[aZ,iT,iT,aC],[⟨.exit 2,[.s (.one (.d aZ)),.s (.one (.ol 1502300)),sI,.b (.lst 74 aN false)],[aZ,iT,aC]⟩],Pw.unc4 (Pw.j1G)⟩,
  ⟨4,[.s (.one (.d aZ)),.s (.one (.ol 1004000)),sI,sI,.s (.one (.bp 512 0)),sI,.b (.cell [.d iT,.d iT] false),.b (.lst 74 aN false)],[aZ,iT,iT,iT,iT,iT,aC],[⟨.exit 4,[.s (.one (.d aZ)),.s (.one (.ol 1504500)),sI,sI,.s (.one (.bp 512 0)),sI,.b (.cell [.d iT,.d iT] false),.b (.lst 74 aN false)],[aZ,iT,iT,iT,iT,iT,aC]⟩],Pw.unc7 (Pw.j1F)⟩]
 modes:=[(50,[false,false,false,false])]
 keep:=[(0,⟨[0,3,4],[],[⟨1000000,74,aN,[.slot 3],false⟩],[]⟩),
  (2,⟨[0,3,4,5],[],[⟨1002000,74,aN,[.slot 3],false⟩],[]⟩),
  (4,⟨[0,3,4,5,8,9],[512],[⟨1004000,74,aN,[.slot 3],false⟩],[]⟩)]
 keepX:=[(0,.exit 0,⟨[3],[],[⟨1500100,74,aN,[.slot 3],false⟩],[]⟩),
  (2,.exit 2,⟨[0,3,4],[],[⟨1502300,74,aN,[.slot 3],false⟩],[]⟩),
  (4,.exit 4,⟨[0,3,4,5,8,9],[512],[⟨1504500,74,aN,[.slot 3],false⟩],[]⟩)]
 ro:=[true]
 dw:=[(9,[[],[],[],[],[],[],[],[],[],[],[],[],[],[],[512],[512]]),(14,[[],[],[],[],[],[],[],[5376]])]
theorem Sh:Con.OK Try.prog EU:=
 cOf bd bg Sf EU Try.func34 (j8 dU trivial) (j8 (λh=>by kernel_rfl) (j8 (λh=>by kernel_rfl) (j8 (λh=>by kernel_rfl) trivial)))
def qY:Con:=⟨11,[.v aF],[aF],⟨[.own 42 aC,.v iT],[]⟩,[aC,iT],λh=>Pw.j0t h⟩
def Si:FnD where
 N:=119
 np:=1
 cs:=[qX,EL,EU]
 ds:=[⟨0,[.s (.one (.bp 64 0)),sI,sI,.b (.cell [.d .str,.d iT,.d aZ] false)],[iT,iT,.str,iT,aZ],[⟨.ret,[.s (.one (.nil)),sI],[iT]⟩,⟨.exit 0,[.s (.one (.bp 64 0)),sI,.b (.cell [.d .str,.d iT,.d aZ] false)],[iT,.str,iT,aZ]⟩],Pw.unc5 (Pw.j1k)⟩,
  ⟨2,[.s (.one (.ol 1002000)),.s (.one (.ol 1002001)),sI,sI,.b (.lst 42 aN false),.b (.lst 74 aN false)],[iT,iT,aC,aC],[⟨.ret,[.s (.one (.nil)),sI],[iT]⟩,⟨.exit 2,[.s (.one (.ol 1502300)),.b (.lst 42 aN false)],[aC]⟩],Pw.unc4 (Pw.j13)⟩]
 modes:=[(32,[false,false,false]),(33,[false]),(34,[false])]
 keep:=[(0,⟨[1,4,5],[64],[],[]⟩),
  (2,⟨[6,7,8,9],[],[⟨1002000,42,aN,[.slot 6],false⟩,⟨1002001,74,aN,[.slot 7],false⟩],[]⟩)]
 keepX:=[(0,.ret,⟨[2,3],[],[],[]⟩),
  (0,.exit 0,⟨[1,4],[64],[],[]⟩),
  (2,.ret,⟨[2,3],[],[],[]⟩),
  (2,.exit 2,⟨[6],[],[⟨1502300,42,aN,[.slot 6],false⟩],[]⟩)]
 ro:=[true,false]
 dw:=[(21,[[],[],[],[],[],[],[],[],[],[],[],[],[],[640],[640]]),(24,[[],[],[7296],[7360,1002000],[],[],[],[]])]
theorem uP:Con.OK Try.prog qY:=
 cOf bd bg Si qY Try.func11 (j8 uO (j8 R3 (j8 Sh trivial))) (j8 (λh=>by kernel_rfl) (j8 (λh=>by kernel_rfl) trivial))
def EV:Con:=⟨12,[.v aC,.v aC],[aC,aC],⟨[.v .bool],[]⟩,[.bool],Pw.unc2 Pw.j8p⟩
def Sj:FnD where
 N:=26
 np:=2
 cs:=[]
 ds:=[⟨0,[.s (.one (.d aC)),.s (.one (.d aC)),sI,sI],[aC,aC,iT,iT],[⟨.ret,[.s (.one (.d .bool))],[.bool]⟩,⟨.exit 0,[],[]⟩],Pw.unc4 (Pw.j2u)⟩]
 keep:=[(0,⟨[0,1,12,13],[],[],[]⟩)]
 keepX:=[(0,.ret,⟨[4],[],[],[]⟩),
  (0,.exit 0,⟨[],[],[],[]⟩)]
 ro:=[false]
theorem Sk:Con.OK Try.prog EV:=
 cOf bd bg Sj EV Try.func12 trivial (j8 (λh=>by kernel_rfl) trivial)
def EW:Con:=⟨13,[.v aF],[aF],⟨[.v iT],[]⟩,[iT],λh=>Pw.j8q h⟩
def Sl:FnD where
 N:=11
 np:=1
 cs:=[xF]
 ds:=[]
 modes:=[(10,[false])]
 ro:=[false]
theorem Sn:Con.OK Try.prog EW:=
 cOf bd bg Sl EW Try.func13 (j8 Ew trivial) trivial
def EX:Con:=⟨14,[.v aF],[aF],⟨[.v iT],[]⟩,[iT],λh=>Pw.j9x h⟩
def Sp:FnD where
 N:=11
 np:=1
 cs:=[qY]
 ds:=[]
 modes:=[(11,[false])]
 ro:=[false]
theorem Sq:Con.OK Try.prog EX:=
 cOf bd bg Sp EX Try.func14 (j8 uP trivial) trivial
def EY:Con:=⟨36,[.v cF],[cF],⟨[.v iT],[]⟩,[iT],λh=>Pw.j4t h⟩
def Sr:FnD where
 N:=16
 np:=1
 cs:=[]
 ds:=[]
 ro:=[false]
theorem Ss:Con.OK Try.prog EY:=
 cOf bd bg Sr EY Try.func36 trivial trivial
end Go.Proofs.Pk
