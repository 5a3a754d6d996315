/- ej: each given function is its plain function, printed by a program. -/
import Derived.Test.YtbpjdcbbmibehaaZECon2
noncomputable section
open Go Go.Lft
set_option linter.unusedVariables false
set_option maxRecDepth 100000
namespace Go.Proofs.Pk
def EZ:Con:=⟨15,[.v aF],[aF],⟨[.v iT],[]⟩,[iT],λh=>Pw.j3G h⟩
def Su:FnD where
 N:=14
 np:=1
 cs:=[xG,EY]
 ds:=[]
 modes:=[(35,[false]),(36,[false])]
 ro:=[false]
theorem Sv:Con.OK Try.prog EZ:=
 cOf bd bg Su EZ Try.func15 (j8 Ey (j8 Ss trivial)) trivial
def E0:Con:=⟨16,[.v aF],[aF],⟨[.v iT],[]⟩,[iT],λh=>Pw.j4a h⟩
def Sw:FnD where
 N:=24
 np:=1
 cs:=[qY]
 ds:=[]
 modes:=[(11,[false])]
 ro:=[false]
theorem Sz:Con.OK Try.prog E0:=
 cOf bd bg Sw E0 Try.func16 (j8 uP trivial) trivial
def E1:Con:=⟨17,[.v iT,.v iT],[iT,iT],⟨[.v iT],[]⟩,[iT],Pw.unc2 Pw.j4Y⟩
def SA:FnD where
 N:=12
 np:=2
 cs:=[]
 ds:=[]
 ro:=[false]
theorem SB:Con.OK Try.prog E1:=
 cOf bd bg SA E1 Try.func17 trivial trivial
def E2:Con:=⟨18,[.v aF,.v iT],[aF,iT],⟨[.v iT,.v iT],[]⟩,[iT,iT],Pw.unc2 Pw.j38⟩
def SC:FnD where
 N:=20
 np:=2
 cs:=[Av,Aw]
 ds:=[]
 modes:=[(37,[false,false]),(38,[false,false])]
 ro:=[false,false]
theorem SD:Con.OK Try.prog E2:=
 cOf bd bg SC E2 Try.func18 (j8 J3 (j8 J4 trivial)) trivial
def E3:Con:=⟨39,[.v aF,.v aC,.v iT],[aF,aC,iT],⟨[.v iT],[]⟩,[iT],Pw.unc3 Pw.j8r⟩
def SE:FnD where
 N:=32
 np:=3
 cs:=[]
 ds:=[⟨0,[.s (.one (.d aC)),sI,sI,sI],[aC,iT,iT,iT],[⟨.exit 0,[sI],[iT]⟩],Pw.unc4 (Pw.j2v)⟩]
 keep:=[(0,⟨[1,2,7,8],[],[],[]⟩)]
 keepX:=[(0,.exit 0,⟨[7],[],[],[]⟩)]
 ro:=[false]
theorem SF:Con.OK Try.prog E3:=
 cOf bd bg SE E3 Try.func39 trivial (j8 (λh=>by kernel_rfl) trivial)
def AA:Con:=⟨19,[.v aF,.v iT],[aF,iT],⟨[.v iT,.v iT],[]⟩,[iT,iT],Pw.unc2 Pw.j1X⟩
def SG:FnD where
 N:=22
 np:=2
 cs:=[qX,qY,E3]
 ds:=[]
 modes:=[(11,[false]),(32,[false,false,false]),(39,[false,false,false])]
 ro:=[false,false]
theorem J7:Con.OK Try.prog AA:=
 cOf bd bg SG AA Try.func19 (j8 uO (j8 uP (j8 SF trivial))) trivial
def E4:Con:=⟨41,[.v iT,.v iT],[iT,iT],⟨[.v aN],[]⟩,[aN],Pw.unc2 Pw.j9y⟩
def SH:FnD where
 N:=16
 np:=2
 cs:=[]
 ds:=[]
 ro:=[false]
theorem SI:Con.OK Try.prog E4:=
 cOf bd bg SH E4 Try.func41 trivial trivial
def E5:Con:=⟨21,[.v aF,.v iT],[aF,iT],⟨[.v aN,.v iT],[]⟩,[aN,iT],Pw.unc2 Pw.j4b⟩
def SJ:FnD where
 N:=21
 np:=2
 cs:=[AA,E4]
 ds:=[]
 modes:=[(19,[false,false]),(41,[false,false])]
 ro:=[false,false]
theorem SK:Con.OK Try.prog E5:=
 cOf bd bg SJ E5 Try.func21 (j8 J7 (j8 SI trivial)) trivial
def AB:Con:=⟨44,[.v iT],[iT],⟨[.v .bool],[]⟩,[.bool],λh=>Pw.j5K h⟩
def SL:FnD where
 N:=5
 np:=1
 cs:=[qX]
 ds:=[]
 modes:=[(32,[false,false,false])]
 ro:=[false]
theorem J8:Con.OK Try.prog AB:=
 cOf bd bg SL AB Try.func44 (j8 uO trivial) trivial
def E6:Con:=⟨23,[.v aF,.v aN],[aF,aN],⟨[.own 3 (.list iT),.v iT],[]⟩,[(.list iT),iT],Pw.unc2 Pw.j2w⟩
def SM:FnD where
 N:=81
 np:=2
 cs:=[qX,qY,AB]
 ds:=[⟨0,[.s (.one (.bp 128 0)),.s (.one (.bp 192 0)),.s (.one (.ol 1000000)),.s (.one (.ol 1000001)),sI,.b (.cell [.d .str,.d iT,.d aZ] false),.b (.cell [.d iT,.d iT] false),.b (.lst 42 aN false),.b (.lst 3 iT false)],[iT,.str,iT,aZ,iT,iT,aC,(.list iT)],[⟨.exit 0,[.s (.one (.ol 1500100)),.b (.lst 3 iT false)],[(.list iT)]⟩],Pw.unc8 (Pw.j1Y)⟩]
 modes:=[(11,[false]),(32,[false,false,false]),(44,[false])]
 keep:=[(0,⟨[2,3,6,8,9],[128,192],[⟨1000000,42,aN,[.slot 6],false⟩,⟨1000001,3,iT,[.slot 8],false⟩],[]⟩)]
 keepX:=[(0,.exit 0,⟨[8],[],[⟨1500100,3,iT,[.slot 8],false⟩],[]⟩)]
 ro:=[true,false]
theorem SN:Con.OK Try.prog E6:=
 cOf bd bg SM E6 Try.func23 (j8 uO (j8 uP (j8 J8 trivial))) (j8 (λh=>by kernel_rfl) trivial)
def E7:Con:=⟨25,[.v aF,.v aN],[aF,aN],⟨[.v iT,.v iT],[]⟩,[iT,iT],Pw.unc2 Pw.j40⟩
def SO:FnD where
 N:=76
 np:=2
 cs:=[qX,qY,AB]
 ds:=[⟨0,[.s (.one (.bp 128 0)),.s (.one (.bp 192 0)),.s (.one (.ol 1000000)),sI,.b (.cell [.d .str,.d iT,.d aZ] false),.b (.cell [.d iT,.d iT] false),.b (.lst 42 aN false)],[iT,.str,iT,aZ,iT,iT,aC],[⟨.ret,[sI,sI],[iT,iT]⟩,⟨.exit 0,[],[]⟩],Pw.unc7 (Pw.j2V)⟩]
 modes:=[(11,[false]),(32,[false,false,false]),(44,[false])]
 keep:=[(0,⟨[2,3,6,8],[128,192],[⟨1000000,42,aN,[.slot 6],false⟩],[]⟩)]
 keepX:=[(0,.ret,⟨[4,5],[],[],[]⟩),
  (0,.exit 0,⟨[],[],[],[]⟩)]
 ro:=[false,false]
theorem SP:Con.OK Try.prog E7:=
 cOf bd bg SO E7 Try.func25 (j8 uO (j8 uP (j8 J8 trivial))) (j8 (λh=>by kernel_rfl) trivial)
def E8:Con:=⟨26,[.v (.list iT),.v (.list iT)],[(.list iT),(.list iT)],⟨[.v .bool],[]⟩,[.bool],Pw.unc2 Pw.j8s⟩
def SQ:FnD where
 N:=26
 np:=2
 cs:=[]
 ds:=[⟨0,[.s (.one (.d (.list iT))),.s (.one (.d (.list iT))),sI,sI],[(.list iT),(.list iT),iT,iT],[⟨.ret,[.s (.one (.d .bool))],[.bool]⟩,⟨.exit 0,[],[]⟩],Pw.unc4 (Pw.j2x)⟩]
 keep:=[(0,⟨[0,1,12,13],[],[],[]⟩)]
 keepX:=[(0,.ret,⟨[4],[],[],[]⟩),
  (0,.exit 0,⟨[],[],[],[]⟩)]
 ro:=[false]
theorem SR:Con.OK Try.prog E8:=
 cOf bd bg SQ E8 Try.func26 trivial (j8 (λh=>by kernel_rfl) trivial)
def J9:Con:=⟨3,[.v aF,.v (.list iT),.v iT,.v iT,.v iT],[aF,(.list iT),iT,iT,iT],⟨[.v .bool],[]⟩,[.bool],Pw.unc5 Pw.j5M⟩
def SS:FnD where
 N:=230
 np:=5
 cs:=[Ak,xF,As,Au,Ax,EF,EG,EH,EI,EK,qY,EV,EW,EX,EZ,E0,E1,E2,AA,E5,E6,E7,E8]
 ds:=[⟨0,[sI,sI,sI,.s (.av 4 aF),sI],[iT,iT,iT,mD,iT],[⟨.ret,[.s (.one (.d .bool))],[.bool]⟩,⟨.exit 0,[],[]⟩],Pw.unc5 (Pw.j1K)⟩,
  ⟨2,[sI,sI,sI,.s (.one (.bp 896 0)),.s (.av 4 aF),sI,.s (.av 5 iT),sI,.b (.cell [.d .str,.d iT,.d aZ] false)],[iT,iT,iT,mD,iT,(.list iT),iT,.str,iT,aZ],[⟨.ret,[.s (.one (.d .bool))],[.bool]⟩,⟨.exit 2,[sI,sI,sI,.s (.av 4 aF),sI],[iT,iT,iT,mD,iT]⟩],Pw.jmS (Pw.j1J)⟩,
  ⟨4,[sI,sI,sI,.s (.one (.bp 896 0)),.s (.av 4 aF),sI,.s (.av 5 iT),sI,.s (.av 3 aN),sI,.b (.cell [.d .str,.d iT,.d aZ] false)],[iT,iT,iT,mD,iT,(.list iT),iT,aC,iT,.str,iT,aZ],[⟨.ret,[.s (.one (.d .bool))],[.bool]⟩,⟨.exit 4,[sI,sI,sI,.s (.one (.bp 896 0)),.s (.av 4 aF),sI,.s (.av 5 iT),sI,.b (.cell [.d .str,.d iT,.d aZ] false)],[iT,iT,iT,mD,iT,(.list iT),iT,.str,iT,aZ]⟩],Pw.jkV (Pw.j1I)⟩]
 modes:=[(4,[false]),(5,[]),(6,[false]),(7,[false,false]),(8,[false,false]),(9,[]),(10,[false]),(11,[false]),(12,[false,false]),(13,[false]),(14,[false]),(15,[false]),(16,[false]),(17,[false,false]),(18,[false,false]),(19,[false,false]),(20,[false,false]),(21,[false,false]),(22,[false,false]),(23,[false,false]),(24,[false,false]),(25,[false,false]),(26,[false,false])]
 keep:=[(0,⟨[2,3,4,60,61],[],[],[]⟩),
  (2,⟨[2,3,4,14,60,61,119,120],[896],[],[]⟩),
  (4,⟨[2,3,4,14,60,61,119,120,179,180],[896],[],[]⟩)]
 keepX:=[(0,.ret,⟨[10],[],[],[]⟩),
  (0,.exit 0,⟨[],[],[],[]⟩),
  (2,.ret,⟨[10],[],[],[]⟩),
  (2,.exit 2,⟨[2,3,4,60,61],[],[],[]⟩),
  (4,.ret,⟨[10],[],[],[]⟩),
  (4,.exit 4,⟨[2,3,4,14,60,61,119,120],[896],[],[]⟩)]
 ro:=[false]
 dw:=[(5,[[],[],[],[3264],[],[],[],[]])]
theorem law04_ZoneExact_ok:Con.OK Try.prog J9:=
 cOf bd bg SS J9 Try.func3 (j8 JT (j8 Ew (j8 J1 (j8 J2 (j8 J5 (j8 RN (j8 RP (j8 RR (j8 RW (j8 R0 (j8 uP (j8 Sk (j8 Sn (j8 Sq (j8 Sv (j8 Sz (j8 SB (j8 SD (j8 J7 (j8 SK (j8 SN (j8 SP (j8 SR trivial))))))))))))))))))))))) (j8 (λh=>by kernel_rfl) (j8 (λh=>by kernel_rfl) (j8 (λh=>by kernel_rfl) trivial)))
end Go.Proofs.Pk
