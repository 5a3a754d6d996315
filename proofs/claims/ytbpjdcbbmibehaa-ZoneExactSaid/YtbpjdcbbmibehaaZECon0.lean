/- ej: each given function is its plain function, printed by a program. -/
import Derived.Test.YtbpjdcbbmibehaaZETab
noncomputable section
open Go Go.Lft
set_option linter.unusedVariables false
set_option maxRecDepth 100000
namespace Go.Proofs.Pk
abbrev aN:Ty:=(.pair iT iT)
abbrev aC:Ty:=(.list aN)
abbrev dj:Ty:=(.pair iT aN)
abbrev cF:Ty:=(.pair iT aC)
abbrev kP:Ty:=(.list dj)
abbrev mC:Ty:=(.pair iT (.pair iT (.pair iT (.pair iT dj))))
abbrev aZ:Ty:=(.list mC)
abbrev aF:Ty:=(.pair .str (.pair iT aZ))
abbrev mD:Ty:=(.list aF)
def Ak:Con:=⟨9,[],[],⟨[.v aF],[]⟩,[aF],λh=>Pw.j5y⟩
def QM:FnD where
 N:=5
 np:=0
 cs:=[]
 ds:=[]
 ro:=[false]
theorem JT:Con.OK Try.prog Ak:=
 cOf bd bg QM Ak Try.func9 trivial trivial
def sX:Con:=⟨31,[.v iT,.v iT,.v iT],[iT,iT,iT],⟨[.v .bool],[]⟩,[.bool],Pw.unc3 Pw.j3m⟩
def QN:FnD where
 N:=15
 np:=3
 cs:=[]
 ds:=[]
 ro:=[false]
theorem xD:Con.OK Try.prog sX:=
 cOf bd bg QN sX Try.func31 trivial trivial
def Eg:Con:=⟨46,[.v mC],[mC],⟨[.v iT],[]⟩,[iT],λh=>Pw.j58 h⟩
def QO:FnD where
 N:=45
 np:=1
 cs:=[sX]
 ds:=[]
 modes:=[(31,[false,false,false])]
 ro:=[false]
theorem QP:Con.OK Try.prog Eg:=
 cOf bd bg QO Eg Try.func46 (j8 xD trivial) trivial
def Eh:Con:=⟨67,[.v iT],[iT],⟨[.v .bool],[]⟩,[.bool],λh=>Pw.ja1 h⟩
def QQ:FnD where
 N:=16
 np:=1
 cs:=[]
 ds:=[]
 ro:=[false]
theorem QR:Con.OK Try.prog Eh:=
 cOf bd bg QQ Eh Try.func67 trivial trivial
def xE:Con:=⟨59,[.v iT,.v iT],[iT,iT],⟨[.v iT],[]⟩,[iT],Pw.unc2 Pw.j4O⟩
def QS:FnD where
 N:=24
 np:=2
 cs:=[Eh]
 ds:=[]
 modes:=[(67,[false])]
 ro:=[false]
theorem Ei:Con.OK Try.prog xE:=
 cOf bd bg QS xE Try.func59 (j8 QR trivial) trivial
def Ej:Con:=⟨56,[.v dj],[dj],⟨[.v .bool],[]⟩,[.bool],λh=>Pw.j5I h⟩
def QT:FnD where
 N:=26
 np:=1
 cs:=[xE]
 ds:=[]
 modes:=[(59,[false,false])]
 ro:=[false]
theorem QU:Con.OK Try.prog Ej:=
 cOf bd bg QT Ej Try.func56 (j8 Ei trivial) trivial
def Ek:Con:=⟨73,[.v iT,.v iT],[iT,iT],⟨[.v iT],[]⟩,[iT],Pw.unc2 Pw.j4P⟩
def QV:FnD where
 N:=16
 np:=2
 cs:=[]
 ds:=[]
 ro:=[false]
theorem QW:Con.OK Try.prog Ek:=
 cOf bd bg QV Ek Try.func73 trivial trivial
def El:Con:=⟨66,[.v iT],[iT],⟨[.v iT],[]⟩,[iT],λh=>Pw.j7a h⟩
def QX:FnD where
 N:=19
 np:=1
 cs:=[Ek]
 ds:=[]
 modes:=[(73,[false,false])]
 ro:=[false]
theorem QY:Con.OK Try.prog El:=
 cOf bd bg QX El Try.func66 (j8 QW trivial) trivial
def Em:Con:=⟨57,[.v dj],[dj],⟨[.v iT],[]⟩,[iT],λh=>Pw.j3A h⟩
def QZ:FnD where
 N:=25
 np:=1
 cs:=[xE,El]
 ds:=[⟨0,[.s (.one (.bp 64 0)),sI,sI,.b (.cell [.d iT,.d iT,.d iT] false)],[iT,iT,iT,iT,iT],[⟨.exit 0,[sI],[iT]⟩],Pw.unc5 (Pw.j29)⟩]
 modes:=[(59,[false,false]),(66,[false])]
 keep:=[(0,⟨[1,3,4],[64],[],[]⟩)]
 keepX:=[(0,.exit 0,⟨[3],[],[],[]⟩)]
 ro:=[false]
theorem Q0:Con.OK Try.prog Em:=
 cOf bd bg QZ Em Try.func57 (j8 Ei (j8 QY trivial)) (j8 (λh=>by kernel_rfl) trivial)
def En:Con:=⟨58,[.v iT],[iT],⟨[.v iT],[]⟩,[iT],λh=>Pw.j3P h⟩
def Q1:FnD where
 N:=7
 np:=1
 cs:=[]
 ds:=[]
 ro:=[false]
theorem Q2:Con.OK Try.prog En:=
 cOf bd bg Q1 En Try.func58 trivial trivial
def Eo:Con:=⟨47,[.v iT,.v iT,.v iT,.v iT],[iT,iT,iT,iT],⟨[.v iT,.v iT],[]⟩,[iT,iT],Pw.unc4 Pw.j5J⟩
def Q3:FnD where
 N:=59
 np:=4
 cs:=[xE,Ej,Em,En]
 ds:=[]
 modes:=[(56,[false]),(57,[false]),(58,[false]),(59,[false,false])]
 ro:=[false,false]
theorem Q4:Con.OK Try.prog Eo:=
 cOf bd bg Q3 Eo Try.func47 (j8 Ei (j8 QU (j8 Q0 (j8 Q2 trivial)))) trivial
def Al:Con:=⟨49,[.v aN,.v aN],[aN,aN],⟨[.v iT],[]⟩,[iT],Pw.unc2 Pw.j1e⟩
def Q5:FnD where
 N:=10
 np:=2
 cs:=[]
 ds:=[]
 ro:=[false]
theorem JU:Con.OK Try.prog Al:=
 cOf bd bg Q5 Al Try.func49 trivial trivial
def Ep:Con:=⟨68,[.rl 69 aC,.v iT,.v iT,.clo 49 []],[aC,iT,iT],⟨[],[.rl aC]⟩,[aC],Pw.unc3 Pw.j05⟩
def Q6:FnD where
 N:=53
 np:=4
 cs:=[Al]
 ds:=[⟨0,[.s (.one (.ol 0)),sI,sI,.s (.one (.clo 49 [])),sI,.b (.lst 69 aN false)],[iT,iT,iT,aC],[⟨.exit 0,[.b (.lst 69 aN false)],[aC]⟩],Pw.unc4 (Pw.j02)⟩,
  ⟨2,[.s (.one (.ol 0)),sI,sI,.s (.one (.clo 49 [])),sI,sI,.b (.lst 69 aN false)],[iT,iT,iT,iT,aC],[⟨.exit 2,[.s (.one (.ol 0)),sI,sI,.s (.one (.clo 49 [])),sI,.b (.lst 69 aN false)],[iT,iT,iT,aC]⟩],Pw.unc5 (Pw.j0f)⟩]
 modes:=[(49,[false,false])]
 keep:=[(0,⟨[0,1,2,3,8],[0],[],[]⟩),
  (2,⟨[0,1,2,3,8,9],[0],[],[]⟩)]
 keepX:=[(0,.exit 0,⟨[],[0],[],[]⟩),
  (2,.exit 2,⟨[0,1,2,3,8],[0],[],[]⟩)]
 dw:=[(6,[[],[],[],[],[],[],[],[],[],[],[],[],[],[],[],[0],[],[0]])]
theorem Q7:Con.OK Try.prog Ep:=
 cOf bd bg Q6 Ep Try.func68 (j8 JU trivial) (j8 (λh=>by kernel_rfl) (j8 (λh=>by kernel_rfl) trivial))
def Er:Con:=⟨75,[.rl 69 aC,.v iT,.v iT,.v iT,.clo 49 []],[aC,iT,iT,iT],⟨[],[.rl aC]⟩,[aC],Pw.unc4 Pw.j0e⟩
def Q8:FnD where
 N:=38
 np:=5
 cs:=[]
 ds:=[⟨0,[.s (.one (.ol 0)),sI,sI,sI,sI,.b (.lst 69 aN false)],[iT,iT,iT,iT,aC],[⟨.exit 0,[.b (.lst 69 aN false)],[aC]⟩],Pw.unc5 (Pw.j0z)⟩]
 keep:=[(0,⟨[0,1,2,3,10],[0],[],[]⟩)]
 keepX:=[(0,.exit 0,⟨[],[0],[],[]⟩)]
 dw:=[(3,[[],[],[],[],[],[],[],[],[],[],[],[],[],[],[],[],[],[],[],[],[],[0],[],[0]])]
theorem Q9:Con.OK Try.prog Er:=
 cOf bd bg Q8 Er Try.func75 trivial (j8 (λh=>by kernel_rfl) trivial)
def Es:Con:=⟨74,[.rl 69 aC,.v iT,.v iT,.v iT,.clo 49 []],[aC,iT,iT,iT],⟨[],[.rl aC]⟩,[aC],Pw.unc4 Pw.j0m⟩
def Ra:FnD where
 N:=58
 np:=5
 cs:=[Er]
 ds:=[⟨0,[.s (.one (.ol 0)),sI,.s (.one (.clo 49 [])),sI,sI,.b (.lst 69 aN false)],[iT,iT,iT,aC],[⟨.exit 0,[.s (.one (.ol 0)),sI,.s (.one (.clo 49 [])),sI,.b (.lst 69 aN false)],[iT,iT,aC]⟩],Pw.unc4 (Pw.j0n)⟩]
 modes:=[(75,[true,false,false,false,false])]
 keep:=[(0,⟨[0,2,4,10,11],[0],[],[]⟩)]
 keepX:=[(0,.exit 0,⟨[0,2,4,10],[0],[],[]⟩)]
theorem Rb:Con.OK Try.prog Es:=
 cOf bd bg Ra Es Try.func74 (j8 Q9 trivial) (j8 (λh=>by kernel_rfl) trivial)
def JV:Con:=⟨69,[.rl 69 aC,.v iT,.v iT,.v iT,.clo 49 []],[aC,iT,iT,iT],⟨[],[.rl aC]⟩,[aC],λh=>Pw.j0w h.1 h.2.1 h.2.2.1 h.2.2.2⟩
def Am(g:HL [aC,iT,iT,iT]->Option (HL [aC])):Con:=⟨69,[.rl 69 aC,.v iT,.v iT,.v iT,.clo 49 []],[aC,iT,iT,iT],⟨[],[.rl aC]⟩,[aC],g⟩
def Rc(g:HL [aC,iT,iT,iT]->Option (HL [aC])):FnD where
 N:=220
 np:=5
 cs:=[Am g,Al,Es]
 ds:=[⟨0,[.s (.one (.ol 0)),sI,.s (.one (.clo 49 [])),sI,sI,.b (.lst 69 aN false)],[iT,iT,iT,aC],[⟨.exit 0,[.s (.one (.ol 0)),sI,sI,.b (.lst 69 aN false)],[iT,iT,aC]⟩],Pw.unc4 (Pw.j0D (λv0 v1 v2 v3=>g (v0,v1,v2,v3)))⟩,
  ⟨2,[.s (.one (.ol 0)),sI,sI,.b (.lst 69 aN false)],[iT,iT,aC],[⟨.exit 2,[.b (.lst 69 aN false)],[aC]⟩],Pw.unc3 (Pw.j0E (λv0 v1 v2 v3=>g (v0,v1,v2,v3)))⟩,
  ⟨4,[.s (.one (.ol 0)),sI,.s (.one (.clo 49 [])),sI,sI,.b (.lst 69 aN false)],[iT,iT,iT,aC],[⟨.exit 4,[.s (.one (.ol 0)),sI,sI,.b (.lst 69 aN false)],[iT,iT,aC]⟩],Pw.unc4 (Pw.j0F (λv0 v1 v2 v3=>g (v0,v1,v2,v3)))⟩,
  ⟨6,[.s (.one (.ol 0)),sI,sI,.b (.lst 69 aN false)],[iT,iT,aC],[⟨.exit 6,[.b (.lst 69 aN false)],[aC]⟩],Pw.unc3 (Pw.j0G (λv0 v1 v2 v3=>g (v0,v1,v2,v3)))⟩,
  ⟨8,[.s (.one (.ol 0)),sI,sI,sI,.s (.one (.clo 49 [])),sI,sI,sI,sI,sI,.b (.lst 69 aN false)],[iT,iT,iT,iT,iT,iT,iT,iT,aC],[⟨.exit 8,[.s (.one (.ol 0)),sI,sI,sI,.s (.one (.clo 49 [])),sI,sI,sI,.b (.lst 69 aN false)],[iT,iT,iT,iT,iT,iT,aC]⟩],Pw.unc9 (Pw.j0H (λv0 v1 v2 v3=>g (v0,v1,v2,v3)))⟩]
 modes:=[(49,[false,false]),(69,[true,false,false,false,false]),(74,[true,false,false,false,false])]
 keep:=[(0,⟨[0,1,4,10,11],[0],[],[]⟩),
  (2,⟨[0,10,13],[0],[],[]⟩),
  (4,⟨[0,2,4,14,15],[0],[],[]⟩),
  (6,⟨[0,14,17],[0],[],[]⟩),
  (8,⟨[0,1,2,3,4,18,19,20,21,22],[0],[],[]⟩)]
 keepX:=[(0,.exit 0,⟨[0,1,10],[0],[],[]⟩),
  (2,.exit 2,⟨[],[0],[],[]⟩),
  (4,.exit 4,⟨[0,2,14],[0],[],[]⟩),
  (6,.exit 6,⟨[],[0],[],[]⟩),
  (8,.exit 8,⟨[0,1,2,3,4,18,19,20],[0],[],[]⟩)]
 dw:=[(11,[[],[],[],[],[],[],[],[],[],[],[],[],[],[],[],[0],[],[0]]),(23,[[],[],[],[],[],[],[],[],[],[],[],[],[],[],[],[0],[],[0]])]
theorem Re(g:HL [aC,iT,iT,iT]->Option (HL [aC]))(hg:Con.OK Try.prog (Am g)):Con.OK Try.prog (Am (Pw.j06 g)):=
 cOf bd bg (Rc g) (Am (Pw.j06 g)) Try.func69 (j8 hg (j8 JU (j8 Rb trivial))) (j8 (λh=>by kernel_rfl) (j8 (λh=>by kernel_rfl) (j8 (λh=>by kernel_rfl) (j8 (λh=>by kernel_rfl) (j8 (λh=>by kernel_rfl) trivial)))))
theorem Rf:Con.OK Try.prog JV:=QF (f:=69) (ps:=[.rl 69 aC,.v iT,.v iT,.v iT,.clo 49 []]) (ts:=[aC,iT,iT,iT]) (rp:=⟨[],[.rl aC]⟩) (rs:=[aC]) (B:=Pw.j06) Re
def Et:Con:=⟨60,[.rl 69 aC,.v iT,.clo 49 []],[aC,iT],⟨[],[.rl aC]⟩,[aC],Pw.unc2 Pw.j0A⟩
def Rg:FnD where
 N:=63
 np:=3
 cs:=[Ep,JV]
 ds:=[⟨0,[.s (.one (.ol 0)),sI,.s (.one (.clo 49 [])),sI,sI,sI,.b (.lst 69 aN false)],[iT,iT,iT,iT,aC],[⟨.exit 0,[.s (.one (.ol 0)),sI,.s (.one (.clo 49 [])),sI,sI,.b (.lst 69 aN false)],[iT,iT,iT,aC]⟩],Pw.unc5 (Pw.j08)⟩,
  ⟨2,[.s (.one (.ol 0)),sI,.s (.one (.clo 49 [])),sI,.b (.lst 69 aN false)],[iT,iT,aC],[⟨.exit 2,[.b (.lst 69 aN false)],[aC]⟩],Pw.unc3 (Pw.j0c)⟩,
  ⟨4,[.s (.one (.ol 0)),sI,.s (.one (.clo 49 [])),sI,sI,sI,.b (.lst 69 aN false)],[iT,iT,iT,iT,aC],[⟨.exit 4,[.s (.one (.ol 0)),sI,.s (.one (.clo 49 [])),sI,sI,.b (.lst 69 aN false)],[iT,iT,iT,aC]⟩],Pw.unc5 (Pw.j0b)⟩]
 modes:=[(68,[true,false,false,false]),(69,[true,false,false,false,false])]
 keep:=[(0,⟨[0,1,2,6,7,8],[0],[],[]⟩),
  (2,⟨[0,1,2,6],[0],[],[]⟩),
  (4,⟨[0,1,2,6,7,8],[0],[],[]⟩)]
 keepX:=[(0,.exit 0,⟨[0,1,2,6,7],[0],[],[]⟩),
  (2,.exit 2,⟨[],[0],[],[]⟩),
  (4,.exit 4,⟨[0,1,2,6,7],[0],[],[]⟩)]
theorem Rh:Con.OK Try.prog Et:=
 cOf bd bg Rg Et Try.func60 (j8 Q7 (j8 Rf trivial)) (j8 (λh=>by kernel_rfl) (j8 (λh=>by kernel_rfl) (j8 (λh=>by kernel_rfl) trivial)))
def Eu:Con:=⟨48,[.rl 69 aC,.clo 49 []],[aC],⟨[],[.rl aC]⟩,[aC],λh=>Pw.j03 h⟩
def Ri:FnD where
 N:=9
 np:=2
 cs:=[Et]
 ds:=[]
 modes:=[(60,[true,false,false])]
theorem Rj:Con.OK Try.prog Eu:=
 cOf bd bg Ri Eu Try.func48 (j8 Rh trivial) trivial
def Ev:Con:=⟨30,[.v aF],[aF],⟨[.own 69 aC,.v iT],[]⟩,[aC,iT],λh=>Pw.j10 h⟩
def Rl:FnD where
 N:=86
 np:=1
 cs:=[sX,Eg,Eo,Eu]
 ds:=[⟨0,[.s (.one (.bp 64 0)),sI,.s (.one (.d aZ)),sI,sI,.b (.cell [.d .str,.d iT,.d aZ] false)],[iT,aZ,iT,iT,.str,iT,aZ],[⟨.ret,[.s (.one (.nil)),sI],[iT]⟩,⟨.exit 0,[.s (.one (.bp 64 0)),sI,.b (.cell [.d .str,.d iT,.d aZ] false)],[iT,.str,iT,aZ]⟩],Pw.unc7 (Pw.j1d)⟩,
  ⟨2,[.s (.one (.ol 1002000)),.s (.one (.d aZ)),sI,sI,.b (.lst 69 aN false)],[aZ,iT,iT,aC],[⟨.exit 2,[.s (.one (.ol 1502300)),.b (.lst 69 aN false)],[aC]⟩],Pw.unc4 (Pw.j0W)⟩,
  ⟨4,[.s (.one (.ol 1004000)),.s (.one (.bp 640 0)),sI,.s (.one (.d aZ)),sI,sI,.b (.cell [.d iT,.d iT,.d iT,.d iT,.d iT,.d iT,.d iT] false),.b (.lst 69 aN false)],[iT,aZ,iT,iT,iT,iT,iT,iT,iT,iT,iT,aC],[⟨.exit 4,[.s (.one (.ol 1504500)),.s (.one (.d aZ)),sI,sI,.b (.lst 69 aN false)],[aZ,iT,iT,aC]⟩],Pw.jkV (Pw.j0V)⟩]
 modes:=[(31,[false,false,false]),(46,[false]),(47,[false,false,false,false]),(48,[true,false])]
 keep:=[(0,⟨[1,4,23,24,25],[64],[],[]⟩),
  (2,⟨[8,46,47,48],[],[⟨1002000,69,aN,[.slot 8],false⟩],[]⟩),
  (4,⟨[8,10,11,46,47,48],[640],[⟨1004000,69,aN,[.slot 8],false⟩],[]⟩)]
 keepX:=[(0,.ret,⟨[2,3],[],[],[]⟩),
  (0,.exit 0,⟨[1,4],[64],[],[]⟩),
  (2,.exit 2,⟨[8],[],[⟨1502300,69,aN,[.slot 8],false⟩],[]⟩),
  (4,.exit 4,⟨[8,46,47,48],[],[⟨1504500,69,aN,[.slot 8],false⟩],[]⟩)]
 ro:=[true,false]
theorem Rm:Con.OK Try.prog Ev:=
 cOf bd bg Rl Ev Try.func30 (j8 xD (j8 QP (j8 Q4 (j8 Rj trivial)))) (j8 (λh=>by kernel_rfl) (j8 (λh=>by kernel_rfl) (j8 (λh=>by kernel_rfl) trivial)))
def xF:Con:=⟨10,[.v aF],[aF],⟨[.own 42 aC,.v iT],[]⟩,[aC,iT],λh=>Pw.j0B h⟩
def Rn:FnD where
 N:=79
 np:=1
 cs:=[sX,Ev]
 ds:=[⟨0,[.s (.one (.ol 1000000)),sI,.s (.one (.ol 1000001)),sI,sI,.b (.lst 42 aN false),.b (.lst 69 aN false)],[iT,iT,iT,aC,aC],[⟨.ret,[.s (.one (.nil)),sI],[iT]⟩,⟨.exit 0,[.s (.one (.ol 1500100)),.b (.lst 42 aN false)],[aC]⟩],Pw.unc5 (Pw.j11)⟩]
 modes:=[(30,[false]),(31,[false,false,false])]
 keep:=[(0,⟨[6,7,22,23,24],[],[⟨1000000,42,aN,[.slot 6],false⟩,⟨1000001,69,aN,[.slot 22],false⟩],[]⟩)]
 keepX:=[(0,.ret,⟨[2,3],[],[],[]⟩),
  (0,.exit 0,⟨[6],[],[⟨1500100,42,aN,[.slot 6],false⟩],[]⟩)]
 ro:=[true,false]
theorem Ew:Con.OK Try.prog xF:=
 cOf bd bg Rn xF Try.func10 (j8 xD (j8 Rm trivial)) (j8 (λh=>by kernel_rfl) trivial)
end Go.Proofs.Pk
