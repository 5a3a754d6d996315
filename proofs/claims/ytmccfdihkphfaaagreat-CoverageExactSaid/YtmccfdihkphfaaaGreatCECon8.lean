/- Contracts. -/
import Derived.Test.YtmccfdihkphfaaaGreatCECon7
open _root_ renaming trivial->e
open Bool renaming false->i
noncomputable section
open Go Go.Lft
set_option linter.unusedVariables false
set_option maxRecDepth 100000
namespace Go.Proofs.Pk
def Ds:Con:=⟨202,[.v (.list .str),.v iT],[(.list .str),iT],⟨[.v iT],[]⟩,[iT],Pw.unc2 Pw.jfV⟩
def jA6:FnD where
 N:=26
 np:=2
 cs:=[Tn]
 ds:=[⟨0,[sD (.list .str),sI,sI],[(.list .str),iT,iT],[⟨.ret,[sI],[iT]⟩,⟨.exit 0,[],[]⟩],Pw.unc3 (Pw.j7O)⟩]
 keep:=[(0,⟨[0,1,5],[],[],[]⟩)]
 keepX:=[(0,.ret,⟨[4],[],[],[]⟩)]
theorem KO:aJ Ds:=
 cOf aM aN jA6 Ds Tryz.func202 (ja jxd e) (ja (λh=>by kernel_rfl) e)
def yD:Con:=⟨146,[.v iT,.v iT,.v iT],[iT,iT,iT],⟨[.v .bool],[]⟩,[.bool],Pw.unc3 Pw.j9M⟩
def jEs:FnD where
 N:=15
 np:=3
theorem Dn:aJ yD:=
 cOf aM aN jEs yD Tryz.func146 e e
def To:Con:=⟨214,[.v po],[po],⟨[.v .bool],[]⟩,[.bool],λh=>Pw.jd2 h⟩
def jxe:FnD where
 N:=38
 np:=1
 cs:=[yD]
theorem jvB:aJ To:=
 cOf aM aN jxe To Tryz.func214 (ja Dn e) e
def Tp:Con:=⟨333,[.v iT],[iT],⟨[.v .bool],[]⟩,[.bool],λh=>Pw.j1Q h⟩
def jA7:FnD where
 N:=16
 np:=1
theorem jxf:aJ Tp:=
 cOf aM aN jA7 Tp Tryz.func333 e e
def GD:Con:=⟨315,[.v iT,.v iT],[iT,iT],⟨[.v iT],[]⟩,[iT],Pw.unc2 Pw.jhO⟩
def jA8:FnD where
 N:=23
 np:=2
 cs:=[Tp]
theorem Tq:aJ GD:=
 cOf aM aN jA8 GD Tryz.func315 (ja jxf e) e
def Tr:Con:=⟨332,[.v aT],[aT],⟨[.v .bool],[]⟩,[.bool],λh=>Pw.jme h⟩
def jxg:FnD where
 N:=36
 np:=1
 cs:=[GD]
theorem jvC:aJ Tr:=
 cOf aM aN jxg Tr Tryz.func332 (ja Tq e) e
def KP:Con:=⟨264,[.v iT],[iT],⟨[.v iT],[]⟩,[iT],λh=>Pw.jmf h⟩
def jA9:FnD where
 N:=18
 np:=1
theorem ζ:aJ KP:=
 cOf aM aN jA9 KP Tryz.func264 e e
def Ts:Con:=⟨314,[.v aT],[aT],⟨[.v iT,.v iT],[]⟩,[iT,iT],λh=>Pw.jsX h⟩
def jCc:FnD where
 N:=29
 np:=1
 cs:=[GD,Tr,KP]
 ds:=[⟨0,[sB 64 0,sI,sI,.b (.cell [.d iT,.d iT,.d iT] i)],[iT,iT,iT,iT,iT],[⟨.exit 0,[sB 64 0,sI,.b (.cell [.d iT,.d iT,.d iT] i)],[iT,iT,iT,iT]⟩],Pw.unc5 (Pw.j8I)⟩]
 keep:=[(0,⟨[1,4,5],[64],[],[]⟩)]
 keepX:=[(0,.exit 0,⟨[1,4],[64],[],[]⟩)]
theorem gV:aJ Ts:=
 cOf aM aN jCc Ts Tryz.func314 (ja Tq (ja jvC (ja ζ e))) (ja (λh=>by kernel_rfl) e)
def KQ:Con:=⟨274,[.v iT],[iT],⟨[.v iT],[]⟩,[iT],λh=>Pw.jeJ h⟩
def jtC:FnD where
 N:=7
 np:=1
theorem η:aJ KQ:=
 cOf aM aN jtC KQ Tryz.func274 e e
def Tt:Con:=⟨266,[.v iT,.v iT,.v iT,.v iT],[iT,iT,iT,iT],⟨[.v iT,.v iT],[]⟩,[iT,iT],Pw.unc4 Pw.jsY⟩
def jCd:FnD where
 N:=63
 np:=4
 cs:=[GD,Ts,KQ]
 ds:=[⟨0,[sI,sI,sI,sI,sI,sI],[iT,iT,iT,iT,iT,iT],[⟨.exit 0,[sI,sI,sI,sI,sI],[iT,iT,iT,iT,iT]⟩],Pw.unc6 (Pw.j8J)⟩,⟨2,[sI,sI,sI,sI],[iT,iT,iT,iT],[⟨.exit 2,[sI],[iT]⟩],Pw.unc4 (Pw.j8K)⟩]
 keep:=[(0,⟨[0,1,2,3,10,12],[],[],[]⟩),(2,⟨[0,1,10,12],[],[],[]⟩)]
 keepX:=[(0,.exit 0,⟨[0,1,2,10,12],[],[],[]⟩),(2,.exit 2,⟨[12],[],[],[]⟩)]
theorem gW:aJ Tt:=
 cOf aM aN jCd Tt Tryz.func266 (ja Tq (ja gV (ja η e))) (ja (λh=>by kernel_rfl) (ja (λh=>by kernel_rfl) e))
def Tu:Con:=⟨215,[.v bQ],[bQ],⟨[.own 261 af],[]⟩,[af],λh=>Pw.jb9 h⟩
def jnR:FnD where
 N:=98
 np:=1
 cs:=[Tt]
 ds:=[⟨0,[sD bQ,sO 1000000,sI,.b (.lst 261 aR i)],[bQ,iT,af],[⟨.exit 0,[sO 1500100,.b (.lst 261 aR i)],[af]⟩],Pw.unc3 (Pw.j3H)⟩,⟨2,[sD bQ,sO 1002000,sI,sI,.b (.lst 261 aR i)],[bQ,iT,iT,af],[⟨.exit 2,[sD bQ,sO 1502300,sI,.b (.lst 261 aR i)],[bQ,iT,af]⟩],Pw.unc4 (Pw.j3G)⟩,⟨4,[sD bQ,sO 1004000,sI,sI,sB 512 0,sI,.b (.cell [.d iT,.d iT] i),.b (.lst 261 aR i)],[bQ,iT,iT,iT,iT,iT,af],[⟨.exit 4,[sD bQ,sO 1504500,sI,sI,sB 512 0,sI,.b (.cell [.d iT,.d iT] i),.b (.lst 261 aR i)],[bQ,iT,iT,iT,iT,iT,af]⟩],Pw.unc7 (Pw.j5j)⟩]
 keep:=[(0,⟨[0,3,4],[],[⟨1000000,261,aR,[.slot 3],i⟩],[]⟩),(2,⟨[0,3,4,5],[],[⟨1002000,261,aR,[.slot 3],i⟩],[]⟩),(4,⟨[0,3,4,5,8,9],[512],[⟨1004000,261,aR,[.slot 3],i⟩],[]⟩)]
 keepX:=[(0,.exit 0,⟨[3],[],[⟨1500100,261,aR,[.slot 3],i⟩],[]⟩),(2,.exit 2,⟨[0,3,4],[],[⟨1502300,261,aR,[.slot 3],i⟩],[]⟩),(4,.exit 4,⟨[0,3,4,5,8,9],[512],[⟨1504500,261,aR,[.slot 3],i⟩],[]⟩)]
 ro:=[true]
 dw:=[(9,[[],[],[],[],[],[],[],[],[],[],[],[],[],[],[512],[512]]),(14,[[],[],[],[],[],[],[],[5376]])]
theorem jmU:aJ Tu:=
 cOf aM aN jnR Tu Tryz.func215 (ja gW e) (ja (λh=>by kernel_rfl) (ja (λh=>by kernel_rfl) (ja (λh=>by kernel_rfl) e)))
def uR:Con:=⟨142,[.v bj],[bj],⟨[.own 201 af,.v iT],[]⟩,[af,iT],λh=>Pw.j0a h⟩
def jnS:FnD where
 N:=119
 np:=1
 cs:=[yD,To,Tu]
 ds:=[⟨0,[sB 64 0,sI,sI,.b (.cell [.d .str,.d iT,.d bQ] i)],[iT,iT,.str,iT,bQ],[⟨.ret,[.s (.one (.nil)),sI],[iT]⟩,⟨.exit 0,[sB 64 0,sI,.b (.cell [.d .str,.d iT,.d bQ] i)],[iT,.str,iT,bQ]⟩],Pw.unc5 (Pw.j2w)⟩,⟨2,[sO 1002000,sO 1002001,sI,sI,.b (.lst 201 aR i),.b (.lst 261 aR i)],[iT,iT,af,af],[⟨.ret,[.s (.one (.nil)),sI],[iT]⟩,⟨.exit 2,[sO 1502300,.b (.lst 201 aR i)],[af]⟩],Pw.unc4 (Pw.j1R)⟩]
 keep:=[(0,⟨[1,4,5],[64],[],[]⟩),(2,⟨[6,7,8,9],[],[⟨1002000,201,aR,[.slot 6],i⟩,⟨1002001,261,aR,[.slot 7],i⟩],[]⟩)]
 keepX:=[(0,.ret,⟨[2,3],[],[],[]⟩),(0,.exit 0,⟨[1,4],[64],[],[]⟩),(2,.ret,⟨[2,3],[],[],[]⟩),(2,.exit 2,⟨[6],[],[⟨1502300,201,aR,[.slot 6],i⟩],[]⟩)]
 ro:=[true,i]
 dw:=[(21,[[],[],[],[],[],[],[],[],[],[],[],[],[],[640],[640]]),(24,[[],[],[7296],[7360,1002000],[],[],[],[]])]
theorem yC:aJ uR:=
 cOf aM aN jnS uR Tryz.func142 (ja Dn (ja jvB (ja jmU e))) (ja (λh=>by kernel_rfl) (ja (λh=>by kernel_rfl) e))
def KR:Con:=⟨203,[.v bj],[bj],⟨[.v iT],[]⟩,[iT],λh=>Pw.j8M h⟩
def jxh:FnD where
 N:=11
 np:=1
 cs:=[uR]
theorem θ:aJ KR:=
 cOf aM aN jxh KR Tryz.func203 (ja yC e) e
def Tv:Con:=⟨204,[.v bj],[bj],⟨[.v .bool],[]⟩,[.bool],λh=>Pw.jc7 h⟩
def jtD:FnD where
 N:=28
 np:=1
 ds:=[⟨0,[sB 64 0,sD .bool,sI,.b (.cell [.d .str,.d iT,.d bQ] i)],[.bool,iT,.str,iT,bQ],[⟨.exit 0,[sD .bool],[.bool]⟩],Pw.unc5 (Pw.j5J)⟩]
 keep:=[(0,⟨[1,3,4],[64],[],[]⟩)]
 keepX:=[(0,.exit 0,⟨[3],[],[],[]⟩)]
theorem jrj:aJ Tv:=
 cOf aM aN jtD Tv Tryz.func204 e (ja (λh=>by kernel_rfl) e)
def Tw:Con:=⟨131,[.v aG],[aG],⟨[.v iT],[]⟩,[iT],λh=>Pw.jmj h⟩
def jxi:FnD where
 N:=44
 np:=1
 cs:=[Ds,KR,Tv]
 ds:=[⟨0,[sB 64 0,sO 1000000,sI,.b (.cell [.d al,.d au,.d ar,.d ay] i),.b (.lst 9 .str i)],[iT,al,au,ar,ay,(.list .str)],[⟨.ret,[sI],[iT]⟩,⟨.exit 0,[],[]⟩],Pw.unc6 (Pw.j6W)⟩]
 keep:=[(0,⟨[1,3,4],[64],[⟨1000000,9,.str,[.slot 3],i⟩],[]⟩)]
 keepX:=[(0,.ret,⟨[2],[],[],[]⟩)]
theorem jvD:aJ Tw:=
 cOf aM aN jxi Tw Tryz.func131 (ja KO (ja θ (ja jrj e))) (ja (λh=>by kernel_rfl) e)
def Bc:Con:=⟨205,[.v iT,.v iT,.v iT],[iT,iT,iT],⟨[.v .bool],[]⟩,[.bool],Pw.unc3 Pw.j9i⟩
def jEt:FnD where
 N:=15
 np:=3
theorem GF:aJ Bc:=
 cOf aM aN jEt Bc Tryz.func205 e e
def Dl:Con:=⟨153,[.v af],[af],⟨[.v iT],[]⟩,[iT],λh=>Pw.j8N h⟩
def jxj:FnD where
 N:=56
 np:=1
 ds:=[⟨0,[sD af,sI],[af,iT],[⟨.ret,[sI],[iT]⟩,⟨.exit 0,[],[]⟩],Pw.unc2 (Pw.j45)⟩]
 keep:=[(0,⟨[0,3],[],[],[]⟩)]
 keepX:=[(0,.ret,⟨[2],[],[],[]⟩)]
theorem Kg:aJ Dl:=
 cOf aM aN jxj Dl Tryz.func153 e (ja (λh=>by kernel_rfl) e)
def Tx:Con:=⟨206,[.v iT],[iT],⟨[.v .bool],[]⟩,[.bool],λh=>Pw.jjd h⟩
def jxk:FnD where
 N:=10
 np:=1
 cs:=[Bc]
theorem jvE:aJ Tx:=
 cOf aM aN jxk Tx Tryz.func206 (ja GF e) e
def Tz:Con:=⟨132,[.v aG],[aG],⟨[.v iT],[]⟩,[iT],λh=>Pw.jk8 h⟩
def jvF:FnD where
 N:=58
 np:=1
 cs:=[Ds,Bc,Dl,Tx]
 ds:=[⟨0,[sB 64 0,sO 1000000,sI,.b (.cell [.d al,.d au,.d ar,.d ay] i),.b (.lst 9 .str i)],[iT,al,au,ar,ay,(.list .str)],[⟨.ret,[sI],[iT]⟩,⟨.exit 0,[],[]⟩],Pw.unc6 (Pw.j6j)⟩]
 keep:=[(0,⟨[1,3,4],[64],[⟨1000000,9,.str,[.slot 3],i⟩],[]⟩)]
 keepX:=[(0,.ret,⟨[2],[],[],[]⟩)]
theorem jtE:aJ Tz:=
 cOf aM aN jvF Tz Tryz.func132 (ja KO (ja GF (ja Kg (ja jvE e)))) (ja (λh=>by kernel_rfl) e)
def GG:Con:=⟨207,[],[],⟨[.v iT],[]⟩,[iT],λh=>Pw.jc8⟩
def jvG:FnD where
 N:=3
 np:=0
 cs:=[KP]
theorem TA:aJ GG:=
 cOf aM aN jvG GG Tryz.func207 (ja ζ e) e
end Go.Proofs.Pk
