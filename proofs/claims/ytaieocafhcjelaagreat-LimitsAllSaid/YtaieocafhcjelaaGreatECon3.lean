/- cJ: each given function is its plain function, printed by a program. -/
import Derived.Test.YtaieocafhcjelaaGreatECon2
noncomputable section
open Go Go.Lft
set_option linter.unusedVariables false
set_option maxRecDepth 100000
namespace Go.Proofs.Pk
def DK:Con:=⟨86,[.v bQ],[bQ],⟨[.v dQ,.v .bool],[]⟩,[dQ,.bool],λh=>Pw.jfi h⟩
def jvh:FnD where
 N:=10
 np:=1
 cs:=[Lp,Ls]
 ds:=[]
 modes:=[(99,[false]),(160,[false])]
 ro:=[false,false]
theorem Lt:Con.OK Tryz.prog DK:=
 cOf aM aN jvh DK Tryz.func86 (j9 jky (j9 jqm trivial)) trivial
def DL:Con:=⟨87,[.v iT,.v iT],[iT,iT],⟨[.v .bool],[]⟩,[.bool],Pw.unc2 Pw.jb4⟩
def jqn:FnD where
 N:=26
 np:=2
 cs:=[]
 ds:=[]
 ro:=[false]
theorem Lu:Con.OK Tryz.prog DL:=
 cOf aM aN jqn DL Tryz.func87 trivial trivial
def DM:Con:=⟨112,[.v bQ,.v iT,.v iT,.v iT],[bQ,iT,iT,iT],⟨[.v dQ,.v iT],[]⟩,[dQ,iT],Pw.unc4 Pw.j6v⟩
def joM:FnD where
 N:=39
 np:=4
 cs:=[DK,DL]
 ds:=[]
 modes:=[(86,[false]),(87,[false,false])]
 ro:=[false,false]
theorem Lv:Con.OK Tryz.prog DM:=
 cOf aM aN joM DM Tryz.func112 (j9 Lt (j9 Lu trivial)) trivial
def TB:Con:=⟨213,[.v (.list iT)],[(.list iT)],⟨[.own 3 (.list iT)],[]⟩,[(.list iT)],λh=>Pw.j8S h⟩
def jg2:FnD where
 N:=8
 np:=1
 cs:=[]
 ds:=[]
 ro:=[true]
theorem jfs:Con.OK Tryz.prog TB:=
 Rv aM aN jg2 213 iT 3 Tryz.f213 (Tryz.f213.body.getD .skip) Tryz.func213 (by kernel_rfl) (by kernel_rfl) (Nat.le_of_ble_eq_true (by kernel_rfl)) (by kernel_rfl) trivial (by kernel_rfl)
  (λh R k=>by kernel_rfl)
def Gu:Con:=⟨214,[.v iT,.ip [iT],.ip [iT]],[iT,iT,iT],⟨[.v .bool],[]⟩,[.bool],Pw.unc3 Pw.jbx⟩
def jmU:FnD where
 N:=13
 np:=3
 cs:=[]
 ds:=[]
 ro:=[false]
theorem TC:Con.OK Tryz.prog Gu:=
 cOf aM aN jmU Gu Tryz.func214 trivial trivial
def Lw:Con:=⟨303,[.rl 3 (.list iT),.clo 214 [.p [iT],.p [iT]]],[(.list iT),iT,iT],⟨[.v iT],[.rl (.list iT)]⟩,[iT,(.list iT)],Pw.unc3 Pw.j2o⟩
def jc6:FnD where
 N:=19
 np:=2
 cs:=[Gu]
 ds:=[⟨0,[.s (.one (.ol 0)),.s (.one (.clo 214 [.p [iT],.p [iT]])),sI,sI,.b (.lst 3 iT false)],[iT,iT,iT,iT,(.list iT)],[⟨.ret,[sI,.b (.lst 3 iT false)],[iT,(.list iT)]⟩,⟨.exit 0,[.b (.lst 3 iT false)],[(.list iT)]⟩],Pw.unc5 (Pw.j1E)⟩]
 modes:=[(214,[false])]
 keep:=[(0,⟨[0,1,7,8],[0],[],[]⟩)]
 keepX:=[(0,.ret,⟨[4],[0],[],[]⟩),
  (0,.exit 0,⟨[],[0],[],[]⟩)]
 ro:=[false]
theorem jbL:Con.OK Tryz.prog Lw:=
 cOf aM aN jc6 Lw Tryz.func303 (j9 TC trivial) (j9 (λh=>by kernel_rfl) trivial)
def Lx:Con:=⟨212,[.rl 3 (.list iT),.clo 214 [.p [iT],.p [iT]]],[(.list iT),iT,iT],⟨[.hd],[.rl (.list iT)]⟩,[iT,(.list iT)],Pw.unc3 Pw.j29⟩
def jdc:FnD where
 N:=42
 np:=2
 cs:=[Gu,Lw]
 ds:=[⟨0,[.s (.one (.ol 0)),.s (.one (.clo 214 [.p [iT],.p [iT]])),sI,sI,.b (.lst 3 iT false)],[iT,iT,iT,iT,(.list iT)],[⟨.exit 0,[.s (.one (.ol 0)),sI,.b (.lst 3 iT false)],[iT,(.list iT)]⟩],Pw.unc5 (Pw.j20)⟩]
 modes:=[(214,[false]),(303,[true,false])]
 keep:=[(0,⟨[0,1,5,6],[0],[],[]⟩)]
 keepX:=[(0,.exit 0,⟨[0,5],[0],[],[]⟩)]
 ro:=[false]
 hd:=true
theorem jcz:Con.OK Tryz.prog Lx:=
 cOf aM aN jdc Lx Tryz.func212 (j9 TC (j9 jbL trivial)) (j9 (λh=>by kernel_rfl) trivial)
def TD:Con:=⟨215,[.rl 3 (.list iT)],[(.list iT)],⟨[],[.rl (.list iT)]⟩,[(.list iT)],λh=>Pw.j7b h⟩
def jqo:FnD where
 N:=11
 np:=1
 cs:=[]
 ds:=[]
theorem jg3:Con.OK Tryz.prog TD:=
 jve Tryz.sort215 3 (by kernel_rfl) 215 rfl
def Ly:Con:=⟨216,[.rl 3 (.list iT)],[(.list iT)],⟨[.hd],[.rl (.list iT)]⟩,[iT,(.list iT)],λh=>Pw.j2Q h⟩
def jeU:FnD where
 N:=61
 np:=1
 cs:=[]
 ds:=[⟨0,[.s (.one (.ol 0)),sI,.b (.lst 3 iT false)],[iT,(.list iT)],[⟨.ret,[.s (.one (.hd 0)),.b (.lst 3 iT false)],[iT,(.list iT)]⟩,⟨.exit 0,[.s (.one (.ol 0)),.b (.lst 3 iT false)],[(.list iT)]⟩],Pw.unc2 (Pw.j18)⟩,
  ⟨2,[.s (.one (.ol 0)),sI,.s (.one (.tl 0)),sI,.b (.lst 3 iT false)],[iT,iT,iT,(.list iT)],[⟨.exit 2,[.s (.one (.ol 0)),sI,.b (.lst 3 iT false)],[iT,(.list iT)]⟩],Pw.unc4 (Pw.j2w)⟩]
 keep:=[(0,⟨[0,3],[0],[],[]⟩),
  (2,⟨[0,3,4,5],[0],[],[]⟩)]
 keepX:=[(0,.ret,⟨[2],[0],[],[]⟩),
  (0,.exit 0,⟨[0],[0],[],[]⟩),
  (2,.exit 2,⟨[0,3],[0],[],[]⟩)]
 ro:=[false]
 hd:=true
theorem jel:Con.OK Tryz.prog Ly:=
 cOf aM aN jeU Ly Tryz.func216 trivial (j9 (λh=>by kernel_rfl) (j9 (λh=>by kernel_rfl) trivial))
def Gv:Con:=⟨150,[.v (.list iT),.v iT,.v iT],[(.list iT),iT,iT],⟨[.own 3 (.list iT)],[]⟩,[(.list iT)],Pw.unc3 Pw.jby⟩
def jrB:FnD where
 N:=19
 np:=3
 cs:=[TB,Lx,TD,Ly]
 ds:=[]
 modes:=[(212,[true,false]),(213,[false]),(215,[true]),(216,[true])]
 ro:=[true]
 dw:=[(3,[[],[704,960],[],[1088],[960,1152],[]])]
theorem TE:Con.OK Tryz.prog Gv:=
 cOf aM aN jrB Gv Tryz.func150 (j9 jfs (j9 jcz (j9 jg3 (j9 jel trivial)))) trivial
def Lz:Con:=⟨180,[.v cd],[cd],⟨[.clo 261 [.p [cd]]],[]⟩,[cd],λh=>Pw.j3C h⟩
def j8Z:FnD where
 N:=4
 np:=1
 cs:=[]
 ds:=[]
 ro:=[false]
theorem j8A:Con.OK Tryz.prog Lz:=
 cOf aM aN j8Z Lz Tryz.func180 trivial trivial
def Gw:Con:=⟨316,[.v cw],[cw],⟨[.v iT],[]⟩,[iT],λh=>Pw.jb5 h⟩
def jqp:FnD where
 N:=11
 np:=1
 cs:=[]
 ds:=[]
 ro:=[false]
theorem TF:Con.OK Tryz.prog Gw:=
 cOf aM aN jqp Gw Tryz.func316 trivial trivial
def LA:Con:=⟨328,[.v iT,.ip [iT,ae],.ip [iT]],[iT,iT,ae,iT],⟨[.v .bool],[]⟩,[.bool],Pw.unc4 Pw.j9E⟩
def jgE:FnD where
 N:=13
 np:=3
 cs:=[]
 ds:=[]
 ro:=[false]
theorem jg4:Con.OK Tryz.prog LA:=
 cOf aM aN jgE LA Tryz.func328 trivial trivial
def LB:Con:=⟨327,[.v iT,.clo 328 [.p [iT,ae],.p [iT]]],[iT,iT,ae,iT],⟨[.v iT],[]⟩,[iT],Pw.unc4 Pw.jb6⟩
def joN:FnD where
 N:=26
 np:=2
 cs:=[LA]
 ds:=[⟨0,[.s (.one (.clo 328 [.p [iT,ae],.p [iT]])),sI,sI],[iT,ae,iT,iT,iT],[⟨.exit 0,[sI],[iT]⟩],Pw.unc5 (Pw.j4m)⟩]
 modes:=[(328,[false])]
 keep:=[(0,⟨[1,5,6],[],[],[]⟩)]
 keepX:=[(0,.exit 0,⟨[5],[],[],[]⟩)]
 ro:=[false]
theorem jmV:Con.OK Tryz.prog LB:=
 cOf aM aN joN LB Tryz.func327 (j9 jg4 trivial) (j9 (λh=>by kernel_rfl) trivial)
def Gx:Con:=⟨271,[.v cb,.v iT],[cb,iT],⟨[.v iT],[]⟩,[iT],Pw.unc2 Pw.j4f⟩
def jj2:FnD where
 N:=10
 np:=2
 cs:=[LB]
 ds:=[]
 modes:=[(327,[false,false])]
 ro:=[false]
theorem TG:Con.OK Tryz.prog Gx:=
 cOf aM aN jj2 Gx Tryz.func271 (j9 jmV trivial) trivial
def Gy:Con:=⟨272,[.v cb,.v iT],[cb,iT],⟨[.v iT],[]⟩,[iT],Pw.unc2 Pw.j5D⟩
def ji4:FnD where
 N:=16
 np:=2
 cs:=[]
 ds:=[]
 ro:=[false]
theorem TH:Con.OK Tryz.prog Gy:=
 cOf aM aN ji4 Gy Tryz.func272 trivial trivial
def DN:Con:=⟨186,[.v cb,.v iT,.v iT],[cb,iT,iT],⟨[.own 251 ak],[]⟩,[ak],Pw.unc3 Pw.j1Z⟩
def ji5:FnD where
 N:=41
 np:=3
 cs:=[Gx,Gy]
 ds:=[⟨0,[sI,sI,.s (.one (.bp 192 0)),.s (.one (.ol 1000000)),.b (.cell [.d iT,.d ae] false),.b (.lst 251 an false)],[iT,iT,iT,ae,ak],[⟨.exit 0,[.s (.one (.ol 1500100)),.b (.lst 251 an false)],[ak]⟩],Pw.unc5 (Pw.j0H)⟩]
 modes:=[(271,[false,false]),(272,[false,false])]
 keep:=[(0,⟨[1,2,3,7],[192],[⟨1000000,251,an,[.slot 7],false⟩],[]⟩)]
 keepX:=[(0,.exit 0,⟨[7],[],[⟨1500100,251,an,[.slot 7],false⟩],[]⟩)]
 ro:=[true]
theorem LC:Con.OK Tryz.prog DN:=
 cOf aM aN ji5 DN Tryz.func186 (j9 TG (j9 TH trivial)) (j9 (λh=>by kernel_rfl) trivial)
def LD:Con:=⟨317,[.v aV],[aV],⟨[.v iT],[]⟩,[iT],λh=>Pw.j5u h⟩
def jmW:FnD where
 N:=11
 np:=1
 cs:=[]
 ds:=[]
 ro:=[false]
theorem jm5:Con.OK Tryz.prog LD:=
 cOf aM aN jmW LD Tryz.func317 trivial trivial
def LF:Con:=⟨233,[.v cb,.v aV],[cb,aV],⟨[.v iT,.v .bool],[]⟩,[iT,.bool],Pw.unc2 Pw.j2H⟩
def jj3:FnD where
 N:=30
 np:=2
 cs:=[DN,LD]
 ds:=[⟨0,[.s (.one (.bp 192 0)),.s (.one (.ol 1000000)),sI,sI,.b (.cell [.d iT,.d iT] false),.b (.lst 251 an false)],[iT,iT,iT,iT,ak],[⟨.ret,[sI,.s (.one (.d .bool))],[iT,.bool]⟩,⟨.exit 0,[],[]⟩],Pw.unc5 (Pw.j2p)⟩]
 modes:=[(186,[false,false,false]),(317,[false])]
 keep:=[(0,⟨[3,10,11,12],[192],[⟨1000000,251,an,[.slot 10],false⟩],[]⟩)]
 keepX:=[(0,.ret,⟨[4,5],[],[],[]⟩),
  (0,.exit 0,⟨[],[],[],[]⟩)]
 ro:=[false,false]
theorem ji6:Con.OK Tryz.prog LF:=
 cOf aM aN jj3 LF Tryz.func233 (j9 LC (j9 jm5 trivial)) (j9 (λh=>by kernel_rfl) trivial)
def DO:Con:=⟨232,[.v cb,.v cw,.v iT],[cb,cw,iT],⟨[.v iT,.v .bool],[]⟩,[iT,.bool],Pw.unc3 Pw.j1g⟩
def jj4:FnD where
 N:=50
 np:=3
 cs:=[Gw,LF]
 ds:=[]
 modes:=[(233,[false,false]),(316,[false])]
 ro:=[false,false]
 dw:=[(5,[[],[],[],[],[],[],[],[],[512]])]
theorem LG:Con.OK Tryz.prog DO:=
 cOf aM aN jj4 DO Tryz.func232 (j9 TF (j9 ji6 trivial)) trivial
end Go.Proofs.Pk
