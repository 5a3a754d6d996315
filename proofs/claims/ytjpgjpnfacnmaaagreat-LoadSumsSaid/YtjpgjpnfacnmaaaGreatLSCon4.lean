/- cp: each given function is its plain function, printed by a program. -/
import Derived.Test.YtjpgjpnfacnmaaaGreatLSCon3
noncomputable section
open Go Go.Lft
set_option linter.unusedVariables false
set_option maxRecDepth 100000
namespace Go.Proofs.Pk
def O5:Con:=⟨143,[.v ax],[ax],⟨[.own 164 gT],[]⟩,[gT],λh=>Pw.jin h⟩
def jpV:FnD where
 N:=25
 np:=1
 cs:=[Jh]
 ds:=[⟨0,[sO 1000000,sD ax,sI,sI,.b (.lst 164 cQ false)],[ax,iT,iT,gT],[⟨.exit 0,[sO 1500100,.b (.lst 164 cQ false)],[gT]⟩],Pw.unc4 (Pw.j47)⟩]
 keep:=[(0,⟨[3,8,9,10],[],[⟨1000000,164,cQ,[.slot 3],false⟩],[]⟩)]
 keepX:=[(0,.exit 0,⟨[3],[],[⟨1500100,164,cQ,[.slot 3],false⟩],[]⟩)]
 ro:=[true]
theorem jnD:aB O5:=
 cOf aC aF jpV O5 Tryz.func143 (ja Yl trivial) (ja (λh=>by kernel_rfl) trivial)
def O6:Con:=⟨89,[.v aY],[aY],⟨[.v fX],[]⟩,[fX],λh=>Pw.jjn h⟩
def jtB:FnD where
 N:=8
 np:=1
 cs:=[O5]
 dw:=[(1,[[],[],[],[384],[],[128]])]
theorem js1:aB O6:=
 cOf aC aF jtB O6 Tryz.func89 (ja jnD trivial) trivial
def O7:Con:=⟨63,[.v aY],[aY],⟨[.v fX,.v .bool],[]⟩,[fX,.bool],λh=>Pw.jpx h⟩
def jyx:FnD where
 N:=10
 np:=1
 cs:=[O4,O6]
theorem jwA:aB O7:=
 cOf aC aF jyx O7 Tryz.func63 (ja jlm (ja js1 trivial)) trivial
def O8:Con:=⟨64,[.v aY,.v iT],[aY,iT],⟨[.v .bool],[]⟩,[.bool],Pw.unc2 Pw.jio⟩
def jpW:FnD where
 N:=14
 np:=2
theorem jnE:aB O8:=
 cOf aC aF jpW O8 Tryz.func64 trivial trivial
def O9:Con:=⟨150,[.v iT,.v iT],[iT,iT],⟨[.v .bool],[]⟩,[.bool],Pw.unc2 Pw.jkq⟩
def js2:FnD where
 N:=26
 np:=2
theorem jpX:aB O9:=
 cOf aC aF js2 O9 Tryz.func150 trivial trivial
def Pa:Con:=⟨161,[.v aY,.v iT,.v iT,.v iT],[aY,iT,iT,iT],⟨[.v fX,.v iT],[]⟩,[fX,iT],Pw.unc4 Pw.j9P⟩
def jpY:FnD where
 N:=34
 np:=4
 cs:=[O7,O8,O9]
theorem jnF:aB Pa:=
 cOf aC aF jpY Pa Tryz.func161 (ja jwA (ja jnE (ja jpX trivial))) trivial
def Ym:Con:=⟨183,[.v (.list iT)],[(.list iT)],⟨[.own 3 (.list iT)],[]⟩,[(.list iT)],λh=>Pw.j7N h⟩
def jga:FnD where
 N:=8
 np:=1
 ro:=[true]
theorem jfs:aB Ym:=
 VQ aC aF jga 183 iT 3 Tryz.f183 (Tryz.f183.body.getD .skip) Tryz.func183 (by kernel_rfl) (by kernel_rfl) (qq (by kernel_rfl)) (by kernel_rfl) trivial (by kernel_rfl)
  (λh R k=>by kernel_rfl)
def Ji:Con:=⟨272,[.v iT,.ip [iT],.ip [iT]],[iT,iT,iT],⟨[.v .bool],[]⟩,[.bool],Pw.unc3 Pw.jap⟩
def jnG:FnD where
 N:=13
 np:=3
theorem Yn:aB Ji:=
 cOf aC aF jnG Ji Tryz.func272 trivial trivial
def Pb:Con:=⟨258,[.rl 3 (.list iT),.clo 272 [.p [iT],.p [iT]]],[(.list iT),iT,iT],⟨[.v iT],[.rl (.list iT)]⟩,[iT,(.list iT)],Pw.unc3 Pw.j48⟩
def jb7:FnD where
 N:=19
 np:=2
 cs:=[Ji]
 ds:=[⟨0,[sO 0,sC 272 [.p [iT],.p [iT]],sI,sI,.b (.lst 3 iT false)],[iT,iT,iT,iT,(.list iT)],[⟨.ret,[sI,.b (.lst 3 iT false)],[iT,(.list iT)]⟩,⟨.exit 0,[.b (.lst 3 iT false)],[(.list iT)]⟩],Pw.unc5 (Pw.j0J)⟩]
 keep:=[(0,⟨[0,1,7,8],[0],[],[]⟩)]
 keepX:=[(0,.ret,⟨[4],[0],[],[]⟩),(0,.exit 0,⟨[],[0],[],[]⟩)]
theorem jaJ:aB Pb:=
 cOf aC aF jb7 Pb Tryz.func258 (ja Yn trivial) (ja (λh=>by kernel_rfl) trivial)
def Pc:Con:=⟨271,[.rl 3 (.list iT),.clo 272 [.p [iT],.p [iT]]],[(.list iT),iT,iT],⟨[.hd],[.rl (.list iT)]⟩,[iT,(.list iT)],Pw.unc3 Pw.j2U⟩
def jcC:FnD where
 N:=42
 np:=2
 cs:=[Ji,Pb]
 ds:=[⟨0,[sO 0,sC 272 [.p [iT],.p [iT]],sI,sI,.b (.lst 3 iT false)],[iT,iT,iT,iT,(.list iT)],[⟨.exit 0,[sO 0,sI,.b (.lst 3 iT false)],[iT,(.list iT)]⟩],Pw.unc5 (Pw.j0V)⟩]
 modes:=[(258,[true,false])]
 keep:=[(0,⟨[0,1,5,6],[0],[],[]⟩)]
 keepX:=[(0,.exit 0,⟨[0,5],[0],[],[]⟩)]
 hd:=true
theorem jbH:aB Pc:=
 cOf aC aF jcC Pc Tryz.func271 (ja Yn (ja jaJ trivial)) (ja (λh=>by kernel_rfl) trivial)
def Yo:Con:=⟨248,[.rl 3 (.list iT)],[(.list iT)],⟨[],[.rl (.list iT)]⟩,[(.list iT)],λh=>Pw.j5W h⟩
def js3:FnD where
 N:=11
 np:=1
theorem jgb:aB Yo:=
 jyr Tryz.sort248 3 (by kernel_rfl) 248 rfl
def Pd:Con:=⟨273,[.rl 3 (.list iT)],[(.list iT)],⟨[.hd],[.rl (.list iT)]⟩,[iT,(.list iT)],λh=>Pw.j4l h⟩
def jeA:FnD where
 N:=61
 np:=1
 ds:=[⟨0,[sO 0,sI,.b (.lst 3 iT false)],[iT,(.list iT)],[⟨.ret,[.s (.one (.hd 0)),.b (.lst 3 iT false)],[iT,(.list iT)]⟩,⟨.exit 0,[sO 0,.b (.lst 3 iT false)],[(.list iT)]⟩],Pw.unc2 (Pw.j1f)⟩,⟨2,[sO 0,sI,.s (.one (.tl 0)),sI,.b (.lst 3 iT false)],[iT,iT,iT,(.list iT)],[⟨.exit 2,[sO 0,sI,.b (.lst 3 iT false)],[iT,(.list iT)]⟩],Pw.unc4 (Pw.j1e)⟩]
 keep:=[(0,⟨[0,3],[0],[],[]⟩),(2,⟨[0,3,4,5],[0],[],[]⟩)]
 keepX:=[(0,.ret,⟨[2],[0],[],[]⟩),(0,.exit 0,⟨[0],[0],[],[]⟩),(2,.exit 2,⟨[0,3],[0],[],[]⟩)]
 hd:=true
theorem jdK:aB Pd:=
 cOf aC aF jeA Pd Tryz.func273 trivial (ja (λh=>by kernel_rfl) (ja (λh=>by kernel_rfl) trivial))
def Pe:Con:=⟨235,[.v (.list iT),.v iT,.v iT],[(.list iT),iT,iT],⟨[.own 3 (.list iT)],[]⟩,[(.list iT)],Pw.unc3 Pw.jjo⟩
def jtC:FnD where
 N:=19
 np:=3
 cs:=[Ym,Pc,Yo,Pd]
 modes:=[(248,[true]),(271,[true,false]),(273,[true])]
 ro:=[true]
 dw:=[(3,[[],[704,960],[],[1088],[960,1152],[]])]
theorem js4:aB Pe:=
 cOf aC aF jtC Pe Tryz.func235 (ja jfs (ja jbH (ja jgb (ja jdK trivial)))) trivial
def Pg:Con:=⟨174,[.v bC],[bC],⟨[.clo 251 [.p [bC]]],[]⟩,[bC],λh=>Pw.j20 h⟩
def j7W:FnD where
 N:=4
 np:=1
theorem j7C:aB Pg:=
 cOf aC aF j7W Pg Tryz.func174 trivial trivial
def Jj:Con:=⟨219,[.v bN],[bN],⟨[.v iT],[]⟩,[iT],λh=>Pw.j9Q h⟩
def js5:FnD where
 N:=11
 np:=1
theorem Yp:aB Jj:=
 cOf aC aF js5 Jj Tryz.func219 trivial trivial
def Pj:Con:=⟨284,[.v iT,.ip [iT,aa],.ip [iT]],[iT,iT,aa,iT],⟨[.v .bool],[]⟩,[.bool],Pw.unc4 Pw.j8x⟩
def jgW:FnD where
 N:=13
 np:=3
theorem jgc:aB Pj:=
 cOf aC aF jgW Pj Tryz.func284 trivial trivial
def Pl:Con:=⟨283,[.v iT,.clo 284 [.p [iT,aa],.p [iT]]],[iT,iT,aa,iT],⟨[.v iT],[]⟩,[iT],Pw.unc4 Pw.jip⟩
def jpZ:FnD where
 N:=26
 np:=2
 cs:=[Pj]
 ds:=[⟨0,[sC 284 [.p [iT,aa],.p [iT]],sI,sI],[iT,aa,iT,iT,iT],[⟨.exit 0,[sI],[iT]⟩],Pw.unc5 (Pw.j2L)⟩]
 keep:=[(0,⟨[1,5,6],[],[],[]⟩)]
 keepX:=[(0,.exit 0,⟨[5],[],[],[]⟩)]
theorem jnH:aB Pl:=
 cOf aC aF jpZ Pl Tryz.func283 (ja jgc trivial) (ja (λh=>by kernel_rfl) trivial)
def Jk:Con:=⟨240,[.v cQ,.v iT],[cQ,iT],⟨[.v iT],[]⟩,[iT],Pw.unc2 Pw.j6c⟩
def jjQ:FnD where
 N:=10
 np:=2
 cs:=[Pl]
theorem Yq:aB Jk:=
 cOf aC aF jjQ Jk Tryz.func240 (ja jnH trivial) trivial
def Jl:Con:=⟨241,[.v cQ,.v iT],[cQ,iT],⟨[.v iT],[]⟩,[iT],Pw.unc2 Pw.j3X⟩
def jiJ:FnD where
 N:=16
 np:=2
theorem Yr:aB Jl:=
 cOf aC aF jiJ Jl Tryz.func241 trivial trivial
def FF:Con:=⟨168,[.v cQ,.v iT,.v iT],[cQ,iT,iT],⟨[.own 230 aq],[]⟩,[aq],Pw.unc3 Pw.j1D⟩
def jiK:FnD where
 N:=41
 np:=3
 cs:=[Jk,Jl]
 ds:=[⟨0,[sI,sI,sB 192 0,sO 1000000,.b (.cell [.d iT,.d aa] false),.b (.lst 230 aA false)],[iT,iT,iT,aa,aq],[⟨.exit 0,[sO 1500100,.b (.lst 230 aA false)],[aq]⟩],Pw.unc5 (Pw.j0s)⟩]
 keep:=[(0,⟨[1,2,3,7],[192],[⟨1000000,230,aA,[.slot 7],false⟩],[]⟩)]
 keepX:=[(0,.exit 0,⟨[7],[],[⟨1500100,230,aA,[.slot 7],false⟩],[]⟩)]
 ro:=[true]
theorem Pm:aB FF:=
 cOf aC aF jiK FF Tryz.func168 (ja Yq (ja Yr trivial)) (ja (λh=>by kernel_rfl) trivial)
end Go.Proofs.Pk
