/- Contracts: each given function is its plain function, printed by a program. -/
import Derived.Test.YtaieocafhcjelaaGreatACon2
noncomputable section
open Go Go.Lft
set_option linter.unusedVariables false
set_option maxRecDepth 100000
namespace Go.Proofs.Pk
def jfj:Con:=⟨160,[.v ty84],[ty84],⟨[.v ty86],[]⟩,[ty86],fun h=>Pw.jcl h⟩
def jtd:FnD where
 N:=8
 np:=1
 cs:=[jcN]
 ds:=[]
 modes:=[(234,[false])]
 ro:=[false]
 dw:=[(1,[[],[],[],[384],[],[128]])]
theorem jrE:Con.OK Tryz.prog jfj:=
 cOf j0c j03 jtd jfj Tryz.func160 (j9 jo0 trivial) trivial
def jcO:Con:=⟨86,[.v ty84],[ty84],⟨[.v ty86,.v .bool],[]⟩,[ty86,.bool],fun h=>Pw.jf3 h⟩
def jxk:FnD where
 N:=10
 np:=1
 cs:=[jak,jfj]
 ds:=[]
 modes:=[(99,[false]),(160,[false])]
 ro:=[false,false]
theorem jkG:Con.OK Tryz.prog jcO:=
 cOf j0c j03 jxk jcO Tryz.func86 (j9 jlz (j9 jrE trivial)) trivial
def j9p:Con:=⟨100,[.v ty84,.v iT],[ty84,iT],⟨[.v .bool],[]⟩,[.bool],Pw.unc2 Pw.jcm⟩
def jpW:FnD where
 N:=14
 np:=2
 cs:=[]
 ds:=[]
 ro:=[false]
theorem ji2:Con.OK Tryz.prog j9p:=
 cOf j0c j03 jpW j9p Tryz.func100 trivial trivial
def jdY:Con:=⟨87,[.v iT,.v iT],[iT,iT],⟨[.v .bool],[]⟩,[.bool],Pw.unc2 Pw.jkC⟩
def jrF:FnD where
 N:=26
 np:=2
 cs:=[]
 ds:=[]
 ro:=[false]
theorem jpX:Con.OK Tryz.prog jdY:=
 cOf j0c j03 jrF jdY Tryz.func87 trivial trivial
def j9q:Con:=⟨75,[.v ty84,.v iT,.v iT,.v iT],[ty84,iT,iT,iT],⟨[.v ty86,.v iT],[]⟩,[ty86,iT],Pw.unc4 Pw.j6i⟩
def jpY:FnD where
 N:=34
 np:=4
 cs:=[jcO,j9p,jdY]
 ds:=[]
 modes:=[(86,[false]),(87,[false,false]),(100,[false,false])]
 ro:=[false,false]
theorem ji3:Con.OK Tryz.prog j9q:=
 cOf j0c j03 jpY j9q Tryz.func75 (j9 jkG (j9 ji2 (j9 jpX trivial))) trivial
def j92:Con:=⟨213,[.v (.list iT)],[(.list iT)],⟨[.own 3 (.list iT)],[]⟩,[(.list iT)],fun h=>Pw.j7Z h⟩
def jg8:FnD where
 N:=8
 np:=1
 cs:=[]
 ds:=[]
 ro:=[true]
theorem jfk:Con.OK Tryz.prog j92:=
 jrn j0c j03 jg8 213 iT 3 Tryz.f213 (Tryz.f213.body.getD .skip) Tryz.func213 (by kernel_rfl) (by kernel_rfl) (Nat.le_of_ble_eq_true (by kernel_rfl)) (by kernel_rfl) trivial (by kernel_rfl)
  (fun h R k=>by kernel_rfl)
def j8E:Con:=⟨214,[.v iT,.ip [iT],.ip [iT]],[iT,iT,iT],⟨[.v .bool],[]⟩,[.bool],Pw.unc3 Pw.jaN⟩
def jo1:FnD where
 N:=13
 np:=3
 cs:=[]
 ds:=[]
 ro:=[false]
theorem jgQ:Con.OK Tryz.prog j8E:=
 cOf j0c j03 jo1 j8E Tryz.func214 trivial trivial
def j3C:Con:=⟨303,[.rl 3 (.list iT),.clo 214 [.p [iT],.p [iT]]],[(.list iT),iT,iT],⟨[.v iT],[.rl (.list iT)]⟩,[iT,(.list iT)],Pw.unc3 Pw.j1F⟩
def jbs:FnD where
 N:=19
 np:=2
 cs:=[j8E]
 ds:=[⟨0,[.s (.one (.ol 0)),.s (.one (.clo 214 [.p [iT],.p [iT]])),sI,sI,.b (.lst 3 iT false)],[iT,iT,iT,iT,(.list iT)],[⟨.ret,[sI,.b (.lst 3 iT false)],[iT,(.list iT)]⟩,⟨.exit 0,[.b (.lst 3 iT false)],[(.list iT)]⟩],Pw.unc5 (Pw.j13)⟩]
 modes:=[(214,[false])]
 keep:=[(0,⟨[0,1,7,8],[0],[],[]⟩)]
 keepX:=[(0,.ret,⟨[4],[0],[],[]⟩),
  (0,.exit 0,⟨[],[0],[],[]⟩)]
 ro:=[false]
theorem jb8:Con.OK Tryz.prog j3C:=
 cOf j0c j03 jbs j3C Tryz.func303 (j9 jgQ trivial) (j9 (fun h=>by kernel_rfl) trivial)
def j4g:Con:=⟨212,[.rl 3 (.list iT),.clo 214 [.p [iT],.p [iT]]],[(.list iT),iT,iT],⟨[.hd],[.rl (.list iT)]⟩,[iT,(.list iT)],Pw.unc3 Pw.j1t⟩
def jcP:FnD where
 N:=42
 np:=2
 cs:=[j8E,j3C]
 ds:=[⟨0,[.s (.one (.ol 0)),.s (.one (.clo 214 [.p [iT],.p [iT]])),sI,sI,.b (.lst 3 iT false)],[iT,iT,iT,iT,(.list iT)],[⟨.exit 0,[.s (.one (.ol 0)),sI,.b (.lst 3 iT false)],[iT,(.list iT)]⟩],Pw.unc5 (Pw.j1k)⟩]
 modes:=[(214,[false]),(303,[true,false])]
 keep:=[(0,⟨[0,1,5,6],[0],[],[]⟩)]
 keepX:=[(0,.exit 0,⟨[0,5],[0],[],[]⟩)]
 ro:=[false]
 hd:=true
theorem jbW:Con.OK Tryz.prog j4g:=
 cOf j0c j03 jcP j4g Tryz.func212 (j9 jgQ (j9 jb8 trivial)) (j9 (fun h=>by kernel_rfl) trivial)
def j9r:Con:=⟨215,[.rl 3 (.list iT)],[(.list iT)],⟨[],[.rl (.list iT)]⟩,[(.list iT)],fun h=>Pw.j6j h⟩
def jrG:FnD where
 N:=11
 np:=1
 cs:=[]
 ds:=[]
theorem jg9:Con.OK Tryz.prog j9r:=
 jxh Tryz.sort215 3 (by kernel_rfl) 215 rfl
def j4Y:Con:=⟨216,[.rl 3 (.list iT)],[(.list iT)],⟨[.hd],[.rl (.list iT)]⟩,[iT,(.list iT)],fun h=>Pw.j28 h⟩
def jeD:FnD where
 N:=61
 np:=1
 cs:=[]
 ds:=[⟨0,[.s (.one (.ol 0)),sI,.b (.lst 3 iT false)],[iT,(.list iT)],[⟨.ret,[.s (.one (.hd 0)),.b (.lst 3 iT false)],[iT,(.list iT)]⟩,⟨.exit 0,[.s (.one (.ol 0)),.b (.lst 3 iT false)],[(.list iT)]⟩],Pw.unc2 (Pw.j0H)⟩,
  ⟨2,[.s (.one (.ol 0)),sI,.s (.one (.tl 0)),sI,.b (.lst 3 iT false)],[iT,iT,iT,(.list iT)],[⟨.exit 2,[.s (.one (.ol 0)),sI,.b (.lst 3 iT false)],[iT,(.list iT)]⟩],Pw.unc4 (Pw.j1N)⟩]
 keep:=[(0,⟨[0,3],[0],[],[]⟩),
  (2,⟨[0,3,4,5],[0],[],[]⟩)]
 keepX:=[(0,.ret,⟨[2],[0],[],[]⟩),
  (0,.exit 0,⟨[0],[0],[],[]⟩),
  (2,.exit 2,⟨[0,3],[0],[],[]⟩)]
 ro:=[false]
 hd:=true
theorem jdZ:Con.OK Tryz.prog j4Y:=
 cOf j0c j03 jeD j4Y Tryz.func216 trivial (j9 (fun h=>by kernel_rfl) (j9 (fun h=>by kernel_rfl) trivial))
def jfl:Con:=⟨150,[.v (.list iT),.v iT,.v iT],[(.list iT),iT,iT],⟨[.own 3 (.list iT)],[]⟩,[(.list iT)],Pw.unc3 Pw.jcn⟩
def jte:FnD where
 N:=19
 np:=3
 cs:=[j92,j4g,j9r,j4Y]
 ds:=[]
 modes:=[(212,[true,false]),(213,[false]),(215,[true]),(216,[true])]
 ro:=[true]
 dw:=[(3,[[],[704,960],[],[1088],[960,1152],[]])]
theorem jrH:Con.OK Tryz.prog jfl:=
 cOf j0c j03 jte jfl Tryz.func150 (j9 jfk (j9 jbW (j9 jg9 (j9 jdZ trivial)))) trivial
def j1o:Con:=⟨180,[.v ty73],[ty73],⟨[.clo 261 [.p [ty73]]],[]⟩,[ty73],fun h=>Pw.j14 h⟩
def j86:FnD where
 N:=4
 np:=1
 cs:=[]
 ds:=[]
 ro:=[false]
theorem j46:Con.OK Tryz.prog j1o:=
 cOf j0c j03 j86 j1o Tryz.func180 trivial trivial
def jaB:Con:=⟨316,[.v ty72],[ty72],⟨[.v iT],[]⟩,[iT],fun h=>Pw.jaa h⟩
def jrI:FnD where
 N:=11
 np:=1
 cs:=[]
 ds:=[]
 ro:=[false]
theorem jjN:Con.OK Tryz.prog jaB:=
 cOf j0c j03 jrI jaB Tryz.func316 trivial trivial
def j6q:Con:=⟨328,[.v iT,.ip [iT,ty13],.ip [iT]],[iT,iT,ty13,iT],⟨[.v .bool],[]⟩,[.bool],Pw.unc4 Pw.j8J⟩
def jgR:FnD where
 N:=13
 np:=3
 cs:=[]
 ds:=[]
 ro:=[false]
theorem jga:Con.OK Tryz.prog j6q:=
 cOf j0c j03 jgR j6q Tryz.func328 trivial trivial
def jcQ:Con:=⟨327,[.v iT,.clo 328 [.p [iT,ty13],.p [iT]]],[iT,iT,ty13,iT],⟨[.v iT],[]⟩,[iT],Pw.unc4 Pw.jab⟩
def jpZ:FnD where
 N:=26
 np:=2
 cs:=[j6q]
 ds:=[⟨0,[.s (.one (.clo 328 [.p [iT,ty13],.p [iT]])),sI,sI],[iT,ty13,iT,iT,iT],[⟨.exit 0,[sI],[iT]⟩],Pw.unc5 (Pw.j3u)⟩]
 modes:=[(328,[false])]
 keep:=[(0,⟨[1,5,6],[],[],[]⟩)]
 keepX:=[(0,.exit 0,⟨[5],[],[],[]⟩)]
 ro:=[false]
theorem jo2:Con.OK Tryz.prog jcQ:=
 cOf j0c j03 jpZ jcQ Tryz.func327 (j9 jga trivial) (j9 (fun h=>by kernel_rfl) trivial)
def j5P:Con:=⟨271,[.v ty28,.v iT],[ty28,iT],⟨[.v iT],[]⟩,[iT],Pw.unc2 Pw.j3n⟩
def jjO:FnD where
 N:=10
 np:=2
 cs:=[jcQ]
 ds:=[]
 modes:=[(327,[false,false])]
 ro:=[false]
theorem jcR:Con.OK Tryz.prog j5P:=
 cOf j0c j03 jjO j5P Tryz.func271 (j9 jo2 trivial) trivial
def j5t:Con:=⟨272,[.v ty28,.v iT],[ty28,iT],⟨[.v iT],[]⟩,[iT],Pw.unc2 Pw.j4D⟩
def jiB:FnD where
 N:=16
 np:=2
 cs:=[]
 ds:=[]
 ro:=[false]
theorem jbM:Con.OK Tryz.prog j5t:=
 cOf j0c j03 jiB j5t Tryz.func272 trivial trivial
def j40:Con:=⟨186,[.v ty28,.v iT,.v iT],[ty28,iT,iT],⟨[.own 251 ty26],[]⟩,[ty26],Pw.unc3 Pw.j1j⟩
def jiC:FnD where
 N:=41
 np:=3
 cs:=[j5P,j5t]
 ds:=[⟨0,[sI,sI,.s (.one (.bp 192 0)),.s (.one (.ol 1000000)),.b (.cell [.d iT,.d ty13] false),.b (.lst 251 ty21 false)],[iT,iT,iT,ty13,ty26],[⟨.exit 0,[.s (.one (.ol 1500100)),.b (.lst 251 ty21 false)],[ty26]⟩],Pw.unc5 (Pw.j0p)⟩]
 modes:=[(271,[false,false]),(272,[false,false])]
 keep:=[(0,⟨[1,2,3,7],[192],[⟨1000000,251,ty21,[.slot 7],false⟩],[]⟩)]
 keepX:=[(0,.exit 0,⟨[7],[],[⟨1500100,251,ty21,[.slot 7],false⟩],[]⟩)]
 ro:=[true]
theorem j87:Con.OK Tryz.prog j40:=
 cOf j0c j03 jiC j40 Tryz.func186 (j9 jcR (j9 jbM trivial)) (j9 (fun h=>by kernel_rfl) trivial)
def jbt:Con:=⟨317,[.v ty8],[ty8],⟨[.v iT],[]⟩,[iT],fun h=>Pw.j4y h⟩
def jo3:FnD where
 N:=11
 np:=1
 cs:=[]
 ds:=[]
 ro:=[false]
theorem jn9:Con.OK Tryz.prog jbt:=
 cOf j0c j03 jo3 jbt Tryz.func317 trivial trivial
end Go.Proofs.Pk
