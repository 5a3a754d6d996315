/- Contracts: each given function is its plain function, printed by a program. -/
import Derived.Test.YtaieocafhcjelaaGreatBCon2
noncomputable section
open Go Go.Lft
set_option linter.unusedVariables false
set_option maxRecDepth 100000
namespace Go.Proofs.Pk
def jd8:Con:=⟨160,[.v ty84],[ty84],⟨[.v ty86],[]⟩,[ty86],fun h=>Pw.jaG h⟩
def joK:FnD where
 N:=8
 np:=1
 cs:=[jaX]
 ds:=[]
 modes:=[(234,[false])]
 ro:=[false]
 dw:=[(1,[[],[],[],[384],[],[128]])]
theorem jnx:Con.OK Tryz.prog jd8:=
 cOf j0n j04 joK jd8 Tryz.func160 (j9 jka trivial) trivial
def jaY:Con:=⟨86,[.v ty84],[ty84],⟨[.v ty86,.v .bool],[]⟩,[ty86,.bool],fun h=>Pw.jcX h⟩
def js6:FnD where
 N:=10
 np:=1
 cs:=[j94,jd8]
 ds:=[]
 modes:=[(99,[false]),(160,[false])]
 ro:=[false,false]
theorem jhh:Con.OK Tryz.prog jaY:=
 cOf j0n j04 js6 jaY Tryz.func86 (j9 jhX (j9 jnx trivial)) trivial
def j8f:Con:=⟨100,[.v ty84,.v iT],[ty84,iT],⟨[.v .bool],[]⟩,[.bool],Pw.unc2 Pw.jaH⟩
def jm0:FnD where
 N:=14
 np:=2
 cs:=[]
 ds:=[]
 ro:=[false]
theorem jf0:Con.OK Tryz.prog j8f:=
 cOf j0n j04 jm0 j8f Tryz.func100 trivial trivial
def jc2:Con:=⟨87,[.v iT,.v iT],[iT,iT],⟨[.v .bool],[]⟩,[.bool],Pw.unc2 Pw.jhd⟩
def jny:FnD where
 N:=26
 np:=2
 cs:=[]
 ds:=[]
 ro:=[false]
theorem jm1:Con.OK Tryz.prog jc2:=
 cOf j0n j04 jny jc2 Tryz.func87 trivial trivial
def j8g:Con:=⟨75,[.v ty84,.v iT,.v iT,.v iT],[ty84,iT,iT,iT],⟨[.v ty86,.v iT],[]⟩,[ty86,iT],Pw.unc4 Pw.j4X⟩
def jm2:FnD where
 N:=34
 np:=4
 cs:=[jaY,j8f,jc2]
 ds:=[]
 modes:=[(86,[false]),(87,[false,false]),(100,[false,false])]
 ro:=[false,false]
theorem jf1:Con.OK Tryz.prog j8g:=
 cOf j0n j04 jm2 j8g Tryz.func75 (j9 jhh (j9 jf0 (j9 jm1 trivial))) trivial
def j7W:Con:=⟨213,[.v (.list iT)],[(.list iT)],⟨[.own 3 (.list iT)],[]⟩,[(.list iT)],fun h=>Pw.j6Z h⟩
def jdC:FnD where
 N:=8
 np:=1
 cs:=[]
 ds:=[]
 ro:=[true]
theorem jd9:Con.OK Tryz.prog j7W:=
 jnj j0n j04 jdC 213 iT 3 Tryz.f213 (Tryz.f213.body.getD .skip) Tryz.func213 (by kernel_rfl) (by kernel_rfl) (Nat.le_of_ble_eq_true (by kernel_rfl)) (by kernel_rfl) trivial (by kernel_rfl)
  (fun h R k=>by kernel_rfl)
def j7D:Con:=⟨214,[.v iT,.ip [iT],.ip [iT]],[iT,iT,iT],⟨[.v .bool],[]⟩,[.bool],Pw.unc3 Pw.j9t⟩
def jkb:FnD where
 N:=13
 np:=3
 cs:=[]
 ds:=[]
 ro:=[false]
theorem je9:Con.OK Tryz.prog j7D:=
 cOf j0n j04 jkb j7D Tryz.func214 trivial trivial
def j3s:Con:=⟨303,[.rl 3 (.list iT),.clo 214 [.p [iT],.p [iT]]],[(.list iT),iT,iT],⟨[.v iT],[.rl (.list iT)]⟩,[iT,(.list iT)],Pw.unc3 Pw.j1D⟩
def j9V:FnD where
 N:=19
 np:=2
 cs:=[j7D]
 ds:=[⟨0,[.s (.one (.ol 0)),.s (.one (.clo 214 [.p [iT],.p [iT]])),sI,sI,.b (.lst 3 iT false)],[iT,iT,iT,iT,(.list iT)],[⟨.ret,[sI,.b (.lst 3 iT false)],[iT,(.list iT)]⟩,⟨.exit 0,[.b (.lst 3 iT false)],[(.list iT)]⟩],Pw.unc5 (Pw.j11)⟩]
 modes:=[(214,[false])]
 keep:=[(0,⟨[0,1,7,8],[0],[],[]⟩)]
 keepX:=[(0,.ret,⟨[4],[0],[],[]⟩),
  (0,.exit 0,⟨[],[0],[],[]⟩)]
 ro:=[false]
theorem j9E:Con.OK Tryz.prog j3s:=
 cOf j0n j04 j9V j3s Tryz.func303 (j9 je9 trivial) (j9 (fun h=>by kernel_rfl) trivial)
def j3U:Con:=⟨212,[.rl 3 (.list iT),.clo 214 [.p [iT],.p [iT]]],[(.list iT),iT,iT],⟨[.hd],[.rl (.list iT)]⟩,[iT,(.list iT)],Pw.unc3 Pw.j1r⟩
def jaZ:FnD where
 N:=42
 np:=2
 cs:=[j7D,j3s]
 ds:=[⟨0,[.s (.one (.ol 0)),.s (.one (.clo 214 [.p [iT],.p [iT]])),sI,sI,.b (.lst 3 iT false)],[iT,iT,iT,iT,(.list iT)],[⟨.exit 0,[.s (.one (.ol 0)),sI,.b (.lst 3 iT false)],[iT,(.list iT)]⟩],Pw.unc5 (Pw.j1j)⟩]
 modes:=[(214,[false]),(303,[true,false])]
 keep:=[(0,⟨[0,1,5,6],[0],[],[]⟩)]
 keepX:=[(0,.exit 0,⟨[0,5],[0],[],[]⟩)]
 ro:=[false]
 hd:=true
theorem jan:Con.OK Tryz.prog j3U:=
 cOf j0n j04 jaZ j3U Tryz.func212 (j9 je9 (j9 j9E trivial)) (j9 (fun h=>by kernel_rfl) trivial)
def j8h:Con:=⟨215,[.rl 3 (.list iT)],[(.list iT)],⟨[],[.rl (.list iT)]⟩,[(.list iT)],fun h=>Pw.j5E h⟩
def jnz:FnD where
 N:=11
 np:=1
 cs:=[]
 ds:=[]
theorem jdD:Con.OK Tryz.prog j8h:=
 js3 Tryz.sort215 3 (by kernel_rfl) 215 rfl
def j4x:Con:=⟨216,[.rl 3 (.list iT)],[(.list iT)],⟨[.hd],[.rl (.list iT)]⟩,[iT,(.list iT)],fun h=>Pw.j24 h⟩
def jcy:FnD where
 N:=61
 np:=1
 cs:=[]
 ds:=[⟨0,[.s (.one (.ol 0)),sI,.b (.lst 3 iT false)],[iT,(.list iT)],[⟨.ret,[.s (.one (.hd 0)),.b (.lst 3 iT false)],[iT,(.list iT)]⟩,⟨.exit 0,[.s (.one (.ol 0)),.b (.lst 3 iT false)],[(.list iT)]⟩],Pw.unc2 (Pw.j0F)⟩,
  ⟨2,[.s (.one (.ol 0)),sI,.s (.one (.tl 0)),sI,.b (.lst 3 iT false)],[iT,iT,iT,(.list iT)],[⟨.exit 2,[.s (.one (.ol 0)),sI,.b (.lst 3 iT false)],[iT,(.list iT)]⟩],Pw.unc4 (Pw.j1L)⟩]
 keep:=[(0,⟨[0,3],[0],[],[]⟩),
  (2,⟨[0,3,4,5],[0],[],[]⟩)]
 keepX:=[(0,.ret,⟨[2],[0],[],[]⟩),
  (0,.exit 0,⟨[0],[0],[],[]⟩),
  (2,.exit 2,⟨[0,3],[0],[],[]⟩)]
 ro:=[false]
 hd:=true
theorem jc3:Con.OK Tryz.prog j4x:=
 cOf j0n j04 jcy j4x Tryz.func216 trivial (j9 (fun h=>by kernel_rfl) (j9 (fun h=>by kernel_rfl) trivial))
def jda:Con:=⟨150,[.v (.list iT),.v iT,.v iT],[(.list iT),iT,iT],⟨[.own 3 (.list iT)],[]⟩,[(.list iT)],Pw.unc3 Pw.jaI⟩
def joL:FnD where
 N:=19
 np:=3
 cs:=[j7W,j3U,j8h,j4x]
 ds:=[]
 modes:=[(212,[true,false]),(213,[false]),(215,[true]),(216,[true])]
 ro:=[true]
 dw:=[(3,[[],[704,960],[],[1088],[960,1152],[]])]
theorem jnA:Con.OK Tryz.prog jda:=
 cOf j0n j04 joL jda Tryz.func150 (j9 jd9 (j9 jan (j9 jdD (j9 jc3 trivial)))) trivial
def j1n:Con:=⟨180,[.v ty73],[ty73],⟨[.clo 261 [.p [ty73]]],[]⟩,[ty73],fun h=>Pw.j12 h⟩
def j76:FnD where
 N:=4
 np:=1
 cs:=[]
 ds:=[]
 ro:=[false]
theorem j3M:Con.OK Tryz.prog j1n:=
 cOf j0n j04 j76 j1n Tryz.func180 trivial trivial
def j9h:Con:=⟨316,[.v ty72],[ty72],⟨[.v iT],[]⟩,[iT],fun h=>Pw.j8W h⟩
def jnB:FnD where
 N:=11
 np:=1
 cs:=[]
 ds:=[]
 ro:=[false]
theorem jgr:Con.OK Tryz.prog j9h:=
 cOf j0n j04 jnB j9h Tryz.func316 trivial trivial
def j5M:Con:=⟨328,[.v iT,.ip [iT,ty13],.ip [iT]],[iT,iT,ty13,iT],⟨[.v .bool],[]⟩,[.bool],Pw.unc4 Pw.j7I⟩
def jea:FnD where
 N:=13
 np:=3
 cs:=[]
 ds:=[]
 ro:=[false]
theorem jdE:Con.OK Tryz.prog j5M:=
 cOf j0n j04 jea j5M Tryz.func328 trivial trivial
def jb0:Con:=⟨327,[.v iT,.clo 328 [.p [iT,ty13],.p [iT]]],[iT,iT,ty13,iT],⟨[.v iT],[]⟩,[iT],Pw.unc4 Pw.j8X⟩
def jm3:FnD where
 N:=26
 np:=2
 cs:=[j5M]
 ds:=[⟨0,[.s (.one (.clo 328 [.p [iT,ty13],.p [iT]])),sI,sI],[iT,ty13,iT,iT,iT],[⟨.exit 0,[sI],[iT]⟩],Pw.unc5 (Pw.j3j)⟩]
 modes:=[(328,[false])]
 keep:=[(0,⟨[1,5,6],[],[],[]⟩)]
 keepX:=[(0,.exit 0,⟨[5],[],[],[]⟩)]
 ro:=[false]
theorem jkc:Con.OK Tryz.prog jb0:=
 cOf j0n j04 jm3 jb0 Tryz.func327 (j9 jdE trivial) (j9 (fun h=>by kernel_rfl) trivial)
def j5e:Con:=⟨271,[.v ty28,.v iT],[ty28,iT],⟨[.v iT],[]⟩,[iT],Pw.unc2 Pw.j3b⟩
def jgs:FnD where
 N:=10
 np:=2
 cs:=[jb0]
 ds:=[]
 modes:=[(327,[false,false])]
 ro:=[false]
theorem jb1:Con.OK Tryz.prog j5e:=
 cOf j0n j04 jgs j5e Tryz.func271 (j9 jkc trivial) trivial
def j4Q:Con:=⟨272,[.v ty28,.v iT],[ty28,iT],⟨[.v iT],[]⟩,[iT],Pw.unc2 Pw.j4g⟩
def jfy:FnD where
 N:=16
 np:=2
 cs:=[]
 ds:=[]
 ro:=[false]
theorem jae:Con.OK Tryz.prog j4Q:=
 cOf j0n j04 jfy j4Q Tryz.func272 trivial trivial
def j3H:Con:=⟨186,[.v ty28,.v iT,.v iT],[ty28,iT,iT],⟨[.own 251 ty26],[]⟩,[ty26],Pw.unc3 Pw.j1i⟩
def jfz:FnD where
 N:=41
 np:=3
 cs:=[j5e,j4Q]
 ds:=[⟨0,[sI,sI,.s (.one (.bp 192 0)),.s (.one (.ol 1000000)),.b (.cell [.d iT,.d ty13] false),.b (.lst 251 ty21 false)],[iT,iT,iT,ty13,ty26],[⟨.exit 0,[.s (.one (.ol 1500100)),.b (.lst 251 ty21 false)],[ty26]⟩],Pw.unc5 (Pw.j0p)⟩]
 modes:=[(271,[false,false]),(272,[false,false])]
 keep:=[(0,⟨[1,2,3,7],[192],[⟨1000000,251,ty21,[.slot 7],false⟩],[]⟩)]
 keepX:=[(0,.exit 0,⟨[7],[],[⟨1500100,251,ty21,[.slot 7],false⟩],[]⟩)]
 ro:=[true]
theorem j77:Con.OK Tryz.prog j3H:=
 cOf j0n j04 jfz j3H Tryz.func186 (j9 jb1 (j9 jae trivial)) (j9 (fun h=>by kernel_rfl) trivial)
def j9W:Con:=⟨317,[.v ty8],[ty8],⟨[.v iT],[]⟩,[iT],fun h=>Pw.j4b h⟩
def jkd:FnD where
 N:=11
 np:=1
 cs:=[]
 ds:=[]
 ro:=[false]
theorem jjs:Con.OK Tryz.prog j9W:=
 cOf j0n j04 jkd j9W Tryz.func317 trivial trivial
end Go.Proofs.Pk
