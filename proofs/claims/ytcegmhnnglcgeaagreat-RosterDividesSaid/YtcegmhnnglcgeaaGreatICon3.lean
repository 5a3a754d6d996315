/- Contracts: each given function is its plain function, printed by a program. -/
import Derived.Test.YtcegmhnnglcgeaaGreatICon2
noncomputable section
open Go Go.Lft
set_option linter.unusedVariables false
set_option maxRecDepth 100000
namespace Go.Proofs.Pk
def jdF:Con:=⟨100,[.v ty80],[ty80],⟨[.v ty82],[]⟩,[ty82],fun h=>Pw.jb8 h⟩
def jpx:FnD where
 N:=8
 np:=1
 cs:=[jbr]
 ds:=[]
 modes:=[(158,[false])]
 ro:=[false]
 dw:=[(1,[[],[],[],[384],[],[128]])]
theorem jol:Con.OK Tryz.prog jdF:=
 cOf j0i j03 jpx jdF Tryz.func100 (j9 jl2 trivial) trivial
def jbs:Con:=⟨54,[.v ty80],[ty80],⟨[.v ty82,.v .bool],[]⟩,[ty82,.bool],fun h=>Pw.jdu h⟩
def jt9:FnD where
 N:=10
 np:=1
 cs:=[j9s,jdF]
 ds:=[]
 modes:=[(99,[false]),(100,[false])]
 ro:=[false,false]
theorem ji0:Con.OK Tryz.prog jbs:=
 cOf j0i j03 jt9 jbs Tryz.func54 (j9 jiJ (j9 jol trivial)) trivial
def j8y:Con:=⟨87,[.v ty80,.v iT],[ty80,iT],⟨[.v .bool],[]⟩,[.bool],fun h=>Pw.jb9 h.1 h.2⟩
def jmQ:FnD where
 N:=14
 np:=2
 cs:=[]
 ds:=[]
 ro:=[false]
theorem jfH:Con.OK Tryz.prog j8y:=
 cOf j0i j03 jmQ j8y Tryz.func87 trivial trivial
def jcy:Con:=⟨60,[.v iT,.v iT],[iT,iT],⟨[.v .bool],[]⟩,[.bool],fun h=>Pw.jhX h.1 h.2⟩
def jom:FnD where
 N:=26
 np:=2
 cs:=[]
 ds:=[]
 ro:=[false]
theorem jmR:Con.OK Tryz.prog jcy:=
 cOf j0i j03 jom jcy Tryz.func60 trivial trivial
def j8z:Con:=⟨45,[.v ty80,.v iT,.v iT,.v iT],[ty80,iT,iT,iT],⟨[.v ty82,.v iT],[]⟩,[ty82,iT],fun h=>Pw.j5R h.1 h.2.1 h.2.2.1 h.2.2.2⟩
def jmS:FnD where
 N:=34
 np:=4
 cs:=[jbs,j8y,jcy]
 ds:=[]
 modes:=[(54,[false]),(60,[false,false]),(87,[false,false])]
 ro:=[false,false]
theorem jfI:Con.OK Tryz.prog j8z:=
 cOf j0i j03 jmS j8z Tryz.func45 (j9 ji0 (j9 jfH (j9 jmR trivial))) trivial
def j8g:Con:=⟨121,[.v (.list iT)],[(.list iT)],⟨[.own 3 (.list iT)],[]⟩,[(.list iT)],fun h=>Pw.j7h h⟩
def jeb:FnD where
 N:=8
 np:=1
 cs:=[]
 ds:=[]
 ro:=[true]
theorem jdG:Con.OK Tryz.prog j8g:=
 jo8 j0i j03 jeb 121 iT 3 Tryz.f121 (Tryz.f121.body.getD .skip) Tryz.func121 (by kernel_rfl) (by kernel_rfl) (Nat.le_of_ble_eq_true (by kernel_rfl)) (by kernel_rfl) trivial (by kernel_rfl)
  (fun h R k=>by kernel_rfl)
def j7V:Con:=⟨122,[.v iT,.ip [iT],.ip [iT]],[iT,iT,iT],⟨[.v .bool],[]⟩,[.bool],fun h=>Pw.j9T h.1 h.2.1 h.2.2⟩
def jl3:FnD where
 N:=13
 np:=3
 cs:=[]
 ds:=[]
 ro:=[false]
theorem jeL:Con.OK Tryz.prog j7V:=
 cOf j0i j03 jl3 j7V Tryz.func122 trivial trivial
def j3D:Con:=⟨192,[.rl 3 (.list iT),.clo 122 [.p [iT],.p [iT]]],[(.list iT),iT,iT],⟨[.v iT],[.rl (.list iT)]⟩,[iT,(.list iT)],fun h=>Pw.j1L h.1 h.2.1 h.2.2⟩
def jal:FnD where
 N:=19
 np:=2
 cs:=[j7V]
 ds:=[⟨0,[.s (.one (.ol 0)),.s (.one (.clo 122 [.p [iT],.p [iT]])),sI,sI,.b (.lst 3 iT false)],[iT,iT,iT,iT,(.list iT)],[⟨.ret,[sI,.b (.lst 3 iT false)],[iT,(.list iT)]⟩,⟨.exit 0,[.b (.lst 3 iT false)],[(.list iT)]⟩],fun h=>Pw.j1a h.1 h.2.1 h.2.2.1 h.2.2.2.1 h.2.2.2.2⟩]
 modes:=[(122,[false])]
 keep:=[(0,⟨[0,1,7,8],[0],[],[]⟩)]
 keepX:=[(0,.ret,⟨[4],[0],[],[]⟩),
  (0,.exit 0,⟨[],[0],[],[]⟩)]
 ro:=[false]
theorem ja4:Con.OK Tryz.prog j3D:=
 cOf j0i j03 jal j3D Tryz.func192 (j9 jeL trivial) (j9 (fun h=>by kernel_rfl) trivial)
def j46:Con:=⟨120,[.rl 3 (.list iT),.clo 122 [.p [iT],.p [iT]]],[(.list iT),iT,iT],⟨[.hd],[.rl (.list iT)]⟩,[iT,(.list iT)],fun h=>Pw.j1x h.1 h.2.1 h.2.2⟩
def jbt:FnD where
 N:=42
 np:=2
 cs:=[j7V,j3D]
 ds:=[⟨0,[.s (.one (.ol 0)),.s (.one (.clo 122 [.p [iT],.p [iT]])),sI,sI,.b (.lst 3 iT false)],[iT,iT,iT,iT,(.list iT)],[⟨.exit 0,[.s (.one (.ol 0)),sI,.b (.lst 3 iT false)],[iT,(.list iT)]⟩],fun h=>Pw.j1r h.1 h.2.1 h.2.2.1 h.2.2.2.1 h.2.2.2.2⟩]
 modes:=[(122,[false]),(192,[true,false])]
 keep:=[(0,⟨[0,1,5,6],[0],[],[]⟩)]
 keepX:=[(0,.exit 0,⟨[0,5],[0],[],[]⟩)]
 ro:=[false]
 hd:=true
theorem jaL:Con.OK Tryz.prog j46:=
 cOf j0i j03 jbt j46 Tryz.func120 (j9 jeL (j9 ja4 trivial)) (j9 (fun h=>by kernel_rfl) trivial)
def j83:Con:=⟨179,[.v (.int .u64)],[(.int .u64)],⟨[.v iT],[]⟩,[iT],fun h=>Pw.jeF h⟩
def ji1:FnD where
 N:=25
 np:=1
 cs:=[]
 ds:=[]
 ro:=[false]
theorem jh8:Con.OK Tryz.prog j83:=
 cOf j0i j03 ji1 j83 Tryz.func179 trivial trivial
def j9t:Con:=⟨109,[.v (.int .u64)],[(.int .u64)],⟨[.v iT],[]⟩,[iT],fun h=>Pw.jdv h⟩
def jka:FnD where
 N:=8
 np:=1
 cs:=[j83]
 ds:=[]
 modes:=[(179,[false])]
 ro:=[false]
theorem jiK:Con.OK Tryz.prog j9t:=
 cOf j0i j03 jka j9t Tryz.func109 (j9 jh8 trivial) trivial
def j9u:Con:=⟨199,[.v iT],[iT],⟨[.v .bool],[]⟩,[.bool],fun h=>Pw.jaG h⟩
def jkb:FnD where
 N:=6
 np:=1
 cs:=[]
 ds:=[]
 ro:=[false]
theorem jiL:Con.OK Tryz.prog j9u:=
 cOf j0i j03 jkb j9u Tryz.func199 trivial trivial
def j7W:Con:=⟨133,[.v iT,.v iT],[iT,iT],⟨[.v .bool],[]⟩,[.bool],fun h=>Pw.j9U h.1 h.2⟩
def jl4:FnD where
 N:=17
 np:=2
 cs:=[j9u]
 ds:=[]
 modes:=[(199,[false])]
 ro:=[false]
theorem jeM:Con.OK Tryz.prog j7W:=
 cOf j0i j03 jl4 j7W Tryz.func133 (j9 jiL trivial) trivial
def j2X:Con:=⟨238,[.rl 3 (.list iT),.v iT,.v iT],[(.list iT),iT,iT],⟨[],[.rl (.list iT)]⟩,[(.list iT)],fun h=>Pw.j0S h.1 h.2.1 h.2.2⟩
def j8A:FnD where
 N:=49
 np:=3
 cs:=[j7W]
 ds:=[⟨0,[.s (.one (.ol 0)),sI,sI,sI,.b (.lst 3 iT false)],[iT,iT,iT,(.list iT)],[⟨.exit 0,[.b (.lst 3 iT false)],[(.list iT)]⟩],fun h=>Pw.j0h h.1 h.2.1 h.2.2.1 h.2.2.2⟩,
  ⟨2,[.s (.one (.ol 0)),sI,sI,sI,sI,.b (.lst 3 iT false)],[iT,iT,iT,iT,(.list iT)],[⟨.exit 2,[.s (.one (.ol 0)),sI,sI,sI,.b (.lst 3 iT false)],[iT,iT,iT,(.list iT)]⟩],fun h=>Pw.j0Z h.1 h.2.1 h.2.2.1 h.2.2.2.1 h.2.2.2.2⟩]
 modes:=[(133,[false,false])]
 keep:=[(0,⟨[0,1,2,6],[0],[],[]⟩),
  (2,⟨[0,1,2,6,7],[0],[],[]⟩)]
 keepX:=[(0,.exit 0,⟨[],[0],[],[]⟩),
  (2,.exit 2,⟨[0,1,2,6],[0],[],[]⟩)]
 dw:=[(6,[[],[],[],[],[],[],[],[],[],[],[],[],[],[],[],[0],[],[0]])]
theorem j8h:Con.OK Tryz.prog j2X:=
 cOf j0i j03 j8A j2X Tryz.func238 (j9 jeM trivial) (j9 (fun h=>by kernel_rfl) (j9 (fun h=>by kernel_rfl) trivial))
def j47:Con:=⟨193,[.rl 3 (.list iT),.v iT,.v iT,.v iT],[(.list iT),iT,iT,iT],⟨[],[.rl (.list iT)]⟩,[(.list iT)],fun h=>Pw.j1y h.1 h.2.1 h.2.2.1 h.2.2.2⟩
def jbu:FnD where
 N:=134
 np:=4
 cs:=[j2X]
 ds:=[⟨0,[.s (.one (.ol 0)),sI,sI,sI,.s (.one (.d .bool)),.s (.one (.d .bool)),.b (.lst 3 iT false)],[iT,iT,iT,.bool,.bool,(.list iT)],[⟨.ret,[.b (.lst 3 iT false)],[(.list iT)]⟩],fun h=>Pw.j0H h.1 h.2.1 h.2.2.1 h.2.2.2.1 h.2.2.2.2.1 h.2.2.2.2.2⟩]
 modes:=[(238,[true,false,false])]
 keep:=[(0,⟨[0,1,2,3,8,9],[0],[],[]⟩)]
 keepX:=[(0,.ret,⟨[],[0],[],[]⟩)]
theorem jaM:Con.OK Tryz.prog j47:=
 cOf j0i j03 jbu j47 Tryz.func193 (j9 j8h trivial) (j9 (fun h=>by kernel_rfl) trivial)
def j5Z:Con:=⟨123,[.rl 3 (.list iT)],[(.list iT)],⟨[],[.rl (.list iT)]⟩,[(.list iT)],fun h=>Pw.j2T h⟩
def jeN:FnD where
 N:=11
 np:=1
 cs:=[j9t,j47]
 ds:=[]
 modes:=[(109,[false]),(193,[true,false,false,false])]
theorem jec:Con.OK Tryz.prog j5Z:=
 cOf j0i j03 jeN j5Z Tryz.func123 (j9 jiK (j9 jaM trivial)) trivial
def j4J:Con:=⟨124,[.rl 3 (.list iT)],[(.list iT)],⟨[.hd],[.rl (.list iT)]⟩,[iT,(.list iT)],fun h=>Pw.j2d h⟩
def jd6:FnD where
 N:=61
 np:=1
 cs:=[]
 ds:=[⟨0,[.s (.one (.ol 0)),sI,.b (.lst 3 iT false)],[iT,(.list iT)],[⟨.ret,[.s (.one (.hd 0)),.b (.lst 3 iT false)],[iT,(.list iT)]⟩,⟨.exit 0,[.s (.one (.ol 0)),.b (.lst 3 iT false)],[(.list iT)]⟩],fun h=>Pw.j0G h.1 h.2⟩,
  ⟨2,[.s (.one (.ol 0)),sI,.s (.one (.tl 0)),sI,.b (.lst 3 iT false)],[iT,iT,iT,(.list iT)],[⟨.exit 2,[.s (.one (.ol 0)),sI,.b (.lst 3 iT false)],[iT,(.list iT)]⟩],fun h=>Pw.j1T h.1 h.2.1 h.2.2.1 h.2.2.2⟩]
 keep:=[(0,⟨[0,3],[0],[],[]⟩),
  (2,⟨[0,3,4,5],[0],[],[]⟩)]
 keepX:=[(0,.ret,⟨[2],[0],[],[]⟩),
  (0,.exit 0,⟨[0],[0],[],[]⟩),
  (2,.exit 2,⟨[0,3],[0],[],[]⟩)]
 ro:=[false]
 hd:=true
theorem jcz:Con.OK Tryz.prog j4J:=
 cOf j0i j03 jd6 j4J Tryz.func124 trivial (j9 (fun h=>by kernel_rfl) (j9 (fun h=>by kernel_rfl) trivial))
def jdH:Con:=⟨88,[.v (.list iT),.v iT,.v iT],[(.list iT),iT,iT],⟨[.own 3 (.list iT)],[]⟩,[(.list iT)],fun h=>Pw.jba h.1 h.2.1 h.2.2⟩
def jpy:FnD where
 N:=19
 np:=3
 cs:=[j8g,j46,j5Z,j4J]
 ds:=[]
 modes:=[(120,[true,false]),(121,[false]),(123,[true]),(124,[true])]
 ro:=[true]
 dw:=[(3,[[],[704,960],[],[1088],[960,1152],[]])]
theorem jon:Con.OK Tryz.prog jdH:=
 cOf j0i j03 jpy jdH Tryz.func88 (j9 jdG (j9 jaL (j9 jec (j9 jcz trivial)))) trivial
def j1u:Con:=⟨125,[.v ty69],[ty69],⟨[.clo 194 [.p [ty69]]],[]⟩,[ty69],fun h=>Pw.j1b h⟩
def j7o:FnD where
 N:=4
 np:=1
 cs:=[]
 ds:=[]
 ro:=[false]
theorem j3Y:Con.OK Tryz.prog j1u:=
 cOf j0i j03 j7o j1u Tryz.func125 trivial trivial
def j9I:Con:=⟨224,[.v ty68],[ty68],⟨[.v iT],[]⟩,[iT],fun h=>Pw.j9k h⟩
def joo:FnD where
 N:=11
 np:=1
 cs:=[]
 ds:=[]
 ro:=[false]
theorem jh9:Con.OK Tryz.prog j9I:=
 cOf j0i j03 joo j9I Tryz.func224 trivial trivial
end Go.Proofs.Pk
