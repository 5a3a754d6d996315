/- Contracts: each given function is its plain function, printed by a program. -/
import Derived.Test.YtcegmhnnglcgeaaGreatHCon2
noncomputable section
open Go Go.Lft
set_option linter.unusedVariables false
set_option maxRecDepth 100000
namespace Go.Proofs.Pk
def jea:Con:=⟨54,[.v ty80],[ty80],⟨[.v ty82,.v .bool],[]⟩,[ty82,.bool],fun h=>Pw.jfg h⟩
def jsV:FnD where
 N:=10
 np:=1
 cs:=[j9i,je9]
 ds:=[]
 modes:=[(99,[false]),(100,[false])]
 ro:=[false,false]
theorem jmu:Con.OK Tryz.prog jea:=
 cOf j0c j00 jsV jea Tryz.func54 (j9 jjv (j9 joJ trivial)) trivial
def j9y:Con:=⟨60,[.v iT,.v iT],[iT,iT],⟨[.v .bool],[]⟩,[.bool],fun h=>Pw.jfZ h.1 h.2⟩
def joK:FnD where
 N:=26
 np:=2
 cs:=[]
 ds:=[]
 ro:=[false]
theorem jhY:Con.OK Tryz.prog j9y:=
 cOf j0c j00 joK j9y Tryz.func60 trivial trivial
def j6s:Con:=⟨65,[.v ty80,.v iT,.v iT,.v iT],[ty80,iT,iT,iT],⟨[.v ty82,.v iT],[]⟩,[ty82,iT],fun h=>Pw.j43 h.1 h.2.1 h.2.2.1 h.2.2.2⟩
def jno:FnD where
 N:=39
 np:=4
 cs:=[jea,j9y]
 ds:=[]
 modes:=[(54,[false]),(60,[false,false])]
 ro:=[false,false]
theorem jcS:Con.OK Tryz.prog j6s:=
 cOf j0c j00 jno j6s Tryz.func65 (j9 jmu (j9 jhY trivial)) trivial
def j82:Con:=⟨121,[.v (.list iT)],[(.list iT)],⟨[.own 3 (.list iT)],[]⟩,[(.list iT)],fun h=>Pw.jaI h⟩
def jeI:FnD where
 N:=8
 np:=1
 cs:=[]
 ds:=[]
 ro:=[true]
theorem jeb:Con.OK Tryz.prog j82:=
 jov j0c j00 jeI 121 iT 3 Tryz.f121 (Tryz.f121.body.getD .skip) Tryz.func121 (by kernel_rfl) (by kernel_rfl) (Nat.le_of_ble_eq_true (by kernel_rfl)) (by kernel_rfl) trivial (by kernel_rfl)
  (fun h R k=>by kernel_rfl)
def j7x:Con:=⟨122,[.v iT,.ip [iT],.ip [iT]],[iT,iT,iT],⟨[.v .bool],[]⟩,[.bool],fun h=>Pw.jfh h.1 h.2.1 h.2.2⟩
def jlG:FnD where
 N:=13
 np:=3
 cs:=[]
 ds:=[]
 ro:=[false]
theorem jfq:Con.OK Tryz.prog j7x:=
 cOf j0c j00 jlG j7x Tryz.func122 trivial trivial
def j39:Con:=⟨192,[.rl 3 (.list iT),.clo 122 [.p [iT],.p [iT]]],[(.list iT),iT,iT],⟨[.v iT],[.rl (.list iT)]⟩,[iT,(.list iT)],fun h=>Pw.j1O h.1 h.2.1 h.2.2⟩
def jas:FnD where
 N:=19
 np:=2
 cs:=[j7x]
 ds:=[⟨0,[.s (.one (.ol 0)),.s (.one (.clo 122 [.p [iT],.p [iT]])),sI,sI,.b (.lst 3 iT false)],[iT,iT,iT,iT,(.list iT)],[⟨.ret,[sI,.b (.lst 3 iT false)],[iT,(.list iT)]⟩,⟨.exit 0,[.b (.lst 3 iT false)],[(.list iT)]⟩],fun h=>Pw.j44 h.1 h.2.1 h.2.2.1 h.2.2.2.1 h.2.2.2.2⟩]
 modes:=[(122,[false])]
 keep:=[(0,⟨[0,1,7,8],[0],[],[]⟩)]
 keepX:=[(0,.ret,⟨[4],[0],[],[]⟩),
  (0,.exit 0,⟨[],[0],[],[]⟩)]
 ro:=[false]
theorem j9Z:Con.OK Tryz.prog j39:=
 cOf j0c j00 jas j39 Tryz.func192 (j9 jfq trivial) (j9 (fun h=>by kernel_rfl) trivial)
def j3z:Con:=⟨120,[.rl 3 (.list iT),.clo 122 [.p [iT],.p [iT]]],[(.list iT),iT,iT],⟨[.hd],[.rl (.list iT)]⟩,[iT,(.list iT)],fun h=>Pw.j27 h.1 h.2.1 h.2.2⟩
def jbN:FnD where
 N:=42
 np:=2
 cs:=[j7x,j39]
 ds:=[⟨0,[.s (.one (.ol 0)),.s (.one (.clo 122 [.p [iT],.p [iT]])),sI,sI,.b (.lst 3 iT false)],[iT,iT,iT,iT,(.list iT)],[⟨.exit 0,[.s (.one (.ol 0)),sI,.b (.lst 3 iT false)],[iT,(.list iT)]⟩],fun h=>Pw.j4q h.1 h.2.1 h.2.2.1 h.2.2.2.1 h.2.2.2.2⟩]
 modes:=[(122,[false]),(192,[true,false])]
 keep:=[(0,⟨[0,1,5,6],[0],[],[]⟩)]
 keepX:=[(0,.exit 0,⟨[0,5],[0],[],[]⟩)]
 ro:=[false]
 hd:=true
theorem jb0:Con.OK Tryz.prog j3z:=
 cOf j0c j00 jbN j3z Tryz.func120 (j9 jfq (j9 j9Z trivial)) (j9 (fun h=>by kernel_rfl) trivial)
def j7K:Con:=⟨179,[.v (.int .u64)],[(.int .u64)],⟨[.v iT],[]⟩,[iT],fun h=>Pw.jfi h⟩
def jiR:FnD where
 N:=25
 np:=1
 cs:=[]
 ds:=[]
 ro:=[false]
theorem jhZ:Con.OK Tryz.prog j7K:=
 cOf j0c j00 jiR j7K Tryz.func179 trivial trivial
def j9j:Con:=⟨109,[.v (.int .u64)],[(.int .u64)],⟨[.v iT],[]⟩,[iT],fun h=>Pw.jhK h⟩
def jkV:FnD where
 N:=8
 np:=1
 cs:=[j7K]
 ds:=[]
 modes:=[(179,[false])]
 ro:=[false]
theorem jjw:Con.OK Tryz.prog j9j:=
 cOf j0c j00 jkV j9j Tryz.func109 (j9 jhZ trivial) trivial
def j9k:Con:=⟨199,[.v iT],[iT],⟨[.v .bool],[]⟩,[.bool],fun h=>Pw.jdW h⟩
def jkW:FnD where
 N:=6
 np:=1
 cs:=[]
 ds:=[]
 ro:=[false]
theorem jjx:Con.OK Tryz.prog j9k:=
 cOf j0c j00 jkW j9k Tryz.func199 trivial trivial
def j7y:Con:=⟨133,[.v iT,.v iT],[iT,iT],⟨[.v .bool],[]⟩,[.bool],fun h=>Pw.jfj h.1 h.2⟩
def jlH:FnD where
 N:=17
 np:=2
 cs:=[j9k]
 ds:=[]
 modes:=[(199,[false])]
 ro:=[false]
theorem jfr:Con.OK Tryz.prog j7y:=
 cOf j0c j00 jlH j7y Tryz.func133 (j9 jjx trivial) trivial
def j2k:Con:=⟨238,[.rl 3 (.list iT),.v iT,.v iT],[(.list iT),iT,iT],⟨[],[.rl (.list iT)]⟩,[(.list iT)],fun h=>Pw.j1j h.1 h.2.1 h.2.2⟩
def j8s:FnD where
 N:=49
 np:=3
 cs:=[j7y]
 ds:=[⟨0,[.s (.one (.ol 0)),sI,sI,sI,.b (.lst 3 iT false)],[iT,iT,iT,(.list iT)],[⟨.exit 0,[.b (.lst 3 iT false)],[(.list iT)]⟩],fun h=>Pw.j0G h.1 h.2.1 h.2.2.1 h.2.2.2⟩,
  ⟨2,[.s (.one (.ol 0)),sI,sI,sI,sI,.b (.lst 3 iT false)],[iT,iT,iT,iT,(.list iT)],[⟨.exit 2,[.s (.one (.ol 0)),sI,sI,sI,.b (.lst 3 iT false)],[iT,iT,iT,(.list iT)]⟩],fun h=>Pw.j3g h.1 h.2.1 h.2.2.1 h.2.2.2.1 h.2.2.2.2⟩]
 modes:=[(133,[false,false])]
 keep:=[(0,⟨[0,1,2,6],[0],[],[]⟩),
  (2,⟨[0,1,2,6,7],[0],[],[]⟩)]
 keepX:=[(0,.exit 0,⟨[],[0],[],[]⟩),
  (2,.exit 2,⟨[0,1,2,6],[0],[],[]⟩)]
 dw:=[(6,[[],[],[],[],[],[],[],[],[],[],[],[],[],[],[],[0],[],[0]])]
theorem j83:Con.OK Tryz.prog j2k:=
 cOf j0c j00 j8s j2k Tryz.func238 (j9 jfr trivial) (j9 (fun h=>by kernel_rfl) (j9 (fun h=>by kernel_rfl) trivial))
def j3A:Con:=⟨193,[.rl 3 (.list iT),.v iT,.v iT,.v iT],[(.list iT),iT,iT,iT],⟨[],[.rl (.list iT)]⟩,[(.list iT)],fun h=>Pw.j28 h.1 h.2.1 h.2.2.1 h.2.2.2⟩
def jbO:FnD where
 N:=134
 np:=4
 cs:=[j2k]
 ds:=[⟨0,[.s (.one (.ol 0)),sI,sI,sI,.s (.one (.d .bool)),.s (.one (.d .bool)),.b (.lst 3 iT false)],[iT,iT,iT,.bool,.bool,(.list iT)],[⟨.ret,[.b (.lst 3 iT false)],[(.list iT)]⟩],fun h=>Pw.j17 h.1 h.2.1 h.2.2.1 h.2.2.2.1 h.2.2.2.2.1 h.2.2.2.2.2⟩]
 modes:=[(238,[true,false,false])]
 keep:=[(0,⟨[0,1,2,3,8,9],[0],[],[]⟩)]
 keepX:=[(0,.ret,⟨[],[0],[],[]⟩)]
theorem jb1:Con.OK Tryz.prog j3A:=
 cOf j0c j00 jbO j3A Tryz.func193 (j9 j83 trivial) (j9 (fun h=>by kernel_rfl) trivial)
def j5w:Con:=⟨123,[.rl 3 (.list iT)],[(.list iT)],⟨[],[.rl (.list iT)]⟩,[(.list iT)],fun h=>Pw.j45 h⟩
def jfs:FnD where
 N:=11
 np:=1
 cs:=[j9j,j3A]
 ds:=[]
 modes:=[(109,[false]),(193,[true,false,false,false])]
theorem jeJ:Con.OK Tryz.prog j5w:=
 cOf j0c j00 jfs j5w Tryz.func123 (j9 jjw (j9 jb1 trivial)) trivial
def j4g:Con:=⟨124,[.rl 3 (.list iT)],[(.list iT)],⟨[.hd],[.rl (.list iT)]⟩,[iT,(.list iT)],fun h=>Pw.j30 h⟩
def jdu:FnD where
 N:=61
 np:=1
 cs:=[]
 ds:=[⟨0,[.s (.one (.ol 0)),sI,.b (.lst 3 iT false)],[iT,(.list iT)],[⟨.ret,[.s (.one (.hd 0)),.b (.lst 3 iT false)],[iT,(.list iT)]⟩,⟨.exit 0,[.s (.one (.ol 0)),.b (.lst 3 iT false)],[(.list iT)]⟩],fun h=>Pw.j1r h.1 h.2⟩,
  ⟨2,[.s (.one (.ol 0)),sI,.s (.one (.tl 0)),sI,.b (.lst 3 iT false)],[iT,iT,iT,(.list iT)],[⟨.exit 2,[.s (.one (.ol 0)),sI,.b (.lst 3 iT false)],[iT,(.list iT)]⟩],fun h=>Pw.j5k h.1 h.2.1 h.2.2.1 h.2.2.2⟩]
 keep:=[(0,⟨[0,3],[0],[],[]⟩),
  (2,⟨[0,3,4,5],[0],[],[]⟩)]
 keepX:=[(0,.ret,⟨[2],[0],[],[]⟩),
  (0,.exit 0,⟨[0],[0],[],[]⟩),
  (2,.exit 2,⟨[0,3],[0],[],[]⟩)]
 ro:=[false]
 hd:=true
theorem jcT:Con.OK Tryz.prog j4g:=
 cOf j0c j00 jdu j4g Tryz.func124 trivial (j9 (fun h=>by kernel_rfl) (j9 (fun h=>by kernel_rfl) trivial))
def jb2:Con:=⟨88,[.v (.list iT),.v iT,.v iT],[(.list iT),iT,iT],⟨[.own 3 (.list iT)],[]⟩,[(.list iT)],fun h=>Pw.jdm h.1 h.2.1 h.2.2⟩
def jpN:FnD where
 N:=19
 np:=3
 cs:=[j82,j3z,j5w,j4g]
 ds:=[]
 modes:=[(120,[true,false]),(121,[false]),(123,[true]),(124,[true])]
 ro:=[true]
 dw:=[(3,[[],[704,960],[],[1088],[960,1152],[]])]
theorem jjn:Con.OK Tryz.prog jb2:=
 cOf j0c j00 jpN jb2 Tryz.func88 (j9 jeb (j9 jb0 (j9 jeJ (j9 jcT trivial)))) trivial
def j1Q:Con:=⟨125,[.v ty69],[ty69],⟨[.clo 194 [.p [ty69]]],[]⟩,[ty69],fun h=>Pw.j46 h⟩
def j72:FnD where
 N:=4
 np:=1
 cs:=[]
 ds:=[]
 ro:=[false]
theorem j6G:Con.OK Tryz.prog j1Q:=
 cOf j0c j00 j72 j1Q Tryz.func125 trivial trivial
def j9z:Con:=⟨224,[.v ty68],[ty68],⟨[.v iT],[]⟩,[iT],fun h=>Pw.jiP h⟩
def joL:FnD where
 N:=11
 np:=1
 cs:=[]
 ds:=[]
 ro:=[false]
theorem ji0:Con.OK Tryz.prog j9z:=
 cOf j0c j00 joL j9z Tryz.func224 trivial trivial
def j5x:Con:=⟨228,[.v iT,.ip [iT,ty12],.ip [iT]],[iT,iT,ty12,iT],⟨[.v .bool],[]⟩,[.bool],fun h=>Pw.j7D h.1 h.2.1 h.2.2.1 h.2.2.2⟩
def jft:FnD where
 N:=13
 np:=3
 cs:=[]
 ds:=[]
 ro:=[false]
theorem jeK:Con.OK Tryz.prog j5x:=
 cOf j0c j00 jft j5x Tryz.func228 trivial trivial
def jbP:Con:=⟨227,[.v iT,.clo 228 [.p [iT,ty12],.p [iT]]],[iT,iT,ty12,iT],⟨[.v iT],[]⟩,[iT],fun h=>Pw.j98 h.1 h.2.1 h.2.2.1 h.2.2.2⟩
def jnp:FnD where
 N:=26
 np:=2
 cs:=[j5x]
 ds:=[⟨0,[.s (.one (.clo 228 [.p [iT,ty12],.p [iT]])),sI,sI],[iT,ty12,iT,iT,iT],[⟨.exit 0,[sI],[iT]⟩],fun h=>Pw.j33 h.1 h.2.1 h.2.2.1 h.2.2.2.1 h.2.2.2.2⟩]
 modes:=[(228,[false])]
 keep:=[(0,⟨[1,5,6],[],[],[]⟩)]
 keepX:=[(0,.exit 0,⟨[5],[],[],[]⟩)]
 ro:=[false]
theorem jlI:Con.OK Tryz.prog jbP:=
 cOf j0c j00 jnp jbP Tryz.func227 (j9 jeK trivial) (j9 (fun h=>by kernel_rfl) trivial)
end Go.Proofs.Pk
