/- Contracts: each given function is its plain function, printed by a program. -/
import Derived.Test.YtcegmhnnglcgeaaGreatFCon2
noncomputable section
open Go Go.Lft
set_option linter.unusedVariables false
set_option maxRecDepth 100000
namespace Go.Proofs.Pk
def jbJ:Con:=⟨54,[.v ty80],[ty80],⟨[.v ty82,.v .bool],[]⟩,[ty82,.bool],fun h=>Pw.jfJ h⟩
def jog:FnD where
 N:=10
 np:=1
 cs:=[j7d,jbI]
 ds:=[]
 modes:=[(99,[false]),(100,[false])]
 ro:=[false,false]
theorem jiU:Con.OK Tryz.prog jbJ:=
 cOf j0c j01 jog jbJ Tryz.func54 (j6 jgf (j6 jkO trivial)) trivial
def j7s:Con:=⟨60,[.v iT,.v iT],[iT,iT],⟨[.v .bool],[]⟩,[.bool],fun h=>Pw.jfK h.1 h.2⟩
def jkP:FnD where
 N:=26
 np:=2
 cs:=[]
 ds:=[]
 ro:=[false]
theorem jf0:Con.OK Tryz.prog j7s:=
 cOf j0c j01 jkP j7s Tryz.func60 trivial trivial
def j4R:Con:=⟨65,[.v ty80,.v iT,.v iT,.v iT],[ty80,iT,iT,iT],⟨[.v ty82,.v iT],[]⟩,[ty82,iT],fun h=>Pw.j5V h.1 h.2.1 h.2.2.1 h.2.2.2⟩
def jjG:FnD where
 N:=39
 np:=4
 cs:=[jbJ,j7s]
 ds:=[]
 modes:=[(54,[false]),(60,[false,false])]
 ro:=[false,false]
theorem jay:Con.OK Tryz.prog j4R:=
 cOf j0c j01 jjG j4R Tryz.func65 (j6 jiU (j6 jf0 trivial)) trivial
def j6f:Con:=⟨121,[.v (.list iT)],[(.list iT)],⟨[.own 3 (.list iT)],[]⟩,[(.list iT)],fun h=>Pw.j8p h⟩
def jcf:FnD where
 N:=8
 np:=1
 cs:=[]
 ds:=[]
 ro:=[true]
theorem jbK:Con.OK Tryz.prog j6f:=
 jkA j0c j01 jcf 121 iT 3 Tryz.f121 (Tryz.f121.body.getD .skip) Tryz.func121 (by kernel_rfl) (by kernel_rfl) (Nat.le_of_ble_eq_true (by kernel_rfl)) (by kernel_rfl) trivial (by kernel_rfl)
  (fun h R k=>by kernel_rfl)
def j5N:Con:=⟨122,[.v iT,.ip [iT],.ip [iT]],[iT,iT,iT],⟨[.v .bool],[]⟩,[.bool],fun h=>Pw.jcN h.1 h.2.1 h.2.2⟩
def ji7:FnD where
 N:=13
 np:=3
 cs:=[]
 ds:=[]
 ro:=[false]
theorem jcW:Con.OK Tryz.prog j5N:=
 cOf j0c j01 ji7 j5N Tryz.func122 trivial trivial
def j27:Con:=⟨192,[.rl 3 (.list iT),.clo 122 [.p [iT],.p [iT]]],[(.list iT),iT,iT],⟨[.v iT],[.rl (.list iT)]⟩,[iT,(.list iT)],fun h=>Pw.j1a h.1 h.2.1 h.2.2⟩
def j88:FnD where
 N:=19
 np:=2
 cs:=[j5N]
 ds:=[⟨0,[.s (.one (.ol 0)),.s (.one (.clo 122 [.p [iT],.p [iT]])),sI,sI,.b (.lst 3 iT false)],[iT,iT,iT,iT,(.list iT)],[⟨.ret,[sI,.b (.lst 3 iT false)],[iT,(.list iT)]⟩,⟨.exit 0,[.b (.lst 3 iT false)],[(.list iT)]⟩],fun h=>Pw.j2Y h.1 h.2.1 h.2.2.1 h.2.2.2.1 h.2.2.2.2⟩]
 modes:=[(122,[false])]
 keep:=[(0,⟨[0,1,7,8],[0],[],[]⟩)]
 keepX:=[(0,.ret,⟨[4],[0],[],[]⟩),
  (0,.exit 0,⟨[],[0],[],[]⟩)]
 ro:=[false]
theorem j7J:Con.OK Tryz.prog j27:=
 cOf j0c j01 j88 j27 Tryz.func192 (j6 jcW trivial) (j6 (fun h=>by kernel_rfl) trivial)
def j2z:Con:=⟨120,[.rl 3 (.list iT),.clo 122 [.p [iT],.p [iT]]],[(.list iT),iT,iT],⟨[.hd],[.rl (.list iT)]⟩,[iT,(.list iT)],fun h=>Pw.j1o h.1 h.2.1 h.2.2⟩
def j9x:FnD where
 N:=42
 np:=2
 cs:=[j5N,j27]
 ds:=[⟨0,[.s (.one (.ol 0)),.s (.one (.clo 122 [.p [iT],.p [iT]])),sI,sI,.b (.lst 3 iT false)],[iT,iT,iT,iT,(.list iT)],[⟨.exit 0,[.s (.one (.ol 0)),sI,.b (.lst 3 iT false)],[iT,(.list iT)]⟩],fun h=>Pw.j3l h.1 h.2.1 h.2.2.1 h.2.2.2.1 h.2.2.2.2⟩]
 modes:=[(122,[false]),(192,[true,false])]
 keep:=[(0,⟨[0,1,5,6],[0],[],[]⟩)]
 keepX:=[(0,.exit 0,⟨[0,5],[0],[],[]⟩)]
 ro:=[false]
 hd:=true
theorem j8F:Con.OK Tryz.prog j2z:=
 cOf j0c j01 j9x j2z Tryz.func120 (j6 jcW (j6 j7J trivial)) (j6 (fun h=>by kernel_rfl) trivial)
def j62:Con:=⟨179,[.v (.int .u64)],[(.int .u64)],⟨[.v iT],[]⟩,[iT],fun h=>Pw.jcO h⟩
def jfN:FnD where
 N:=25
 np:=1
 cs:=[]
 ds:=[]
 ro:=[false]
theorem jf1:Con.OK Tryz.prog j62:=
 cOf j0c j01 jfN j62 Tryz.func179 trivial trivial
def j7e:Con:=⟨109,[.v (.int .u64)],[(.int .u64)],⟨[.v iT],[]⟩,[iT],fun h=>Pw.jeR h⟩
def jhx:FnD where
 N:=8
 np:=1
 cs:=[j62]
 ds:=[]
 modes:=[(179,[false])]
 ro:=[false]
theorem jgg:Con.OK Tryz.prog j7e:=
 cOf j0c j01 jhx j7e Tryz.func109 (j6 jf1 trivial) trivial
def j7f:Con:=⟨199,[.v iT],[iT],⟨[.v .bool],[]⟩,[.bool],fun h=>Pw.jbw h⟩
def jhy:FnD where
 N:=6
 np:=1
 cs:=[]
 ds:=[]
 ro:=[false]
theorem jgh:Con.OK Tryz.prog j7f:=
 cOf j0c j01 jhy j7f Tryz.func199 trivial trivial
def j5O:Con:=⟨133,[.v iT,.v iT],[iT,iT],⟨[.v .bool],[]⟩,[.bool],fun h=>Pw.jcP h.1 h.2⟩
def ji8:FnD where
 N:=17
 np:=2
 cs:=[j7f]
 ds:=[]
 modes:=[(199,[false])]
 ro:=[false]
theorem jcX:Con.OK Tryz.prog j5O:=
 cOf j0c j01 ji8 j5O Tryz.func133 (j6 jgh trivial) trivial
def j1v:Con:=⟨238,[.rl 3 (.list iT),.v iT,.v iT],[(.list iT),iT,iT],⟨[],[.rl (.list iT)]⟩,[(.list iT)],fun h=>Pw.j0N h.1 h.2.1 h.2.2⟩
def j6B:FnD where
 N:=49
 np:=3
 cs:=[j5O]
 ds:=[⟨0,[.s (.one (.ol 0)),sI,sI,sI,.b (.lst 3 iT false)],[iT,iT,iT,(.list iT)],[⟨.exit 0,[.b (.lst 3 iT false)],[(.list iT)]⟩],fun h=>Pw.j0l h.1 h.2.1 h.2.2.1 h.2.2.2⟩,
  ⟨2,[.s (.one (.ol 0)),sI,sI,sI,sI,.b (.lst 3 iT false)],[iT,iT,iT,iT,(.list iT)],[⟨.exit 2,[.s (.one (.ol 0)),sI,sI,sI,.b (.lst 3 iT false)],[iT,iT,iT,(.list iT)]⟩],fun h=>Pw.j2h h.1 h.2.1 h.2.2.1 h.2.2.2.1 h.2.2.2.2⟩]
 modes:=[(133,[false,false])]
 keep:=[(0,⟨[0,1,2,6],[0],[],[]⟩),
  (2,⟨[0,1,2,6,7],[0],[],[]⟩)]
 keepX:=[(0,.exit 0,⟨[],[0],[],[]⟩),
  (2,.exit 2,⟨[0,1,2,6],[0],[],[]⟩)]
 dw:=[(6,[[],[],[],[],[],[],[],[],[],[],[],[],[],[],[],[0],[],[0]])]
theorem j6g:Con.OK Tryz.prog j1v:=
 cOf j0c j01 j6B j1v Tryz.func238 (j6 jcX trivial) (j6 (fun h=>by kernel_rfl) (j6 (fun h=>by kernel_rfl) trivial))
def j2A:Con:=⟨193,[.rl 3 (.list iT),.v iT,.v iT,.v iT],[(.list iT),iT,iT,iT],⟨[],[.rl (.list iT)]⟩,[(.list iT)],fun h=>Pw.j1p h.1 h.2.1 h.2.2.1 h.2.2.2⟩
def j9y:FnD where
 N:=134
 np:=4
 cs:=[j1v]
 ds:=[⟨0,[.s (.one (.ol 0)),sI,sI,sI,.s (.one (.d .bool)),.s (.one (.d .bool)),.b (.lst 3 iT false)],[iT,iT,iT,.bool,.bool,(.list iT)],[⟨.ret,[.b (.lst 3 iT false)],[(.list iT)]⟩],fun h=>Pw.j0B h.1 h.2.1 h.2.2.1 h.2.2.2.1 h.2.2.2.2.1 h.2.2.2.2.2⟩]
 modes:=[(238,[true,false,false])]
 keep:=[(0,⟨[0,1,2,3,8,9],[0],[],[]⟩)]
 keepX:=[(0,.ret,⟨[],[0],[],[]⟩)]
theorem j8G:Con.OK Tryz.prog j2A:=
 cOf j0c j01 j9y j2A Tryz.func193 (j6 j6g trivial) (j6 (fun h=>by kernel_rfl) trivial)
def j4b:Con:=⟨123,[.rl 3 (.list iT)],[(.list iT)],⟨[],[.rl (.list iT)]⟩,[(.list iT)],fun h=>Pw.j2Z h⟩
def jcY:FnD where
 N:=11
 np:=1
 cs:=[j7e,j2A]
 ds:=[]
 modes:=[(109,[false]),(193,[true,false,false,false])]
theorem jcg:Con.OK Tryz.prog j4b:=
 cOf j0c j01 jcY j4b Tryz.func123 (j6 jgg (j6 j8G trivial)) trivial
def j3a:Con:=⟨124,[.rl 3 (.list iT)],[(.list iT)],⟨[.hd],[.rl (.list iT)]⟩,[iT,(.list iT)],fun h=>Pw.j20 h⟩
def jb7:FnD where
 N:=61
 np:=1
 cs:=[]
 ds:=[⟨0,[.s (.one (.ol 0)),sI,.b (.lst 3 iT false)],[iT,(.list iT)],[⟨.ret,[.s (.one (.hd 0)),.b (.lst 3 iT false)],[iT,(.list iT)]⟩,⟨.exit 0,[.s (.one (.ol 0)),.b (.lst 3 iT false)],[(.list iT)]⟩],fun h=>Pw.j0U h.1 h.2⟩,
  ⟨2,[.s (.one (.ol 0)),sI,.s (.one (.tl 0)),sI,.b (.lst 3 iT false)],[iT,iT,iT,(.list iT)],[⟨.exit 2,[.s (.one (.ol 0)),sI,.b (.lst 3 iT false)],[iT,(.list iT)]⟩],fun h=>Pw.j43 h.1 h.2.1 h.2.2.1 h.2.2.2⟩]
 keep:=[(0,⟨[0,3],[0],[],[]⟩),
  (2,⟨[0,3,4,5],[0],[],[]⟩)]
 keepX:=[(0,.ret,⟨[2],[0],[],[]⟩),
  (0,.exit 0,⟨[0],[0],[],[]⟩),
  (2,.exit 2,⟨[0,3],[0],[],[]⟩)]
 ro:=[false]
 hd:=true
theorem jaz:Con.OK Tryz.prog j3a:=
 cOf j0c j01 jb7 j3a Tryz.func124 trivial (j6 (fun h=>by kernel_rfl) (j6 (fun h=>by kernel_rfl) trivial))
def j8H:Con:=⟨88,[.v (.list iT),.v iT,.v iT],[(.list iT),iT,iT],⟨[.own 3 (.list iT)],[]⟩,[(.list iT)],fun h=>Pw.jb1 h.1 h.2.1 h.2.2⟩
def jlF:FnD where
 N:=19
 np:=3
 cs:=[j6f,j2z,j4b,j3a]
 ds:=[]
 modes:=[(120,[true,false]),(121,[false]),(123,[true]),(124,[true])]
 ro:=[true]
 dw:=[(3,[[],[704,960],[],[1088],[960,1152],[]])]
theorem jg9:Con.OK Tryz.prog j8H:=
 cOf j0c j01 jlF j8H Tryz.func88 (j6 jbK (j6 j8F (j6 jcg (j6 jaz trivial)))) trivial
def j1c:Con:=⟨125,[.v ty69],[ty69],⟨[.clo 194 [.p [ty69]]],[]⟩,[ty69],fun h=>Pw.j30 h⟩
def j5j:FnD where
 N:=4
 np:=1
 cs:=[]
 ds:=[]
 ro:=[false]
theorem j51:Con.OK Tryz.prog j1c:=
 cOf j0c j01 j5j j1c Tryz.func125 trivial trivial
def j7t:Con:=⟨224,[.v ty68],[ty68],⟨[.v iT],[]⟩,[iT],fun h=>Pw.jfL h⟩
def jkQ:FnD where
 N:=11
 np:=1
 cs:=[]
 ds:=[]
 ro:=[false]
theorem jf2:Con.OK Tryz.prog j7t:=
 cOf j0c j01 jkQ j7t Tryz.func224 trivial trivial
def j4c:Con:=⟨228,[.v iT,.ip [iT,ty12],.ip [iT]],[iT,iT,ty12,iT],⟨[.v .bool],[]⟩,[.bool],fun h=>Pw.j95 h.1 h.2.1 h.2.2.1 h.2.2.2⟩
def jcZ:FnD where
 N:=13
 np:=3
 cs:=[]
 ds:=[]
 ro:=[false]
theorem jch:Con.OK Tryz.prog j4c:=
 cOf j0c j01 jcZ j4c Tryz.func228 trivial trivial
def j9z:Con:=⟨227,[.v iT,.clo 228 [.p [iT,ty12],.p [iT]]],[iT,iT,ty12,iT],⟨[.v iT],[]⟩,[iT],fun h=>Pw.j97 h.1 h.2.1 h.2.2.1 h.2.2.2⟩
def jjH:FnD where
 N:=26
 np:=2
 cs:=[j4c]
 ds:=[⟨0,[.s (.one (.clo 228 [.p [iT,ty12],.p [iT]])),sI,sI],[iT,ty12,iT,iT,iT],[⟨.exit 0,[sI],[iT]⟩],fun h=>Pw.j96 h.1 h.2.1 h.2.2.1 h.2.2.2.1 h.2.2.2.2⟩]
 modes:=[(228,[false])]
 keep:=[(0,⟨[1,5,6],[],[],[]⟩)]
 keepX:=[(0,.exit 0,⟨[5],[],[],[]⟩)]
 ro:=[false]
theorem ji9:Con.OK Tryz.prog j9z:=
 cOf j0c j01 jjH j9z Tryz.func227 (j6 jch trivial) (j6 (fun h=>by kernel_rfl) trivial)
end Go.Proofs.Pk
