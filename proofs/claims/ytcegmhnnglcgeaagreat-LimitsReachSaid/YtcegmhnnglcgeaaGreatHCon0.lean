/- Contracts: each given function is its plain function, printed by a program. -/
import Derived.Test.YtcegmhnnglcgeaaGreatHTab
import Derived.Test.YtcegmhnnglcgeaaGreatHSrt
noncomputable section
open Go Go.Lft
set_option linter.unusedVariables false
set_option maxRecDepth 100000
namespace Go.Proofs.Pk
abbrev ty3:Ty:=(.list (.list iT))
abbrev ty7:Ty:=(.pair iT iT)
abbrev ty12:Ty:=(.list ty7)
abbrev ty20:Ty:=(.pair iT ty7)
abbrev ty22:Ty:=(.pair .str (.pair iT (.list iT)))
abbrev ty25:Ty:=(.pair iT ty12)
abbrev ty24:Ty:=(.list ty20)
abbrev ty26:Ty:=(.list ty22)
abbrev ty29:Ty:=(.list ty25)
abbrev ty28:Ty:=(.list ty24)
abbrev ty38:Ty:=(.pair iT (.pair iT ty20))
abbrev ty40:Ty:=(.list ty38)
abbrev ty49:Ty:=(.pair .str (.pair iT (.pair ty12 (.pair iT (.pair iT .bool)))))
abbrev ty51:Ty:=(.pair iT (.pair iT ty38))
abbrev ty52:Ty:=(.list ty49)
abbrev ty54:Ty:=(.list ty51)
abbrev ty61:Ty:=(.pair .str (.pair iT ty54))
abbrev ty62:Ty:=(.list ty61)
abbrev ty68:Ty:=(.pair .str (.pair iT (.pair ty7 (.pair iT (.pair iT (.pair (.list iT) (.pair ty12 ty7)))))))
abbrev ty69:Ty:=(.list ty68)
abbrev ty73:Ty:=(.pair .str (.pair ty69 ty40))
abbrev ty74:Ty:=(.list ty73)
abbrev ty80:Ty:=(.pair ty62 (.pair ty52 (.pair ty26 ty74)))
abbrev ty82:Ty:=(.pair ty80 ty29)
def jcJ:Con:=⟨9,[.v (.list iT)],[(.list iT)],⟨[.v .bool],[]⟩,[.bool],fun h=>Pw.jiN h⟩
def joz:FnD where
 N:=6
 np:=1
 cs:=[]
 ds:=[]
 ro:=[false]
theorem jnb:Con.OK Tryz.prog jcJ:=
 cOf j0c j00 joz jcJ Tryz.func9 trivial trivial
def jbC:Con:=⟨32,[.v iT,.v iT,.v .bool],[iT,iT,.bool],⟨[.so [(some 91,ty62),(some 93,ty52),(some 156,ty26),(some 45,ty74)]],[]⟩,[ty62,ty52,ty26,ty74],fun h=>Pw.jkL h.1 h.2.1 h.2.2⟩
def jnc:FnD where
 N:=26
 np:=3
 cs:=[]
 ds:=[]
 ro:=[true]
 so:=[.own 91 ty61,.own 93 ty49,.own 156 ty22,.own 45 ty73]
theorem jly:Con.OK Tryz.prog jbC:=
 cOf j0c j00 jnc jbC Tryz.func32 trivial trivial
def j6W:Con:=⟨146,[.v ty61],[ty61],⟨[.v .str],[]⟩,[.str],fun h=>Pw.jab h⟩
def jhQ:FnD where
 N:=5
 np:=1
 cs:=[]
 ds:=[]
 ro:=[false]
theorem jgL:Con.OK Tryz.prog j6W:=
 cOf j0c j00 jhQ j6W Tryz.func146 trivial trivial
def jbD:Con:=⟨268,[.v (.int .u8)],[(.int .u8)],⟨[.v .bool],[]⟩,[.bool],fun h=>Pw.jgK h⟩
def jnd:FnD where
 N:=9
 np:=1
 cs:=[]
 ds:=[]
 ro:=[false]
theorem jlz:Con.OK Tryz.prog jbD:=
 cOf j0c j00 jnd jbD Tryz.func268 trivial trivial
def jbE:Con:=⟨269,[.v (.int .u8)],[(.int .u8)],⟨[.v .bool],[]⟩,[.bool],fun h=>Pw.jkM h⟩
def jne:FnD where
 N:=9
 np:=1
 cs:=[]
 ds:=[]
 ro:=[false]
theorem jlA:Con.OK Tryz.prog jbE:=
 cOf j0c j00 jne jbE Tryz.func269 trivial trivial
def jcK:Con:=⟨211,[.v .str],[.str],⟨[.v .bool],[]⟩,[.bool],fun h=>Pw.j7W h⟩
def joA:FnD where
 N:=43
 np:=1
 cs:=[jbD,jbE]
 ds:=[⟨0,[.s (.one (.d .str)),sI,sI],[.str,iT,iT],[⟨.ret,[.s (.one (.d .bool))],[.bool]⟩,⟨.exit 0,[],[]⟩],fun h=>Pw.jcs h.1 h.2.1 h.2.2⟩]
 modes:=[(268,[false]),(269,[false])]
 keep:=[(0,⟨[0,19,20],[],[],[]⟩)]
 keepX:=[(0,.ret,⟨[2],[],[],[]⟩),
  (0,.exit 0,⟨[],[],[],[]⟩)]
 ro:=[false]
theorem jnf:Con.OK Tryz.prog jcK:=
 cOf j0c j00 joA jcK Tryz.func211 (j9 jlz (j9 jlA trivial)) (j9 (fun h=>by kernel_rfl) trivial)
def j3x:Con:=⟨148,[.v .str,.rl 4294967504 (.list (.pair .str .bool))],[.str,(.list (.pair .str .bool))],⟨[.v iT],[.rl (.list (.pair .str .bool))]⟩,[iT,(.list (.pair .str .bool))],fun h=>Pw.j3e h.1 h.2⟩
def jlB:FnD where
 N:=13
 np:=2
 cs:=[jcK]
 ds:=[]
 modes:=[(211,[false])]
 ro:=[false]
theorem j6m:Con.OK Tryz.prog j3x:=
 cOf j0c j00 jlB j3x Tryz.func148 (j9 jnf trivial) trivial
def jbF:Con:=⟨288,[.v iT,.v iT,.v iT],[iT,iT,iT],⟨[.v .bool],[]⟩,[.bool],fun h=>Pw.jac h.1 h.2.1 h.2.2⟩
def jsT:FnD where
 N:=15
 np:=3
 cs:=[]
 ds:=[]
 ro:=[false]
theorem jiQ:Con.OK Tryz.prog jbF:=
 cOf j0c j00 jsT jbF Tryz.func288 trivial trivial
def je2:Con:=⟨297,[.v ty51],[ty51],⟨[.v iT],[]⟩,[iT],fun h=>Pw.jfe h⟩
def jpK:FnD where
 N:=45
 np:=1
 cs:=[jbF]
 ds:=[]
 modes:=[(288,[false,false,false])]
 ro:=[false]
theorem joB:Con.OK Tryz.prog je2:=
 cOf j0c j00 jpK je2 Tryz.func297 (j9 jiQ trivial) trivial
def jcL:Con:=⟨302,[.v iT],[iT],⟨[.v .bool],[]⟩,[.bool],fun h=>Pw.jiO h⟩
def joC:FnD where
 N:=16
 np:=1
 cs:=[]
 ds:=[]
 ro:=[false]
theorem jng:Con.OK Tryz.prog jcL:=
 cOf j0c j00 joC jcL Tryz.func302 trivial trivial
def j5T:Con:=⟨291,[.v iT,.v iT],[iT,iT],⟨[.v iT],[]⟩,[iT],fun h=>Pw.j6z h.1 h.2⟩
def joD:FnD where
 N:=24
 np:=2
 cs:=[jcL]
 ds:=[]
 modes:=[(302,[false])]
 ro:=[false]
theorem jaX:Con.OK Tryz.prog j5T:=
 cOf j0c j00 joD j5T Tryz.func291 (j9 jng trivial) trivial
def jbG:Con:=⟨305,[.v ty20],[ty20],⟨[.v .bool],[]⟩,[.bool],fun h=>Pw.jbi h⟩
def jnh:FnD where
 N:=26
 np:=1
 cs:=[j5T]
 ds:=[]
 modes:=[(291,[false,false])]
 ro:=[false]
theorem jlC:Con.OK Tryz.prog jbG:=
 cOf j0c j00 jnh jbG Tryz.func305 (j9 jaX trivial) trivial
def j8q:Con:=⟨301,[.v iT,.v iT],[iT,iT],⟨[.v iT],[]⟩,[iT],fun h=>Pw.j7B h.1 h.2⟩
def jni:FnD where
 N:=16
 np:=2
 cs:=[]
 ds:=[]
 ro:=[false]
theorem jgp:Con.OK Tryz.prog j8q:=
 cOf j0c j00 jni j8q Tryz.func301 trivial trivial
def j6n:Con:=⟨289,[.v iT],[iT],⟨[.v iT],[]⟩,[iT],fun h=>Pw.j69 h⟩
def jnj:FnD where
 N:=19
 np:=1
 cs:=[j8q]
 ds:=[]
 modes:=[(301,[false,false])]
 ro:=[false]
theorem jcM:Con.OK Tryz.prog j6n:=
 cOf j0c j00 jnj j6n Tryz.func289 (j9 jgp trivial) trivial
def jam:Con:=⟨306,[.v ty20],[ty20],⟨[.v iT],[]⟩,[iT],fun h=>Pw.j6a h⟩
def jlD:FnD where
 N:=25
 np:=1
 cs:=[j5T,j6n]
 ds:=[⟨0,[.s (.one (.bp 64 0)),sI,sI,.b (.cell [.d iT,.d iT,.d iT] false)],[iT,iT,iT,iT,iT],[⟨.exit 0,[sI],[iT]⟩],fun h=>Pw.j3B h.1 h.2.1 h.2.2.1 h.2.2.2.1 h.2.2.2.2⟩]
 modes:=[(289,[false]),(291,[false,false])]
 keep:=[(0,⟨[1,3,4],[64],[],[]⟩)]
 keepX:=[(0,.exit 0,⟨[3],[],[],[]⟩)]
 ro:=[false]
theorem jkP:Con.OK Tryz.prog jam:=
 cOf j0c j00 jlD jam Tryz.func306 (j9 jaX (j9 jcM trivial)) (j9 (fun h=>by kernel_rfl) trivial)
def j6E:Con:=⟨113,[.v iT],[iT],⟨[.v iT],[]⟩,[iT],fun h=>Pw.j5p h⟩
def jkQ:FnD where
 N:=7
 np:=1
 cs:=[]
 ds:=[]
 ro:=[false]
theorem jeA:Con.OK Tryz.prog j6E:=
 cOf j0c j00 jkQ j6E Tryz.func113 trivial trivial
def je3:Con:=⟨298,[.v iT,.v iT,.v iT,.v iT],[iT,iT,iT,iT],⟨[.v iT,.v iT],[]⟩,[iT,iT],fun h=>Pw.jbj h.1 h.2.1 h.2.2.1 h.2.2.2⟩
def jpL:FnD where
 N:=59
 np:=4
 cs:=[j5T,jbG,jam,j6E]
 ds:=[]
 modes:=[(113,[false]),(291,[false,false]),(305,[false]),(306,[false])]
 ro:=[false,false]
theorem joE:Con.OK Tryz.prog je3:=
 cOf j0c j00 jpL je3 Tryz.func298 (j9 jaX (j9 jlC (j9 jkP (j9 jeA trivial)))) trivial
def j5u:Con:=⟨300,[.v ty7,.v ty7],[ty7,ty7],⟨[.v iT],[]⟩,[iT],fun h=>Pw.j7C h.1 h.2⟩
def jfn:FnD where
 N:=10
 np:=2
 cs:=[]
 ds:=[]
 ro:=[false]
theorem jeF:Con.OK Tryz.prog j5u:=
 cOf j0c j00 jfn j5u Tryz.func300 trivial trivial
def j1c:Con:=⟨308,[.rl 322 ty12,.v iT,.v iT,.clo 300 []],[ty12,iT,iT],⟨[],[.rl ty12]⟩,[ty12],fun h=>Pw.j0b h.1 h.2.1 h.2.2⟩
def j58:FnD where
 N:=53
 np:=4
 cs:=[j5u]
 ds:=[⟨0,[.s (.one (.ol 0)),sI,sI,.s (.one (.clo 300 [])),sI,.b (.lst 322 ty7 false)],[iT,iT,iT,ty12],[⟨.exit 0,[.b (.lst 322 ty7 false)],[ty12]⟩],fun h=>Pw.j08 h.1 h.2.1 h.2.2.1 h.2.2.2⟩,
  ⟨2,[.s (.one (.ol 0)),sI,sI,.s (.one (.clo 300 [])),sI,sI,.b (.lst 322 ty7 false)],[iT,iT,iT,iT,ty12],[⟨.exit 2,[.s (.one (.ol 0)),sI,sI,.s (.one (.clo 300 [])),sI,.b (.lst 322 ty7 false)],[iT,iT,iT,ty12]⟩],fun h=>Pw.j0n h.1 h.2.1 h.2.2.1 h.2.2.2.1 h.2.2.2.2⟩]
 modes:=[(300,[false,false])]
 keep:=[(0,⟨[0,1,2,3,8],[0],[],[]⟩),
  (2,⟨[0,1,2,3,8,9],[0],[],[]⟩)]
 keepX:=[(0,.exit 0,⟨[],[0],[],[]⟩),
  (2,.exit 2,⟨[0,1,2,3,8],[0],[],[]⟩)]
 dw:=[(6,[[],[],[],[],[],[],[],[],[],[],[],[],[],[],[],[0],[],[0]])]
theorem j4W:Con.OK Tryz.prog j1c:=
 cOf j0c j00 j58 j1c Tryz.func308 (j9 jeF trivial) (j9 (fun h=>by kernel_rfl) (j9 (fun h=>by kernel_rfl) trivial))
def j1E:Con:=⟨307,[.rl 322 ty12,.v iT,.clo 300 []],[ty12,iT],⟨[],[.rl ty12]⟩,[ty12],fun h=>Pw.j0C h.1 h.2⟩
def j6F:FnD where
 N:=63
 np:=3
 cs:=[j1c]
 ds:=[⟨0,[.s (.one (.ol 0)),sI,.s (.one (.clo 300 [])),sI,sI,sI,.b (.lst 322 ty7 false)],[iT,iT,iT,iT,ty12],[⟨.exit 0,[.s (.one (.ol 0)),sI,.s (.one (.clo 300 [])),sI,sI,.b (.lst 322 ty7 false)],[iT,iT,iT,ty12]⟩],fun h=>Pw.j0e h.1 h.2.1 h.2.2.1 h.2.2.2.1 h.2.2.2.2⟩,
  ⟨2,[.s (.one (.ol 0)),sI,.s (.one (.clo 300 [])),sI,.b (.lst 322 ty7 false)],[iT,iT,ty12],[⟨.exit 2,[.b (.lst 322 ty7 false)],[ty12]⟩],fun h=>Pw.j0f h.1 h.2.1 h.2.2⟩,
  ⟨4,[.s (.one (.ol 0)),sI,.s (.one (.clo 300 [])),sI,sI,sI,.b (.lst 322 ty7 false)],[iT,iT,iT,iT,ty12],[⟨.exit 4,[.s (.one (.ol 0)),sI,.s (.one (.clo 300 [])),sI,sI,.b (.lst 322 ty7 false)],[iT,iT,iT,ty12]⟩],fun h=>Pw.j2E h.1 h.2.1 h.2.2.1 h.2.2.2.1 h.2.2.2.2⟩]
 modes:=[(308,[true,false,false,false])]
 keep:=[(0,⟨[0,1,2,6,7,8],[0],[],[]⟩),
  (2,⟨[0,1,2,6],[0],[],[]⟩),
  (4,⟨[0,1,2,6,7,8],[0],[],[]⟩)]
 keepX:=[(0,.exit 0,⟨[0,1,2,6,7],[0],[],[]⟩),
  (2,.exit 2,⟨[],[0],[],[]⟩),
  (4,.exit 4,⟨[0,1,2,6,7],[0],[],[]⟩)]
theorem j6o:Con.OK Tryz.prog j1E:=
 cOf j0c j00 j6F j1E Tryz.func307 (j9 j4W trivial) (j9 (fun h=>by kernel_rfl) (j9 (fun h=>by kernel_rfl) (j9 (fun h=>by kernel_rfl) trivial)))
end Go.Proofs.Pk
