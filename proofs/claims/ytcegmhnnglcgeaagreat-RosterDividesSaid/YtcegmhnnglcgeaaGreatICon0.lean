/- Contracts: each given function is its plain function, printed by a program. -/
import Derived.Test.YtcegmhnnglcgeaaGreatITab
import Derived.Test.YtcegmhnnglcgeaaGreatISrt
noncomputable section
open Go Go.Lft
set_option linter.unusedVariables false
set_option maxRecDepth 100000
namespace Go.Proofs.Pk
abbrev ty7:Ty:=(.pair iT iT)
abbrev ty12:Ty:=(.list ty7)
abbrev ty20:Ty:=(.pair iT ty7)
abbrev ty22:Ty:=(.pair .str (.pair iT (.list iT)))
abbrev ty25:Ty:=(.pair iT ty12)
abbrev ty24:Ty:=(.list ty20)
abbrev ty26:Ty:=(.list ty22)
abbrev ty29:Ty:=(.list ty25)
abbrev ty38:Ty:=(.pair iT (.pair iT ty20))
abbrev ty40:Ty:=(.list ty38)
abbrev ty49:Ty:=(.pair .str (.pair iT (.pair ty12 (.pair iT (.pair iT .bool)))))
abbrev ty51:Ty:=(.pair iT (.pair iT ty38))
abbrev ty52:Ty:=(.list ty49)
abbrev ty54:Ty:=(.list ty51)
abbrev ty61:Ty:=(.pair .str (.pair iT ty54))
abbrev ty62:Ty:=(.list ty61)
abbrev ty68:Ty:=(.pair .str (.pair iT (.pair ty7 (.pair iT (.pair iT (.pair (.list iT) (.pair ty12 ty7)))))))
abbrev ty69:Ty:=(.list ty68)
abbrev ty73:Ty:=(.pair .str (.pair ty69 ty40))
abbrev ty74:Ty:=(.list ty73)
abbrev ty80:Ty:=(.pair ty62 (.pair ty52 (.pair ty26 ty74)))
abbrev ty82:Ty:=(.pair ty80 ty29)
def jcp:Con:=⟨9,[.v (.list iT)],[(.list iT)],⟨[.v .bool],[]⟩,[.bool],fun h=>Pw.jhV h⟩
def job:FnD where
 N:=6
 np:=1
 cs:=[]
 ds:=[]
 ro:=[false]
theorem jmD:Con.OK Tryz.prog jcp:=
 cOf j0i j03 job jcp Tryz.func9 trivial trivial
def jbh:Con:=⟨82,[],[],⟨[.so [(some 91,ty62),(some 93,ty52),(some 156,ty26),(some 45,ty74)]],[]⟩,[ty62,ty52,ty26,ty74],fun h=>Pw.jk0⟩
def jmE:FnD where
 N:=26
 np:=0
 cs:=[]
 ds:=[]
 ro:=[true]
 so:=[.own 91 ty61,.own 93 ty49,.own 156 ty22,.own 45 ty73]
theorem jkV:Con.OK Tryz.prog jbh:=
 cOf j0i j03 jmE jbh Tryz.func82 trivial trivial
def j9q:Con:=⟨37,[],[],⟨[.v ty80],[]⟩,[ty80],fun h=>Pw.jgX⟩
def jk3:FnD where
 N:=11
 np:=0
 cs:=[jbh]
 ds:=[]
 modes:=[(82,[])]
 ro:=[false]
theorem jiH:Con.OK Tryz.prog j9q:=
 cOf j0i j03 jk3 j9q Tryz.func37 (j9 jkV trivial) trivial
def j7i:Con:=⟨146,[.v ty61],[ty61],⟨[.v .str],[]⟩,[.str],fun h=>Pw.jaa h⟩
def jh0:FnD where
 N:=5
 np:=1
 cs:=[]
 ds:=[]
 ro:=[false]
theorem jg4:Con.OK Tryz.prog j7i:=
 cOf j0i j03 jh0 j7i Tryz.func146 trivial trivial
def jbi:Con:=⟨268,[.v (.int .u8)],[(.int .u8)],⟨[.v .bool],[]⟩,[.bool],fun h=>Pw.jg1 h⟩
def jmF:FnD where
 N:=9
 np:=1
 cs:=[]
 ds:=[]
 ro:=[false]
theorem jkW:Con.OK Tryz.prog jbi:=
 cOf j0i j03 jmF jbi Tryz.func268 trivial trivial
def jbj:Con:=⟨269,[.v (.int .u8)],[(.int .u8)],⟨[.v .bool],[]⟩,[.bool],fun h=>Pw.jk1 h⟩
def jmG:FnD where
 N:=9
 np:=1
 cs:=[]
 ds:=[]
 ro:=[false]
theorem jkX:Con.OK Tryz.prog jbj:=
 cOf j0i j03 jmG jbj Tryz.func269 trivial trivial
def jcq:Con:=⟨211,[.v .str],[.str],⟨[.v .bool],[]⟩,[.bool],fun h=>Pw.j8c h⟩
def joc:FnD where
 N:=43
 np:=1
 cs:=[jbi,jbj]
 ds:=[⟨0,[.s (.one (.d .str)),sI,sI],[.str,iT,iT],[⟨.ret,[.s (.one (.d .bool))],[.bool]⟩,⟨.exit 0,[],[]⟩],fun h=>Pw.jc4 h.1 h.2.1 h.2.2⟩]
 modes:=[(268,[false]),(269,[false])]
 keep:=[(0,⟨[0,19,20],[],[],[]⟩)]
 keepX:=[(0,.ret,⟨[2],[],[],[]⟩),
  (0,.exit 0,⟨[],[],[],[]⟩)]
 ro:=[false]
theorem jmH:Con.OK Tryz.prog jcq:=
 cOf j0i j03 joc jcq Tryz.func211 (j9 jkW (j9 jkX trivial)) (j9 (fun h=>by kernel_rfl) trivial)
def j44:Con:=⟨148,[.v .str,.rl 4294967504 (.list (.pair .str .bool))],[.str,(.list (.pair .str .bool))],⟨[.v iT],[.rl (.list (.pair .str .bool))]⟩,[iT,(.list (.pair .str .bool))],fun h=>Pw.j3L h.1 h.2⟩
def jkY:FnD where
 N:=13
 np:=2
 cs:=[jcq]
 ds:=[]
 modes:=[(211,[false])]
 ro:=[false]
theorem j6O:Con.OK Tryz.prog j44:=
 cOf j0i j03 jkY j44 Tryz.func148 (j9 jmH trivial) trivial
def jbk:Con:=⟨288,[.v iT,.v iT,.v iT],[iT,iT,iT],⟨[.v .bool],[]⟩,[.bool],fun h=>Pw.jab h.1 h.2.1 h.2.2⟩
def jt7:FnD where
 N:=15
 np:=3
 cs:=[]
 ds:=[]
 ro:=[false]
theorem jhZ:Con.OK Tryz.prog jbk:=
 cOf j0i j03 jt7 jbk Tryz.func288 trivial trivial
def jdy:Con:=⟨297,[.v ty51],[ty51],⟨[.v iT],[]⟩,[iT],fun h=>Pw.jeD h⟩
def jpv:FnD where
 N:=45
 np:=1
 cs:=[jbk]
 ds:=[]
 modes:=[(288,[false,false,false])]
 ro:=[false]
theorem jod:Con.OK Tryz.prog jdy:=
 cOf j0i j03 jpv jdy Tryz.func297 (j9 jhZ trivial) trivial
def jcr:Con:=⟨302,[.v iT],[iT],⟨[.v .bool],[]⟩,[.bool],fun h=>Pw.jhW h⟩
def joe:FnD where
 N:=16
 np:=1
 cs:=[]
 ds:=[]
 ro:=[false]
theorem jmI:Con.OK Tryz.prog jcr:=
 cOf j0i j03 joe jcr Tryz.func302 trivial trivial
def j6j:Con:=⟨291,[.v iT,.v iT],[iT,iT],⟨[.v iT],[]⟩,[iT],fun h=>Pw.j6Y h.1 h.2⟩
def jof:FnD where
 N:=24
 np:=2
 cs:=[jcr]
 ds:=[]
 modes:=[(302,[false])]
 ro:=[false]
theorem jaI:Con.OK Tryz.prog j6j:=
 cOf j0i j03 jof j6j Tryz.func291 (j9 jmI trivial) trivial
def jbl:Con:=⟨305,[.v ty20],[ty20],⟨[.v .bool],[]⟩,[.bool],fun h=>Pw.jb4 h⟩
def jmJ:FnD where
 N:=26
 np:=1
 cs:=[j6j]
 ds:=[]
 modes:=[(291,[false,false])]
 ro:=[false]
theorem jkZ:Con.OK Tryz.prog jbl:=
 cOf j0i j03 jmJ jbl Tryz.func305 (j9 jaI trivial) trivial
def j8w:Con:=⟨301,[.v iT,.v iT],[iT,iT],⟨[.v iT],[]⟩,[iT],fun h=>Pw.j7Z h.1 h.2⟩
def jmK:FnD where
 N:=16
 np:=2
 cs:=[]
 ds:=[]
 ro:=[false]
theorem jfG:Con.OK Tryz.prog j8w:=
 cOf j0i j03 jmK j8w Tryz.func301 trivial trivial
def j6P:Con:=⟨289,[.v iT],[iT],⟨[.v iT],[]⟩,[iT],fun h=>Pw.j5a h⟩
def jmL:FnD where
 N:=19
 np:=1
 cs:=[j8w]
 ds:=[]
 modes:=[(301,[false,false])]
 ro:=[false]
theorem jcs:Con.OK Tryz.prog j6P:=
 cOf j0i j03 jmL j6P Tryz.func289 (j9 jfG trivial) trivial
def jaf:Con:=⟨306,[.v ty20],[ty20],⟨[.v iT],[]⟩,[iT],fun h=>Pw.j6E h⟩
def jl0:FnD where
 N:=25
 np:=1
 cs:=[j6j,j6P]
 ds:=[⟨0,[.s (.one (.bp 64 0)),sI,sI,.b (.cell [.d iT,.d iT,.d iT] false)],[iT,iT,iT,iT,iT],[⟨.exit 0,[sI],[iT]⟩],fun h=>Pw.j49 h.1 h.2.1 h.2.2.1 h.2.2.2.1 h.2.2.2.2⟩]
 modes:=[(289,[false]),(291,[false,false])]
 keep:=[(0,⟨[1,3,4],[64],[],[]⟩)]
 keepX:=[(0,.exit 0,⟨[3],[],[],[]⟩)]
 ro:=[false]
theorem jk4:Con.OK Tryz.prog jaf:=
 cOf j0i j03 jl0 jaf Tryz.func306 (j9 jaI (j9 jcs trivial)) (j9 (fun h=>by kernel_rfl) trivial)
def j74:Con:=⟨113,[.v iT],[iT],⟨[.v iT],[]⟩,[iT],fun h=>Pw.j6Z h⟩
def jk5:FnD where
 N:=7
 np:=1
 cs:=[]
 ds:=[]
 ro:=[false]
theorem je3:Con.OK Tryz.prog j74:=
 cOf j0i j03 jk5 j74 Tryz.func113 trivial trivial
def jdz:Con:=⟨298,[.v iT,.v iT,.v iT,.v iT],[iT,iT,iT,iT],⟨[.v iT,.v iT],[]⟩,[iT,iT],fun h=>Pw.jb5 h.1 h.2.1 h.2.2.1 h.2.2.2⟩
def jpw:FnD where
 N:=59
 np:=4
 cs:=[j6j,jbl,jaf,j74]
 ds:=[]
 modes:=[(113,[false]),(291,[false,false]),(305,[false]),(306,[false])]
 ro:=[false,false]
theorem jog:Con.OK Tryz.prog jdz:=
 cOf j0i j03 jpw jdz Tryz.func298 (j9 jaI (j9 jkZ (j9 jk4 (j9 je3 trivial)))) trivial
def j5X:Con:=⟨300,[.v ty7,.v ty7],[ty7,ty7],⟨[.v iT],[]⟩,[iT],fun h=>Pw.j80 h.1 h.2⟩
def jeI:FnD where
 N:=10
 np:=2
 cs:=[]
 ds:=[]
 ro:=[false]
theorem je8:Con.OK Tryz.prog j5X:=
 cOf j0i j03 jeI j5X Tryz.func300 trivial trivial
def j1B:Con:=⟨308,[.rl 322 ty12,.v iT,.v iT,.clo 300 []],[ty12,iT,iT],⟨[],[.rl ty12]⟩,[ty12],fun h=>Pw.j0d h.1 h.2.1 h.2.2⟩
def j5F:FnD where
 N:=53
 np:=4
 cs:=[j5X]
 ds:=[⟨0,[.s (.one (.ol 0)),sI,sI,.s (.one (.clo 300 [])),sI,.b (.lst 322 ty7 false)],[iT,iT,iT,ty12],[⟨.exit 0,[.b (.lst 322 ty7 false)],[ty12]⟩],fun h=>Pw.j08 h.1 h.2.1 h.2.2.1 h.2.2.2⟩,
  ⟨2,[.s (.one (.ol 0)),sI,sI,.s (.one (.clo 300 [])),sI,sI,.b (.lst 322 ty7 false)],[iT,iT,iT,iT,ty12],[⟨.exit 2,[.s (.one (.ol 0)),sI,sI,.s (.one (.clo 300 [])),sI,.b (.lst 322 ty7 false)],[iT,iT,iT,ty12]⟩],fun h=>Pw.j0p h.1 h.2.1 h.2.2.1 h.2.2.2.1 h.2.2.2.2⟩]
 modes:=[(300,[false,false])]
 keep:=[(0,⟨[0,1,2,3,8],[0],[],[]⟩),
  (2,⟨[0,1,2,3,8,9],[0],[],[]⟩)]
 keepX:=[(0,.exit 0,⟨[],[0],[],[]⟩),
  (2,.exit 2,⟨[0,1,2,3,8],[0],[],[]⟩)]
 dw:=[(6,[[],[],[],[],[],[],[],[],[],[],[],[],[],[],[],[0],[],[0]])]
theorem j5m:Con.OK Tryz.prog j1B:=
 cOf j0i j03 j5F j1B Tryz.func308 (j9 je8 trivial) (j9 (fun h=>by kernel_rfl) (j9 (fun h=>by kernel_rfl) trivial))
end Go.Proofs.Pk
