/- Contracts: each given function is its plain function, printed by a program. -/
import Derived.Test.YtcegmhnnglcgeaaGreatFTab
import Derived.Test.YtcegmhnnglcgeaaGreatFSrt
noncomputable section
open Go Go.Lft
set_option linter.unusedVariables false
set_option maxRecDepth 100000
namespace Go.Proofs.Pk
abbrev ty3:Ty:=(.list (.list iT))
abbrev ty7:Ty:=(.pair iT iT)
abbrev ty12:Ty:=(.list ty7)
abbrev ty20:Ty:=(.pair iT ty7)
abbrev ty22:Ty:=(.pair .str (.pair iT (.list iT)))
abbrev ty25:Ty:=(.pair iT ty12)
abbrev ty24:Ty:=(.list ty20)
abbrev ty26:Ty:=(.list ty22)
abbrev ty29:Ty:=(.list ty25)
abbrev ty28:Ty:=(.list ty24)
abbrev ty38:Ty:=(.pair iT (.pair iT ty20))
abbrev ty40:Ty:=(.list ty38)
abbrev ty49:Ty:=(.pair .str (.pair iT (.pair ty12 (.pair iT (.pair iT .bool)))))
abbrev ty51:Ty:=(.pair iT (.pair iT ty38))
abbrev ty52:Ty:=(.list ty49)
abbrev ty54:Ty:=(.list ty51)
abbrev ty61:Ty:=(.pair .str (.pair iT ty54))
abbrev ty62:Ty:=(.list ty61)
abbrev ty68:Ty:=(.pair .str (.pair iT (.pair ty7 (.pair iT (.pair iT (.pair (.list iT) (.pair ty12 ty7)))))))
abbrev ty69:Ty:=(.list ty68)
abbrev ty73:Ty:=(.pair .str (.pair ty69 ty40))
abbrev ty74:Ty:=(.list ty73)
abbrev ty80:Ty:=(.pair ty62 (.pair ty52 (.pair ty26 ty74)))
abbrev ty82:Ty:=(.pair ty80 ty29)
def jcS:Con:=⟨16,[.v iT,.v iT],[iT,iT],⟨[.v iT],[]⟩,[iT],fun h=>Pw.jeQ h.1 h.2⟩
def jmT:FnD where
 N:=12
 np:=2
 cs:=[]
 ds:=[]
 ro:=[false]
theorem jlB:Con.OK Tryz.prog jcS:=
 cOf j0c j01 jmT jcS Tryz.func16 trivial trivial
def j6y:Con:=⟨32,[.v iT,.v iT,.v .bool],[iT,iT,.bool],⟨[.so [(some 91,ty62),(some 93,ty52),(some 156,ty26),(some 45,ty74)]],[]⟩,[ty62,ty52,ty26,ty74],fun h=>Pw.j74 h.1 h.2.1 h.2.2⟩
def jju:FnD where
 N:=26
 np:=3
 cs:=[]
 ds:=[]
 ro:=[true]
 so:=[.own 91 ty61,.own 93 ty49,.own 156 ty22,.own 45 ty73]
theorem jdC:Con.OK Tryz.prog j6y:=
 cOf j0c j01 jju j6y Tryz.func32 trivial trivial
def j5d:Con:=⟨146,[.v ty61],[ty61],⟨[.v .str],[]⟩,[.str],fun h=>Pw.jc3 h⟩
def jeS:FnD where
 N:=5
 np:=1
 cs:=[]
 ds:=[]
 ro:=[false]
theorem jdY:Con.OK Tryz.prog j5d:=
 cOf j0c j01 jeS j5d Tryz.func146 trivial trivial
def j9n:Con:=⟨268,[.v (.int .u8)],[(.int .u8)],⟨[.v .bool],[]⟩,[.bool],fun h=>Pw.jdW h⟩
def jjv:FnD where
 N:=9
 np:=1
 cs:=[]
 ds:=[]
 ro:=[false]
theorem ji0:Con.OK Tryz.prog j9n:=
 cOf j0c j01 jjv j9n Tryz.func268 trivial trivial
def j9o:Con:=⟨269,[.v (.int .u8)],[(.int .u8)],⟨[.v .bool],[]⟩,[.bool],fun h=>Pw.jhn h⟩
def jjw:FnD where
 N:=9
 np:=1
 cs:=[]
 ds:=[]
 ro:=[false]
theorem ji1:Con.OK Tryz.prog j9o:=
 cOf j0c j01 jjw j9o Tryz.func269 trivial trivial
def jaq:Con:=⟨211,[.v .str],[.str],⟨[.v .bool],[]⟩,[.bool],fun h=>Pw.jaY h⟩
def jkF:FnD where
 N:=43
 np:=1
 cs:=[j9n,j9o]
 ds:=[⟨0,[.s (.one (.d .str)),sI,sI],[.str,iT,iT],[⟨.ret,[.s (.one (.d .bool))],[.bool]⟩,⟨.exit 0,[],[]⟩],fun h=>Pw.jaa h.1 h.2.1 h.2.2⟩]
 modes:=[(268,[false]),(269,[false])]
 keep:=[(0,⟨[0,19,20],[],[],[]⟩)]
 keepX:=[(0,.ret,⟨[2],[],[],[]⟩),
  (0,.exit 0,⟨[],[],[],[]⟩)]
 ro:=[false]
theorem jjx:Con.OK Tryz.prog jaq:=
 cOf j0c j01 jkF jaq Tryz.func211 (j6 ji0 (j6 ji1 trivial)) (j6 (fun h=>by kernel_rfl) trivial)
def j2x:Con:=⟨148,[.v .str,.rl 4294967504 (.list (.pair .str .bool))],[.str,(.list (.pair .str .bool))],⟨[.v iT],[.rl (.list (.pair .str .bool))]⟩,[iT,(.list (.pair .str .bool))],fun h=>Pw.j3i h.1 h.2⟩
def ji2:FnD where
 N:=13
 np:=2
 cs:=[jaq]
 ds:=[]
 modes:=[(211,[false])]
 ro:=[false]
theorem j4L:Con.OK Tryz.prog j2x:=
 cOf j0c j01 ji2 j2x Tryz.func148 (j6 jjx trivial) trivial
def j9p:Con:=⟨288,[.v iT,.v iT,.v iT],[iT,iT,iT],⟨[.v .bool],[]⟩,[.bool],fun h=>Pw.jal h.1 h.2.1 h.2.2⟩
def joe:FnD where
 N:=15
 np:=3
 cs:=[]
 ds:=[]
 ro:=[false]
theorem jfM:Con.OK Tryz.prog j9p:=
 cOf j0c j01 joe j9p Tryz.func288 trivial trivial
def jbB:Con:=⟨297,[.v ty51],[ty51],⟨[.v iT],[]⟩,[iT],fun h=>Pw.jkE h⟩
def jlC:FnD where
 N:=45
 np:=1
 cs:=[j9p]
 ds:=[]
 modes:=[(288,[false,false,false])]
 ro:=[false]
theorem jkG:Con.OK Tryz.prog jbB:=
 cOf j0c j01 jlC jbB Tryz.func297 (j6 jfM trivial) trivial
def jar:Con:=⟨302,[.v iT],[iT],⟨[.v .bool],[]⟩,[.bool],fun h=>Pw.jiS h⟩
def jkH:FnD where
 N:=16
 np:=1
 cs:=[]
 ds:=[]
 ro:=[false]
theorem jjy:Con.OK Tryz.prog jar:=
 cOf j0c j01 jkH jar Tryz.func302 trivial trivial
def j4x:Con:=⟨291,[.v iT,.v iT],[iT,iT],⟨[.v iT],[]⟩,[iT],fun h=>Pw.j8S h.1 h.2⟩
def jkI:FnD where
 N:=24
 np:=2
 cs:=[jar]
 ds:=[]
 modes:=[(302,[false])]
 ro:=[false]
theorem j8C:Con.OK Tryz.prog j4x:=
 cOf j0c j01 jkI j4x Tryz.func291 (j6 jjy trivial) trivial
def j9q:Con:=⟨305,[.v ty20],[ty20],⟨[.v .bool],[]⟩,[.bool],fun h=>Pw.jho h⟩
def jjz:FnD where
 N:=26
 np:=1
 cs:=[j4x]
 ds:=[]
 modes:=[(291,[false,false])]
 ro:=[false]
theorem ji3:Con.OK Tryz.prog j9q:=
 cOf j0c j01 jjz j9q Tryz.func305 (j6 j8C trivial) trivial
def j6z:Con:=⟨301,[.v iT,.v iT],[iT,iT],⟨[.v iT],[]⟩,[iT],fun h=>Pw.j90 h.1 h.2⟩
def jjA:FnD where
 N:=16
 np:=2
 cs:=[]
 ds:=[]
 ro:=[false]
theorem jdD:Con.OK Tryz.prog j6z:=
 cOf j0c j01 jjA j6z Tryz.func301 trivial trivial
def j4M:Con:=⟨289,[.v iT],[iT],⟨[.v iT],[]⟩,[iT],fun h=>Pw.j75 h⟩
def jjB:FnD where
 N:=19
 np:=1
 cs:=[j6z]
 ds:=[]
 modes:=[(301,[false,false])]
 ro:=[false]
theorem jas:Con.OK Tryz.prog j4M:=
 cOf j0c j01 jjB j4M Tryz.func289 (j6 jdD trivial) trivial
def j82:Con:=⟨306,[.v ty20],[ty20],⟨[.v iT],[]⟩,[iT],fun h=>Pw.j7y h⟩
def ji4:FnD where
 N:=25
 np:=1
 cs:=[j4x,j4M]
 ds:=[⟨0,[.s (.one (.bp 64 0)),sI,sI,.b (.cell [.d iT,.d iT,.d iT] false)],[iT,iT,iT,iT,iT],[⟨.exit 0,[sI],[iT]⟩],fun h=>Pw.j8m h.1 h.2.1 h.2.2.1 h.2.2.2.1 h.2.2.2.2⟩]
 modes:=[(289,[false]),(291,[false,false])]
 keep:=[(0,⟨[1,3,4],[64],[],[]⟩)]
 keepX:=[(0,.exit 0,⟨[3],[],[],[]⟩)]
 ro:=[false]
theorem jhr:Con.OK Tryz.prog j82:=
 cOf j0c j01 ji4 j82 Tryz.func306 (j6 j8C (j6 jas trivial)) (j6 (fun h=>by kernel_rfl) trivial)
def j4Z:Con:=⟨113,[.v iT],[iT],⟨[.v iT],[]⟩,[iT],fun h=>Pw.jbs h⟩
def jhs:FnD where
 N:=7
 np:=1
 cs:=[]
 ds:=[]
 ro:=[false]
theorem jc7:Con.OK Tryz.prog j4Z:=
 cOf j0c j01 jhs j4Z Tryz.func113 trivial trivial
def jbC:Con:=⟨298,[.v iT,.v iT,.v iT,.v iT],[iT,iT,iT,iT],⟨[.v iT,.v iT],[]⟩,[iT,iT],fun h=>Pw.jcL h.1 h.2.1 h.2.2.1 h.2.2.2⟩
def jlD:FnD where
 N:=59
 np:=4
 cs:=[j4x,j9q,j82,j4Z]
 ds:=[]
 modes:=[(113,[false]),(291,[false,false]),(305,[false]),(306,[false])]
 ro:=[false,false]
theorem jkJ:Con.OK Tryz.prog jbC:=
 cOf j0c j01 jlD jbC Tryz.func298 (j6 j8C (j6 ji3 (j6 jhr (j6 jc7 trivial)))) trivial
def j49:Con:=⟨300,[.v ty7,.v ty7],[ty7,ty7],⟨[.v iT],[]⟩,[iT],fun h=>Pw.j92 h.1 h.2⟩
def jcT:FnD where
 N:=10
 np:=2
 cs:=[]
 ds:=[]
 ro:=[false]
theorem jcc:Con.OK Tryz.prog j49:=
 cOf j0c j01 jcT j49 Tryz.func300 trivial trivial
def j0E:Con:=⟨308,[.rl 322 ty12,.v iT,.v iT,.clo 300 []],[ty12,iT,iT],⟨[],[.rl ty12]⟩,[ty12],fun h=>Pw.j0b h.1 h.2.1 h.2.2⟩
def j3T:FnD where
 N:=53
 np:=4
 cs:=[j49]
 ds:=[⟨0,[.s (.one (.ol 0)),sI,sI,.s (.one (.clo 300 [])),sI,.b (.lst 322 ty7 false)],[iT,iT,iT,ty12],[⟨.exit 0,[.b (.lst 322 ty7 false)],[ty12]⟩],fun h=>Pw.j09 h.1 h.2.1 h.2.2.1 h.2.2.2⟩,
  ⟨2,[.s (.one (.ol 0)),sI,sI,.s (.one (.clo 300 [])),sI,sI,.b (.lst 322 ty7 false)],[iT,iT,iT,iT,ty12],[⟨.exit 2,[.s (.one (.ol 0)),sI,sI,.s (.one (.clo 300 [])),sI,.b (.lst 322 ty7 false)],[iT,iT,iT,ty12]⟩],fun h=>Pw.j14 h.1 h.2.1 h.2.2.1 h.2.2.2.1 h.2.2.2.2⟩]
 modes:=[(300,[false,false])]
 keep:=[(0,⟨[0,1,2,3,8],[0],[],[]⟩),
  (2,⟨[0,1,2,3,8,9],[0],[],[]⟩)]
 keepX:=[(0,.exit 0,⟨[],[0],[],[]⟩),
  (2,.exit 2,⟨[0,1,2,3,8],[0],[],[]⟩)]
 dw:=[(6,[[],[],[],[],[],[],[],[],[],[],[],[],[],[],[],[0],[],[0]])]
theorem j3I:Con.OK Tryz.prog j0E:=
 cOf j0c j01 j3T j0E Tryz.func308 (j6 jcc trivial) (j6 (fun h=>by kernel_rfl) (j6 (fun h=>by kernel_rfl) trivial))
def j11:Con:=⟨307,[.rl 322 ty12,.v iT,.clo 300 []],[ty12,iT],⟨[],[.rl ty12]⟩,[ty12],fun h=>Pw.j0q h.1 h.2⟩
def j50:FnD where
 N:=63
 np:=3
 cs:=[j0E]
 ds:=[⟨0,[.s (.one (.ol 0)),sI,.s (.one (.clo 300 [])),sI,sI,sI,.b (.lst 322 ty7 false)],[iT,iT,iT,iT,ty12],[⟨.exit 0,[.s (.one (.ol 0)),sI,.s (.one (.clo 300 [])),sI,sI,.b (.lst 322 ty7 false)],[iT,iT,iT,ty12]⟩],fun h=>Pw.j0f h.1 h.2.1 h.2.2.1 h.2.2.2.1 h.2.2.2.2⟩,
  ⟨2,[.s (.one (.ol 0)),sI,.s (.one (.clo 300 [])),sI,.b (.lst 322 ty7 false)],[iT,iT,ty12],[⟨.exit 2,[.b (.lst 322 ty7 false)],[ty12]⟩],fun h=>Pw.j0g h.1 h.2.1 h.2.2⟩,
  ⟨4,[.s (.one (.ol 0)),sI,.s (.one (.clo 300 [])),sI,sI,sI,.b (.lst 322 ty7 false)],[iT,iT,iT,iT,ty12],[⟨.exit 4,[.s (.one (.ol 0)),sI,.s (.one (.clo 300 [])),sI,sI,.b (.lst 322 ty7 false)],[iT,iT,iT,ty12]⟩],fun h=>Pw.j1M h.1 h.2.1 h.2.2.1 h.2.2.2.1 h.2.2.2.2⟩]
 modes:=[(308,[true,false,false,false])]
 keep:=[(0,⟨[0,1,2,6,7,8],[0],[],[]⟩),
  (2,⟨[0,1,2,6],[0],[],[]⟩),
  (4,⟨[0,1,2,6,7,8],[0],[],[]⟩)]
 keepX:=[(0,.exit 0,⟨[0,1,2,6,7],[0],[],[]⟩),
  (2,.exit 2,⟨[],[0],[],[]⟩),
  (4,.exit 4,⟨[0,1,2,6,7],[0],[],[]⟩)]
theorem j4N:Con.OK Tryz.prog j11:=
 cOf j0c j01 j50 j11 Tryz.func307 (j6 j3I trivial) (j6 (fun h=>by kernel_rfl) (j6 (fun h=>by kernel_rfl) (j6 (fun h=>by kernel_rfl) trivial)))
end Go.Proofs.Pk
