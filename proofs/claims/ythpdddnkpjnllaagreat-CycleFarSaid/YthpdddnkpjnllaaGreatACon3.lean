/- Contracts: each given function is its plain function, printed by a program. -/
import Derived.Test.YthpdddnkpjnllaaGreatACon2
noncomputable section
open Go Go.Lft
set_option linter.unusedVariables false
set_option maxRecDepth 100000
namespace Go.Proofs.Pk
def j02M:Con:=⟨42,[.v ty68,.v iT,.clo 43 []],[ty68,iT],⟨[.v iT],[]⟩,[iT],fun h=>Pw.j01o h.1 h.2⟩
def j08X:FnD where
 N:=21
 np:=3
 cs:=[j05X]
 ds:=[⟨0,[sI,.s (.one (.clo 43 [])),.s (.one (.d ty68)),sI,sI],[iT,ty68,iT,iT],[⟨.exit 0,[sI],[iT]⟩],fun h=>Pw.j00l h.1 h.2.1 h.2.2.1 h.2.2.2⟩]
 modes:=[(43,[false,false])]
 keep:=[(0,⟨[1,2,9,10,11],[],[],[]⟩)]
 keepX:=[(0,.exit 0,⟨[1],[],[],[]⟩)]
 ro:=[false]
theorem j089:Con.OK Tryz.prog j02M:=
 cOf tabOk mixedOk j08X j02M Tryz.func42 (And.intro j0dO trivial) (And.intro (fun h=>by kernel_rfl) trivial)
def j04C:Con:=⟨14,[.v ty79,.v iT],[ty79,iT],⟨[.v iT,.v iT],[]⟩,[iT,iT],fun h=>Pw.j034 h.1 h.2⟩
def j0gN:FnD where
 N:=24
 np:=2
 cs:=[j05n,j05c,j02M]
 ds:=[]
 modes:=[(40,[false]),(41,[false,false]),(42,[false,false,false])]
 ro:=[false,false]
theorem j08Y:Con.OK Tryz.prog j04C:=
 cOf tabOk mixedOk j0gN j04C Tryz.func14 (And.intro j0aN (And.intro j09P (And.intro j089 trivial))) trivial
def j0dP:Con:=⟨208,[.v ty60],[ty60],⟨[.v ty25,.v iT],[]⟩,[ty25,iT],fun h=>Pw.zone_Of h⟩
def j0mV:FnD where
 N:=16
 np:=1
 cs:=[j03O]
 ds:=[]
 modes:=[(170,[false])]
 ro:=[false,false]
theorem j0lK:Con.OK Tryz.prog j0dP:=
 cOf tabOk mixedOk j0mV j0dP Tryz.func208 (And.intro j08x trivial) trivial
def j08Z:Con:=⟨163,[.v ty61],[ty61],⟨[.own 167 ty29],[]⟩,[ty29],fun h=>Pw.j07z h⟩
def j0hO:FnD where
 N:=25
 np:=1
 cs:=[j0dP]
 ds:=[⟨0,[.s (.one (.ol 1000000)),.s (.one (.d ty61)),sI,sI,.b (.lst 167 ty25 false)],[ty61,iT,iT,ty29],[⟨.exit 0,[.s (.one (.ol 1500100)),.b (.lst 167 ty25 false)],[ty29]⟩],fun h=>Pw.j01t h.1 h.2.1 h.2.2.1 h.2.2.2⟩]
 modes:=[(208,[false])]
 keep:=[(0,⟨[3,8,9,10],[],[⟨1000000,167,ty25,[.slot 3],false⟩],[]⟩)]
 keepX:=[(0,.exit 0,⟨[3],[],[⟨1500100,167,ty25,[.slot 3],false⟩],[]⟩)]
 ro:=[true]
theorem j0gO:Con.OK Tryz.prog j08Z:=
 cOf tabOk mixedOk j0hO j08Z Tryz.func163 (And.intro j0lK trivial) (And.intro (fun h=>by kernel_rfl) trivial)
def j0aP:Con:=⟨113,[.v ty79],[ty79],⟨[.v ty81],[]⟩,[ty81],fun h=>Pw.j09y h⟩
def j0kl:FnD where
 N:=8
 np:=1
 cs:=[j08Z]
 ds:=[]
 modes:=[(163,[false])]
 ro:=[false]
 dw:=[(1,[[],[],[],[384],[],[128]])]
theorem j0iQ:Con.OK Tryz.prog j0aP:=
 cOf tabOk mixedOk j0kl j0aP Tryz.func113 (And.intro j0gO trivial) trivial
def j0br:Con:=⟨63,[.v ty79],[ty79],⟨[.v ty81,.v .bool],[]⟩,[ty81,.bool],fun h=>Pw.duty_Of h⟩
def j0mW:FnD where
 N:=10
 np:=1
 cs:=[j05n,j0aP]
 ds:=[]
 modes:=[(40,[false]),(113,[false])]
 ro:=[false,false]
theorem j0hP:Con.OK Tryz.prog j0br:=
 cOf tabOk mixedOk j0mW j0br Tryz.func63 (And.intro j0aN (And.intro j0iQ trivial)) trivial
def j04i:Con:=⟨115,[.v ty81,.v iT],[ty81,iT],⟨[.v ty25],[]⟩,[ty25],fun h=>Pw.j035 h.1 h.2⟩
def j0ep:FnD where
 N:=10
 np:=2
 cs:=[]
 ds:=[]
 ro:=[false]
theorem j09p:Con.OK Tryz.prog j04i:=
 cOf tabOk mixedOk j0ep j04i Tryz.func115 trivial trivial
def j04D:Con:=⟨116,[.v ty25],[ty25],⟨[.v .bool],[]⟩,[.bool],fun h=>Pw.j06h h⟩
def j0bV:FnD where
 N:=7
 np:=1
 cs:=[]
 ds:=[]
 ro:=[false]
theorem j0by:Con.OK Tryz.prog j04D:=
 cOf tabOk mixedOk j0bV j04D Tryz.func116 trivial trivial
def j05Y:Con:=⟨117,[.v ty25],[ty25],⟨[.v iT],[]⟩,[iT],fun h=>Pw.j08N h⟩
def j0eq:FnD where
 N:=16
 np:=1
 cs:=[]
 ds:=[]
 ro:=[false]
theorem j0dQ:Con.OK Tryz.prog j05Y:=
 cOf tabOk mixedOk j0eq j05Y Tryz.func117 trivial trivial
def j04a:Con:=⟨114,[.v iT,.ref [ty61,ty51,ty26,ty73,ty29],.ref [iT]],[iT,ty61,ty51,ty26,ty73,ty29,iT],⟨[],[.ref [ty61,ty51,ty26,ty73,ty29],.ref [iT]]⟩,[ty61,ty51,ty26,ty73,ty29,iT],fun h=>Pw.j02g h.1 h.2.1 h.2.2.1 h.2.2.2.1 h.2.2.2.2.1 h.2.2.2.2.2.1 h.2.2.2.2.2.2⟩
def j0bz:FnD where
 N:=15
 np:=3
 cs:=[j04i,j04D,j05Y]
 ds:=[]
 modes:=[(115,[false,false]),(116,[false]),(117,[false])]
 dw:=[(2,[[],[],[],[],[],[128]])]
theorem j0aQ:Con.OK Tryz.prog j04a:=
 cOf tabOk mixedOk j0bz j04a Tryz.func114 (And.intro j09p (And.intro j0by (And.intro j0dQ trivial))) trivial
def j07p:Con:=⟨164,[.v ty67],[ty67],⟨[.v iT],[]⟩,[iT],fun h=>Pw.j07J h⟩
def j0iR:FnD where
 N:=11
 np:=1
 cs:=[]
 ds:=[]
 ro:=[false]
theorem j0el:Con.OK Tryz.prog j07p:=
 cOf tabOk mixedOk j0iR j07p Tryz.func164 trivial trivial
def j04b:Con:=⟨241,[.v iT,.ip [iT,ty12],.ip [iT]],[iT,iT,ty12,iT],⟨[.v .bool],[]⟩,[.bool],fun h=>Pw.j05P h.1 h.2.1 h.2.2.1 h.2.2.2⟩
def j0bA:FnD where
 N:=13
 np:=3
 cs:=[]
 ds:=[]
 ro:=[false]
theorem j0aR:Con.OK Tryz.prog j04b:=
 cOf tabOk mixedOk j0bA j04b Tryz.func241 trivial trivial
def j090:Con:=⟨240,[.v iT,.clo 241 [.p [iT,ty12],.p [iT]]],[iT,iT,ty12,iT],⟨[.v iT],[]⟩,[iT],fun h=>Pw.j07A h.1 h.2.1 h.2.2.1 h.2.2.2⟩
def j0hQ:FnD where
 N:=26
 np:=2
 cs:=[j04b]
 ds:=[⟨0,[.s (.one (.clo 241 [.p [iT,ty12],.p [iT]])),sI,sI],[iT,ty12,iT,iT,iT],[⟨.exit 0,[sI],[iT]⟩],fun h=>Pw.j02h h.1 h.2.1 h.2.2.1 h.2.2.2.1 h.2.2.2.2⟩]
 modes:=[(241,[false])]
 keep:=[(0,⟨[1,5,6],[],[],[]⟩)]
 keepX:=[(0,.exit 0,⟨[5],[],[],[]⟩)]
 ro:=[false]
theorem j0gP:Con.OK Tryz.prog j090:=
 cOf tabOk mixedOk j0hQ j090 Tryz.func240 (And.intro j0aR trivial) (And.intro (fun h=>by kernel_rfl) trivial)
def j03R:Con:=⟨209,[.v ty25,.v iT],[ty25,iT],⟨[.v iT],[]⟩,[iT],fun h=>Pw.j029 h.1 h.2⟩
def j0dR:FnD where
 N:=10
 np:=2
 cs:=[j090]
 ds:=[]
 modes:=[(240,[false,false])]
 ro:=[false]
theorem j08y:Con.OK Tryz.prog j03R:=
 cOf tabOk mixedOk j0dR j03R Tryz.func209 (And.intro j0gP trivial) trivial
def j03h:Con:=⟨210,[.v ty25,.v iT],[ty25,iT],⟨[.v iT],[]⟩,[iT],fun h=>Pw.j02P h.1 h.2⟩
def j0d0:FnD where
 N:=16
 np:=2
 cs:=[]
 ds:=[]
 ro:=[false]
theorem j07T:Con.OK Tryz.prog j03h:=
 cOf tabOk mixedOk j0d0 j03h Tryz.func210 trivial trivial
def j050:Con:=⟨165,[.v ty25,.v iT,.v iT],[ty25,iT,iT],⟨[.own 212 ty24],[]⟩,[ty24],fun h=>Pw.j02j h.1 h.2.1 h.2.2⟩
def j0d1:FnD where
 N:=41
 np:=3
 cs:=[j03R,j03h]
 ds:=[⟨0,[sI,sI,.s (.one (.bp 192 0)),.s (.one (.ol 1000000)),.b (.cell [.d iT,.d ty12] false),.b (.lst 212 ty20 false)],[iT,iT,iT,ty12,ty24],[⟨.exit 0,[.s (.one (.ol 1500100)),.b (.lst 212 ty20 false)],[ty24]⟩],fun h=>Pw.j00C h.1 h.2.1 h.2.2.1 h.2.2.2.1 h.2.2.2.2⟩]
 modes:=[(209,[false,false]),(210,[false,false])]
 keep:=[(0,⟨[1,2,3,7],[192],[⟨1000000,212,ty20,[.slot 7],false⟩],[]⟩)]
 keepX:=[(0,.exit 0,⟨[7],[],[⟨1500100,212,ty20,[.slot 7],false⟩],[]⟩)]
 ro:=[true]
theorem j0bW:Con.OK Tryz.prog j050:=
 cOf tabOk mixedOk j0d1 j050 Tryz.func165 (And.intro j08y (And.intro j07T trivial)) (And.intro (fun h=>by kernel_rfl) trivial)
def j07U:Con:=⟨166,[.v ty8],[ty8],⟨[.v iT],[]⟩,[iT],fun h=>Pw.j036 h⟩
def j0gQ:FnD where
 N:=11
 np:=1
 cs:=[]
 ds:=[]
 ro:=[false]
theorem j0fJ:Con.OK Tryz.prog j07U:=
 cOf tabOk mixedOk j0gQ j07U Tryz.func166 trivial trivial
def j03S:Con:=⟨119,[.v ty25,.v ty8],[ty25,ty8],⟨[.v iT,.v .bool],[]⟩,[iT,.bool],fun h=>Pw.j00M h.1 h.2⟩
def j0dS:FnD where
 N:=30
 np:=2
 cs:=[j050,j07U]
 ds:=[⟨0,[.s (.one (.bp 192 0)),.s (.one (.ol 1000000)),sI,sI,.b (.cell [.d iT,.d iT] false),.b (.lst 212 ty20 false)],[iT,iT,iT,iT,ty24],[⟨.ret,[sI,.s (.one (.d .bool))],[iT,.bool]⟩,⟨.exit 0,[],[]⟩],fun h=>Pw.j011 h.1 h.2.1 h.2.2.1 h.2.2.2.1 h.2.2.2.2⟩]
 modes:=[(165,[false,false,false]),(166,[false])]
 keep:=[(0,⟨[3,10,11,12],[192],[⟨1000000,212,ty20,[.slot 10],false⟩],[]⟩)]
 keepX:=[(0,.ret,⟨[4,5],[],[],[]⟩),
  (0,.exit 0,⟨[],[],[],[]⟩)]
 ro:=[false,false]
theorem j08z:Con.OK Tryz.prog j03S:=
 cOf tabOk mixedOk j0dS j03S Tryz.func119 (And.intro j0bW (And.intro j0fJ trivial)) (And.intro (fun h=>by kernel_rfl) trivial)
def j03T:Con:=⟨118,[.v ty25,.v ty67,.v iT],[ty25,ty67,iT],⟨[.v iT,.v .bool],[]⟩,[iT,.bool],fun h=>Pw.j00N h.1 h.2.1 h.2.2⟩
def j0dT:FnD where
 N:=50
 np:=3
 cs:=[j07p,j03S]
 ds:=[]
 modes:=[(119,[false,false]),(164,[false])]
 ro:=[false,false]
 dw:=[(5,[[],[],[],[],[],[],[],[],[512]])]
theorem j08A:Con.OK Tryz.prog j03T:=
 cOf tabOk mixedOk j0dT j03T Tryz.func118 (And.intro j0el (And.intro j08z trivial)) trivial
def j05B:Con:=⟨64,[.v ty81,.v ty72],[ty81,ty72],⟨[.v iT],[]⟩,[iT],fun h=>Pw.j03o h.1 h.2⟩
def j0dU:FnD where
 N:=95
 np:=2
 cs:=[j04i,j04a,j03S,j03T]
 ds:=[⟨0,[.s (.one (.bp 128 0)),.s (.one (.bp 192 0)),.s (.one (.bp 320 0)),.s (.one (.d ty39)),sI,sI,.b (.cell [.d ty61,.d ty51,.d ty26,.d ty73,.d ty29] false),.b (.cell [.d .str,.d ty68,.d ty39] false),.b (.cell [.d iT] false)],[ty39,iT,iT,ty61,ty51,ty26,ty73,ty29,.str,ty68,ty39,iT],[⟨.exit 0,[.s (.one (.bp 128 0)),.s (.one (.bp 192 0)),.s (.one (.bp 320 0)),.b (.cell [.d ty61,.d ty51,.d ty26,.d ty73,.d ty29] false),.b (.cell [.d .str,.d ty68,.d ty39] false),.b (.cell [.d iT] false)],[ty61,ty51,ty26,ty73,ty29,.str,ty68,ty39,iT]⟩],fun h=>Pw.j01O h.1 h.2.1 h.2.2.1 h.2.2.2.1 h.2.2.2.2.1 h.2.2.2.2.2.1 h.2.2.2.2.2.2.1 h.2.2.2.2.2.2.2.1 h.2.2.2.2.2.2.2.2.1 h.2.2.2.2.2.2.2.2.2.1 h.2.2.2.2.2.2.2.2.2.2.1 h.2.2.2.2.2.2.2.2.2.2.2⟩,
  ⟨2,[.s (.one (.bp 128 0)),.s (.one (.bp 320 0)),.s (.one (.clr 114 [128,320])),.s (.one (.d ty68)),sI,sI,.b (.cell [.d ty61,.d ty51,.d ty26,.d ty73,.d ty29] false),.b (.cell [.d iT] false)],[ty68,iT,iT,ty61,ty51,ty26,ty73,ty29,iT],[⟨.exit 2,[.s (.one (.bp 320 0)),.b (.cell [.d iT] false)],[iT]⟩],fun h=>Pw.j00A h.1 h.2.1 h.2.2.1 h.2.2.2.1 h.2.2.2.2.1 h.2.2.2.2.2.1 h.2.2.2.2.2.2.1 h.2.2.2.2.2.2.2.1 h.2.2.2.2.2.2.2.2⟩]
 modes:=[(114,[false]),(115,[false,false]),(118,[false,false,false]),(119,[false,false])]
 keep:=[(0,⟨[2,3,5,18,19,20],[128,192,320],[],[]⟩),
  (2,⟨[2,5,8,31,32,33],[128,320],[],[]⟩)]
 keepX:=[(0,.exit 0,⟨[2,3,5],[128,192,320],[],[]⟩),
  (2,.exit 2,⟨[5],[320],[],[]⟩)]
 ro:=[false]
 cr:=[114]
theorem j0d2:Con.OK Tryz.prog j05B:=
 cOf tabOk mixedOk j0dU j05B Tryz.func64 (And.intro j09p (And.intro j0aQ (And.intro j08z (And.intro j08A trivial)))) (And.intro (fun h=>by kernel_rfl) (And.intro (fun h=>by kernel_rfl) trivial))
end Go.Proofs.Pk
