/- Contracts: each given function is its plain function, printed by a program. -/
import Derived.Test.YthpdddnkpjnllaaGreatDCon2
noncomputable section
open Go Go.Lft
set_option linter.unusedVariables false
set_option maxRecDepth 100000
namespace Go.Proofs.Pk
def jcY:Con:=⟨63,[.v ty79],[ty79],⟨[.v ty81,.v .bool],[]⟩,[ty81,.bool],fun h=>Pw.jfh h⟩
def jxK:FnD where
 N:=10
 np:=1
 cs:=[jaq,jfw]
 ds:=[]
 modes:=[(40,[false]),(113,[false])]
 ro:=[false,false]
theorem jlc:Con.OK Tryz.prog jcY:=
 cOf j0a j03 jxK jcY Tryz.func63 (j9 jm6 (j9 jrY trivial)) trivial
def j7O:Con:=⟨41,[.v ty79,.v iT],[ty79,iT],⟨[.v .bool],[]⟩,[.bool],fun h=>Pw.jcw h.1 h.2⟩
def jqk:FnD where
 N:=14
 np:=2
 cs:=[]
 ds:=[]
 ro:=[false]
theorem jed:Con.OK Tryz.prog j7O:=
 cOf j0a j03 jqk j7O Tryz.func41 trivial trivial
def jee:Con:=⟨104,[.v iT,.v iT],[iT,iT],⟨[.v .bool],[]⟩,[.bool],fun h=>Pw.jl8 h.1 h.2⟩
def jrZ:FnD where
 N:=26
 np:=2
 cs:=[]
 ds:=[]
 ro:=[false]
theorem jql:Con.OK Tryz.prog jee:=
 cOf j0a j03 jrZ jee Tryz.func104 trivial trivial
def j9z:Con:=⟨60,[.v ty79,.v iT,.v iT,.v iT],[ty79,iT,iT,iT],⟨[.v ty81,.v iT],[]⟩,[ty81,iT],fun h=>Pw.j6o h.1 h.2.1 h.2.2.1 h.2.2.2⟩
def jqm:FnD where
 N:=34
 np:=4
 cs:=[jcY,j7O,jee]
 ds:=[]
 modes:=[(41,[false,false]),(63,[false]),(104,[false,false])]
 ro:=[false,false]
theorem jim:Con.OK Tryz.prog j9z:=
 cOf j0a j03 jqm j9z Tryz.func60 (j9 jlc (j9 jed (j9 jql trivial))) trivial
def j6w:Con:=⟨115,[.v ty81,.v iT],[ty81,iT],⟨[.v ty25],[]⟩,[ty25],fun h=>Pw.j7t h.1 h.2⟩
def jld:FnD where
 N:=10
 np:=2
 cs:=[]
 ds:=[]
 ro:=[false]
theorem jdT:Con.OK Tryz.prog j6w:=
 cOf j0a j03 jld j6w Tryz.func115 trivial trivial
def j79:Con:=⟨116,[.v ty25],[ty25],⟨[.v .bool],[]⟩,[.bool],fun h=>Pw.jdK h⟩
def ji0:FnD where
 N:=7
 np:=1
 cs:=[]
 ds:=[]
 ro:=[false]
theorem jh8:Con.OK Tryz.prog j79:=
 cOf j0a j03 ji0 j79 Tryz.func116 trivial trivial
def j8X:Con:=⟨117,[.v ty25],[ty25],⟨[.v iT],[]⟩,[iT],fun h=>Pw.jgO h⟩
def jle:FnD where
 N:=16
 np:=1
 cs:=[]
 ds:=[]
 ro:=[false]
theorem jkc:Con.OK Tryz.prog j8X:=
 cOf j0a j03 jle j8X Tryz.func117 trivial trivial
def j6x:Con:=⟨114,[.v iT,.ref [ty61,ty51,ty26,ty73,ty29],.ref [iT]],[iT,ty61,ty51,ty26,ty73,ty29,iT],⟨[],[.ref [ty61,ty51,ty26,ty73,ty29],.ref [iT]]⟩,[ty61,ty51,ty26,ty73,ty29,iT],fun h=>Pw.j6p h.1 h.2.1 h.2.2.1 h.2.2.2.1 h.2.2.2.2.1 h.2.2.2.2.2.1 h.2.2.2.2.2.2⟩
def jh9:FnD where
 N:=15
 np:=3
 cs:=[j6w,j79,j8X]
 ds:=[]
 modes:=[(115,[false,false]),(116,[false]),(117,[false])]
 dw:=[(2,[[],[],[],[],[],[128]])]
theorem jgh:Con.OK Tryz.prog j6x:=
 cOf j0a j03 jh9 j6x Tryz.func114 (j9 jdT (j9 jh8 (j9 jkc trivial))) trivial
def jaH:Con:=⟨164,[.v ty67],[ty67],⟨[.v iT],[]⟩,[iT],fun h=>Pw.jah h⟩
def js0:FnD where
 N:=11
 np:=1
 cs:=[]
 ds:=[]
 ro:=[false]
theorem jkd:Con.OK Tryz.prog jaH:=
 cOf j0a j03 js0 jaH Tryz.func164 trivial trivial
def j6y:Con:=⟨241,[.v iT,.ip [iT,ty12],.ip [iT]],[iT,iT,ty12,iT],⟨[.v .bool],[]⟩,[.bool],fun h=>Pw.j8T h.1 h.2.1 h.2.2.1 h.2.2.2⟩
def jha:FnD where
 N:=13
 np:=3
 cs:=[]
 ds:=[]
 ro:=[false]
theorem jgi:Con.OK Tryz.prog j6y:=
 cOf j0a j03 jha j6y Tryz.func241 trivial trivial
def jcZ:Con:=⟨240,[.v iT,.clo 241 [.p [iT,ty12],.p [iT]]],[iT,iT,ty12,iT],⟨[.v iT],[]⟩,[iT],fun h=>Pw.jai h.1 h.2.1 h.2.2.1 h.2.2.2⟩
def jqn:FnD where
 N:=26
 np:=2
 cs:=[j6y]
 ds:=[⟨0,[.s (.one (.clo 241 [.p [iT,ty12],.p [iT]])),sI,sI],[iT,ty12,iT,iT,iT],[⟨.exit 0,[sI],[iT]⟩],fun h=>Pw.j3z h.1 h.2.1 h.2.2.1 h.2.2.2.1 h.2.2.2.2⟩]
 modes:=[(241,[false])]
 keep:=[(0,⟨[1,5,6],[],[],[]⟩)]
 keepX:=[(0,.exit 0,⟨[5],[],[],[]⟩)]
 ro:=[false]
theorem jor:Con.OK Tryz.prog jcZ:=
 cOf j0a j03 jqn jcZ Tryz.func240 (j9 jgi trivial) (j9 (fun h=>by kernel_rfl) trivial)
def j5P:Con:=⟨209,[.v ty25,.v iT],[ty25,iT],⟨[.v iT],[]⟩,[iT],fun h=>Pw.j3r h.1 h.2⟩
def jke:FnD where
 N:=10
 np:=2
 cs:=[jcZ]
 ds:=[]
 modes:=[(240,[false,false])]
 ro:=[false]
theorem jd0:Con.OK Tryz.prog j5P:=
 cOf j0a j03 jke j5P Tryz.func209 (j9 jor trivial) trivial
def j5t:Con:=⟨210,[.v ty25,.v iT],[ty25,iT],⟨[.v iT],[]⟩,[iT],fun h=>Pw.j4F h.1 h.2⟩
def jiU:FnD where
 N:=16
 np:=2
 cs:=[]
 ds:=[]
 ro:=[false]
theorem jbV:Con.OK Tryz.prog j5t:=
 cOf j0a j03 jiU j5t Tryz.func210 trivial trivial
def j44:Con:=⟨165,[.v ty25,.v iT,.v iT],[ty25,iT,iT],⟨[.own 212 ty24],[]⟩,[ty24],fun h=>Pw.j1m h.1 h.2.1 h.2.2⟩
def jiV:FnD where
 N:=41
 np:=3
 cs:=[j5P,j5t]
 ds:=[⟨0,[sI,sI,.s (.one (.bp 192 0)),.s (.one (.ol 1000000)),.b (.cell [.d iT,.d ty12] false),.b (.lst 212 ty20 false)],[iT,iT,iT,ty12,ty24],[⟨.exit 0,[.s (.one (.ol 1500100)),.b (.lst 212 ty20 false)],[ty24]⟩],fun h=>Pw.j0q h.1 h.2.1 h.2.2.1 h.2.2.2.1 h.2.2.2.2⟩]
 modes:=[(209,[false,false]),(210,[false,false])]
 keep:=[(0,⟨[1,2,3,7],[192],[⟨1000000,212,ty20,[.slot 7],false⟩],[]⟩)]
 keepX:=[(0,.exit 0,⟨[7],[],[⟨1500100,212,ty20,[.slot 7],false⟩],[]⟩)]
 ro:=[true]
theorem j8k:Con.OK Tryz.prog j44:=
 cOf j0a j03 jiV j44 Tryz.func165 (j9 jd0 (j9 jbV trivial)) (j9 (fun h=>by kernel_rfl) trivial)
def jbz:Con:=⟨166,[.v ty8],[ty8],⟨[.v iT],[]⟩,[iT],fun h=>Pw.j4C h⟩
def jos:FnD where
 N:=11
 np:=1
 cs:=[]
 ds:=[]
 ro:=[false]
theorem jny:Con.OK Tryz.prog jbz:=
 cOf j0a j03 jos jbz Tryz.func166 trivial trivial
def j5Q:Con:=⟨119,[.v ty25,.v ty8],[ty25,ty8],⟨[.v iT,.v .bool],[]⟩,[iT,.bool],fun h=>Pw.j1n h.1 h.2⟩
def jkf:FnD where
 N:=30
 np:=2
 cs:=[j44,jbz]
 ds:=[⟨0,[.s (.one (.bp 192 0)),.s (.one (.ol 1000000)),sI,sI,.b (.cell [.d iT,.d iT] false),.b (.lst 212 ty20 false)],[iT,iT,iT,iT,ty24],[⟨.ret,[sI,.s (.one (.d .bool))],[iT,.bool]⟩,⟨.exit 0,[],[]⟩],fun h=>Pw.j1J h.1 h.2.1 h.2.2.1 h.2.2.2.1 h.2.2.2.2⟩]
 modes:=[(165,[false,false,false]),(166,[false])]
 keep:=[(0,⟨[3,10,11,12],[192],[⟨1000000,212,ty20,[.slot 10],false⟩],[]⟩)]
 keepX:=[(0,.ret,⟨[4,5],[],[],[]⟩),
  (0,.exit 0,⟨[],[],[],[]⟩)]
 ro:=[false,false]
theorem jd1:Con.OK Tryz.prog j5Q:=
 cOf j0a j03 jkf j5Q Tryz.func119 (j9 j8k (j9 jny trivial)) (j9 (fun h=>by kernel_rfl) trivial)
def j3q:Con:=⟨118,[.v ty25,.v ty67,.v iT],[ty25,ty67,iT],⟨[.v iT,.v .bool],[]⟩,[iT,.bool],fun h=>Pw.j0E h.1 h.2.1 h.2.2⟩
def jkg:FnD where
 N:=50
 np:=3
 cs:=[jaH,j5Q]
 ds:=[]
 modes:=[(119,[false,false]),(164,[false])]
 ro:=[false,false]
 dw:=[(5,[[],[],[],[],[],[],[],[],[512]])]
theorem j6z:Con.OK Tryz.prog j3q:=
 cOf j0a j03 jkg j3q Tryz.func118 (j9 jkd (j9 jd1 trivial)) trivial
def j5R:Con:=⟨64,[.v ty81,.v ty72],[ty81,ty72],⟨[.v iT],[]⟩,[iT],fun h=>Pw.j54 h.1 h.2⟩
def jkh:FnD where
 N:=95
 np:=2
 cs:=[j6w,j6x,j5Q,j3q]
 ds:=[⟨0,[.s (.one (.bp 128 0)),.s (.one (.bp 192 0)),.s (.one (.bp 320 0)),.s (.one (.d ty39)),sI,sI,.b (.cell [.d ty61,.d ty51,.d ty26,.d ty73,.d ty29] false),.b (.cell [.d .str,.d ty68,.d ty39] false),.b (.cell [.d iT] false)],[ty39,iT,iT,ty61,ty51,ty26,ty73,ty29,.str,ty68,ty39,iT],[⟨.exit 0,[.s (.one (.bp 128 0)),.s (.one (.bp 192 0)),.s (.one (.bp 320 0)),.b (.cell [.d ty61,.d ty51,.d ty26,.d ty73,.d ty29] false),.b (.cell [.d .str,.d ty68,.d ty39] false),.b (.cell [.d iT] false)],[ty61,ty51,ty26,ty73,ty29,.str,ty68,ty39,iT]⟩],fun h=>Pw.j9a h.1 h.2.1 h.2.2.1 h.2.2.2.1 h.2.2.2.2.1 h.2.2.2.2.2.1 h.2.2.2.2.2.2.1 h.2.2.2.2.2.2.2.1 h.2.2.2.2.2.2.2.2.1 h.2.2.2.2.2.2.2.2.2.1 h.2.2.2.2.2.2.2.2.2.2.1 h.2.2.2.2.2.2.2.2.2.2.2⟩,
  ⟨2,[.s (.one (.bp 128 0)),.s (.one (.bp 320 0)),.s (.one (.clr 114 [128,320])),.s (.one (.d ty68)),sI,sI,.b (.cell [.d ty61,.d ty51,.d ty26,.d ty73,.d ty29] false),.b (.cell [.d iT] false)],[ty68,iT,iT,ty61,ty51,ty26,ty73,ty29,iT],[⟨.exit 2,[.s (.one (.bp 320 0)),.b (.cell [.d iT] false)],[iT]⟩],fun h=>Pw.j32 h.1 h.2.1 h.2.2.1 h.2.2.2.1 h.2.2.2.2.1 h.2.2.2.2.2.1 h.2.2.2.2.2.2.1 h.2.2.2.2.2.2.2.1 h.2.2.2.2.2.2.2.2⟩]
 modes:=[(114,[false]),(115,[false,false]),(118,[false,false,false]),(119,[false,false])]
 keep:=[(0,⟨[2,3,5,18,19,20],[128,192,320],[],[]⟩),
  (2,⟨[2,5,8,31,32,33],[128,320],[],[]⟩)]
 keepX:=[(0,.exit 0,⟨[2,3,5],[128,192,320],[],[]⟩),
  (2,.exit 2,⟨[5],[320],[],[]⟩)]
 ro:=[false]
 cr:=[114]
theorem jd2:Con.OK Tryz.prog j5R:=
 cOf j0a j03 jkh j5R Tryz.func64 (j9 jdT (j9 jgh (j9 jd1 (j9 j6z trivial)))) (j9 (fun h=>by kernel_rfl) (j9 (fun h=>by kernel_rfl) trivial))
def j9d:Con:=⟨212,[.v (.list iT)],[(.list iT)],⟨[.own 3 (.list iT)],[]⟩,[(.list iT)],fun h=>Pw.j8b h⟩
def jgj:FnD where
 N:=8
 np:=1
 cs:=[]
 ds:=[]
 ro:=[true]
theorem jfx:Con.OK Tryz.prog j9d:=
 jrE j0a j03 jgj 212 iT 3 Tryz.f212 (Tryz.f212.body.getD .skip) Tryz.func212 (by kernel_rfl) (by kernel_rfl) (Nat.le_of_ble_eq_true (by kernel_rfl)) (by kernel_rfl) trivial (by kernel_rfl)
  (fun h R k=>by kernel_rfl)
def j8O:Con:=⟨213,[.v iT,.ip [iT],.ip [iT]],[iT,iT,iT],⟨[.v .bool],[]⟩,[.bool],fun h=>Pw.jaO h.1 h.2.1 h.2.2⟩
def jot:FnD where
 N:=13
 np:=3
 cs:=[]
 ds:=[]
 ro:=[false]
theorem jhb:Con.OK Tryz.prog j8O:=
 cOf j0a j03 jot j8O Tryz.func213 trivial trivial
end Go.Proofs.Pk
