/- Contracts: each given function is its plain function, printed by a program. -/
import Derived.Test.YthpdddnkpjnllaaGreatACon2
noncomputable section
open Go Go.Lft
set_option linter.unusedVariables false
set_option maxRecDepth 100000
namespace Go.Proofs.Pk
def j02C:Con:=⟨42,[.v ty68,.v iT,.clo 43 []],[ty68,iT],⟨[.v iT],[]⟩,[iT],fun h=>Pw.j01m h.1 h.2⟩
def j08N:FnD where
 N:=21
 np:=3
 cs:=[j05S]
 ds:=[⟨0,[sI,.s (.one (.clo 43 [])),.s (.one (.d ty68)),sI,sI],[iT,ty68,iT,iT],[⟨.exit 0,[sI],[iT]⟩],fun h=>Pw.j00l h.1 h.2.1 h.2.2.1 h.2.2.2⟩]
 modes:=[(43,[false,false])]
 keep:=[(0,⟨[1,2,9,10,11],[],[],[]⟩)]
 keepX:=[(0,.exit 0,⟨[1],[],[],[]⟩)]
 ro:=[false]
theorem j082:Con.OK Tryz.prog j02C:=
 cOf tabOk mixedOk j08N j02C Tryz.func42 (And.intro j0dJ trivial) (And.intro (fun h=>by kernel_rfl) trivial)
def j04u:Con:=⟨14,[.v ty79,.v iT],[ty79,iT],⟨[.v iT,.v iT],[]⟩,[iT,iT],fun h=>Pw.j02W h.1 h.2⟩
def j0gI:FnD where
 N:=24
 np:=2
 cs:=[j05g,j055,j02C]
 ds:=[]
 modes:=[(40,[false]),(41,[false,false]),(42,[false,false,false])]
 ro:=[false,false]
theorem j08O:Con.OK Tryz.prog j04u:=
 cOf tabOk mixedOk j0gI j04u Tryz.func14 (And.intro j0aE (And.intro j09E (And.intro j082 trivial))) trivial
def j0dK:Con:=⟨208,[.v ty60],[ty60],⟨[.v ty25,.v iT],[]⟩,[ty25,iT],fun h=>Pw.zone_Of h⟩
def j0mN:FnD where
 N:=16
 np:=1
 cs:=[j03E]
 ds:=[]
 modes:=[(170,[false])]
 ro:=[false,false]
theorem j0lF:Con.OK Tryz.prog j0dK:=
 cOf tabOk mixedOk j0mN j0dK Tryz.func208 (And.intro j08p trivial) trivial
def j08P:Con:=⟨163,[.v ty61],[ty61],⟨[.own 167 ty29],[]⟩,[ty29],fun h=>Pw.j094 h⟩
def j0hI:FnD where
 N:=25
 np:=1
 cs:=[j0dK]
 ds:=[⟨0,[.s (.one (.ol 1000000)),.s (.one (.d ty61)),sI,sI,.b (.lst 167 ty25 false)],[ty61,iT,iT,ty29],[⟨.exit 0,[.s (.one (.ol 1500100)),.b (.lst 167 ty25 false)],[ty29]⟩],fun h=>Pw.j02M h.1 h.2.1 h.2.2.1 h.2.2.2⟩]
 modes:=[(208,[false])]
 keep:=[(0,⟨[3,8,9,10],[],[⟨1000000,167,ty25,[.slot 3],false⟩],[]⟩)]
 keepX:=[(0,.exit 0,⟨[3],[],[⟨1500100,167,ty25,[.slot 3],false⟩],[]⟩)]
 ro:=[true]
theorem j0gJ:Con.OK Tryz.prog j08P:=
 cOf tabOk mixedOk j0hI j08P Tryz.func163 (And.intro j0lF trivial) (And.intro (fun h=>by kernel_rfl) trivial)
def j0aG:Con:=⟨113,[.v ty79],[ty79],⟨[.v ty81],[]⟩,[ty81],fun h=>Pw.j0co h⟩
def j0kg:FnD where
 N:=8
 np:=1
 cs:=[j08P]
 ds:=[]
 modes:=[(163,[false])]
 ro:=[false]
 dw:=[(1,[[],[],[],[384],[],[128]])]
theorem j0iK:Con.OK Tryz.prog j0aG:=
 cOf tabOk mixedOk j0kg j0aG Tryz.func113 (And.intro j0gJ trivial) trivial
def j0bi:Con:=⟨63,[.v ty79],[ty79],⟨[.v ty81,.v .bool],[]⟩,[ty81,.bool],fun h=>Pw.duty_Of h⟩
def j0mO:FnD where
 N:=10
 np:=1
 cs:=[j05g,j0aG]
 ds:=[]
 modes:=[(40,[false]),(113,[false])]
 ro:=[false,false]
theorem j0hJ:Con.OK Tryz.prog j0bi:=
 cOf tabOk mixedOk j0mO j0bi Tryz.func63 (And.intro j0aE (And.intro j0iK trivial)) trivial
def j048:Con:=⟨115,[.v ty81,.v iT],[ty81,iT],⟨[.v ty25],[]⟩,[ty25],fun h=>Pw.j04W h.1 h.2⟩
def j0ek:FnD where
 N:=10
 np:=2
 cs:=[]
 ds:=[]
 ro:=[false]
theorem j09g:Con.OK Tryz.prog j048:=
 cOf tabOk mixedOk j0ek j048 Tryz.func115 trivial trivial
def j04v:Con:=⟨116,[.v ty25],[ty25],⟨[.v .bool],[]⟩,[.bool],fun h=>Pw.j095 h⟩
def j0bO:FnD where
 N:=7
 np:=1
 cs:=[]
 ds:=[]
 ro:=[false]
theorem j0bp:Con.OK Tryz.prog j04v:=
 cOf tabOk mixedOk j0bO j04v Tryz.func116 trivial trivial
def j05T:Con:=⟨117,[.v ty25],[ty25],⟨[.v iT],[]⟩,[iT],fun h=>Pw.j0bw h⟩
def j0el:FnD where
 N:=16
 np:=1
 cs:=[]
 ds:=[]
 ro:=[false]
theorem j0dL:Con.OK Tryz.prog j05T:=
 cOf tabOk mixedOk j0el j05T Tryz.func117 trivial trivial
def j03Z:Con:=⟨114,[.v iT,.ref [ty61,ty51,ty26,ty73,ty29],.ref [iT]],[iT,ty61,ty51,ty26,ty73,ty29,iT],⟨[],[.ref [ty61,ty51,ty26,ty73,ty29],.ref [iT]]⟩,[ty61,ty51,ty26,ty73,ty29,iT],fun h=>Pw.j045 h.1 h.2.1 h.2.2.1 h.2.2.2.1 h.2.2.2.2.1 h.2.2.2.2.2.1 h.2.2.2.2.2.2⟩
def j0bq:FnD where
 N:=15
 np:=3
 cs:=[j048,j04v,j05T]
 ds:=[]
 modes:=[(115,[false,false]),(116,[false]),(117,[false])]
 dw:=[(2,[[],[],[],[],[],[128]])]
theorem j0aH:Con.OK Tryz.prog j03Z:=
 cOf tabOk mixedOk j0bq j03Z Tryz.func114 (And.intro j09g (And.intro j0bp (And.intro j0dL trivial))) trivial
def j07j:Con:=⟨164,[.v ty67],[ty67],⟨[.v iT],[]⟩,[iT],fun h=>Pw.j07C h⟩
def j0iL:FnD where
 N:=11
 np:=1
 cs:=[]
 ds:=[]
 ro:=[false]
theorem j0eg:Con.OK Tryz.prog j07j:=
 cOf tabOk mixedOk j0iL j07j Tryz.func164 trivial trivial
def j040:Con:=⟨241,[.v iT,.ip [iT,ty12],.ip [iT]],[iT,iT,ty12,iT],⟨[.v .bool],[]⟩,[.bool],fun h=>Pw.j05H h.1 h.2.1 h.2.2.1 h.2.2.2⟩
def j0br:FnD where
 N:=13
 np:=3
 cs:=[]
 ds:=[]
 ro:=[false]
theorem j0aI:Con.OK Tryz.prog j040:=
 cOf tabOk mixedOk j0br j040 Tryz.func241 trivial trivial
def j08Q:Con:=⟨240,[.v iT,.clo 241 [.p [iT,ty12],.p [iT]]],[iT,iT,ty12,iT],⟨[.v iT],[]⟩,[iT],fun h=>Pw.j07t h.1 h.2.1 h.2.2.1 h.2.2.2⟩
def j0hK:FnD where
 N:=26
 np:=2
 cs:=[j040]
 ds:=[⟨0,[.s (.one (.clo 241 [.p [iT,ty12],.p [iT]])),sI,sI],[iT,ty12,iT,iT,iT],[⟨.exit 0,[sI],[iT]⟩],fun h=>Pw.j02a h.1 h.2.1 h.2.2.1 h.2.2.2.1 h.2.2.2.2⟩]
 modes:=[(241,[false])]
 keep:=[(0,⟨[1,5,6],[],[],[]⟩)]
 keepX:=[(0,.exit 0,⟨[5],[],[],[]⟩)]
 ro:=[false]
theorem j0gK:Con.OK Tryz.prog j08Q:=
 cOf tabOk mixedOk j0hK j08Q Tryz.func240 (And.intro j0aI trivial) (And.intro (fun h=>by kernel_rfl) trivial)
def j03H:Con:=⟨209,[.v ty25,.v iT],[ty25,iT],⟨[.v iT],[]⟩,[iT],fun h=>Pw.j023 h.1 h.2⟩
def j0dM:FnD where
 N:=10
 np:=2
 cs:=[j08Q]
 ds:=[]
 modes:=[(240,[false,false])]
 ro:=[false]
theorem j08q:Con.OK Tryz.prog j03H:=
 cOf tabOk mixedOk j0dM j03H Tryz.func209 (And.intro j0gK trivial) trivial
def j038:Con:=⟨210,[.v ty25,.v iT],[ty25,iT],⟨[.v iT],[]⟩,[iT],fun h=>Pw.j02G h.1 h.2⟩
def j0cX:FnD where
 N:=16
 np:=2
 cs:=[]
 ds:=[]
 ro:=[false]
theorem j07M:Con.OK Tryz.prog j038:=
 cOf tabOk mixedOk j0cX j038 Tryz.func210 trivial trivial
def j04R:Con:=⟨165,[.v ty25,.v iT,.v iT],[ty25,iT,iT],⟨[.own 212 ty24],[]⟩,[ty24],fun h=>Pw.j02c h.1 h.2.1 h.2.2⟩
def j0cY:FnD where
 N:=41
 np:=3
 cs:=[j03H,j038]
 ds:=[⟨0,[sI,sI,.s (.one (.bp 192 0)),.s (.one (.ol 1000000)),.b (.cell [.d iT,.d ty12] false),.b (.lst 212 ty20 false)],[iT,iT,iT,ty12,ty24],[⟨.exit 0,[.s (.one (.ol 1500100)),.b (.lst 212 ty20 false)],[ty24]⟩],fun h=>Pw.j00B h.1 h.2.1 h.2.2.1 h.2.2.2.1 h.2.2.2.2⟩]
 modes:=[(209,[false,false]),(210,[false,false])]
 keep:=[(0,⟨[1,2,3,7],[192],[⟨1000000,212,ty20,[.slot 7],false⟩],[]⟩)]
 keepX:=[(0,.exit 0,⟨[7],[],[⟨1500100,212,ty20,[.slot 7],false⟩],[]⟩)]
 ro:=[true]
theorem j0bP:Con.OK Tryz.prog j04R:=
 cOf tabOk mixedOk j0cY j04R Tryz.func165 (And.intro j08q (And.intro j07M trivial)) (And.intro (fun h=>by kernel_rfl) trivial)
def j07N:Con:=⟨166,[.v ty8],[ty8],⟨[.v iT],[]⟩,[iT],fun h=>Pw.j02X h⟩
def j0gL:FnD where
 N:=11
 np:=1
 cs:=[]
 ds:=[]
 ro:=[false]
theorem j0fF:Con.OK Tryz.prog j07N:=
 cOf tabOk mixedOk j0gL j07N Tryz.func166 trivial trivial
def j03I:Con:=⟨119,[.v ty25,.v ty8],[ty25,ty8],⟨[.v iT,.v .bool],[]⟩,[iT,.bool],fun h=>Pw.j00S h.1 h.2⟩
def j0dN:FnD where
 N:=30
 np:=2
 cs:=[j04R,j07N]
 ds:=[⟨0,[.s (.one (.bp 192 0)),.s (.one (.ol 1000000)),sI,sI,.b (.cell [.d iT,.d iT] false),.b (.lst 212 ty20 false)],[iT,iT,iT,iT,ty24],[⟨.ret,[sI,.s (.one (.d .bool))],[iT,.bool]⟩,⟨.exit 0,[],[]⟩],fun h=>Pw.j010 h.1 h.2.1 h.2.2.1 h.2.2.2.1 h.2.2.2.2⟩]
 modes:=[(165,[false,false,false]),(166,[false])]
 keep:=[(0,⟨[3,10,11,12],[192],[⟨1000000,212,ty20,[.slot 10],false⟩],[]⟩)]
 keepX:=[(0,.ret,⟨[4,5],[],[],[]⟩),
  (0,.exit 0,⟨[],[],[],[]⟩)]
 ro:=[false,false]
theorem j08r:Con.OK Tryz.prog j03I:=
 cOf tabOk mixedOk j0dN j03I Tryz.func119 (And.intro j0bP (And.intro j0fF trivial)) (And.intro (fun h=>by kernel_rfl) trivial)
def j03J:Con:=⟨118,[.v ty25,.v ty67,.v iT],[ty25,ty67,iT],⟨[.v iT,.v .bool],[]⟩,[iT,.bool],fun h=>Pw.j00T h.1 h.2.1 h.2.2⟩
def j0dO:FnD where
 N:=50
 np:=3
 cs:=[j07j,j03I]
 ds:=[]
 modes:=[(119,[false,false]),(164,[false])]
 ro:=[false,false]
 dw:=[(5,[[],[],[],[],[],[],[],[],[512]])]
theorem j08s:Con.OK Tryz.prog j03J:=
 cOf tabOk mixedOk j0dO j03J Tryz.func118 (And.intro j0eg (And.intro j08r trivial)) trivial
def j05t:Con:=⟨64,[.v ty81,.v ty72],[ty81,ty72],⟨[.v iT],[]⟩,[iT],fun h=>Pw.j04e h.1 h.2⟩
def j0dP:FnD where
 N:=95
 np:=2
 cs:=[j048,j03Z,j03I,j03J]
 ds:=[⟨0,[.s (.one (.bp 128 0)),.s (.one (.bp 192 0)),.s (.one (.bp 320 0)),.s (.one (.d ty39)),sI,sI,.b (.cell [.d ty61,.d ty51,.d ty26,.d ty73,.d ty29] false),.b (.cell [.d .str,.d ty68,.d ty39] false),.b (.cell [.d iT] false)],[ty39,iT,iT,ty61,ty51,ty26,ty73,ty29,.str,ty68,ty39,iT],[⟨.exit 0,[.s (.one (.bp 128 0)),.s (.one (.bp 192 0)),.s (.one (.bp 320 0)),.b (.cell [.d ty61,.d ty51,.d ty26,.d ty73,.d ty29] false),.b (.cell [.d .str,.d ty68,.d ty39] false),.b (.cell [.d iT] false)],[ty61,ty51,ty26,ty73,ty29,.str,ty68,ty39,iT]⟩],fun h=>Pw.j05I h.1 h.2.1 h.2.2.1 h.2.2.2.1 h.2.2.2.2.1 h.2.2.2.2.2.1 h.2.2.2.2.2.2.1 h.2.2.2.2.2.2.2.1 h.2.2.2.2.2.2.2.2.1 h.2.2.2.2.2.2.2.2.2.1 h.2.2.2.2.2.2.2.2.2.2.1 h.2.2.2.2.2.2.2.2.2.2.2⟩,
  ⟨2,[.s (.one (.bp 128 0)),.s (.one (.bp 320 0)),.s (.one (.clr 114 [128,320])),.s (.one (.d ty68)),sI,sI,.b (.cell [.d ty61,.d ty51,.d ty26,.d ty73,.d ty29] false),.b (.cell [.d iT] false)],[ty68,iT,iT,ty61,ty51,ty26,ty73,ty29,iT],[⟨.exit 2,[.s (.one (.bp 320 0)),.b (.cell [.d iT] false)],[iT]⟩],fun h=>Pw.j01L h.1 h.2.1 h.2.2.1 h.2.2.2.1 h.2.2.2.2.1 h.2.2.2.2.2.1 h.2.2.2.2.2.2.1 h.2.2.2.2.2.2.2.1 h.2.2.2.2.2.2.2.2⟩]
 modes:=[(114,[false]),(115,[false,false]),(118,[false,false,false]),(119,[false,false])]
 keep:=[(0,⟨[2,3,5,18,19,20],[128,192,320],[],[]⟩),
  (2,⟨[2,5,8,31,32,33],[128,320],[],[]⟩)]
 keepX:=[(0,.exit 0,⟨[2,3,5],[128,192,320],[],[]⟩),
  (2,.exit 2,⟨[5],[320],[],[]⟩)]
 ro:=[false]
 cr:=[114]
theorem j0cZ:Con.OK Tryz.prog j05t:=
 cOf tabOk mixedOk j0dP j05t Tryz.func64 (And.intro j09g (And.intro j0aH (And.intro j08r (And.intro j08s trivial)))) (And.intro (fun h=>by kernel_rfl) (And.intro (fun h=>by kernel_rfl) trivial))
end Go.Proofs.Pk
