/- Contracts: each given function is its plain function, printed by a program. -/
import Derived.Test.YthpdddnkpjnllaaGreatCCon2
noncomputable section
open Go Go.Lft
set_option linter.unusedVariables false
set_option maxRecDepth 100000
namespace Go.Proofs.Pk
def j0aJ:Con:=⟨63,[.v ty79],[ty79],⟨[.v ty81,.v .bool],[]⟩,[ty81,.bool],fun h=>Pw.duty_Of h⟩
def j0km:FnD where
 N:=10
 np:=1
 cs:=[j06Z,j0al]
 ds:=[]
 modes:=[(40,[false]),(113,[false])]
 ro:=[false,false]
theorem j0gh:Con.OK Tryz.prog j0aJ:=
 cOf tabOk mixedOk j0km j0aJ Tryz.func63 (And.intro j0dF (And.intro j0h8 trivial)) trivial
def j06A:Con:=⟨41,[.v ty79,.v iT],[ty79,iT],⟨[.v .bool],[]⟩,[.bool],fun h=>Pw.j091 h.1 h.2⟩
def j0gi:FnD where
 N:=14
 np:=2
 cs:=[]
 ds:=[]
 ro:=[false]
theorem j0bF:Con.OK Tryz.prog j06A:=
 cOf tabOk mixedOk j0gi j06A Tryz.func41 trivial trivial
def j09y:Con:=⟨104,[.v iT,.v iT],[iT,iT],⟨[.v .bool],[]⟩,[.bool],fun h=>Pw.j0dC h.1 h.2⟩
def j0h9:FnD where
 N:=26
 np:=2
 cs:=[]
 ds:=[]
 ro:=[false]
theorem j0gj:Con.OK Tryz.prog j09y:=
 cOf tabOk mixedOk j0h9 j09y Tryz.func104 trivial trivial
def j08M:Con:=⟨60,[.v ty79,.v iT,.v iT,.v iT],[ty79,iT,iT,iT],⟨[.v ty81,.v iT],[]⟩,[ty81,iT],fun h=>Pw.j05T h.1 h.2.1 h.2.2.1 h.2.2.2⟩
def j0gk:FnD where
 N:=34
 np:=4
 cs:=[j0aJ,j06A,j09y]
 ds:=[]
 modes:=[(41,[false,false]),(63,[false]),(104,[false,false])]
 ro:=[false,false]
theorem j0fe:Con.OK Tryz.prog j08M:=
 cOf tabOk mixedOk j0gk j08M Tryz.func60 (And.intro j0gh (And.intro j0bF (And.intro j0gj trivial))) trivial
def j00Y:Con:=⟨102,[.v ty68],[ty68],⟨[.clo 155 [.p [ty68]]],[]⟩,[ty68],fun h=>Pw.j00K h⟩
def j05i:FnD where
 N:=4
 np:=1
 cs:=[]
 ds:=[]
 ro:=[false]
theorem j02R:Con.OK Tryz.prog j00Y:=
 cOf tabOk mixedOk j05i j00Y Tryz.func102 trivial trivial
def j07l:Con:=⟨164,[.v ty67],[ty67],⟨[.v iT],[]⟩,[iT],fun h=>Pw.j07I h⟩
def j0ha:FnD where
 N:=11
 np:=1
 cs:=[]
 ds:=[]
 ro:=[false]
theorem j0cR:Con.OK Tryz.prog j07l:=
 cOf tabOk mixedOk j0ha j07l Tryz.func164 trivial trivial
def j04w:Con:=⟨241,[.v iT,.ip [iT,ty12],.ip [iT]],[iT,iT,ty12,iT],⟨[.v .bool],[]⟩,[.bool],fun h=>Pw.j062 h.1 h.2.1 h.2.2.1 h.2.2.2⟩
def j0aN:FnD where
 N:=13
 np:=3
 cs:=[]
 ds:=[]
 ro:=[false]
theorem j0am:Con.OK Tryz.prog j04w:=
 cOf tabOk mixedOk j0aN j04w Tryz.func241 trivial trivial
def j08N:Con:=⟨240,[.v iT,.clo 241 [.p [iT,ty12],.p [iT]]],[iT,iT,ty12,iT],⟨[.v iT],[]⟩,[iT],fun h=>Pw.j07A h.1 h.2.1 h.2.2.1 h.2.2.2⟩
def j0gl:FnD where
 N:=26
 np:=2
 cs:=[j04w]
 ds:=[⟨0,[.s (.one (.clo 241 [.p [iT,ty12],.p [iT]])),sI,sI],[iT,ty12,iT,iT,iT],[⟨.exit 0,[sI],[iT]⟩],fun h=>Pw.j02E h.1 h.2.1 h.2.2.1 h.2.2.2.1 h.2.2.2.2⟩]
 modes:=[(241,[false])]
 keep:=[(0,⟨[1,5,6],[],[],[]⟩)]
 keepX:=[(0,.exit 0,⟨[5],[],[],[]⟩)]
 ro:=[false]
theorem j0ff:Con.OK Tryz.prog j08N:=
 cOf tabOk mixedOk j0gl j08N Tryz.func240 (And.intro j0am trivial) (And.intro (fun h=>by kernel_rfl) trivial)
def j04g:Con:=⟨209,[.v ty25,.v iT],[ty25,iT],⟨[.v iT],[]⟩,[iT],fun h=>Pw.j02u h.1 h.2⟩
def j0cu:FnD where
 N:=10
 np:=2
 cs:=[j08N]
 ds:=[]
 modes:=[(240,[false,false])]
 ro:=[false]
theorem j08r:Con.OK Tryz.prog j04g:=
 cOf tabOk mixedOk j0cu j04g Tryz.func209 (And.intro j0ff trivial) trivial
def j03L:Con:=⟨210,[.v ty25,.v iT],[ty25,iT],⟨[.v iT],[]⟩,[iT],fun h=>Pw.j03m h.1 h.2⟩
def j0bG:FnD where
 N:=16
 np:=2
 cs:=[]
 ds:=[]
 ro:=[false]
theorem j07R:Con.OK Tryz.prog j03L:=
 cOf tabOk mixedOk j0bG j03L Tryz.func210 trivial trivial
def j02S:Con:=⟨165,[.v ty25,.v iT,.v iT],[ty25,iT,iT],⟨[.own 212 ty24],[]⟩,[ty24],fun h=>Pw.j011 h.1 h.2.1 h.2.2⟩
def j0bH:FnD where
 N:=41
 np:=3
 cs:=[j04g,j03L]
 ds:=[⟨0,[sI,sI,.s (.one (.bp 192 0)),.s (.one (.ol 1000000)),.b (.cell [.d iT,.d ty12] false),.b (.lst 212 ty20 false)],[iT,iT,iT,ty12,ty24],[⟨.exit 0,[.s (.one (.ol 1500100)),.b (.lst 212 ty20 false)],[ty24]⟩],fun h=>Pw.j00g h.1 h.2.1 h.2.2.1 h.2.2.2.1 h.2.2.2.2⟩]
 modes:=[(209,[false,false]),(210,[false,false])]
 keep:=[(0,⟨[1,2,3,7],[192],[⟨1000000,212,ty20,[.slot 7],false⟩],[]⟩)]
 keepX:=[(0,.exit 0,⟨[7],[],[⟨1500100,212,ty20,[.slot 7],false⟩],[]⟩)]
 ro:=[true]
theorem j05H:Con.OK Tryz.prog j02S:=
 cOf tabOk mixedOk j0bH j02S Tryz.func165 (And.intro j08r (And.intro j07R trivial)) (And.intro (fun h=>by kernel_rfl) trivial)
def j07S:Con:=⟨166,[.v ty8],[ty8],⟨[.v iT],[]⟩,[iT],fun h=>Pw.j03y h⟩
def j0fg:FnD where
 N:=11
 np:=1
 cs:=[]
 ds:=[]
 ro:=[false]
theorem j0ed:Con.OK Tryz.prog j07S:=
 cOf tabOk mixedOk j0fg j07S Tryz.func166 trivial trivial
def j05I:Con:=⟨119,[.v ty25,.v ty8],[ty25,ty8],⟨[.v iT,.v .bool],[]⟩,[iT,.bool],fun h=>Pw.j01w h.1 h.2⟩
def j0cv:FnD where
 N:=30
 np:=2
 cs:=[j02S,j07S]
 ds:=[⟨0,[.s (.one (.bp 192 0)),.s (.one (.ol 1000000)),sI,sI,.b (.cell [.d iT,.d iT] false),.b (.lst 212 ty20 false)],[iT,iT,iT,iT,ty24],[⟨.ret,[sI,.s (.one (.d .bool))],[iT,.bool]⟩,⟨.exit 0,[],[]⟩],fun h=>Pw.j01c h.1 h.2.1 h.2.2.1 h.2.2.2.1 h.2.2.2.2⟩]
 modes:=[(165,[false,false,false]),(166,[false])]
 keep:=[(0,⟨[3,10,11,12],[192],[⟨1000000,212,ty20,[.slot 10],false⟩],[]⟩)]
 keepX:=[(0,.ret,⟨[4,5],[],[],[]⟩),
  (0,.exit 0,⟨[],[],[],[]⟩)]
 ro:=[false,false]
theorem j0bI:Con.OK Tryz.prog j05I:=
 cOf tabOk mixedOk j0cv j05I Tryz.func119 (And.intro j05H (And.intro j0ed trivial)) (And.intro (fun h=>by kernel_rfl) trivial)
def j03j:Con:=⟨118,[.v ty25,.v ty67,.v iT],[ty25,ty67,iT],⟨[.v iT,.v .bool],[]⟩,[iT,.bool],fun h=>Pw.j00C h.1 h.2.1 h.2.2⟩
def j0cw:FnD where
 N:=50
 np:=3
 cs:=[j07l,j05I]
 ds:=[]
 modes:=[(119,[false,false]),(164,[false])]
 ro:=[false,false]
 dw:=[(5,[[],[],[],[],[],[],[],[],[512]])]
theorem j068:Con.OK Tryz.prog j03j:=
 cOf tabOk mixedOk j0cw j03j Tryz.func118 (And.intro j0cR (And.intro j0bI trivial)) trivial
def j03u:Con:=⟨194,[.v ty12],[ty12],⟨[.own 113 ty12],[]⟩,[ty12],fun h=>Pw.j02G h⟩
def j06p:FnD where
 N:=8
 np:=1
 cs:=[]
 ds:=[]
 ro:=[true]
theorem j06g:Con.OK Tryz.prog j03u:=
 j0kg tabOk mixedOk j06p 194 ty8 113 Tryz.f194 (Tryz.f194.body.getD .skip) Tryz.func194 (by kernel_rfl) (by kernel_rfl) (Nat.le_of_ble_eq_true (by kernel_rfl)) (by kernel_rfl) trivial (by kernel_rfl)
  (fun h R k=>by kernel_rfl)
def j05s:Con:=⟨195,[.v ty8],[ty8],⟨[.v .bool],[]⟩,[.bool],fun h=>Pw.j06J h⟩
def j0ee:FnD where
 N:=8
 np:=1
 cs:=[]
 ds:=[]
 ro:=[false]
theorem j0an:Con.OK Tryz.prog j05s:=
 cOf tabOk mixedOk j0ee j05s Tryz.func195 trivial trivial
def j01O:Con:=⟨233,[.rl 113 ty12,.clo 195 []],[ty12],⟨[.v iT],[.rl ty12]⟩,[iT,ty12],fun h=>Pw.j00E h⟩
def j05J:FnD where
 N:=19
 np:=2
 cs:=[j05s]
 ds:=[⟨0,[.s (.one (.ol 0)),.s (.one (.clo 195 [])),sI,sI,.b (.lst 113 ty8 false)],[iT,iT,ty12],[⟨.ret,[sI,.b (.lst 113 ty8 false)],[iT,ty12]⟩,⟨.exit 0,[.b (.lst 113 ty8 false)],[ty12]⟩],fun h=>Pw.j00y h.1 h.2.1 h.2.2⟩]
 modes:=[(195,[false])]
 keep:=[(0,⟨[0,1,7,8],[0],[],[]⟩)]
 keepX:=[(0,.ret,⟨[4],[0],[],[]⟩),
  (0,.exit 0,⟨[],[0],[],[]⟩)]
 ro:=[false]
theorem j05j:Con.OK Tryz.prog j01O:=
 cOf tabOk mixedOk j05J j01O Tryz.func233 (And.intro j0an trivial) (And.intro (fun h=>by kernel_rfl) trivial)
def j01K:Con:=⟨193,[.rl 113 ty12,.clo 195 []],[ty12],⟨[.hd],[.rl ty12]⟩,[iT,ty12],fun h=>Pw.j00o h⟩
def j05k:FnD where
 N:=42
 np:=2
 cs:=[j05s,j01O]
 ds:=[⟨0,[.s (.one (.ol 0)),.s (.one (.clo 195 [])),sI,sI,.b (.lst 113 ty8 false)],[iT,iT,ty12],[⟨.exit 0,[.s (.one (.ol 0)),sI,.b (.lst 113 ty8 false)],[iT,ty12]⟩],fun h=>Pw.j00u h.1 h.2.1 h.2.2⟩]
 modes:=[(195,[false]),(233,[true,false])]
 keep:=[(0,⟨[0,1,5,6],[0],[],[]⟩)]
 keepX:=[(0,.exit 0,⟨[0,5],[0],[],[]⟩)]
 ro:=[false]
 hd:=true
theorem j05b:Con.OK Tryz.prog j01K:=
 cOf tabOk mixedOk j05k j01K Tryz.func193 (And.intro j0an (And.intro j05j trivial)) (And.intro (fun h=>by kernel_rfl) trivial)
def j070:Con:=⟨197,[.v ty8,.v ty8],[ty8,ty8],⟨[.v iT],[]⟩,[iT],fun h=>Pw.j05U h.1 h.2⟩
def j0ef:FnD where
 N:=10
 np:=2
 cs:=[]
 ds:=[]
 ro:=[false]
theorem j0js:Con.OK Tryz.prog j070:=
 cOf tabOk mixedOk j0ef j070 Tryz.func197 trivial trivial
def j01r:Con:=⟨196,[.rl 113 ty12,.clo 197 []],[ty12],⟨[],[.rl ty12]⟩,[ty12],fun h=>Pw.j00M h⟩
def j07T:FnD where
 N:=14
 np:=2
 cs:=[j070]
 ds:=[]
 modes:=[(197,[false,false])]
theorem j031:Con.OK Tryz.prog j01r:=
 j0jq Tryz.sort196 (ty8) rfl 113 (by kernel_rfl) Tryz.isAgg113 Tryz.sizeOf113 _ 197 (enters_of Tryz.func197 (by kernel_rfl) rfl) j0ii j0ij 196 rfl
end Go.Proofs.Pk
