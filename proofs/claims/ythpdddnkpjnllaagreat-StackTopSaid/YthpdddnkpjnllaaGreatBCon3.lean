/- Contracts: each given function is its plain function, printed by a program. -/
import Derived.Test.YthpdddnkpjnllaaGreatBCon2
noncomputable section
open Go Go.Lft
set_option linter.unusedVariables false
set_option maxRecDepth 100000
namespace Go.Proofs.Pk
def j0cv:Con:=⟨63,[.v ty79],[ty79],⟨[.v ty81,.v .bool],[]⟩,[ty81,.bool],fun h=>Pw.duty_Of h⟩
def j0o5:FnD where
 N:=10
 np:=1
 cs:=[j07q,j0bM]
 ds:=[]
 modes:=[(40,[false]),(113,[false])]
 ro:=[false,false]
theorem j0j6:Con.OK Tryz.prog j0cv:=
 cOf tabOk mixedOk j0o5 j0cv Tryz.func63 (And.intro j0gb (And.intro j0k8 trivial)) trivial
def j06X:Con:=⟨41,[.v ty79,.v iT],[ty79,iT],⟨[.v .bool],[]⟩,[.bool],fun h=>Pw.j0cr h.1 h.2⟩
def j0j7:FnD where
 N:=14
 np:=2
 cs:=[]
 ds:=[]
 ro:=[false]
theorem j0dS:Con.OK Tryz.prog j06X:=
 cOf tabOk mixedOk j0j7 j06X Tryz.func41 trivial trivial
def j0aJ:Con:=⟨104,[.v iT,.v iT],[iT,iT],⟨[.v .bool],[]⟩,[.bool],fun h=>Pw.j0iS h.1 h.2⟩
def j0k9:FnD where
 N:=26
 np:=2
 cs:=[]
 ds:=[]
 ro:=[false]
theorem j0j8:Con.OK Tryz.prog j0aJ:=
 cOf tabOk mixedOk j0k9 j0aJ Tryz.func104 trivial trivial
def j09T:Con:=⟨60,[.v ty79,.v iT,.v iT,.v iT],[ty79,iT,iT,iT],⟨[.v ty81,.v iT],[]⟩,[ty81,iT],fun h=>Pw.j0a8 h.1 h.2.1 h.2.2.1 h.2.2.2⟩
def j0j9:FnD where
 N:=34
 np:=4
 cs:=[j0cv,j06X,j0aJ]
 ds:=[]
 modes:=[(41,[false,false]),(63,[false]),(104,[false,false])]
 ro:=[false,false]
theorem j0i0:Con.OK Tryz.prog j09T:=
 cOf tabOk mixedOk j0j9 j09T Tryz.func60 (And.intro j0j6 (And.intro j0dS (And.intro j0j8 trivial))) trivial
def j00P:Con:=⟨102,[.v ty68],[ty68],⟨[.clo 155 [.p [ty68]]],[]⟩,[ty68],fun h=>Pw.j014 h⟩
def j05t:FnD where
 N:=4
 np:=1
 cs:=[]
 ds:=[]
 ro:=[false]
theorem j02F:Con.OK Tryz.prog j00P:=
 cOf tabOk mixedOk j05t j00P Tryz.func102 trivial trivial
def j07T:Con:=⟨164,[.v ty67],[ty67],⟨[.v iT],[]⟩,[iT],fun h=>Pw.j08h h⟩
def j0ka:FnD where
 N:=11
 np:=1
 cs:=[]
 ds:=[]
 ro:=[false]
theorem j0ff:Con.OK Tryz.prog j07T:=
 cOf tabOk mixedOk j0ka j07T Tryz.func164 trivial trivial
def j04n:Con:=⟨241,[.v iT,.ip [iT,ty12],.ip [iT]],[iT,iT,ty12,iT],⟨[.v .bool],[]⟩,[.bool],fun h=>Pw.j06a h.1 h.2.1 h.2.2.1 h.2.2.2⟩
def j0cB:FnD where
 N:=13
 np:=3
 cs:=[]
 ds:=[]
 ro:=[false]
theorem j0bN:Con.OK Tryz.prog j04n:=
 cOf tabOk mixedOk j0cB j04n Tryz.func241 trivial trivial
def j09U:Con:=⟨240,[.v iT,.clo 241 [.p [iT,ty12],.p [iT]]],[iT,iT,ty12,iT],⟨[.v iT],[]⟩,[iT],fun h=>Pw.j087 h.1 h.2.1 h.2.2.1 h.2.2.2⟩
def j0ja:FnD where
 N:=26
 np:=2
 cs:=[j04n]
 ds:=[⟨0,[.s (.one (.clo 241 [.p [iT,ty12],.p [iT]])),sI,sI],[iT,ty12,iT,iT,iT],[⟨.exit 0,[sI],[iT]⟩],fun h=>Pw.j02r h.1 h.2.1 h.2.2.1 h.2.2.2.1 h.2.2.2.2⟩]
 modes:=[(241,[false])]
 keep:=[(0,⟨[1,5,6],[],[],[]⟩)]
 keepX:=[(0,.exit 0,⟨[5],[],[],[]⟩)]
 ro:=[false]
theorem j0i1:Con.OK Tryz.prog j09U:=
 cOf tabOk mixedOk j0ja j09U Tryz.func240 (And.intro j0bN trivial) (And.intro (fun h=>by kernel_rfl) trivial)
def j044:Con:=⟨209,[.v ty25,.v iT],[ty25,iT],⟨[.v iT],[]⟩,[iT],fun h=>Pw.j02h h.1 h.2⟩
def j0eH:FnD where
 N:=10
 np:=2
 cs:=[j09U]
 ds:=[]
 modes:=[(240,[false,false])]
 ro:=[false]
theorem j09n:Con.OK Tryz.prog j044:=
 cOf tabOk mixedOk j0eH j044 Tryz.func209 (And.intro j0i1 trivial) trivial
def j03s:Con:=⟨210,[.v ty25,.v iT],[ty25,iT],⟨[.v iT],[]⟩,[iT],fun h=>Pw.j031 h.1 h.2⟩
def j0dT:FnD where
 N:=16
 np:=2
 cs:=[]
 ds:=[]
 ro:=[false]
theorem j08D:Con.OK Tryz.prog j03s:=
 cOf tabOk mixedOk j0dT j03s Tryz.func210 trivial trivial
def j02G:Con:=⟨165,[.v ty25,.v iT,.v iT],[ty25,iT,iT],⟨[.own 212 ty24],[]⟩,[ty24],fun h=>Pw.j01I h.1 h.2.1 h.2.2⟩
def j0dU:FnD where
 N:=41
 np:=3
 cs:=[j044,j03s]
 ds:=[⟨0,[sI,sI,.s (.one (.bp 192 0)),.s (.one (.ol 1000000)),.b (.cell [.d iT,.d ty12] false),.b (.lst 212 ty20 false)],[iT,iT,iT,ty12,ty24],[⟨.exit 0,[.s (.one (.ol 1500100)),.b (.lst 212 ty20 false)],[ty24]⟩],fun h=>Pw.j00z h.1 h.2.1 h.2.2.1 h.2.2.2.1 h.2.2.2.2⟩]
 modes:=[(209,[false,false]),(210,[false,false])]
 keep:=[(0,⟨[1,2,3,7],[192],[⟨1000000,212,ty20,[.slot 7],false⟩],[]⟩)]
 keepX:=[(0,.exit 0,⟨[7],[],[⟨1500100,212,ty20,[.slot 7],false⟩],[]⟩)]
 ro:=[true]
theorem j05U:Con.OK Tryz.prog j02G:=
 cOf tabOk mixedOk j0dU j02G Tryz.func165 (And.intro j09n (And.intro j08D trivial)) (And.intro (fun h=>by kernel_rfl) trivial)
def j08E:Con:=⟨166,[.v ty8],[ty8],⟨[.v iT],[]⟩,[iT],fun h=>Pw.j03h h⟩
def j0i2:FnD where
 N:=11
 np:=1
 cs:=[]
 ds:=[]
 ro:=[false]
theorem j0gO:Con.OK Tryz.prog j08E:=
 cOf tabOk mixedOk j0i2 j08E Tryz.func166 trivial trivial
def j05V:Con:=⟨119,[.v ty25,.v ty8],[ty25,ty8],⟨[.v iT,.v .bool],[]⟩,[iT,.bool],fun h=>Pw.j01j h.1 h.2⟩
def j0eI:FnD where
 N:=30
 np:=2
 cs:=[j02G,j08E]
 ds:=[⟨0,[.s (.one (.bp 192 0)),.s (.one (.ol 1000000)),sI,sI,.b (.cell [.d iT,.d iT] false),.b (.lst 212 ty20 false)],[iT,iT,iT,iT,ty24],[⟨.ret,[sI,.s (.one (.d .bool))],[iT,.bool]⟩,⟨.exit 0,[],[]⟩],fun h=>Pw.j011 h.1 h.2.1 h.2.2.1 h.2.2.2.1 h.2.2.2.2⟩]
 modes:=[(165,[false,false,false]),(166,[false])]
 keep:=[(0,⟨[3,10,11,12],[192],[⟨1000000,212,ty20,[.slot 10],false⟩],[]⟩)]
 keepX:=[(0,.ret,⟨[4,5],[],[],[]⟩),
  (0,.exit 0,⟨[],[],[],[]⟩)]
 ro:=[false,false]
theorem j0dV:Con.OK Tryz.prog j05V:=
 cOf tabOk mixedOk j0eI j05V Tryz.func119 (And.intro j05U (And.intro j0gO trivial)) (And.intro (fun h=>by kernel_rfl) trivial)
def j02Y:Con:=⟨118,[.v ty25,.v ty67,.v iT],[ty25,ty67,iT],⟨[.v iT,.v .bool],[]⟩,[iT,.bool],fun h=>Pw.j00K h.1 h.2.1 h.2.2⟩
def j0eJ:FnD where
 N:=50
 np:=3
 cs:=[j07T,j05V]
 ds:=[]
 modes:=[(119,[false,false]),(164,[false])]
 ro:=[false,false]
 dw:=[(5,[[],[],[],[],[],[],[],[],[512]])]
theorem j06m:Con.OK Tryz.prog j02Y:=
 cOf tabOk mixedOk j0eJ j02Y Tryz.func118 (And.intro j0ff (And.intro j0dV trivial)) trivial
def j03c:Con:=⟨194,[.v ty12],[ty12],⟨[.own 113 ty12],[]⟩,[ty12],fun h=>Pw.j049 h⟩
def j06I:FnD where
 N:=8
 np:=1
 cs:=[]
 ds:=[]
 ro:=[true]
theorem j06y:Con.OK Tryz.prog j03c:=
 j0nZ tabOk mixedOk j06I 194 ty8 113 Tryz.f194 (Tryz.f194.body.getD .skip) Tryz.func194 (by kernel_rfl) (by kernel_rfl) (Nat.le_of_ble_eq_true (by kernel_rfl)) (by kernel_rfl) trivial (by kernel_rfl)
  (fun h R k=>by kernel_rfl)
def j05F:Con:=⟨195,[.v ty8],[ty8],⟨[.v .bool],[]⟩,[.bool],fun h=>Pw.j0bv h⟩
def j0gP:FnD where
 N:=8
 np:=1
 cs:=[]
 ds:=[]
 ro:=[false]
theorem j0bO:Con.OK Tryz.prog j05F:=
 cOf tabOk mixedOk j0gP j05F Tryz.func195 trivial trivial
def j01x:Con:=⟨233,[.rl 113 ty12,.clo 195 []],[ty12],⟨[.v iT],[.rl ty12]⟩,[iT,ty12],fun h=>Pw.j00L h⟩
def j05W:FnD where
 N:=19
 np:=2
 cs:=[j05F]
 ds:=[⟨0,[.s (.one (.ol 0)),.s (.one (.clo 195 [])),sI,sI,.b (.lst 113 ty8 false)],[iT,iT,ty12],[⟨.ret,[sI,.b (.lst 113 ty8 false)],[iT,ty12]⟩,⟨.exit 0,[.b (.lst 113 ty8 false)],[ty12]⟩],fun h=>Pw.j027 h.1 h.2.1 h.2.2⟩]
 modes:=[(195,[false])]
 keep:=[(0,⟨[0,1,7,8],[0],[],[]⟩)]
 keepX:=[(0,.ret,⟨[4],[0],[],[]⟩),
  (0,.exit 0,⟨[],[0],[],[]⟩)]
 ro:=[false]
theorem j05u:Con.OK Tryz.prog j01x:=
 cOf tabOk mixedOk j05W j01x Tryz.func233 (And.intro j0bO trivial) (And.intro (fun h=>by kernel_rfl) trivial)
def j01t:Con:=⟨193,[.rl 113 ty12,.clo 195 []],[ty12],⟨[.hd],[.rl ty12]⟩,[iT,ty12],fun h=>Pw.j00B h⟩
def j05v:FnD where
 N:=42
 np:=2
 cs:=[j05F,j01x]
 ds:=[⟨0,[.s (.one (.ol 0)),.s (.one (.clo 195 [])),sI,sI,.b (.lst 113 ty8 false)],[iT,iT,ty12],[⟨.exit 0,[.s (.one (.ol 0)),sI,.b (.lst 113 ty8 false)],[iT,ty12]⟩],fun h=>Pw.j026 h.1 h.2.1 h.2.2⟩]
 modes:=[(195,[false]),(233,[true,false])]
 keep:=[(0,⟨[0,1,5,6],[0],[],[]⟩)]
 keepX:=[(0,.exit 0,⟨[0,5],[0],[],[]⟩)]
 ro:=[false]
 hd:=true
theorem j05i:Con.OK Tryz.prog j01t:=
 cOf tabOk mixedOk j05v j01t Tryz.func193 (And.intro j0bO (And.intro j05u trivial)) (And.intro (fun h=>by kernel_rfl) trivial)
def j07r:Con:=⟨197,[.v ty8,.v ty8],[ty8,ty8],⟨[.v iT],[]⟩,[iT],fun h=>Pw.j09a h.1 h.2⟩
def j0gQ:FnD where
 N:=10
 np:=2
 cs:=[]
 ds:=[]
 ro:=[false]
theorem j0n4:Con.OK Tryz.prog j07r:=
 cOf tabOk mixedOk j0gQ j07r Tryz.func197 trivial trivial
def j01g:Con:=⟨196,[.rl 113 ty12,.clo 197 []],[ty12],⟨[],[.rl ty12]⟩,[ty12],fun h=>Pw.j01u h⟩
def j08F:FnD where
 N:=14
 np:=2
 cs:=[j07r]
 ds:=[]
 modes:=[(197,[false,false])]
theorem j02J:Con.OK Tryz.prog j01g:=
 j0n2 Tryz.sort196 (ty8) rfl 113 (by kernel_rfl) Tryz.isAgg113 Tryz.sizeOf113 _ 197 (enters_of Tryz.func197 (by kernel_rfl) rfl) j0lB j0lC 196 rfl
end Go.Proofs.Pk
