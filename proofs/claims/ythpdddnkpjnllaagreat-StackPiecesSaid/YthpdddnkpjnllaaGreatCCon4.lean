/- Contracts: each given function is its plain function, printed by a program. -/
import Derived.Test.YthpdddnkpjnllaaGreatCCon3
noncomputable section
open Go Go.Lft
set_option linter.unusedVariables false
set_option maxRecDepth 100000
namespace Go.Proofs.Pk
def j050:Con:=⟨160,[.v ty12],[ty12],⟨[.own 113 ty12],[]⟩,[ty12],fun h=>Pw.j05e h⟩
def j0hb:FnD where
 N:=54
 np:=1
 cs:=[j03u,j01K,j01r]
 ds:=[⟨0,[.s (.one (.ol 1000000)),.s (.one (.ol 1000001)),sI,sI,.b (.lst 113 ty8 false),.b (.lst 113 ty8 false)],[iT,iT,ty12,ty12],[⟨.exit 0,[.s (.one (.ol 1500100)),.b (.lst 113 ty8 false)],[ty12]⟩],fun h=>Pw.j030 h.1 h.2.1 h.2.2.1 h.2.2.2⟩]
 modes:=[(193,[true,false]),(194,[false]),(196,[true,false])]
 keep:=[(0,⟨[4,13,14,15],[],[⟨1000000,113,ty8,[.slot 4],false⟩,⟨1000001,113,ty8,[.slot 13],false⟩],[]⟩)]
 keepX:=[(0,.exit 0,⟨[4],[],[⟨1500100,113,ty8,[.slot 4],false⟩],[]⟩)]
 ro:=[true]
 dw:=[(9,[[],[],[],[],[],[],[],[],[],[],[],[],[],[],[1000000]])]
theorem j08s:Con.OK Tryz.prog j050:=
 cOf tabOk mixedOk j0hb j050 Tryz.func160 (And.intro j06g (And.intro j05b (And.intro j031 trivial))) (And.intro (fun h=>by kernel_rfl) trivial)
def j07U:Con:=⟨190,[.v ty25,.v ty12,.v iT,.v iT],[ty25,ty12,iT,iT],⟨[.own 113 ty12],[]⟩,[ty12],fun h=>Pw.j038 h.1 h.2.1 h.2.2.1 h.2.2.2⟩
def j0fh:FnD where
 N:=73
 np:=4
 cs:=[j02S,j050]
 ds:=[⟨0,[.s (.one (.d ty12)),.s (.one (.ol 1000000)),.s (.one (.ol 1000001)),sI,sI,.b (.lst 113 ty8 false),.b (.lst 212 ty20 false)],[ty12,iT,iT,ty12,ty24],[⟨.exit 0,[.s (.one (.ol 1500100)),.b (.lst 113 ty8 false)],[ty12]⟩],fun h=>Pw.j01y h.1 h.2.1 h.2.2.1 h.2.2.2.1 h.2.2.2.2⟩,
  ⟨2,[.s (.one (.d ty12)),.s (.one (.ol 1002000)),.s (.one (.bp 704 0)),sI,.s (.one (.ol 1002001)),sI,sI,.b (.cell [.d iT,.d iT,.d iT] false),.b (.lst 113 ty8 false),.b (.lst 212 ty20 false)],[ty12,iT,iT,iT,iT,iT,iT,ty12,ty24],[⟨.exit 2,[.s (.one (.d ty12)),.s (.one (.ol 1502300)),.s (.one (.ol 1502301)),sI,sI,.b (.lst 113 ty8 false),.b (.lst 212 ty20 false)],[ty12,iT,iT,ty12,ty24]⟩],fun h=>Pw.j01x h.1 h.2.1 h.2.2.1 h.2.2.2.1 h.2.2.2.2.1 h.2.2.2.2.2.1 h.2.2.2.2.2.2.1 h.2.2.2.2.2.2.2.1 h.2.2.2.2.2.2.2.2⟩,
  ⟨4,[.s (.one (.d ty12)),.s (.one (.ol 1004000)),.s (.one (.bp 704 0)),sI,.s (.one (.ol 1004001)),sI,sI,.s (.one (.d ty12)),sI,sI,.b (.cell [.d iT,.d iT,.d iT] false),.b (.lst 113 ty8 false),.b (.lst 212 ty20 false)],[ty12,iT,iT,iT,ty12,iT,iT,iT,iT,iT,ty12,ty24],[⟨.exit 4,[.s (.one (.d ty12)),.s (.one (.ol 1504500)),.s (.one (.bp 704 0)),sI,.s (.one (.ol 1504501)),sI,sI,.b (.cell [.d iT,.d iT,.d iT] false),.b (.lst 113 ty8 false),.b (.lst 212 ty20 false)],[ty12,iT,iT,iT,iT,iT,iT,ty12,ty24]⟩],fun h=>Pw.j037 h.1 h.2.1 h.2.2.1 h.2.2.2.1 h.2.2.2.2.1 h.2.2.2.2.2.1 h.2.2.2.2.2.2.1 h.2.2.2.2.2.2.2.1 h.2.2.2.2.2.2.2.2.1 h.2.2.2.2.2.2.2.2.2.1 h.2.2.2.2.2.2.2.2.2.2.1 h.2.2.2.2.2.2.2.2.2.2.2⟩]
 modes:=[(160,[false]),(165,[false,false,false])]
 keep:=[(0,⟨[1,9,19,20,21],[],[⟨1000000,113,ty8,[.slot 9],false⟩,⟨1000001,212,ty20,[.slot 19],false⟩],[]⟩),
  (2,⟨[1,9,11,13,19,20,21],[704],[⟨1002000,113,ty8,[.slot 9],false⟩,⟨1002001,212,ty20,[.slot 19],false⟩],[]⟩),
  (4,⟨[1,9,11,13,19,20,21,45,46,47],[704],[⟨1004000,113,ty8,[.slot 9],false⟩,⟨1004001,212,ty20,[.slot 19],false⟩],[]⟩)]
 keepX:=[(0,.exit 0,⟨[9],[],[⟨1500100,113,ty8,[.slot 9],false⟩],[]⟩),
  (2,.exit 2,⟨[1,9,19,20,21],[],[⟨1502300,113,ty8,[.slot 9],false⟩,⟨1502301,212,ty20,[.slot 19],false⟩],[]⟩),
  (4,.exit 4,⟨[1,9,11,13,19,20,21],[704],[⟨1504500,113,ty8,[.slot 9],false⟩,⟨1504501,212,ty20,[.slot 19],false⟩],[]⟩)]
 ro:=[true]
theorem j0eg:Con.OK Tryz.prog j07U:=
 cOf tabOk mixedOk j0fh j07U Tryz.func190 (And.intro j05H (And.intro j08s trivial)) (And.intro (fun h=>by kernel_rfl) (And.intro (fun h=>by kernel_rfl) (And.intro (fun h=>by kernel_rfl) trivial)))
def j06q:Con:=⟨191,[.v ty81,.v ty22,.v iT,.v iT],[ty81,ty22,iT,iT],⟨[.own 113 ty12],[]⟩,[ty12],fun h=>Pw.j01q h.1 h.2.1 h.2.2.1 h.2.2.2⟩
def j0dG:FnD where
 N:=58
 np:=4
 cs:=[j02S,j050]
 ds:=[⟨0,[.s (.one (.bp 320 0)),.s (.one (.ol 1000000)),.s (.one (.ol 1000001)),sI,sI,.b (.cell [.d .str,.d iT,.d (.list iT)] false),.b (.lst 113 ty8 false),.b (.lst 212 ty20 false)],[iT,iT,.str,iT,(.list iT),ty12,ty24],[⟨.exit 0,[.s (.one (.ol 1500100)),.b (.lst 113 ty8 false)],[ty12]⟩],fun h=>Pw.j017 h.1 h.2.1 h.2.2.1 h.2.2.2.1 h.2.2.2.2.1 h.2.2.2.2.2.1 h.2.2.2.2.2.2⟩,
  ⟨2,[.s (.one (.bp 320 0)),.s (.one (.ol 1002000)),.s (.one (.bp 704 0)),.s (.one (.ol 1002001)),sI,sI,.s (.one (.d (.list iT))),sI,sI,.b (.cell [.d .str,.d iT,.d (.list iT)] false),.b (.cell [.d iT,.d iT,.d iT] false),.b (.lst 113 ty8 false),.b (.lst 212 ty20 false)],[iT,iT,(.list iT),iT,iT,.str,iT,(.list iT),iT,iT,iT,ty12,ty24],[⟨.exit 2,[.s (.one (.bp 320 0)),.s (.one (.ol 1502300)),.s (.one (.ol 1502301)),sI,sI,.b (.cell [.d .str,.d iT,.d (.list iT)] false),.b (.lst 113 ty8 false),.b (.lst 212 ty20 false)],[iT,iT,.str,iT,(.list iT),ty12,ty24]⟩],fun h=>Pw.j02w h.1 h.2.1 h.2.2.1 h.2.2.2.1 h.2.2.2.2.1 h.2.2.2.2.2.1 h.2.2.2.2.2.2.1 h.2.2.2.2.2.2.2.1 h.2.2.2.2.2.2.2.2.1 h.2.2.2.2.2.2.2.2.2.1 h.2.2.2.2.2.2.2.2.2.2.1 h.2.2.2.2.2.2.2.2.2.2.2.1 h.2.2.2.2.2.2.2.2.2.2.2.2⟩]
 modes:=[(160,[false]),(165,[false,false,false])]
 keep:=[(0,⟨[5,9,23,24,25],[320],[⟨1000000,113,ty8,[.slot 9],false⟩,⟨1000001,212,ty20,[.slot 23],false⟩],[]⟩),
  (2,⟨[5,9,11,23,24,25,30,31,32],[320,704],[⟨1002000,113,ty8,[.slot 9],false⟩,⟨1002001,212,ty20,[.slot 23],false⟩],[]⟩)]
 keepX:=[(0,.exit 0,⟨[9],[],[⟨1500100,113,ty8,[.slot 9],false⟩],[]⟩),
  (2,.exit 2,⟨[5,9,23,24,25],[320],[⟨1502300,113,ty8,[.slot 9],false⟩,⟨1502301,212,ty20,[.slot 23],false⟩],[]⟩)]
 ro:=[true]
theorem j0d1:Con.OK Tryz.prog j06q:=
 cOf tabOk mixedOk j0dG j06q Tryz.func191 (And.intro j05H (And.intro j08s trivial)) (And.intro (fun h=>by kernel_rfl) (And.intro (fun h=>by kernel_rfl) trivial))
def j04N:Con:=⟨108,[.v ty12,.v ty12],[ty12,ty12],⟨[.own 113 ty12],[]⟩,[ty12],fun h=>Pw.j01Y h.1 h.2⟩
def j0fi:FnD where
 N:=89
 np:=2
 cs:=[]
 ds:=[⟨0,[.s (.one (.d ty12)),.s (.one (.ol 1000000)),sI,.s (.one (.d ty12)),sI,sI,.b (.lst 113 ty8 false)],[ty12,iT,ty12,iT,iT,ty12],[⟨.exit 0,[.s (.one (.ol 1500100)),.b (.lst 113 ty8 false)],[ty12]⟩],fun h=>Pw.j01z h.1 h.2.1 h.2.2.1 h.2.2.2.1 h.2.2.2.2.1 h.2.2.2.2.2⟩,
  ⟨2,[.s (.one (.d ty12)),.s (.one (.ol 1002000)),sI,.s (.one (.bp 512 0)),.s (.one (.d ty12)),sI,sI,.b (.cell [.d iT,.d iT] false),.b (.lst 113 ty8 false)],[ty12,iT,ty12,iT,iT,iT,iT,ty12],[⟨.exit 2,[.s (.one (.d ty12)),.s (.one (.ol 1502300)),sI,.s (.one (.bp 512 0)),.s (.one (.d ty12)),sI,sI,.b (.cell [.d iT,.d iT] false),.b (.lst 113 ty8 false)],[ty12,iT,ty12,iT,iT,iT,iT,ty12]⟩],fun h=>Pw.j039 h.1 h.2.1 h.2.2.1 h.2.2.2.1 h.2.2.2.2.1 h.2.2.2.2.2.1 h.2.2.2.2.2.2.1 h.2.2.2.2.2.2.2⟩,
  ⟨4,[.s (.one (.d ty12)),.s (.one (.ol 1004000)),sI,.s (.one (.bp 512 0)),sI,sI,.s (.one (.d ty12)),sI,sI,.b (.cell [.d iT,.d iT] false),.b (.lst 113 ty8 false)],[ty12,iT,iT,iT,ty12,iT,iT,iT,iT,ty12],[⟨.exit 4,[.s (.one (.d ty12)),.s (.one (.ol 1504500)),sI,.s (.one (.bp 512 0)),sI,.s (.one (.d ty12)),sI,sI,.b (.cell [.d iT,.d iT] false),.b (.lst 113 ty8 false)],[ty12,iT,iT,ty12,iT,iT,iT,iT,ty12]⟩],fun h=>Pw.j03a h.1 h.2.1 h.2.2.1 h.2.2.2.1 h.2.2.2.2.1 h.2.2.2.2.2.1 h.2.2.2.2.2.2.1 h.2.2.2.2.2.2.2.1 h.2.2.2.2.2.2.2.2.1 h.2.2.2.2.2.2.2.2.2⟩]
 keep:=[(0,⟨[1,5,6,11,12,13],[],[⟨1000000,113,ty8,[.slot 5],false⟩],[]⟩),
  (2,⟨[1,5,6,8,11,12,13],[512],[⟨1002000,113,ty8,[.slot 5],false⟩],[]⟩),
  (4,⟨[1,5,6,8,9,10,11,12,13],[512],[⟨1004000,113,ty8,[.slot 5],false⟩],[]⟩)]
 keepX:=[(0,.exit 0,⟨[5],[],[⟨1500100,113,ty8,[.slot 5],false⟩],[]⟩),
  (2,.exit 2,⟨[1,5,6,8,11,12,13],[512],[⟨1502300,113,ty8,[.slot 5],false⟩],[]⟩),
  (4,.exit 4,⟨[1,5,6,8,9,11,12,13],[512],[⟨1504500,113,ty8,[.slot 5],false⟩],[]⟩)]
 ro:=[true]
theorem j08O:Con.OK Tryz.prog j04N:=
 cOf tabOk mixedOk j0fi j04N Tryz.func108 trivial (And.intro (fun h=>by kernel_rfl) (And.intro (fun h=>by kernel_rfl) (And.intro (fun h=>by kernel_rfl) trivial)))
def j08P:Con:=⟨192,[.v ty12,.v ty12],[ty12,ty12],⟨[.own 113 ty12],[]⟩,[ty12],fun h=>Pw.j05V h.1 h.2⟩
def j0gm:FnD where
 N:=67
 np:=2
 cs:=[]
 ds:=[⟨0,[.s (.one (.d ty12)),.s (.one (.d ty12)),.s (.one (.ol 1000000)),sI,sI,.b (.lst 113 ty8 false)],[ty12,ty12,iT,iT,ty12],[⟨.exit 0,[.s (.one (.ol 1500100)),.b (.lst 113 ty8 false)],[ty12]⟩],fun h=>Pw.j04C h.1 h.2.1 h.2.2.1 h.2.2.2.1 h.2.2.2.2⟩]
 keep:=[(0,⟨[0,1,5,6,7],[],[⟨1000000,113,ty8,[.slot 5],false⟩],[]⟩)]
 keepX:=[(0,.exit 0,⟨[5],[],[⟨1500100,113,ty8,[.slot 5],false⟩],[]⟩)]
 ro:=[true]
 dw:=[(4,[[],[],[],[],[],[],[],[],[],[],[],[],[],[],[],[],[],[],[],[],[],[],[],[512],[512]])]
theorem j0fj:Con.OK Tryz.prog j08P:=
 cOf tabOk mixedOk j0gm j08P Tryz.func192 trivial (And.intro (fun h=>by kernel_rfl) trivial)
def j069:Con:=⟨158,[.v ty81,.v ty67,.v iT,.v iT],[ty81,ty67,iT,iT],⟨[.own 113 ty12],[]⟩,[ty12],fun h=>Pw.j02X h.1 h.2.1 h.2.2.1 h.2.2.2⟩
def j0d2:FnD where
 N:=90
 np:=4
 cs:=[j03j,j07U,j06q,j04N,j08P]
 ds:=[]
 modes:=[(108,[false,false]),(118,[false,false,false]),(190,[false,false,false,false]),(191,[false,false,false,false]),(192,[false,false])]
 ro:=[true]
 dw:=[(7,[[],[],[],[],[],[],[],[],[],[],[3584],[]]),(10,[[],[],[],[],[],[],[],[],[],[],[],[4608],[4672],[]]),(12,[[],[],[],[],[],[],[],[],[],[],[],[5568],[5632],[]])]
theorem j0cx:Con.OK Tryz.prog j069:=
 cOf tabOk mixedOk j0d2 j069 Tryz.func158 (And.intro j068 (And.intro j0eg (And.intro j0d1 (And.intro j08O (And.intro j0fj trivial))))) trivial
def j05c:Con:=⟨232,[.v ty25,.v iT],[ty25,iT],⟨[.v iT],[]⟩,[iT],fun h=>Pw.j02J h.1 h.2⟩
def j0bJ:FnD where
 N:=10
 np:=2
 cs:=[j04g,j03L]
 ds:=[]
 modes:=[(209,[false,false]),(210,[false,false])]
 ro:=[false]
theorem j0b2:Con.OK Tryz.prog j05c:=
 cOf tabOk mixedOk j0bJ j05c Tryz.func232 (And.intro j08r (And.intro j07R trivial)) trivial
def j09z:Con:=⟨231,[.v iT],[iT],⟨[.v ty8],[]⟩,[ty8],fun h=>Pw.j0bs h⟩
def j0hc:FnD where
 N:=17
 np:=1
 cs:=[]
 ds:=[]
 ro:=[false]
theorem j0gn:Con.OK Tryz.prog j09z:=
 cOf tabOk mixedOk j0hc j09z Tryz.func231 trivial trivial
def j04h:Con:=⟨189,[.v ty25,.v iT],[ty25,iT],⟨[.v ty8],[]⟩,[ty8],fun h=>Pw.j00n h.1 h.2⟩
def j0cy:FnD where
 N:=11
 np:=2
 cs:=[j05c,j09z]
 ds:=[]
 modes:=[(231,[false]),(232,[false,false])]
 ro:=[false]
theorem j08t:Con.OK Tryz.prog j04h:=
 cOf tabOk mixedOk j0cy j04h Tryz.func189 (And.intro j0b2 (And.intro j0gn trivial)) trivial
def j05t:Con:=⟨159,[.v ty25,.v ty67,.v iT],[ty25,ty67,iT],⟨[.v iT],[]⟩,[iT],fun h=>Pw.j01A h.1 h.2.1 h.2.2⟩
def j0eh:FnD where
 N:=84
 np:=3
 cs:=[j07l,j03j,j04h]
 ds:=[⟨0,[sI,.s (.one (.bp 192 0)),.s (.one (.bp 256 0)),sI,.b (.cell [.d iT,.d ty12] false),.b (.cell [.d .str,.d iT,.d iT,.d iT,.d iT,.d iT,.d (.list iT),.d ty12,.d iT,.d iT] false)],[iT,iT,iT,ty12,.str,iT,iT,iT,iT,iT,(.list iT),ty12,iT,iT],[⟨.exit 0,[sI,.s (.one (.bp 192 0)),.s (.one (.bp 256 0)),sI,.b (.cell [.d iT,.d ty12] false),.b (.cell [.d .str,.d iT,.d iT,.d iT,.d iT,.d iT,.d (.list iT),.d ty12,.d iT,.d iT] false)],[iT,iT,iT,ty12,.str,iT,iT,iT,iT,iT,(.list iT),ty12,iT,iT]⟩],fun h=>Pw.j01k h.1 h.2.1 h.2.2.1 h.2.2.2.1 h.2.2.2.2.1 h.2.2.2.2.2.1 h.2.2.2.2.2.2.1 h.2.2.2.2.2.2.2.1 h.2.2.2.2.2.2.2.2.1 h.2.2.2.2.2.2.2.2.2.1 h.2.2.2.2.2.2.2.2.2.2.1 h.2.2.2.2.2.2.2.2.2.2.2.1 h.2.2.2.2.2.2.2.2.2.2.2.2.1 h.2.2.2.2.2.2.2.2.2.2.2.2.2⟩,
  ⟨2,[sI,.s (.one (.bp 192 0)),.s (.one (.bp 256 0)),sI,.b (.cell [.d iT,.d ty12] false),.b (.cell [.d .str,.d iT,.d iT,.d iT,.d iT,.d iT,.d (.list iT),.d ty12,.d iT,.d iT] false)],[iT,iT,iT,ty12,.str,iT,iT,iT,iT,iT,(.list iT),ty12,iT,iT],[⟨.ret,[sI],[iT]⟩],fun h=>Pw.j01L h.1 h.2.1 h.2.2.1 h.2.2.2.1 h.2.2.2.2.1 h.2.2.2.2.2.1 h.2.2.2.2.2.2.1 h.2.2.2.2.2.2.2.1 h.2.2.2.2.2.2.2.2.1 h.2.2.2.2.2.2.2.2.2.1 h.2.2.2.2.2.2.2.2.2.2.1 h.2.2.2.2.2.2.2.2.2.2.2.1 h.2.2.2.2.2.2.2.2.2.2.2.2.1 h.2.2.2.2.2.2.2.2.2.2.2.2.2⟩]
 modes:=[(118,[false,false,false]),(164,[false]),(189,[false,false])]
 keep:=[(0,⟨[2,3,4,9],[192,256],[],[]⟩),
  (2,⟨[2,3,4,9],[192,256],[],[]⟩)]
 keepX:=[(0,.exit 0,⟨[2,3,4,9],[192,256],[],[]⟩),
  (2,.ret,⟨[6],[],[],[]⟩)]
 ro:=[false]
theorem j0ao:Con.OK Tryz.prog j05t:=
 cOf tabOk mixedOk j0eh j05t Tryz.func159 (And.intro j0cR (And.intro j068 (And.intro j08t trivial))) (And.intro (fun h=>by kernel_rfl) (And.intro (fun h=>by kernel_rfl) trivial))
def j07m:Con:=⟨112,[.v ty24],[ty24],⟨[.own 60 ty24],[]⟩,[ty24],fun h=>Pw.j063 h⟩
def j0hd:FnD where
 N:=57
 np:=1
 cs:=[]
 ds:=[⟨0,[.s (.one (.ol 1000000)),.s (.one (.d ty24)),sI,sI,.b (.lst 60 ty20 false)],[ty24,iT,iT,ty24],[⟨.exit 0,[.s (.one (.ol 1500100)),.b (.lst 60 ty20 false)],[ty24]⟩],fun h=>Pw.j03V h.1 h.2.1 h.2.2.1 h.2.2.2⟩]
 keep:=[(0,⟨[3,7,8,9],[],[⟨1000000,60,ty20,[.slot 3],false⟩],[]⟩)]
 keepX:=[(0,.exit 0,⟨[3],[],[⟨1500100,60,ty20,[.slot 3],false⟩],[]⟩)]
 ro:=[true]
theorem j0cS:Con.OK Tryz.prog j07m:=
 cOf tabOk mixedOk j0hd j07m Tryz.func112 trivial (And.intro (fun h=>by kernel_rfl) trivial)
def j04O:Con:=⟨107,[.v ty81,.v ty67,.v iT,.v iT],[ty81,ty67,iT,iT],⟨[.own 60 ty24],[]⟩,[ty24],fun h=>Pw.j014 h.1 h.2.1 h.2.2.1 h.2.2.2⟩
def j0b3:FnD where
 N:=95
 np:=4
 cs:=[j03j,j069,j05t,j07m]
 ds:=[⟨0,[sI,.s (.one (.bp 320 0)),.s (.one (.ol 1000000)),.s (.one (.bp 640 0)),sI,sI,sI,.s (.one (.ol 1000001)),sI,sI,.b (.cell [.d .str,.d iT,.d iT,.d iT,.d iT,.d iT,.d (.list iT),.d ty12,.d iT,.d iT] false),.b (.cell [.d iT,.d ty12] false),.b (.lst 60 ty20 false),.b (.lst 113 ty8 false)],[iT,iT,iT,iT,iT,iT,.str,iT,iT,iT,iT,iT,(.list iT),ty12,iT,iT,iT,ty12,ty24,ty12],[⟨.exit 0,[sI,.s (.one (.ol 1500100)),sI,.b (.lst 60 ty20 false)],[iT,iT,ty24]⟩],fun h=>Pw.j00I h.1 h.2.1 h.2.2.1 h.2.2.2.1 h.2.2.2.2.1 h.2.2.2.2.2.1 h.2.2.2.2.2.2.1 h.2.2.2.2.2.2.2.1 h.2.2.2.2.2.2.2.2.1 h.2.2.2.2.2.2.2.2.2.1 h.2.2.2.2.2.2.2.2.2.2.1 h.2.2.2.2.2.2.2.2.2.2.2.1 h.2.2.2.2.2.2.2.2.2.2.2.2.1 h.2.2.2.2.2.2.2.2.2.2.2.2.2.1 h.2.2.2.2.2.2.2.2.2.2.2.2.2.2.1 h.2.2.2.2.2.2.2.2.2.2.2.2.2.2.2.1 h.2.2.2.2.2.2.2.2.2.2.2.2.2.2.2.2.1 h.2.2.2.2.2.2.2.2.2.2.2.2.2.2.2.2.2.1 h.2.2.2.2.2.2.2.2.2.2.2.2.2.2.2.2.2.2.1 h.2.2.2.2.2.2.2.2.2.2.2.2.2.2.2.2.2.2.2⟩,
  ⟨2,[sI,.s (.one (.bp 320 0)),.s (.one (.ol 1002000)),.s (.one (.bp 640 0)),sI,sI,sI,.s (.one (.bp 960 0)),.s (.one (.ol 1002001)),sI,sI,.b (.cell [.d .str,.d iT,.d iT,.d iT,.d iT,.d iT,.d (.list iT),.d ty12,.d iT,.d iT] false),.b (.cell [.d iT,.d ty12] false),.b (.cell [.d iT,.d iT] false),.b (.lst 60 ty20 false),.b (.lst 113 ty8 false)],[iT,iT,iT,iT,iT,iT,.str,iT,iT,iT,iT,iT,(.list iT),ty12,iT,iT,iT,ty12,iT,iT,ty24,ty12],[⟨.exit 2,[sI,.s (.one (.bp 320 0)),.s (.one (.ol 1502300)),.s (.one (.bp 640 0)),sI,sI,sI,.s (.one (.ol 1502301)),sI,sI,.b (.cell [.d .str,.d iT,.d iT,.d iT,.d iT,.d iT,.d (.list iT),.d ty12,.d iT,.d iT] false),.b (.cell [.d iT,.d ty12] false),.b (.lst 60 ty20 false),.b (.lst 113 ty8 false)],[iT,iT,iT,iT,iT,iT,.str,iT,iT,iT,iT,iT,(.list iT),ty12,iT,iT,iT,ty12,ty24,ty12]⟩],fun h=>Pw.j00X h.1 h.2.1 h.2.2.1 h.2.2.2.1 h.2.2.2.2.1 h.2.2.2.2.2.1 h.2.2.2.2.2.2.1 h.2.2.2.2.2.2.2.1 h.2.2.2.2.2.2.2.2.1 h.2.2.2.2.2.2.2.2.2.1 h.2.2.2.2.2.2.2.2.2.2.1 h.2.2.2.2.2.2.2.2.2.2.2.1 h.2.2.2.2.2.2.2.2.2.2.2.2.1 h.2.2.2.2.2.2.2.2.2.2.2.2.2.1 h.2.2.2.2.2.2.2.2.2.2.2.2.2.2.1 h.2.2.2.2.2.2.2.2.2.2.2.2.2.2.2.1 h.2.2.2.2.2.2.2.2.2.2.2.2.2.2.2.2.1 h.2.2.2.2.2.2.2.2.2.2.2.2.2.2.2.2.2.1 h.2.2.2.2.2.2.2.2.2.2.2.2.2.2.2.2.2.2.1 h.2.2.2.2.2.2.2.2.2.2.2.2.2.2.2.2.2.2.2.1 h.2.2.2.2.2.2.2.2.2.2.2.2.2.2.2.2.2.2.2.2.1 h.2.2.2.2.2.2.2.2.2.2.2.2.2.2.2.2.2.2.2.2.2⟩]
 modes:=[(112,[false]),(118,[false,false,false]),(158,[false,false,false,false]),(159,[false,false,false])]
 keep:=[(0,⟨[3,5,9,10,11,12,13,30,31,32],[320,640],[⟨1000000,60,ty20,[.slot 9],false⟩,⟨1000001,113,ty8,[.slot 30],false⟩],[]⟩),
  (2,⟨[3,5,9,10,11,12,13,15,30,31,32],[320,640,960],[⟨1002000,60,ty20,[.slot 9],false⟩,⟨1002001,113,ty8,[.slot 30],false⟩],[]⟩)]
 keepX:=[(0,.exit 0,⟨[3,9,11],[],[⟨1500100,60,ty20,[.slot 9],false⟩],[]⟩),
  (2,.exit 2,⟨[3,5,9,10,11,12,13,30,31,32],[320,640],[⟨1502300,60,ty20,[.slot 9],false⟩,⟨1502301,113,ty8,[.slot 30],false⟩],[]⟩)]
 ro:=[true]
 dw:=[(17,[[],[],[],[],[],[],[],[],[],[],[],[],[],[5376],[5440,1002000],[]])]
theorem j0aO:Con.OK Tryz.prog j04O:=
 cOf tabOk mixedOk j0b3 j04O Tryz.func107 (And.intro j068 (And.intro j0cx (And.intro j0ao (And.intro j0cS trivial)))) (And.intro (fun h=>by kernel_rfl) (And.intro (fun h=>by kernel_rfl) trivial))
def j07V:Con:=⟨157,[.v ty72,.v iT],[ty72,iT],⟨[.own 113 ty12],[]⟩,[ty12],fun h=>Pw.j03B h.1 h.2⟩
def j0fk:FnD where
 N:=35
 np:=2
 cs:=[j050]
 ds:=[⟨0,[sI,.s (.one (.ol 1000000)),.s (.one (.d ty39)),sI,sI,.b (.lst 113 ty8 false)],[iT,ty39,iT,iT,ty12],[⟨.exit 0,[.s (.one (.ol 1500100)),.b (.lst 113 ty8 false)],[ty12]⟩],fun h=>Pw.j03b h.1 h.2.1 h.2.2.1 h.2.2.2.1 h.2.2.2.2⟩]
 modes:=[(160,[false])]
 keep:=[(0,⟨[1,5,9,10,11],[],[⟨1000000,113,ty8,[.slot 5],false⟩],[]⟩)]
 keepX:=[(0,.exit 0,⟨[5],[],[⟨1500100,113,ty8,[.slot 5],false⟩],[]⟩)]
 ro:=[true]
theorem j0ei:Con.OK Tryz.prog j07V:=
 cOf tabOk mixedOk j0fk j07V Tryz.func157 (And.intro j08s trivial) (And.intro (fun h=>by kernel_rfl) trivial)
def j071:Con:=⟨106,[.v ty72,.v ty24],[ty72,ty24],⟨[.own 60 ty24],[]⟩,[ty24],fun h=>Pw.j046 h.1 h.2⟩
def j0ej:FnD where
 N:=68
 np:=2
 cs:=[j04N,j07V]
 ds:=[⟨0,[.s (.one (.bp 128 0)),.s (.one (.ol 1000000)),.s (.one (.ol 1000001)),.s (.one (.d ty24)),sI,sI,.b (.cell [.d .str,.d ty68,.d ty39] false),.b (.lst 4294967494 ty25 false),.b (.lst 60 ty20 false)],[ty24,iT,iT,.str,ty68,ty39,ty29,ty24],[⟨.exit 0,[.s (.one (.ol 1500100)),.b (.lst 60 ty20 false)],[ty24]⟩],fun h=>Pw.j01l h.1 h.2.1 h.2.2.1 h.2.2.2.1 h.2.2.2.2.1 h.2.2.2.2.2.1 h.2.2.2.2.2.2.1 h.2.2.2.2.2.2.2⟩,
  ⟨2,[.s (.one (.bp 128 0)),.s (.one (.ol 1002000)),.s (.one (.ol 1002001)),.s (.one (.bp 512 0)),.s (.one (.d ty24)),sI,sI,.s (.one (.ol 1002002)),sI,sI,.b (.cell [.d .str,.d ty68,.d ty39] false),.b (.cell [.d iT,.d iT,.d iT] false),.b (.lst 4294967494 ty25 false),.b (.lst 60 ty20 false),.b (.lst 113 ty8 false)],[ty24,iT,iT,iT,iT,.str,ty68,ty39,iT,iT,iT,ty29,ty24,ty12],[⟨.exit 2,[.s (.one (.bp 128 0)),.s (.one (.ol 1502300)),.s (.one (.ol 1502301)),.s (.one (.d ty24)),sI,sI,.b (.cell [.d .str,.d ty68,.d ty39] false),.b (.lst 4294967494 ty25 false),.b (.lst 60 ty20 false)],[ty24,iT,iT,.str,ty68,ty39,ty29,ty24]⟩],fun h=>Pw.j02P h.1 h.2.1 h.2.2.1 h.2.2.2.1 h.2.2.2.2.1 h.2.2.2.2.2.1 h.2.2.2.2.2.2.1 h.2.2.2.2.2.2.2.1 h.2.2.2.2.2.2.2.2.1 h.2.2.2.2.2.2.2.2.2.1 h.2.2.2.2.2.2.2.2.2.2.1 h.2.2.2.2.2.2.2.2.2.2.2.1 h.2.2.2.2.2.2.2.2.2.2.2.2.1 h.2.2.2.2.2.2.2.2.2.2.2.2.2⟩]
 modes:=[(108,[false,false]),(157,[false,false])]
 keep:=[(0,⟨[2,5,6,14,15,16],[128],[⟨1000000,4294967494,ty25,[.slot 5],false⟩,⟨1000001,60,ty20,[.slot 6],false⟩],[]⟩),
  (2,⟨[2,5,6,8,14,15,16,49,50,51],[128,512],[⟨1002000,4294967494,ty25,[.slot 5],false⟩,⟨1002001,60,ty20,[.slot 6],false⟩,⟨1002002,113,ty8,[.slot 49],false⟩],[]⟩)]
 keepX:=[(0,.exit 0,⟨[6],[],[⟨1500100,60,ty20,[.slot 6],false⟩],[]⟩),
  (2,.exit 2,⟨[2,5,6,14,15,16],[128],[⟨1502300,4294967494,ty25,[.slot 5],false⟩,⟨1502301,60,ty20,[.slot 6],false⟩],[]⟩)]
 ro:=[true]
 dw:=[(9,[[],[],[],[],[],[],[2432],[2432,1000000]])]
theorem j0dH:Con.OK Tryz.prog j071:=
 cOf tabOk mixedOk j0ej j071 Tryz.func106 (And.intro j08O (And.intro j0ei trivial)) (And.intro (fun h=>by kernel_rfl) (And.intro (fun h=>by kernel_rfl) trivial))
def j07W:Con:=⟨105,[.v ty24,.v ty12],[ty24,ty12],⟨[.own 60 ty24],[]⟩,[ty24],fun h=>Pw.j05A h.1 h.2⟩
def j0fl:FnD where
 N:=72
 np:=2
 cs:=[]
 ds:=[⟨0,[.s (.one (.d ty24)),.s (.one (.d ty12)),.s (.one (.ol 1000000)),sI,sI,.b (.lst 60 ty20 false)],[ty24,ty12,iT,iT,ty24],[⟨.exit 0,[.s (.one (.ol 1500100)),.b (.lst 60 ty20 false)],[ty24]⟩],fun h=>Pw.j04a h.1 h.2.1 h.2.2.1 h.2.2.2.1 h.2.2.2.2⟩]
 keep:=[(0,⟨[0,1,5,6,7],[],[⟨1000000,60,ty20,[.slot 5],false⟩],[]⟩)]
 keepX:=[(0,.exit 0,⟨[5],[],[⟨1500100,60,ty20,[.slot 5],false⟩],[]⟩)]
 ro:=[true]
 dw:=[(4,[[],[],[],[],[],[],[],[],[],[],[],[],[],[],[],[],[],[],[],[],[],[],[],[],[],[],[],[],[512],[512]])]
theorem j0ek:Con.OK Tryz.prog j07W:=
 cOf tabOk mixedOk j0fl j07W Tryz.func105 trivial (And.intro (fun h=>by kernel_rfl) trivial)
def j08Q:Con:=⟨109,[.v ty24],[ty24],⟨[.own 113 ty12],[]⟩,[ty12],fun h=>Pw.j05W h⟩
def j0go:FnD where
 N:=23
 np:=1
 cs:=[j050]
 ds:=[⟨0,[.s (.one (.ol 1000000)),.s (.one (.d ty24)),sI,sI,.b (.lst 113 ty8 false)],[ty24,iT,iT,ty12],[⟨.exit 0,[.s (.one (.ol 1500100)),.b (.lst 113 ty8 false)],[ty12]⟩],fun h=>Pw.j03q h.1 h.2.1 h.2.2.1 h.2.2.2⟩]
 modes:=[(160,[false])]
 keep:=[(0,⟨[3,6,7,8],[],[⟨1000000,113,ty8,[.slot 3],false⟩],[]⟩)]
 keepX:=[(0,.exit 0,⟨[3],[],[⟨1500100,113,ty8,[.slot 3],false⟩],[]⟩)]
 ro:=[true]
theorem j0fm:Con.OK Tryz.prog j08Q:=
 cOf tabOk mixedOk j0go j08Q Tryz.func109 (And.intro j08s trivial) (And.intro (fun h=>by kernel_rfl) trivial)
def j04x:Con:=⟨111,[.v ty20,.v ty20],[ty20,ty20],⟨[.v iT],[]⟩,[iT],fun h=>Pw.j02F h.1 h.2⟩
def j0aP:FnD where
 N:=10
 np:=2
 cs:=[]
 ds:=[]
 ro:=[false]
theorem j0gp:Con.OK Tryz.prog j04x:=
 cOf tabOk mixedOk j0aP j04x Tryz.func111 trivial trivial
def j00L:Con:=⟨110,[.rl 60 ty24,.clo 111 []],[ty24],⟨[],[.rl ty24]⟩,[ty24],fun h=>Pw.j00v h⟩
def j06a:FnD where
 N:=14
 np:=2
 cs:=[j04x]
 ds:=[]
 modes:=[(111,[false,false])]
theorem j025:Con.OK Tryz.prog j00L:=
 j0jq Tryz.sort110 (ty20) rfl 60 (by kernel_rfl) Tryz.isAgg60 Tryz.sizeOf60 _ 111 (enters_of Tryz.func111 (by kernel_rfl) rfl) j0ik j0il 110 rfl
def j05K:Con:=⟨61,[.v ty81,.v ty72,.v iT,.v iT],[ty81,ty72,iT,iT],⟨[.own 60 ty24],[]⟩,[ty24],fun h=>Pw.j02h h.1 h.2.1 h.2.2.1 h.2.2.2⟩
def j0cz:FnD where
 N:=63
 np:=4
 cs:=[j00Y,j04N,j07m,j04O,j071,j07W,j08Q,j00L]
 ds:=[⟨0,[sI,.s (.one (.bp 256 0)),.s (.one (.bp 320 0)),.s (.one (.bp 384 0)),.s (.one (.bp 448 0)),.s (.one (.bp 576 0)),.s (.one (.bp 640 0)),.s (.one (.clo 155 [.p [ty68]])),.b (.cell [.d ty61,.d ty51,.d ty26,.d ty73,.d ty29] false),.b (.cell [.d .str,.d ty68,.d ty39] false),.b (.cell [.d iT] false),.b (.cell [.d iT] false),.b (.cell [.ol 1000000] false),.b (.cell [.ol 1000001] false),.b (.lst 113 ty8 false),.b (.lst 60 ty20 false)],[iT,ty68,ty61,ty51,ty26,ty73,ty29,.str,ty68,ty39,iT,iT,ty12,ty24],[⟨.normal,[.s (.one (.bp 576 0)),.s (.one (.bp 640 0)),.b (.cell [.ol 1500050] false),.b (.cell [.ol 1500051] false),.b (.lst 113 ty8 false),.b (.lst 60 ty20 false)],[ty12,ty24]⟩],fun h=>Pw.j00T h.1 h.2.1 h.2.2.1 h.2.2.2.1 h.2.2.2.2.1 h.2.2.2.2.2.1 h.2.2.2.2.2.2.1 h.2.2.2.2.2.2.2.1 h.2.2.2.2.2.2.2.2.1 h.2.2.2.2.2.2.2.2.2.1 h.2.2.2.2.2.2.2.2.2.2.1 h.2.2.2.2.2.2.2.2.2.2.2.1 h.2.2.2.2.2.2.2.2.2.2.2.2.1 h.2.2.2.2.2.2.2.2.2.2.2.2.2⟩,
  ⟨2,[.s (.one (.bp 640 0)),.s (.one (.ol 1002000)),sI,sI,.b (.cell [.ol 1002001] false),.b (.lst 113 ty8 false),.b (.lst 60 ty20 false)],[iT,iT,ty12,ty24],[⟨.exit 2,[.s (.one (.bp 640 0)),.b (.cell [.ol 1502300] false),.b (.lst 60 ty20 false)],[ty24]⟩],fun h=>Pw.j02f h.1 h.2.1 h.2.2.1 h.2.2.2⟩]
 modes:=[(102,[false]),(105,[false,false]),(106,[false,false]),(107,[false,false,false,false]),(108,[false,false]),(109,[false]),(110,[true,false]),(112,[false])]
 keep:=[(0,⟨[4,5,6,7,9,10,25],[256,320,384,448,576,640],[⟨1000000,113,ty8,[.cell 576 0],false⟩,⟨1000001,60,ty20,[.cell 640 0],false⟩],[]⟩),
  (2,⟨[10,44,45,46],[640],[⟨1002000,113,ty8,[.slot 44],false⟩,⟨1002001,60,ty20,[.cell 640 0],false⟩],[]⟩)]
 keepX:=[(0,.normal,⟨[9,10],[576,640],[⟨1500050,113,ty8,[.cell 576 0],false⟩,⟨1500051,60,ty20,[.cell 640 0],false⟩],[]⟩),
  (2,.exit 2,⟨[10],[640],[⟨1502300,60,ty20,[.cell 640 0],false⟩],[]⟩)]
 ro:=[true]
 dw:=[(7,[[],[],[],[],[],[2112],[2176],[],[2304],[]]),(9,[[],[],[2688],[2752],[576]])]
 bw:=[(155,ty67)]
theorem j0jt:BwOK Tryz.prog 155 (ty67):=
 bw_con tabOk Tryz.func155 (fn:=Tryz.f155) (A0:=bwA Tryz.f155 0) (A1:=bwA Tryz.f155 1) (A2:=bwA Tryz.f155 2) (A3:=bwA Tryz.f155 3) (by kernel_rfl) (by kernel_rfl) (by kernel_rfl) (by kernel_rfl) (by kernel_rfl) (by kernel_rfl) (by kernel_rfl) (by kernel_rfl) (by kernel_rfl) (by kernel_rfl) (by kernel_rfl) ⟨(by kernel_rfl),(by kernel_rfl)⟩
  (fun xs=>by kernel_rfl) (fun i=>by kernel_rfl) (fun i=>by kernel_rfl) (fun xs i=>by kernel_rfl) (fun b i=>by kernel_rfl)
theorem j0bK:Con.OK Tryz.prog j05K:=
 cOf tabOk mixedOk j0cz j05K Tryz.func61 (And.intro j02R (And.intro j08O (And.intro j0cS (And.intro j0aO (And.intro j0dH (And.intro j0ek (And.intro j0fm (And.intro j025 trivial)))))))) (And.intro (fun h=>by kernel_rfl) (And.intro (fun h=>by kernel_rfl) trivial)) (And.intro j0jt trivial)
def j051:Con:=⟨27,[.v ty79,.v iT,.v iT,.v iT],[ty79,iT,iT,iT],⟨[.own 60 ty24,.v iT],[]⟩,[ty24,iT],fun h=>Pw.j02U h.1 h.2.1 h.2.2.1 h.2.2.2⟩
def j0dI:FnD where
 N:=37
 np:=4
 cs:=[j08M,j05K]
 ds:=[]
 modes:=[(60,[false,false,false,false]),(61,[false,false,false,false])]
 ro:=[true,false]
 dw:=[(4,[[],[],[],[],[],[],[],[],[2048],[]])]
theorem j09N:Con.OK Tryz.prog j051:=
 cOf tabOk mixedOk j0dI j051 Tryz.func27 (And.intro j0fe (And.intro j0bK trivial)) trivial
end Go.Proofs.Pk
