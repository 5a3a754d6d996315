/- Contracts: each given function is its plain function, printed by a program. -/
import Derived.Test.YthpdddnkpjnllaaGreatBCon3
noncomputable section
open Go Go.Lft
set_option linter.unusedVariables false
set_option maxRecDepth 100000
namespace Go.Proofs.Pk
def j056:Con:=⟨160,[.v ty12],[ty12],⟨[.own 113 ty12],[]⟩,[ty12],fun h=>Pw.j077 h⟩
def j0kb:FnD where
 N:=54
 np:=1
 cs:=[j03c,j01t,j01g]
 ds:=[⟨0,[.s (.one (.ol 1000000)),.s (.one (.ol 1000001)),sI,sI,.b (.lst 113 ty8 false),.b (.lst 113 ty8 false)],[iT,iT,ty12,ty12],[⟨.exit 0,[.s (.one (.ol 1500100)),.b (.lst 113 ty8 false)],[ty12]⟩],fun h=>Pw.j0a9 h.1 h.2.1 h.2.2.1 h.2.2.2⟩]
 modes:=[(193,[true,false]),(194,[false]),(196,[true,false])]
 keep:=[(0,⟨[4,13,14,15],[],[⟨1000000,113,ty8,[.slot 4],false⟩,⟨1000001,113,ty8,[.slot 13],false⟩],[]⟩)]
 keepX:=[(0,.exit 0,⟨[4],[],[⟨1500100,113,ty8,[.slot 4],false⟩],[]⟩)]
 ro:=[true]
 dw:=[(9,[[],[],[],[],[],[],[],[],[],[],[],[],[],[],[1000000]])]
theorem j09o:Con.OK Tryz.prog j056:=
 cOf tabOk mixedOk j0kb j056 Tryz.func160 (And.intro j06y (And.intro j05i (And.intro j02J trivial))) (And.intro (fun h=>by kernel_rfl) trivial)
def j08G:Con:=⟨190,[.v ty25,.v ty12,.v iT,.v iT],[ty25,ty12,iT,iT],⟨[.own 113 ty12],[]⟩,[ty12],fun h=>Pw.j08j h.1 h.2.1 h.2.2.1 h.2.2.2⟩
def j0i3:FnD where
 N:=73
 np:=4
 cs:=[j02G,j056]
 ds:=[⟨0,[.s (.one (.d ty12)),.s (.one (.ol 1000000)),.s (.one (.ol 1000001)),sI,sI,.b (.lst 113 ty8 false),.b (.lst 212 ty20 false)],[ty12,iT,iT,ty12,ty24],[⟨.exit 0,[.s (.one (.ol 1500100)),.b (.lst 113 ty8 false)],[ty12]⟩],fun h=>Pw.j02Q h.1 h.2.1 h.2.2.1 h.2.2.2.1 h.2.2.2.2⟩,
  ⟨2,[.s (.one (.d ty12)),.s (.one (.ol 1002000)),.s (.one (.bp 704 0)),sI,.s (.one (.ol 1002001)),sI,sI,.b (.cell [.d iT,.d iT,.d iT] false),.b (.lst 113 ty8 false),.b (.lst 212 ty20 false)],[ty12,iT,iT,iT,iT,iT,iT,ty12,ty24],[⟨.exit 2,[.s (.one (.d ty12)),.s (.one (.ol 1502300)),.s (.one (.ol 1502301)),sI,sI,.b (.lst 113 ty8 false),.b (.lst 212 ty20 false)],[ty12,iT,iT,ty12,ty24]⟩],fun h=>Pw.j02P h.1 h.2.1 h.2.2.1 h.2.2.2.1 h.2.2.2.2.1 h.2.2.2.2.2.1 h.2.2.2.2.2.2.1 h.2.2.2.2.2.2.2.1 h.2.2.2.2.2.2.2.2⟩,
  ⟨4,[.s (.one (.d ty12)),.s (.one (.ol 1004000)),.s (.one (.bp 704 0)),sI,.s (.one (.ol 1004001)),sI,sI,.s (.one (.d ty12)),sI,sI,.b (.cell [.d iT,.d iT,.d iT] false),.b (.lst 113 ty8 false),.b (.lst 212 ty20 false)],[ty12,iT,iT,iT,ty12,iT,iT,iT,iT,iT,ty12,ty24],[⟨.exit 4,[.s (.one (.d ty12)),.s (.one (.ol 1504500)),.s (.one (.bp 704 0)),sI,.s (.one (.ol 1504501)),sI,sI,.b (.cell [.d iT,.d iT,.d iT] false),.b (.lst 113 ty8 false),.b (.lst 212 ty20 false)],[ty12,iT,iT,iT,iT,iT,iT,ty12,ty24]⟩],fun h=>Pw.j08i h.1 h.2.1 h.2.2.1 h.2.2.2.1 h.2.2.2.2.1 h.2.2.2.2.2.1 h.2.2.2.2.2.2.1 h.2.2.2.2.2.2.2.1 h.2.2.2.2.2.2.2.2.1 h.2.2.2.2.2.2.2.2.2.1 h.2.2.2.2.2.2.2.2.2.2.1 h.2.2.2.2.2.2.2.2.2.2.2⟩]
 modes:=[(160,[false]),(165,[false,false,false])]
 keep:=[(0,⟨[1,9,19,20,21],[],[⟨1000000,113,ty8,[.slot 9],false⟩,⟨1000001,212,ty20,[.slot 19],false⟩],[]⟩),
  (2,⟨[1,9,11,13,19,20,21],[704],[⟨1002000,113,ty8,[.slot 9],false⟩,⟨1002001,212,ty20,[.slot 19],false⟩],[]⟩),
  (4,⟨[1,9,11,13,19,20,21,45,46,47],[704],[⟨1004000,113,ty8,[.slot 9],false⟩,⟨1004001,212,ty20,[.slot 19],false⟩],[]⟩)]
 keepX:=[(0,.exit 0,⟨[9],[],[⟨1500100,113,ty8,[.slot 9],false⟩],[]⟩),
  (2,.exit 2,⟨[1,9,19,20,21],[],[⟨1502300,113,ty8,[.slot 9],false⟩,⟨1502301,212,ty20,[.slot 19],false⟩],[]⟩),
  (4,.exit 4,⟨[1,9,11,13,19,20,21],[704],[⟨1504500,113,ty8,[.slot 9],false⟩,⟨1504501,212,ty20,[.slot 19],false⟩],[]⟩)]
 ro:=[true]
theorem j0gR:Con.OK Tryz.prog j08G:=
 cOf tabOk mixedOk j0i3 j08G Tryz.func190 (And.intro j05U (And.intro j09o trivial)) (And.intro (fun h=>by kernel_rfl) (And.intro (fun h=>by kernel_rfl) (And.intro (fun h=>by kernel_rfl) trivial)))
def j06J:Con:=⟨191,[.v ty81,.v ty22,.v iT,.v iT],[ty81,ty22,iT,iT],⟨[.own 113 ty12],[]⟩,[ty12],fun h=>Pw.j037 h.1 h.2.1 h.2.2.1 h.2.2.2⟩
def j0gc:FnD where
 N:=58
 np:=4
 cs:=[j02G,j056]
 ds:=[⟨0,[.s (.one (.bp 320 0)),.s (.one (.ol 1000000)),.s (.one (.ol 1000001)),sI,sI,.b (.cell [.d .str,.d iT,.d (.list iT)] false),.b (.lst 113 ty8 false),.b (.lst 212 ty20 false)],[iT,iT,.str,iT,(.list iT),ty12,ty24],[⟨.exit 0,[.s (.one (.ol 1500100)),.b (.lst 113 ty8 false)],[ty12]⟩],fun h=>Pw.j02i h.1 h.2.1 h.2.2.1 h.2.2.2.1 h.2.2.2.2.1 h.2.2.2.2.2.1 h.2.2.2.2.2.2⟩,
  ⟨2,[.s (.one (.bp 320 0)),.s (.one (.ol 1002000)),.s (.one (.bp 704 0)),.s (.one (.ol 1002001)),sI,sI,.s (.one (.d (.list iT))),sI,sI,.b (.cell [.d .str,.d iT,.d (.list iT)] false),.b (.cell [.d iT,.d iT,.d iT] false),.b (.lst 113 ty8 false),.b (.lst 212 ty20 false)],[iT,iT,(.list iT),iT,iT,.str,iT,(.list iT),iT,iT,iT,ty12,ty24],[⟨.exit 2,[.s (.one (.bp 320 0)),.s (.one (.ol 1502300)),.s (.one (.ol 1502301)),sI,sI,.b (.cell [.d .str,.d iT,.d (.list iT)] false),.b (.lst 113 ty8 false),.b (.lst 212 ty20 false)],[iT,iT,.str,iT,(.list iT),ty12,ty24]⟩],fun h=>Pw.j078 h.1 h.2.1 h.2.2.1 h.2.2.2.1 h.2.2.2.2.1 h.2.2.2.2.2.1 h.2.2.2.2.2.2.1 h.2.2.2.2.2.2.2.1 h.2.2.2.2.2.2.2.2.1 h.2.2.2.2.2.2.2.2.2.1 h.2.2.2.2.2.2.2.2.2.2.1 h.2.2.2.2.2.2.2.2.2.2.2.1 h.2.2.2.2.2.2.2.2.2.2.2.2⟩]
 modes:=[(160,[false]),(165,[false,false,false])]
 keep:=[(0,⟨[5,9,23,24,25],[320],[⟨1000000,113,ty8,[.slot 9],false⟩,⟨1000001,212,ty20,[.slot 23],false⟩],[]⟩),
  (2,⟨[5,9,11,23,24,25,30,31,32],[320,704],[⟨1002000,113,ty8,[.slot 9],false⟩,⟨1002001,212,ty20,[.slot 23],false⟩],[]⟩)]
 keepX:=[(0,.exit 0,⟨[9],[],[⟨1500100,113,ty8,[.slot 9],false⟩],[]⟩),
  (2,.exit 2,⟨[5,9,23,24,25],[320],[⟨1502300,113,ty8,[.slot 9],false⟩,⟨1502301,212,ty20,[.slot 23],false⟩],[]⟩)]
 ro:=[true]
theorem j0fn:Con.OK Tryz.prog j06J:=
 cOf tabOk mixedOk j0gc j06J Tryz.func191 (And.intro j05U (And.intro j09o trivial)) (And.intro (fun h=>by kernel_rfl) (And.intro (fun h=>by kernel_rfl) trivial))
def j04Q:Con:=⟨108,[.v ty12,.v ty12],[ty12,ty12],⟨[.own 113 ty12],[]⟩,[ty12],fun h=>Pw.j03Y h.1 h.2⟩
def j0i4:FnD where
 N:=89
 np:=2
 cs:=[]
 ds:=[⟨0,[.s (.one (.d ty12)),.s (.one (.ol 1000000)),sI,.s (.one (.d ty12)),sI,sI,.b (.lst 113 ty8 false)],[ty12,iT,ty12,iT,iT,ty12],[⟨.exit 0,[.s (.one (.ol 1500100)),.b (.lst 113 ty8 false)],[ty12]⟩],fun h=>Pw.j02R h.1 h.2.1 h.2.2.1 h.2.2.2.1 h.2.2.2.2.1 h.2.2.2.2.2⟩,
  ⟨2,[.s (.one (.d ty12)),.s (.one (.ol 1002000)),sI,.s (.one (.bp 512 0)),.s (.one (.d ty12)),sI,sI,.b (.cell [.d iT,.d iT] false),.b (.lst 113 ty8 false)],[ty12,iT,ty12,iT,iT,iT,iT,ty12],[⟨.exit 2,[.s (.one (.d ty12)),.s (.one (.ol 1502300)),sI,.s (.one (.bp 512 0)),.s (.one (.d ty12)),sI,sI,.b (.cell [.d iT,.d iT] false),.b (.lst 113 ty8 false)],[ty12,iT,ty12,iT,iT,iT,iT,ty12]⟩],fun h=>Pw.j08k h.1 h.2.1 h.2.2.1 h.2.2.2.1 h.2.2.2.2.1 h.2.2.2.2.2.1 h.2.2.2.2.2.2.1 h.2.2.2.2.2.2.2⟩,
  ⟨4,[.s (.one (.d ty12)),.s (.one (.ol 1004000)),sI,.s (.one (.bp 512 0)),sI,sI,.s (.one (.d ty12)),sI,sI,.b (.cell [.d iT,.d iT] false),.b (.lst 113 ty8 false)],[ty12,iT,iT,iT,ty12,iT,iT,iT,iT,ty12],[⟨.exit 4,[.s (.one (.d ty12)),.s (.one (.ol 1504500)),sI,.s (.one (.bp 512 0)),sI,.s (.one (.d ty12)),sI,sI,.b (.cell [.d iT,.d iT] false),.b (.lst 113 ty8 false)],[ty12,iT,iT,ty12,iT,iT,iT,iT,ty12]⟩],fun h=>Pw.j08l h.1 h.2.1 h.2.2.1 h.2.2.2.1 h.2.2.2.2.1 h.2.2.2.2.2.1 h.2.2.2.2.2.2.1 h.2.2.2.2.2.2.2.1 h.2.2.2.2.2.2.2.2.1 h.2.2.2.2.2.2.2.2.2⟩]
 keep:=[(0,⟨[1,5,6,11,12,13],[],[⟨1000000,113,ty8,[.slot 5],false⟩],[]⟩),
  (2,⟨[1,5,6,8,11,12,13],[512],[⟨1002000,113,ty8,[.slot 5],false⟩],[]⟩),
  (4,⟨[1,5,6,8,9,10,11,12,13],[512],[⟨1004000,113,ty8,[.slot 5],false⟩],[]⟩)]
 keepX:=[(0,.exit 0,⟨[5],[],[⟨1500100,113,ty8,[.slot 5],false⟩],[]⟩),
  (2,.exit 2,⟨[1,5,6,8,11,12,13],[512],[⟨1502300,113,ty8,[.slot 5],false⟩],[]⟩),
  (4,.exit 4,⟨[1,5,6,8,9,11,12,13],[512],[⟨1504500,113,ty8,[.slot 5],false⟩],[]⟩)]
 ro:=[true]
theorem j09V:Con.OK Tryz.prog j04Q:=
 cOf tabOk mixedOk j0i4 j04Q Tryz.func108 trivial (And.intro (fun h=>by kernel_rfl) (And.intro (fun h=>by kernel_rfl) (And.intro (fun h=>by kernel_rfl) trivial)))
def j09W:Con:=⟨192,[.v ty12,.v ty12],[ty12,ty12],⟨[.own 113 ty12],[]⟩,[ty12],fun h=>Pw.j088 h.1 h.2⟩
def j0jb:FnD where
 N:=67
 np:=2
 cs:=[]
 ds:=[⟨0,[.s (.one (.d ty12)),.s (.one (.d ty12)),.s (.one (.ol 1000000)),sI,sI,.b (.lst 113 ty8 false)],[ty12,ty12,iT,iT,ty12],[⟨.exit 0,[.s (.one (.ol 1500100)),.b (.lst 113 ty8 false)],[ty12]⟩],fun h=>Pw.j09b h.1 h.2.1 h.2.2.1 h.2.2.2.1 h.2.2.2.2⟩]
 keep:=[(0,⟨[0,1,5,6,7],[],[⟨1000000,113,ty8,[.slot 5],false⟩],[]⟩)]
 keepX:=[(0,.exit 0,⟨[5],[],[⟨1500100,113,ty8,[.slot 5],false⟩],[]⟩)]
 ro:=[true]
 dw:=[(4,[[],[],[],[],[],[],[],[],[],[],[],[],[],[],[],[],[],[],[],[],[],[],[],[512],[512]])]
theorem j0i5:Con.OK Tryz.prog j09W:=
 cOf tabOk mixedOk j0jb j09W Tryz.func192 trivial (And.intro (fun h=>by kernel_rfl) trivial)
def j06n:Con:=⟨158,[.v ty81,.v ty67,.v iT,.v iT],[ty81,ty67,iT,iT],⟨[.own 113 ty12],[]⟩,[ty12],fun h=>Pw.j05l h.1 h.2.1 h.2.2.1 h.2.2.2⟩
def j0fo:FnD where
 N:=90
 np:=4
 cs:=[j02Y,j08G,j06J,j04Q,j09W]
 ds:=[]
 modes:=[(108,[false,false]),(118,[false,false,false]),(190,[false,false,false,false]),(191,[false,false,false,false]),(192,[false,false])]
 ro:=[true]
 dw:=[(7,[[],[],[],[],[],[],[],[],[],[],[3584],[]]),(10,[[],[],[],[],[],[],[],[],[],[],[],[4608],[4672],[]]),(12,[[],[],[],[],[],[],[],[],[],[],[],[5568],[5632],[]])]
theorem j0eK:Con.OK Tryz.prog j06n:=
 cOf tabOk mixedOk j0fo j06n Tryz.func158 (And.intro j06m (And.intro j0gR (And.intro j0fn (And.intro j09V (And.intro j0i5 trivial))))) trivial
def j05j:Con:=⟨232,[.v ty25,.v iT],[ty25,iT],⟨[.v iT],[]⟩,[iT],fun h=>Pw.j02s h.1 h.2⟩
def j0dW:FnD where
 N:=10
 np:=2
 cs:=[j044,j03s]
 ds:=[]
 modes:=[(209,[false,false]),(210,[false,false])]
 ro:=[false]
theorem j0cW:Con.OK Tryz.prog j05j:=
 cOf tabOk mixedOk j0dW j05j Tryz.func232 (And.intro j09n (And.intro j08D trivial)) trivial
def j0aK:Con:=⟨231,[.v iT],[iT],⟨[.v ty8],[]⟩,[ty8],fun h=>Pw.j0dp h⟩
def j0kc:FnD where
 N:=17
 np:=1
 cs:=[]
 ds:=[]
 ro:=[false]
theorem j0jc:Con.OK Tryz.prog j0aK:=
 cOf tabOk mixedOk j0kc j0aK Tryz.func231 trivial trivial
def j045:Con:=⟨189,[.v ty25,.v iT],[ty25,iT],⟨[.v ty8],[]⟩,[ty8],fun h=>Pw.j00o h.1 h.2⟩
def j0eL:FnD where
 N:=11
 np:=2
 cs:=[j05j,j0aK]
 ds:=[]
 modes:=[(231,[false]),(232,[false,false])]
 ro:=[false]
theorem j09p:Con.OK Tryz.prog j045:=
 cOf tabOk mixedOk j0eL j045 Tryz.func189 (And.intro j0cW (And.intro j0jc trivial)) trivial
def j05G:Con:=⟨159,[.v ty25,.v ty67,.v iT],[ty25,ty67,iT],⟨[.v iT],[]⟩,[iT],fun h=>Pw.j01N h.1 h.2.1 h.2.2⟩
def j0gS:FnD where
 N:=84
 np:=3
 cs:=[j07T,j02Y,j045]
 ds:=[⟨0,[sI,.s (.one (.bp 192 0)),.s (.one (.bp 256 0)),sI,.b (.cell [.d iT,.d ty12] false),.b (.cell [.d .str,.d iT,.d iT,.d iT,.d iT,.d iT,.d (.list iT),.d ty12,.d iT,.d iT] false)],[iT,iT,iT,ty12,.str,iT,iT,iT,iT,iT,(.list iT),ty12,iT,iT],[⟨.exit 0,[sI,.s (.one (.bp 192 0)),.s (.one (.bp 256 0)),sI,.b (.cell [.d iT,.d ty12] false),.b (.cell [.d .str,.d iT,.d iT,.d iT,.d iT,.d iT,.d (.list iT),.d ty12,.d iT,.d iT] false)],[iT,iT,iT,ty12,.str,iT,iT,iT,iT,iT,(.list iT),ty12,iT,iT]⟩],fun h=>Pw.j01b h.1 h.2.1 h.2.2.1 h.2.2.2.1 h.2.2.2.2.1 h.2.2.2.2.2.1 h.2.2.2.2.2.2.1 h.2.2.2.2.2.2.2.1 h.2.2.2.2.2.2.2.2.1 h.2.2.2.2.2.2.2.2.2.1 h.2.2.2.2.2.2.2.2.2.2.1 h.2.2.2.2.2.2.2.2.2.2.2.1 h.2.2.2.2.2.2.2.2.2.2.2.2.1 h.2.2.2.2.2.2.2.2.2.2.2.2.2⟩,
  ⟨2,[sI,.s (.one (.bp 192 0)),.s (.one (.bp 256 0)),sI,.b (.cell [.d iT,.d ty12] false),.b (.cell [.d .str,.d iT,.d iT,.d iT,.d iT,.d iT,.d (.list iT),.d ty12,.d iT,.d iT] false)],[iT,iT,iT,ty12,.str,iT,iT,iT,iT,iT,(.list iT),ty12,iT,iT],[⟨.ret,[sI],[iT]⟩],fun h=>Pw.j01w h.1 h.2.1 h.2.2.1 h.2.2.2.1 h.2.2.2.2.1 h.2.2.2.2.2.1 h.2.2.2.2.2.2.1 h.2.2.2.2.2.2.2.1 h.2.2.2.2.2.2.2.2.1 h.2.2.2.2.2.2.2.2.2.1 h.2.2.2.2.2.2.2.2.2.2.1 h.2.2.2.2.2.2.2.2.2.2.2.1 h.2.2.2.2.2.2.2.2.2.2.2.2.1 h.2.2.2.2.2.2.2.2.2.2.2.2.2⟩]
 modes:=[(118,[false,false,false]),(164,[false]),(189,[false,false])]
 keep:=[(0,⟨[2,3,4,9],[192,256],[],[]⟩),
  (2,⟨[2,3,4,9],[192,256],[],[]⟩)]
 keepX:=[(0,.exit 0,⟨[2,3,4,9],[192,256],[],[]⟩),
  (2,.ret,⟨[6],[],[],[]⟩)]
 ro:=[false]
theorem j0bP:Con.OK Tryz.prog j05G:=
 cOf tabOk mixedOk j0gS j05G Tryz.func159 (And.intro j0ff (And.intro j06m (And.intro j09p trivial))) (And.intro (fun h=>by kernel_rfl) (And.intro (fun h=>by kernel_rfl) trivial))
def j07U:Con:=⟨112,[.v ty24],[ty24],⟨[.own 60 ty24],[]⟩,[ty24],fun h=>Pw.j0ab h⟩
def j0kd:FnD where
 N:=57
 np:=1
 cs:=[]
 ds:=[⟨0,[.s (.one (.ol 1000000)),.s (.one (.d ty24)),sI,sI,.b (.lst 60 ty20 false)],[ty24,iT,iT,ty24],[⟨.exit 0,[.s (.one (.ol 1500100)),.b (.lst 60 ty20 false)],[ty24]⟩],fun h=>Pw.j0aa h.1 h.2.1 h.2.2.1 h.2.2.2⟩]
 keep:=[(0,⟨[3,7,8,9],[],[⟨1000000,60,ty20,[.slot 3],false⟩],[]⟩)]
 keepX:=[(0,.exit 0,⟨[3],[],[⟨1500100,60,ty20,[.slot 3],false⟩],[]⟩)]
 ro:=[true]
theorem j0fg:Con.OK Tryz.prog j07U:=
 cOf tabOk mixedOk j0kd j07U Tryz.func112 trivial (And.intro (fun h=>by kernel_rfl) trivial)
def j04R:Con:=⟨107,[.v ty81,.v ty67,.v iT,.v iT],[ty81,ty67,iT,iT],⟨[.own 60 ty24],[]⟩,[ty24],fun h=>Pw.j03C h.1 h.2.1 h.2.2.1 h.2.2.2⟩
def j0cX:FnD where
 N:=95
 np:=4
 cs:=[j02Y,j06n,j05G,j07U]
 ds:=[⟨0,[sI,.s (.one (.bp 320 0)),.s (.one (.ol 1000000)),.s (.one (.bp 640 0)),sI,sI,sI,.s (.one (.ol 1000001)),sI,sI,.b (.cell [.d .str,.d iT,.d iT,.d iT,.d iT,.d iT,.d (.list iT),.d ty12,.d iT,.d iT] false),.b (.cell [.d iT,.d ty12] false),.b (.lst 60 ty20 false),.b (.lst 113 ty8 false)],[iT,iT,iT,iT,iT,iT,.str,iT,iT,iT,iT,iT,(.list iT),ty12,iT,iT,iT,ty12,ty24,ty12],[⟨.exit 0,[sI,.s (.one (.ol 1500100)),sI,.b (.lst 60 ty20 false)],[iT,iT,ty24]⟩],fun h=>Pw.j01H h.1 h.2.1 h.2.2.1 h.2.2.2.1 h.2.2.2.2.1 h.2.2.2.2.2.1 h.2.2.2.2.2.2.1 h.2.2.2.2.2.2.2.1 h.2.2.2.2.2.2.2.2.1 h.2.2.2.2.2.2.2.2.2.1 h.2.2.2.2.2.2.2.2.2.2.1 h.2.2.2.2.2.2.2.2.2.2.2.1 h.2.2.2.2.2.2.2.2.2.2.2.2.1 h.2.2.2.2.2.2.2.2.2.2.2.2.2.1 h.2.2.2.2.2.2.2.2.2.2.2.2.2.2.1 h.2.2.2.2.2.2.2.2.2.2.2.2.2.2.2.1 h.2.2.2.2.2.2.2.2.2.2.2.2.2.2.2.2.1 h.2.2.2.2.2.2.2.2.2.2.2.2.2.2.2.2.2.1 h.2.2.2.2.2.2.2.2.2.2.2.2.2.2.2.2.2.2.1 h.2.2.2.2.2.2.2.2.2.2.2.2.2.2.2.2.2.2.2⟩,
  ⟨2,[sI,.s (.one (.bp 320 0)),.s (.one (.ol 1002000)),.s (.one (.bp 640 0)),sI,sI,sI,.s (.one (.bp 960 0)),.s (.one (.ol 1002001)),sI,sI,.b (.cell [.d .str,.d iT,.d iT,.d iT,.d iT,.d iT,.d (.list iT),.d ty12,.d iT,.d iT] false),.b (.cell [.d iT,.d ty12] false),.b (.cell [.d iT,.d iT] false),.b (.lst 60 ty20 false),.b (.lst 113 ty8 false)],[iT,iT,iT,iT,iT,iT,.str,iT,iT,iT,iT,iT,(.list iT),ty12,iT,iT,iT,ty12,iT,iT,ty24,ty12],[⟨.exit 2,[sI,.s (.one (.bp 320 0)),.s (.one (.ol 1502300)),.s (.one (.bp 640 0)),sI,sI,sI,.s (.one (.ol 1502301)),sI,sI,.b (.cell [.d .str,.d iT,.d iT,.d iT,.d iT,.d iT,.d (.list iT),.d ty12,.d iT,.d iT] false),.b (.cell [.d iT,.d ty12] false),.b (.lst 60 ty20 false),.b (.lst 113 ty8 false)],[iT,iT,iT,iT,iT,iT,.str,iT,iT,iT,iT,iT,(.list iT),ty12,iT,iT,iT,ty12,ty24,ty12]⟩],fun h=>Pw.j01G h.1 h.2.1 h.2.2.1 h.2.2.2.1 h.2.2.2.2.1 h.2.2.2.2.2.1 h.2.2.2.2.2.2.1 h.2.2.2.2.2.2.2.1 h.2.2.2.2.2.2.2.2.1 h.2.2.2.2.2.2.2.2.2.1 h.2.2.2.2.2.2.2.2.2.2.1 h.2.2.2.2.2.2.2.2.2.2.2.1 h.2.2.2.2.2.2.2.2.2.2.2.2.1 h.2.2.2.2.2.2.2.2.2.2.2.2.2.1 h.2.2.2.2.2.2.2.2.2.2.2.2.2.2.1 h.2.2.2.2.2.2.2.2.2.2.2.2.2.2.2.1 h.2.2.2.2.2.2.2.2.2.2.2.2.2.2.2.2.1 h.2.2.2.2.2.2.2.2.2.2.2.2.2.2.2.2.2.1 h.2.2.2.2.2.2.2.2.2.2.2.2.2.2.2.2.2.2.1 h.2.2.2.2.2.2.2.2.2.2.2.2.2.2.2.2.2.2.2.1 h.2.2.2.2.2.2.2.2.2.2.2.2.2.2.2.2.2.2.2.2.1 h.2.2.2.2.2.2.2.2.2.2.2.2.2.2.2.2.2.2.2.2.2⟩]
 modes:=[(112,[false]),(118,[false,false,false]),(158,[false,false,false,false]),(159,[false,false,false])]
 keep:=[(0,⟨[3,5,9,10,11,12,13,30,31,32],[320,640],[⟨1000000,60,ty20,[.slot 9],false⟩,⟨1000001,113,ty8,[.slot 30],false⟩],[]⟩),
  (2,⟨[3,5,9,10,11,12,13,15,30,31,32],[320,640,960],[⟨1002000,60,ty20,[.slot 9],false⟩,⟨1002001,113,ty8,[.slot 30],false⟩],[]⟩)]
 keepX:=[(0,.exit 0,⟨[3,9,11],[],[⟨1500100,60,ty20,[.slot 9],false⟩],[]⟩),
  (2,.exit 2,⟨[3,5,9,10,11,12,13,30,31,32],[320,640],[⟨1502300,60,ty20,[.slot 9],false⟩,⟨1502301,113,ty8,[.slot 30],false⟩],[]⟩)]
 ro:=[true]
 dw:=[(17,[[],[],[],[],[],[],[],[],[],[],[],[],[],[5376],[5440,1002000],[]])]
theorem j0cC:Con.OK Tryz.prog j04R:=
 cOf tabOk mixedOk j0cX j04R Tryz.func107 (And.intro j06m (And.intro j0eK (And.intro j0bP (And.intro j0fg trivial)))) (And.intro (fun h=>by kernel_rfl) (And.intro (fun h=>by kernel_rfl) trivial))
def j08H:Con:=⟨157,[.v ty72,.v iT],[ty72,iT],⟨[.own 113 ty12],[]⟩,[ty12],fun h=>Pw.j08n h.1 h.2⟩
def j0i6:FnD where
 N:=35
 np:=2
 cs:=[j056]
 ds:=[⟨0,[sI,.s (.one (.ol 1000000)),.s (.one (.d ty39)),sI,sI,.b (.lst 113 ty8 false)],[iT,ty39,iT,iT,ty12],[⟨.exit 0,[.s (.one (.ol 1500100)),.b (.lst 113 ty8 false)],[ty12]⟩],fun h=>Pw.j08m h.1 h.2.1 h.2.2.1 h.2.2.2.1 h.2.2.2.2⟩]
 modes:=[(160,[false])]
 keep:=[(0,⟨[1,5,9,10,11],[],[⟨1000000,113,ty8,[.slot 5],false⟩],[]⟩)]
 keepX:=[(0,.exit 0,⟨[5],[],[⟨1500100,113,ty8,[.slot 5],false⟩],[]⟩)]
 ro:=[true]
theorem j0gT:Con.OK Tryz.prog j08H:=
 cOf tabOk mixedOk j0i6 j08H Tryz.func157 (And.intro j09o trivial) (And.intro (fun h=>by kernel_rfl) trivial)
def j07s:Con:=⟨106,[.v ty72,.v ty24],[ty72,ty24],⟨[.own 60 ty24],[]⟩,[ty24],fun h=>Pw.j079 h.1 h.2⟩
def j0gU:FnD where
 N:=68
 np:=2
 cs:=[j04Q,j08H]
 ds:=[⟨0,[.s (.one (.bp 128 0)),.s (.one (.ol 1000000)),.s (.one (.ol 1000001)),.s (.one (.d ty24)),sI,sI,.b (.cell [.d .str,.d ty68,.d ty39] false),.b (.lst 4294967494 ty25 false),.b (.lst 60 ty20 false)],[ty24,iT,iT,.str,ty68,ty39,ty29,ty24],[⟨.exit 0,[.s (.one (.ol 1500100)),.b (.lst 60 ty20 false)],[ty24]⟩],fun h=>Pw.j02y h.1 h.2.1 h.2.2.1 h.2.2.2.1 h.2.2.2.2.1 h.2.2.2.2.2.1 h.2.2.2.2.2.2.1 h.2.2.2.2.2.2.2⟩,
  ⟨2,[.s (.one (.bp 128 0)),.s (.one (.ol 1002000)),.s (.one (.ol 1002001)),.s (.one (.bp 512 0)),.s (.one (.d ty24)),sI,sI,.s (.one (.ol 1002002)),sI,sI,.b (.cell [.d .str,.d ty68,.d ty39] false),.b (.cell [.d iT,.d iT,.d iT] false),.b (.lst 4294967494 ty25 false),.b (.lst 60 ty20 false),.b (.lst 113 ty8 false)],[ty24,iT,iT,iT,iT,.str,ty68,ty39,iT,iT,iT,ty29,ty24,ty12],[⟨.exit 2,[.s (.one (.bp 128 0)),.s (.one (.ol 1502300)),.s (.one (.ol 1502301)),.s (.one (.d ty24)),sI,sI,.b (.cell [.d .str,.d ty68,.d ty39] false),.b (.lst 4294967494 ty25 false),.b (.lst 60 ty20 false)],[ty24,iT,iT,.str,ty68,ty39,ty29,ty24]⟩],fun h=>Pw.j07D h.1 h.2.1 h.2.2.1 h.2.2.2.1 h.2.2.2.2.1 h.2.2.2.2.2.1 h.2.2.2.2.2.2.1 h.2.2.2.2.2.2.2.1 h.2.2.2.2.2.2.2.2.1 h.2.2.2.2.2.2.2.2.2.1 h.2.2.2.2.2.2.2.2.2.2.1 h.2.2.2.2.2.2.2.2.2.2.2.1 h.2.2.2.2.2.2.2.2.2.2.2.2.1 h.2.2.2.2.2.2.2.2.2.2.2.2.2⟩]
 modes:=[(108,[false,false]),(157,[false,false])]
 keep:=[(0,⟨[2,5,6,14,15,16],[128],[⟨1000000,4294967494,ty25,[.slot 5],false⟩,⟨1000001,60,ty20,[.slot 6],false⟩],[]⟩),
  (2,⟨[2,5,6,8,14,15,16,49,50,51],[128,512],[⟨1002000,4294967494,ty25,[.slot 5],false⟩,⟨1002001,60,ty20,[.slot 6],false⟩,⟨1002002,113,ty8,[.slot 49],false⟩],[]⟩)]
 keepX:=[(0,.exit 0,⟨[6],[],[⟨1500100,60,ty20,[.slot 6],false⟩],[]⟩),
  (2,.exit 2,⟨[2,5,6,14,15,16],[128],[⟨1502300,4294967494,ty25,[.slot 5],false⟩,⟨1502301,60,ty20,[.slot 6],false⟩],[]⟩)]
 ro:=[true]
 dw:=[(9,[[],[],[],[],[],[],[2432],[2432,1000000]])]
theorem j0gd:Con.OK Tryz.prog j07s:=
 cOf tabOk mixedOk j0gU j07s Tryz.func106 (And.intro j09V (And.intro j0gT trivial)) (And.intro (fun h=>by kernel_rfl) (And.intro (fun h=>by kernel_rfl) trivial))
def j08I:Con:=⟨105,[.v ty24,.v ty12],[ty24,ty12],⟨[.own 60 ty24],[]⟩,[ty24],fun h=>Pw.j08q h.1 h.2⟩
def j0i7:FnD where
 N:=72
 np:=2
 cs:=[]
 ds:=[⟨0,[.s (.one (.d ty24)),.s (.one (.d ty12)),.s (.one (.ol 1000000)),sI,sI,.b (.lst 60 ty20 false)],[ty24,ty12,iT,iT,ty24],[⟨.exit 0,[.s (.one (.ol 1500100)),.b (.lst 60 ty20 false)],[ty24]⟩],fun h=>Pw.j08p h.1 h.2.1 h.2.2.1 h.2.2.2.1 h.2.2.2.2⟩]
 keep:=[(0,⟨[0,1,5,6,7],[],[⟨1000000,60,ty20,[.slot 5],false⟩],[]⟩)]
 keepX:=[(0,.exit 0,⟨[5],[],[⟨1500100,60,ty20,[.slot 5],false⟩],[]⟩)]
 ro:=[true]
 dw:=[(4,[[],[],[],[],[],[],[],[],[],[],[],[],[],[],[],[],[],[],[],[],[],[],[],[],[],[],[],[],[512],[512]])]
theorem j0gV:Con.OK Tryz.prog j08I:=
 cOf tabOk mixedOk j0i7 j08I Tryz.func105 trivial (And.intro (fun h=>by kernel_rfl) trivial)
def j09X:Con:=⟨109,[.v ty24],[ty24],⟨[.own 113 ty12],[]⟩,[ty12],fun h=>Pw.j0ac h⟩
def j0jd:FnD where
 N:=23
 np:=1
 cs:=[j056]
 ds:=[⟨0,[.s (.one (.ol 1000000)),.s (.one (.d ty24)),sI,sI,.b (.lst 113 ty8 false)],[ty24,iT,iT,ty12],[⟨.exit 0,[.s (.one (.ol 1500100)),.b (.lst 113 ty8 false)],[ty12]⟩],fun h=>Pw.j09d h.1 h.2.1 h.2.2.1 h.2.2.2⟩]
 modes:=[(160,[false])]
 keep:=[(0,⟨[3,6,7,8],[],[⟨1000000,113,ty8,[.slot 3],false⟩],[]⟩)]
 keepX:=[(0,.exit 0,⟨[3],[],[⟨1500100,113,ty8,[.slot 3],false⟩],[]⟩)]
 ro:=[true]
theorem j0i8:Con.OK Tryz.prog j09X:=
 cOf tabOk mixedOk j0jd j09X Tryz.func109 (And.intro j09o trivial) (And.intro (fun h=>by kernel_rfl) trivial)
def j04o:Con:=⟨111,[.v ty20,.v ty20],[ty20,ty20],⟨[.v iT],[]⟩,[iT],fun h=>Pw.j04t h.1 h.2⟩
def j0cD:FnD where
 N:=10
 np:=2
 cs:=[]
 ds:=[]
 ro:=[false]
theorem j0je:Con.OK Tryz.prog j04o:=
 cOf tabOk mixedOk j0cD j04o Tryz.func111 trivial trivial
def j00C:Con:=⟨110,[.rl 60 ty24,.clo 111 []],[ty24],⟨[],[.rl ty24]⟩,[ty24],fun h=>Pw.j00Q h⟩
def j06o:FnD where
 N:=14
 np:=2
 cs:=[j04o]
 ds:=[]
 modes:=[(111,[false,false])]
theorem j01R:Con.OK Tryz.prog j00C:=
 j0n2 Tryz.sort110 (ty20) rfl 60 (by kernel_rfl) Tryz.isAgg60 Tryz.sizeOf60 _ 111 (enters_of Tryz.func111 (by kernel_rfl) rfl) j0lD j0lE 110 rfl
def j05X:Con:=⟨61,[.v ty81,.v ty72,.v iT,.v iT],[ty81,ty72,iT,iT],⟨[.own 60 ty24],[]⟩,[ty24],fun h=>Pw.j04D h.1 h.2.1 h.2.2.1 h.2.2.2⟩
def j0eM:FnD where
 N:=63
 np:=4
 cs:=[j00P,j04Q,j07U,j04R,j07s,j08I,j09X,j00C]
 ds:=[⟨0,[sI,.s (.one (.bp 256 0)),.s (.one (.bp 320 0)),.s (.one (.bp 384 0)),.s (.one (.bp 448 0)),.s (.one (.bp 576 0)),.s (.one (.bp 640 0)),.s (.one (.clo 155 [.p [ty68]])),.b (.cell [.d ty61,.d ty51,.d ty26,.d ty73,.d ty29] false),.b (.cell [.d .str,.d ty68,.d ty39] false),.b (.cell [.d iT] false),.b (.cell [.d iT] false),.b (.cell [.ol 1000000] false),.b (.cell [.ol 1000001] false),.b (.lst 113 ty8 false),.b (.lst 60 ty20 false)],[iT,ty68,ty61,ty51,ty26,ty73,ty29,.str,ty68,ty39,iT,iT,ty12,ty24],[⟨.normal,[.s (.one (.bp 576 0)),.s (.one (.bp 640 0)),.b (.cell [.ol 1500050] false),.b (.cell [.ol 1500051] false),.b (.lst 113 ty8 false),.b (.lst 60 ty20 false)],[ty12,ty24]⟩],fun h=>Pw.j01Z h.1 h.2.1 h.2.2.1 h.2.2.2.1 h.2.2.2.2.1 h.2.2.2.2.2.1 h.2.2.2.2.2.2.1 h.2.2.2.2.2.2.2.1 h.2.2.2.2.2.2.2.2.1 h.2.2.2.2.2.2.2.2.2.1 h.2.2.2.2.2.2.2.2.2.2.1 h.2.2.2.2.2.2.2.2.2.2.2.1 h.2.2.2.2.2.2.2.2.2.2.2.2.1 h.2.2.2.2.2.2.2.2.2.2.2.2.2⟩,
  ⟨2,[.s (.one (.bp 640 0)),.s (.one (.ol 1002000)),sI,sI,.b (.cell [.ol 1002001] false),.b (.lst 113 ty8 false),.b (.lst 60 ty20 false)],[iT,iT,ty12,ty24],[⟨.exit 2,[.s (.one (.bp 640 0)),.b (.cell [.ol 1502300] false),.b (.lst 60 ty20 false)],[ty24]⟩],fun h=>Pw.j06d h.1 h.2.1 h.2.2.1 h.2.2.2⟩]
 modes:=[(102,[false]),(105,[false,false]),(106,[false,false]),(107,[false,false,false,false]),(108,[false,false]),(109,[false]),(110,[true,false]),(112,[false])]
 keep:=[(0,⟨[4,5,6,7,9,10,25],[256,320,384,448,576,640],[⟨1000000,113,ty8,[.cell 576 0],false⟩,⟨1000001,60,ty20,[.cell 640 0],false⟩],[]⟩),
  (2,⟨[10,44,45,46],[640],[⟨1002000,113,ty8,[.slot 44],false⟩,⟨1002001,60,ty20,[.cell 640 0],false⟩],[]⟩)]
 keepX:=[(0,.normal,⟨[9,10],[576,640],[⟨1500050,113,ty8,[.cell 576 0],false⟩,⟨1500051,60,ty20,[.cell 640 0],false⟩],[]⟩),
  (2,.exit 2,⟨[10],[640],[⟨1502300,60,ty20,[.cell 640 0],false⟩],[]⟩)]
 ro:=[true]
 dw:=[(7,[[],[],[],[],[],[2112],[2176],[],[2304],[]]),(9,[[],[],[2688],[2752],[576]])]
 bw:=[(155,ty67)]
theorem j0n5:BwOK Tryz.prog 155 (ty67):=
 bw_con tabOk Tryz.func155 (fn:=Tryz.f155) (A0:=bwA Tryz.f155 0) (A1:=bwA Tryz.f155 1) (A2:=bwA Tryz.f155 2) (A3:=bwA Tryz.f155 3) (by kernel_rfl) (by kernel_rfl) (by kernel_rfl) (by kernel_rfl) (by kernel_rfl) (by kernel_rfl) (by kernel_rfl) (by kernel_rfl) (by kernel_rfl) (by kernel_rfl) (by kernel_rfl) ⟨(by kernel_rfl),(by kernel_rfl)⟩
  (fun xs=>by kernel_rfl) (fun i=>by kernel_rfl) (fun i=>by kernel_rfl) (fun xs i=>by kernel_rfl) (fun b i=>by kernel_rfl)
theorem j0dX:Con.OK Tryz.prog j05X:=
 cOf tabOk mixedOk j0eM j05X Tryz.func61 (And.intro j02F (And.intro j09V (And.intro j0fg (And.intro j0cC (And.intro j0gd (And.intro j0gV (And.intro j0i8 (And.intro j01R trivial)))))))) (And.intro (fun h=>by kernel_rfl) (And.intro (fun h=>by kernel_rfl) trivial)) (And.intro j0n5 trivial)
def j06K:Con:=⟨27,[.v ty79,.v iT,.v iT,.v iT],[ty79,iT,iT,iT],⟨[.own 60 ty24,.v iT],[]⟩,[ty24,iT],fun h=>Pw.j06f h.1 h.2.1 h.2.2.1 h.2.2.2⟩
def j0ge:FnD where
 N:=37
 np:=4
 cs:=[j09T,j05X]
 ds:=[]
 modes:=[(60,[false,false,false,false]),(61,[false,false,false,false])]
 ro:=[true,false]
 dw:=[(4,[[],[],[],[],[],[],[],[],[2048],[]])]
theorem j0fp:Con.OK Tryz.prog j06K:=
 cOf tabOk mixedOk j0ge j06K Tryz.func27 (And.intro j0i0 (And.intro j0dX trivial)) trivial
end Go.Proofs.Pk
