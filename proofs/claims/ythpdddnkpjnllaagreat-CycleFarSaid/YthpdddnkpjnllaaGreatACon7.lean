/- Contracts: each given function is its plain function, printed by a program. -/
import Derived.Test.YthpdddnkpjnllaaGreatACon6
noncomputable section
open Go Go.Lft
set_option linter.unusedVariables false
set_option maxRecDepth 100000
namespace Go.Proofs.Pk
def j09W:Con:=⟨86,[.v ty79],[ty79],⟨[.v iT],[]⟩,[iT],fun h=>Pw.j0f2 h⟩
def j0j5:FnD where
 N:=58
 np:=1
 cs:=[j06m,j080,j06O,j0aY]
 ds:=[⟨0,[.s (.one (.bp 64 0)),.s (.one (.ol 1000000)),sI,.b (.cell [.d ty61,.d ty51,.d ty26,.d ty73] false),.b (.lst 9 .str false)],[iT,ty61,ty51,ty26,ty73,(.list .str)],[⟨.ret,[sI],[iT]⟩,⟨.exit 0,[],[]⟩],fun h=>Pw.j03w h.1 h.2.1 h.2.2.1 h.2.2.2.1 h.2.2.2.2.1 h.2.2.2.2.2⟩]
 modes:=[(138,[false,false]),(141,[false,false,false]),(142,[false]),(143,[false])]
 keep:=[(0,⟨[1,3,4],[64],[⟨1000000,9,.str,[.slot 3],false⟩],[]⟩)]
 keepX:=[(0,.ret,⟨[2],[],[],[]⟩),
  (0,.exit 0,⟨[],[],[],[]⟩)]
 ro:=[false]
theorem j0hZ:Con.OK Tryz.prog j09W:=
 cOf tabOk mixedOk j0j5 j09W Tryz.func86 (And.intro j0bs (And.intro j0dc (And.intro j0c4 (And.intro j0j4 trivial)))) (And.intro (fun h=>by kernel_rfl) trivial)
def j062:Con:=⟨144,[],[],⟨[.v iT],[]⟩,[iT],fun h=>Pw.j09h⟩
def j0j6:FnD where
 N:=3
 np:=0
 cs:=[j09V]
 ds:=[]
 modes:=[(179,[false])]
 ro:=[false]
theorem j0aZ:Con.OK Tryz.prog j062:=
 cOf tabOk mixedOk j0j6 j062 Tryz.func144 (And.intro j0ga trivial) trivial
def j073:Con:=⟨87,[.v ty79],[ty79],⟨[.v iT],[]⟩,[iT],fun h=>Pw.j0aA h⟩
def j0fR:FnD where
 N:=78
 np:=1
 cs:=[j06m,j080,j062]
 ds:=[⟨0,[.s (.one (.bp 64 0)),.s (.one (.ol 1000000)),sI,.b (.cell [.d ty61,.d ty51,.d ty26,.d ty73] false),.b (.lst 9 .str false)],[iT,ty61,ty51,ty26,ty73,(.list .str)],[⟨.ret,[sI],[iT]⟩,⟨.exit 0,[],[]⟩],fun h=>Pw.j02r h.1 h.2.1 h.2.2.1 h.2.2.2.1 h.2.2.2.2.1 h.2.2.2.2.2⟩,
  ⟨2,[.s (.one (.bp 64 0)),.s (.one (.ol 1002000)),sI,.s (.one (.bp 320 0)),sI,.b (.cell [.d ty61,.d ty51,.d ty26,.d ty73] false),.b (.cell [.d .str,.d iT,.d (.list iT)] false),.b (.lst 9 .str false)],[iT,iT,ty61,ty51,ty26,ty73,.str,iT,(.list iT),(.list .str)],[⟨.ret,[sI],[iT]⟩,⟨.exit 2,[.s (.one (.bp 64 0)),.s (.one (.ol 1502300)),sI,.s (.one (.bp 320 0)),.b (.cell [.d ty61,.d ty51,.d ty26,.d ty73] false),.b (.cell [.d .str,.d iT,.d (.list iT)] false),.b (.lst 9 .str false)],[iT,ty61,ty51,ty26,ty73,.str,iT,(.list iT),(.list .str)]⟩],fun h=>Pw.j02q h.1 h.2.1 h.2.2.1 h.2.2.2.1 h.2.2.2.2.1 h.2.2.2.2.2.1 h.2.2.2.2.2.2.1 h.2.2.2.2.2.2.2.1 h.2.2.2.2.2.2.2.2.1 h.2.2.2.2.2.2.2.2.2⟩,
  ⟨4,[.s (.one (.bp 64 0)),.s (.one (.ol 1004000)),sI,.s (.one (.bp 320 0)),sI,.b (.cell [.d ty61,.d ty51,.d ty26,.d ty73] false),.b (.cell [.d .str,.d iT,.d (.list iT)] false),.b (.lst 9 .str false)],[iT,iT,ty61,ty51,ty26,ty73,.str,iT,(.list iT),(.list .str)],[⟨.ret,[sI],[iT]⟩,⟨.exit 4,[.s (.one (.bp 64 0)),.s (.one (.ol 1504500)),sI,.b (.cell [.d ty61,.d ty51,.d ty26,.d ty73] false),.b (.lst 9 .str false)],[iT,ty61,ty51,ty26,ty73,(.list .str)]⟩],fun h=>Pw.j03g h.1 h.2.1 h.2.2.1 h.2.2.2.1 h.2.2.2.2.1 h.2.2.2.2.2.1 h.2.2.2.2.2.2.1 h.2.2.2.2.2.2.2.1 h.2.2.2.2.2.2.2.2.1 h.2.2.2.2.2.2.2.2.2⟩]
 modes:=[(138,[false,false]),(141,[false,false,false]),(144,[])]
 keep:=[(0,⟨[1,3,4],[64],[⟨1000000,9,.str,[.slot 3],false⟩],[]⟩),
  (2,⟨[1,3,4,5,7],[64,320],[⟨1002000,9,.str,[.slot 3],false⟩],[]⟩),
  (4,⟨[1,3,4,5,8],[64,320],[⟨1004000,9,.str,[.slot 3],false⟩],[]⟩)]
 keepX:=[(0,.ret,⟨[2],[],[],[]⟩),
  (0,.exit 0,⟨[],[],[],[]⟩),
  (2,.ret,⟨[2],[],[],[]⟩),
  (2,.exit 2,⟨[1,3,4,5],[64,320],[⟨1502300,9,.str,[.slot 3],false⟩],[]⟩),
  (4,.ret,⟨[2],[],[],[]⟩),
  (4,.exit 4,⟨[1,3,4],[64],[⟨1504500,9,.str,[.slot 3],false⟩],[]⟩)]
 ro:=[false]
theorem j0fj:Con.OK Tryz.prog j073:=
 cOf tabOk mixedOk j0fR j073 Tryz.func87 (And.intro j0bs (And.intro j0dc (And.intro j0aZ trivial))) (And.intro (fun h=>by kernel_rfl) (And.intro (fun h=>by kernel_rfl) (And.intro (fun h=>by kernel_rfl) trivial)))
def j0b0:Con:=⟨145,[.v ty79,.v ty67],[ty79,ty67],⟨[.v iT],[]⟩,[iT],fun h=>Pw.j0cF h.1 h.2⟩
def j0kB:FnD where
 N:=102
 np:=2
 cs:=[j080,j06O,j062]
 ds:=[⟨1,[.s (.one (.bp 128 0)),.s (.one (.bp 192 0)),sI,.b (.cell [.d ty61,.d ty51,.d ty26,.d ty73] false),.b (.cell [.d .str,.d iT,.d iT,.d iT,.d iT,.d iT,.d (.list iT),.d ty12,.d iT,.d iT] false)],[iT,ty61,ty51,ty26,ty73,.str,iT,iT,iT,iT,iT,(.list iT),ty12,iT,iT],[⟨.ret,[sI],[iT]⟩,⟨.exit 1,[.s (.one (.bp 128 0)),.s (.one (.bp 192 0)),.b (.cell [.d ty61,.d ty51,.d ty26,.d ty73] false),.b (.cell [.d .str,.d iT,.d iT,.d iT,.d iT,.d iT,.d (.list iT),.d ty12,.d iT,.d iT] false)],[ty61,ty51,ty26,ty73,.str,iT,iT,iT,iT,iT,(.list iT),ty12,iT,iT]⟩],fun h=>Pw.j041 h.1 h.2.1 h.2.2.1 h.2.2.2.1 h.2.2.2.2.1 h.2.2.2.2.2.1 h.2.2.2.2.2.2.1 h.2.2.2.2.2.2.2.1 h.2.2.2.2.2.2.2.2.1 h.2.2.2.2.2.2.2.2.2.1 h.2.2.2.2.2.2.2.2.2.2.1 h.2.2.2.2.2.2.2.2.2.2.2.1 h.2.2.2.2.2.2.2.2.2.2.2.2.1 h.2.2.2.2.2.2.2.2.2.2.2.2.2.1 h.2.2.2.2.2.2.2.2.2.2.2.2.2.2⟩]
 modes:=[(141,[false,false,false]),(142,[false]),(144,[])]
 keep:=[(1,⟨[2,3,5],[128,192],[],[]⟩)]
 keepX:=[(1,.ret,⟨[4],[],[],[]⟩),
  (1,.exit 1,⟨[2,3],[128,192],[],[]⟩)]
 ro:=[false]
theorem j0j7:Con.OK Tryz.prog j0b0:=
 cOf tabOk mixedOk j0kB j0b0 Tryz.func145 (And.intro j0dc (And.intro j0c4 (And.intro j0aZ trivial))) (And.intro (fun h=>by kernel_rfl) trivial)
def j0c5:Con:=⟨146,[.v ty79,.v ty37],[ty79,ty37],⟨[.v iT],[]⟩,[iT],fun h=>Pw.j0f3 h.1 h.2⟩
def j0lT:FnD where
 N:=86
 np:=2
 cs:=[j080,j062]
 ds:=[]
 modes:=[(141,[false,false,false]),(144,[])]
 ro:=[false]
theorem j0kC:Con.OK Tryz.prog j0c5:=
 cOf tabOk mixedOk j0lT j0c5 Tryz.func146 (And.intro j0dc (And.intro j0aZ trivial)) trivial
def j074:Con:=⟨88,[.v ty79],[ty79],⟨[.v iT],[]⟩,[iT],fun h=>Pw.j0aB h⟩
def j0fS:FnD where
 N:=95
 np:=1
 cs:=[j06m,j0b0,j0c5]
 ds:=[⟨0,[.s (.one (.bp 64 0)),.s (.one (.ol 1000000)),sI,.b (.cell [.d ty61,.d ty51,.d ty26,.d ty73] false),.b (.lst 9 .str false)],[iT,ty61,ty51,ty26,ty73,(.list .str)],[⟨.ret,[sI],[iT]⟩,⟨.exit 0,[],[]⟩],fun h=>Pw.j02u h.1 h.2.1 h.2.2.1 h.2.2.2.1 h.2.2.2.2.1 h.2.2.2.2.2⟩,
  ⟨2,[.s (.one (.bp 64 0)),.s (.one (.ol 1002000)),sI,.s (.one (.bp 320 0)),.s (.one (.ol 1002001)),sI,.b (.cell [.d ty61,.d ty51,.d ty26,.d ty73] false),.b (.cell [.d .str,.d ty68,.d ty39] false),.b (.lst 9 .str false),.b (.lst 9 .str false)],[iT,iT,ty61,ty51,ty26,ty73,.str,ty68,ty39,(.list .str),(.list .str)],[⟨.ret,[sI],[iT]⟩,⟨.exit 2,[.s (.one (.bp 64 0)),.s (.one (.ol 1502300)),sI,.s (.one (.bp 320 0)),.b (.cell [.d ty61,.d ty51,.d ty26,.d ty73] false),.b (.cell [.d .str,.d ty68,.d ty39] false),.b (.lst 9 .str false)],[iT,ty61,ty51,ty26,ty73,.str,ty68,ty39,(.list .str)]⟩],fun h=>Pw.j02s h.1 h.2.1 h.2.2.1 h.2.2.2.1 h.2.2.2.2.1 h.2.2.2.2.2.1 h.2.2.2.2.2.2.1 h.2.2.2.2.2.2.2.1 h.2.2.2.2.2.2.2.2.1 h.2.2.2.2.2.2.2.2.2.1 h.2.2.2.2.2.2.2.2.2.2⟩,
  ⟨4,[.s (.one (.bp 64 0)),.s (.one (.ol 1004000)),sI,.s (.one (.bp 320 0)),sI,.b (.cell [.d ty61,.d ty51,.d ty26,.d ty73] false),.b (.cell [.d .str,.d ty68,.d ty39] false),.b (.lst 9 .str false)],[iT,iT,ty61,ty51,ty26,ty73,.str,ty68,ty39,(.list .str)],[⟨.ret,[sI],[iT]⟩,⟨.exit 4,[.s (.one (.bp 64 0)),.s (.one (.ol 1504500)),sI,.b (.cell [.d ty61,.d ty51,.d ty26,.d ty73] false),.b (.lst 9 .str false)],[iT,ty61,ty51,ty26,ty73,(.list .str)]⟩],fun h=>Pw.j02t h.1 h.2.1 h.2.2.1 h.2.2.2.1 h.2.2.2.2.1 h.2.2.2.2.2.1 h.2.2.2.2.2.2.1 h.2.2.2.2.2.2.2.1 h.2.2.2.2.2.2.2.2.1 h.2.2.2.2.2.2.2.2.2⟩]
 modes:=[(138,[false,false]),(145,[false,false]),(146,[false,false])]
 keep:=[(0,⟨[1,3,4],[64],[⟨1000000,9,.str,[.slot 3],false⟩],[]⟩),
  (2,⟨[1,3,4,5,7,8],[64,320],[⟨1002000,9,.str,[.slot 3],false⟩,⟨1002001,9,.str,[.slot 7],false⟩],[]⟩),
  (4,⟨[1,3,4,5,11],[64,320],[⟨1004000,9,.str,[.slot 3],false⟩],[]⟩)]
 keepX:=[(0,.ret,⟨[2],[],[],[]⟩),
  (0,.exit 0,⟨[],[],[],[]⟩),
  (2,.ret,⟨[2],[],[],[]⟩),
  (2,.exit 2,⟨[1,3,4,5],[64,320],[⟨1502300,9,.str,[.slot 3],false⟩],[]⟩),
  (4,.ret,⟨[2],[],[],[]⟩),
  (4,.exit 4,⟨[1,3,4],[64],[⟨1504500,9,.str,[.slot 3],false⟩],[]⟩)]
 ro:=[false]
theorem j0fk:Con.OK Tryz.prog j074:=
 cOf tabOk mixedOk j0fS j074 Tryz.func88 (And.intro j0bs (And.intro j0j7 (And.intro j0kC trivial))) (And.intro (fun h=>by kernel_rfl) (And.intro (fun h=>by kernel_rfl) (And.intro (fun h=>by kernel_rfl) trivial)))
def j08E:Con:=⟨45,[.v ty79],[ty79],⟨[.v iT],[]⟩,[iT],fun h=>Pw.j0cG h⟩
def j0kD:FnD where
 N:=45
 np:=1
 cs:=[j0aX,j09W,j073,j074]
 ds:=[]
 modes:=[(85,[false]),(86,[false]),(87,[false]),(88,[false])]
 ro:=[false]
theorem j0fl:Con.OK Tryz.prog j08E:=
 cOf tabOk mixedOk j0kD j08E Tryz.func45 (And.intro j0j3 (And.intro j0hZ (And.intro j0fj (And.intro j0fk trivial)))) trivial
def j094:Con:=⟨90,[.v ty60],[ty60],⟨[.v iT],[]⟩,[iT],fun h=>Pw.j0dG h⟩
def j0i0:FnD where
 N:=24
 np:=1
 cs:=[j01V]
 ds:=[]
 modes:=[(89,[false])]
 ro:=[false]
theorem j0gW:Con.OK Tryz.prog j094:=
 cOf tabOk mixedOk j0i0 j094 Tryz.func90 (And.intro j03D trivial) trivial
def j0c6:Con:=⟨46,[.v ty60],[ty60],⟨[.v iT],[]⟩,[iT],fun h=>Pw.j0aC h⟩
def j0lU:FnD where
 N:=20
 np:=1
 cs:=[j01V,j094]
 ds:=[]
 modes:=[(89,[false]),(90,[false])]
 ro:=[false]
theorem j0kE:Con.OK Tryz.prog j0c6:=
 cOf tabOk mixedOk j0lU j0c6 Tryz.func46 (And.intro j03D (And.intro j0gW trivial)) trivial
def j08F:Con:=⟨91,[.v ty60,.v ty67],[ty60,ty67],⟨[.v iT],[]⟩,[iT],fun h=>Pw.j09B h.1 h.2⟩
def j0kF:FnD where
 N:=58
 np:=2
 cs:=[j08D]
 ds:=[]
 modes:=[(139,[false])]
 ro:=[false]
theorem j0fm:Con.OK Tryz.prog j08F:=
 cOf tabOk mixedOk j0kF j08F Tryz.func91 (And.intro j0fi trivial) trivial
def j0b1:Con:=⟨94,[.v iT],[iT],⟨[.v .bool],[]⟩,[.bool],fun h=>Pw.j0cH h⟩
def j0kG:FnD where
 N:=5
 np:=1
 cs:=[j07Y]
 ds:=[]
 modes:=[(93,[false,false,false])]
 ro:=[false]
theorem j0j8:Con.OK Tryz.prog j0b1:=
 cOf tabOk mixedOk j0kG j0b1 Tryz.func94 (And.intro j0da trivial) trivial
def j06P:Con:=⟨48,[.v ty60,.v ty8],[ty60,ty8],⟨[.v iT,.v iT],[]⟩,[iT,iT],fun h=>Pw.j02Z h.1 h.2⟩
def j0kH:FnD where
 N:=76
 np:=2
 cs:=[j07Y,j01V,j0b1]
 ds:=[⟨0,[.s (.one (.bp 128 0)),.s (.one (.bp 192 0)),.s (.one (.ol 1000000)),sI,.b (.cell [.d .str,.d iT,.d ty53] false),.b (.cell [.d iT,.d iT] false),.b (.lst 146 ty8 false)],[iT,.str,iT,ty53,iT,iT,ty12],[⟨.ret,[sI,sI],[iT,iT]⟩,⟨.exit 0,[],[]⟩],fun h=>Pw.j02R h.1 h.2.1 h.2.2.1 h.2.2.2.1 h.2.2.2.2.1 h.2.2.2.2.2.1 h.2.2.2.2.2.2⟩]
 modes:=[(89,[false]),(93,[false,false,false]),(94,[false])]
 keep:=[(0,⟨[2,3,6,8],[128,192],[⟨1000000,146,ty8,[.slot 6],false⟩],[]⟩)]
 keepX:=[(0,.ret,⟨[4,5],[],[],[]⟩),
  (0,.exit 0,⟨[],[],[],[]⟩)]
 ro:=[false,false]
theorem j0c7:Con.OK Tryz.prog j06P:=
 cOf tabOk mixedOk j0kH j06P Tryz.func48 (And.intro j0da (And.intro j03D (And.intro j0j8 trivial))) (And.intro (fun h=>by kernel_rfl) trivial)
def j063:Con:=⟨92,[.v ty60,.v ty67,.v iT],[ty60,ty67,iT],⟨[.v iT,.v .bool],[]⟩,[iT,.bool],fun h=>Pw.j05t h.1 h.2.1 h.2.2⟩
def j0gX:FnD where
 N:=66
 np:=3
 cs:=[j06P]
 ds:=[]
 modes:=[(48,[false,false])]
 ro:=[false,false]
theorem j0bK:Con.OK Tryz.prog j063:=
 cOf tabOk mixedOk j0gX j063 Tryz.func92 (And.intro j0c7 trivial) trivial
def j081:Con:=⟨47,[.v ty60,.v ty67,.v iT],[ty60,ty67,iT],⟨[.v iT,.v iT],[]⟩,[iT,iT],fun h=>Pw.j09C h.1 h.2.1 h.2.2⟩
def j0gY:FnD where
 N:=31
 np:=3
 cs:=[j08F,j063]
 ds:=[]
 modes:=[(91,[false,false]),(92,[false,false,false])]
 ro:=[false,false]
theorem j0fT:Con.OK Tryz.prog j081:=
 cOf tabOk mixedOk j0gY j081 Tryz.func47 (And.intro j0fm (And.intro j0bK trivial)) trivial
def j095:Con:=⟨15,[.v ty79,.v iT],[ty79,iT],⟨[.v iT],[]⟩,[iT],fun h=>Pw.j09i h.1 h.2⟩
def j0i1:FnD where
 N:=134
 np:=2
 cs:=[j08E,j0c6,j06P,j081]
 ds:=[⟨0,[.s (.one (.bp 128 0)),.s (.one (.bp 320 0)),sI,sI,.b (.cell [.d ty61,.d ty51,.d ty26,.d ty73] false),.b (.cell [.d .str,.d ty68,.d ty39] false)],[iT,iT,ty61,ty51,ty26,ty73,.str,ty68,ty39],[⟨.exit 0,[.s (.one (.bp 320 0)),sI,.b (.cell [.d .str,.d ty68,.d ty39] false)],[iT,.str,ty68,ty39]⟩],fun h=>Pw.j02i h.1 h.2.1 h.2.2.1 h.2.2.2.1 h.2.2.2.2.1 h.2.2.2.2.2.1 h.2.2.2.2.2.2.1 h.2.2.2.2.2.2.2.1 h.2.2.2.2.2.2.2.2⟩,
  ⟨2,[.s (.one (.bp 320 0)),sI,sI,.b (.cell [.d .str,.d ty68,.d ty39] false)],[iT,iT,.str,ty68,ty39],[⟨.exit 2,[sI],[iT]⟩],fun h=>Pw.j030 h.1 h.2.1 h.2.2.1 h.2.2.2.1 h.2.2.2.2⟩]
 modes:=[(45,[false]),(46,[false]),(47,[false,false,false]),(48,[false,false])]
 keep:=[(0,⟨[2,5,6,7],[128,320],[],[]⟩),
  (2,⟨[5,6,15],[320],[],[]⟩)]
 keepX:=[(0,.exit 0,⟨[5,6],[320],[],[]⟩),
  (2,.exit 2,⟨[6],[],[],[]⟩)]
 ro:=[false]
theorem j0gZ:Con.OK Tryz.prog j095:=
 cOf tabOk mixedOk j0i1 j095 Tryz.func15 (And.intro j0fl (And.intro j0kE (And.intro j0c7 (And.intro j0fT trivial)))) (And.intro (fun h=>by kernel_rfl) (And.intro (fun h=>by kernel_rfl) trivial))
def j0fn:Con:=⟨95,[.v ty79,.v iT,.v iT],[ty79,iT,iT],⟨[.v .bool],[]⟩,[.bool],fun h=>Pw.r12_Ok h.1 h.2.1 h.2.2⟩
def j0nP:FnD where
 N:=29
 np:=3
 cs:=[j08E]
 ds:=[]
 modes:=[(45,[false])]
 ro:=[false]
theorem j0mZ:Con.OK Tryz.prog j0fn:=
 cOf tabOk mixedOk j0nP j0fn Tryz.func95 (And.intro j0fl trivial) trivial
def j09X:Con:=⟨229,[.v ty60,.v ty12,.v iT],[ty60,ty12,iT],⟨[.v iT],[]⟩,[iT],fun h=>Pw.j0cI h.1 h.2.1 h.2.2⟩
def j0j9:FnD where
 N:=32
 np:=3
 cs:=[]
 ds:=[⟨0,[.s (.one (.d ty12)),sI,sI,sI],[ty12,iT,iT,iT],[⟨.exit 0,[sI],[iT]⟩],fun h=>Pw.j03x h.1 h.2.1 h.2.2.1 h.2.2.2⟩]
 keep:=[(0,⟨[1,2,7,8],[],[],[]⟩)]
 keepX:=[(0,.exit 0,⟨[7],[],[],[]⟩)]
 ro:=[false]
theorem j0i2:Con.OK Tryz.prog j09X:=
 cOf tabOk mixedOk j0j9 j09X Tryz.func229 trivial (And.intro (fun h=>by kernel_rfl) trivial)
def j082:Con:=⟨185,[.v ty60,.v iT],[ty60,iT],⟨[.v iT,.v iT],[]⟩,[iT,iT],fun h=>Pw.j07O h.1 h.2⟩
def j0h0:FnD where
 N:=22
 np:=2
 cs:=[j07Y,j01V,j09X]
 ds:=[]
 modes:=[(89,[false]),(93,[false,false,false]),(229,[false,false,false])]
 ro:=[false,false]
theorem j0fU:Con.OK Tryz.prog j082:=
 cOf tabOk mixedOk j0h0 j082 Tryz.func185 (And.intro j0da (And.intro j03D (And.intro j0i2 trivial))) trivial
def j0b2:Con:=⟨186,[.v iT,.v iT],[iT,iT],⟨[.v ty8],[]⟩,[ty8],fun h=>Pw.j0eH h.1 h.2⟩
def j0kI:FnD where
 N:=16
 np:=2
 cs:=[]
 ds:=[]
 ro:=[false]
theorem j0ja:Con.OK Tryz.prog j0b2:=
 cOf tabOk mixedOk j0kI j0b2 Tryz.func186 trivial trivial
def j05f:Con:=⟨154,[.v ty60,.v iT],[ty60,iT],⟨[.v ty8,.v iT],[]⟩,[ty8,iT],fun h=>Pw.j02S h.1 h.2⟩
def j0i3:FnD where
 N:=21
 np:=2
 cs:=[j082,j0b2]
 ds:=[]
 modes:=[(185,[false,false]),(186,[false,false])]
 ro:=[false,false]
theorem j09Y:Con.OK Tryz.prog j05f:=
 cOf tabOk mixedOk j0i3 j05f Tryz.func154 (And.intro j0fU (And.intro j0ja trivial)) trivial
end Go.Proofs.Pk
