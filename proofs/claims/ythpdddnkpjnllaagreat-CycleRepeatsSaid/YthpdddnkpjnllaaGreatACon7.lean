/- Contracts: each given function is its plain function, printed by a program. -/
import Derived.Test.YthpdddnkpjnllaaGreatACon6
noncomputable section
open Go Go.Lft
set_option linter.unusedVariables false
set_option maxRecDepth 100000
namespace Go.Proofs.Pk
def j05Y:Con:=⟨144,[],[],⟨[.v iT],[]⟩,[iT],fun h=>Pw.j098⟩
def j0j1:FnD where
 N:=3
 np:=0
 cs:=[j09K]
 ds:=[]
 modes:=[(179,[false])]
 ro:=[false]
theorem j0aR:Con.OK Tryz.prog j05Y:=
 cOf tabOk mixedOk j0j1 j05Y Tryz.func144 (And.intro j0g7 trivial) trivial
def j06X:Con:=⟨87,[.v ty79],[ty79],⟨[.v iT],[]⟩,[iT],fun h=>Pw.j0ar h⟩
def j0fN:FnD where
 N:=78
 np:=1
 cs:=[j06i,j07T,j05Y]
 ds:=[⟨0,[.s (.one (.bp 64 0)),.s (.one (.ol 1000000)),sI,.b (.cell [.d ty61,.d ty51,.d ty26,.d ty73] false),.b (.lst 9 .str false)],[iT,ty61,ty51,ty26,ty73,(.list .str)],[⟨.ret,[sI],[iT]⟩,⟨.exit 0,[],[]⟩],fun h=>Pw.j02k h.1 h.2.1 h.2.2.1 h.2.2.2.1 h.2.2.2.2.1 h.2.2.2.2.2⟩,
  ⟨2,[.s (.one (.bp 64 0)),.s (.one (.ol 1002000)),sI,.s (.one (.bp 320 0)),sI,.b (.cell [.d ty61,.d ty51,.d ty26,.d ty73] false),.b (.cell [.d .str,.d iT,.d (.list iT)] false),.b (.lst 9 .str false)],[iT,iT,ty61,ty51,ty26,ty73,.str,iT,(.list iT),(.list .str)],[⟨.ret,[sI],[iT]⟩,⟨.exit 2,[.s (.one (.bp 64 0)),.s (.one (.ol 1502300)),sI,.s (.one (.bp 320 0)),.b (.cell [.d ty61,.d ty51,.d ty26,.d ty73] false),.b (.cell [.d .str,.d iT,.d (.list iT)] false),.b (.lst 9 .str false)],[iT,ty61,ty51,ty26,ty73,.str,iT,(.list iT),(.list .str)]⟩],fun h=>Pw.j02j h.1 h.2.1 h.2.2.1 h.2.2.2.1 h.2.2.2.2.1 h.2.2.2.2.2.1 h.2.2.2.2.2.2.1 h.2.2.2.2.2.2.2.1 h.2.2.2.2.2.2.2.2.1 h.2.2.2.2.2.2.2.2.2⟩,
  ⟨4,[.s (.one (.bp 64 0)),.s (.one (.ol 1004000)),sI,.s (.one (.bp 320 0)),sI,.b (.cell [.d ty61,.d ty51,.d ty26,.d ty73] false),.b (.cell [.d .str,.d iT,.d (.list iT)] false),.b (.lst 9 .str false)],[iT,iT,ty61,ty51,ty26,ty73,.str,iT,(.list iT),(.list .str)],[⟨.ret,[sI],[iT]⟩,⟨.exit 4,[.s (.one (.bp 64 0)),.s (.one (.ol 1504500)),sI,.b (.cell [.d ty61,.d ty51,.d ty26,.d ty73] false),.b (.lst 9 .str false)],[iT,ty61,ty51,ty26,ty73,(.list .str)]⟩],fun h=>Pw.j037 h.1 h.2.1 h.2.2.1 h.2.2.2.1 h.2.2.2.2.1 h.2.2.2.2.2.1 h.2.2.2.2.2.2.1 h.2.2.2.2.2.2.2.1 h.2.2.2.2.2.2.2.2.1 h.2.2.2.2.2.2.2.2.2⟩]
 modes:=[(138,[false,false]),(141,[false,false,false]),(144,[])]
 keep:=[(0,⟨[1,3,4],[64],[⟨1000000,9,.str,[.slot 3],false⟩],[]⟩),
  (2,⟨[1,3,4,5,7],[64,320],[⟨1002000,9,.str,[.slot 3],false⟩],[]⟩),
  (4,⟨[1,3,4,5,8],[64,320],[⟨1004000,9,.str,[.slot 3],false⟩],[]⟩)]
 keepX:=[(0,.ret,⟨[2],[],[],[]⟩),
  (0,.exit 0,⟨[],[],[],[]⟩),
  (2,.ret,⟨[2],[],[],[]⟩),
  (2,.exit 2,⟨[1,3,4,5],[64,320],[⟨1502300,9,.str,[.slot 3],false⟩],[]⟩),
  (4,.ret,⟨[2],[],[],[]⟩),
  (4,.exit 4,⟨[1,3,4],[64],[⟨1504500,9,.str,[.slot 3],false⟩],[]⟩)]
 ro:=[false]
theorem j0fg:Con.OK Tryz.prog j06X:=
 cOf tabOk mixedOk j0fN j06X Tryz.func87 (And.intro j0bj (And.intro j0d9 (And.intro j0aR trivial))) (And.intro (fun h=>by kernel_rfl) (And.intro (fun h=>by kernel_rfl) (And.intro (fun h=>by kernel_rfl) trivial)))
def j0aS:Con:=⟨145,[.v ty79,.v ty67],[ty79,ty67],⟨[.v iT],[]⟩,[iT],fun h=>Pw.j0cC h.1 h.2⟩
def j0kv:FnD where
 N:=102
 np:=2
 cs:=[j07T,j06H,j05Y]
 ds:=[⟨1,[.s (.one (.bp 128 0)),.s (.one (.bp 192 0)),sI,.b (.cell [.d ty61,.d ty51,.d ty26,.d ty73] false),.b (.cell [.d .str,.d iT,.d iT,.d iT,.d iT,.d iT,.d (.list iT),.d ty12,.d iT,.d iT] false)],[iT,ty61,ty51,ty26,ty73,.str,iT,iT,iT,iT,iT,(.list iT),ty12,iT,iT],[⟨.ret,[sI],[iT]⟩,⟨.exit 1,[.s (.one (.bp 128 0)),.s (.one (.bp 192 0)),.b (.cell [.d ty61,.d ty51,.d ty26,.d ty73] false),.b (.cell [.d .str,.d iT,.d iT,.d iT,.d iT,.d iT,.d (.list iT),.d ty12,.d iT,.d iT] false)],[ty61,ty51,ty26,ty73,.str,iT,iT,iT,iT,iT,(.list iT),ty12,iT,iT]⟩],fun h=>Pw.j03Q h.1 h.2.1 h.2.2.1 h.2.2.2.1 h.2.2.2.2.1 h.2.2.2.2.2.1 h.2.2.2.2.2.2.1 h.2.2.2.2.2.2.2.1 h.2.2.2.2.2.2.2.2.1 h.2.2.2.2.2.2.2.2.2.1 h.2.2.2.2.2.2.2.2.2.2.1 h.2.2.2.2.2.2.2.2.2.2.2.1 h.2.2.2.2.2.2.2.2.2.2.2.2.1 h.2.2.2.2.2.2.2.2.2.2.2.2.2.1 h.2.2.2.2.2.2.2.2.2.2.2.2.2.2⟩]
 modes:=[(141,[false,false,false]),(142,[false]),(144,[])]
 keep:=[(1,⟨[2,3,5],[128,192],[],[]⟩)]
 keepX:=[(1,.ret,⟨[4],[],[],[]⟩),
  (1,.exit 1,⟨[2,3],[128,192],[],[]⟩)]
 ro:=[false]
theorem j0j2:Con.OK Tryz.prog j0aS:=
 cOf tabOk mixedOk j0kv j0aS Tryz.func145 (And.intro j0d9 (And.intro j0bW (And.intro j0aR trivial))) (And.intro (fun h=>by kernel_rfl) trivial)
def j0bX:Con:=⟨146,[.v ty79,.v ty37],[ty79,ty37],⟨[.v iT],[]⟩,[iT],fun h=>Pw.j0f0 h.1 h.2⟩
def j0lN:FnD where
 N:=86
 np:=2
 cs:=[j07T,j05Y]
 ds:=[]
 modes:=[(141,[false,false,false]),(144,[])]
 ro:=[false]
theorem j0kw:Con.OK Tryz.prog j0bX:=
 cOf tabOk mixedOk j0lN j0bX Tryz.func146 (And.intro j0d9 (And.intro j0aR trivial)) trivial
def j06Y:Con:=⟨88,[.v ty79],[ty79],⟨[.v iT],[]⟩,[iT],fun h=>Pw.j0as h⟩
def j0fO:FnD where
 N:=95
 np:=1
 cs:=[j06i,j0aS,j0bX]
 ds:=[⟨0,[.s (.one (.bp 64 0)),.s (.one (.ol 1000000)),sI,.b (.cell [.d ty61,.d ty51,.d ty26,.d ty73] false),.b (.lst 9 .str false)],[iT,ty61,ty51,ty26,ty73,(.list .str)],[⟨.ret,[sI],[iT]⟩,⟨.exit 0,[],[]⟩],fun h=>Pw.j02n h.1 h.2.1 h.2.2.1 h.2.2.2.1 h.2.2.2.2.1 h.2.2.2.2.2⟩,
  ⟨2,[.s (.one (.bp 64 0)),.s (.one (.ol 1002000)),sI,.s (.one (.bp 320 0)),.s (.one (.ol 1002001)),sI,.b (.cell [.d ty61,.d ty51,.d ty26,.d ty73] false),.b (.cell [.d .str,.d ty68,.d ty39] false),.b (.lst 9 .str false),.b (.lst 9 .str false)],[iT,iT,ty61,ty51,ty26,ty73,.str,ty68,ty39,(.list .str),(.list .str)],[⟨.ret,[sI],[iT]⟩,⟨.exit 2,[.s (.one (.bp 64 0)),.s (.one (.ol 1502300)),sI,.s (.one (.bp 320 0)),.b (.cell [.d ty61,.d ty51,.d ty26,.d ty73] false),.b (.cell [.d .str,.d ty68,.d ty39] false),.b (.lst 9 .str false)],[iT,ty61,ty51,ty26,ty73,.str,ty68,ty39,(.list .str)]⟩],fun h=>Pw.j02l h.1 h.2.1 h.2.2.1 h.2.2.2.1 h.2.2.2.2.1 h.2.2.2.2.2.1 h.2.2.2.2.2.2.1 h.2.2.2.2.2.2.2.1 h.2.2.2.2.2.2.2.2.1 h.2.2.2.2.2.2.2.2.2.1 h.2.2.2.2.2.2.2.2.2.2⟩,
  ⟨4,[.s (.one (.bp 64 0)),.s (.one (.ol 1004000)),sI,.s (.one (.bp 320 0)),sI,.b (.cell [.d ty61,.d ty51,.d ty26,.d ty73] false),.b (.cell [.d .str,.d ty68,.d ty39] false),.b (.lst 9 .str false)],[iT,iT,ty61,ty51,ty26,ty73,.str,ty68,ty39,(.list .str)],[⟨.ret,[sI],[iT]⟩,⟨.exit 4,[.s (.one (.bp 64 0)),.s (.one (.ol 1504500)),sI,.b (.cell [.d ty61,.d ty51,.d ty26,.d ty73] false),.b (.lst 9 .str false)],[iT,ty61,ty51,ty26,ty73,(.list .str)]⟩],fun h=>Pw.j02m h.1 h.2.1 h.2.2.1 h.2.2.2.1 h.2.2.2.2.1 h.2.2.2.2.2.1 h.2.2.2.2.2.2.1 h.2.2.2.2.2.2.2.1 h.2.2.2.2.2.2.2.2.1 h.2.2.2.2.2.2.2.2.2⟩]
 modes:=[(138,[false,false]),(145,[false,false]),(146,[false,false])]
 keep:=[(0,⟨[1,3,4],[64],[⟨1000000,9,.str,[.slot 3],false⟩],[]⟩),
  (2,⟨[1,3,4,5,7,8],[64,320],[⟨1002000,9,.str,[.slot 3],false⟩,⟨1002001,9,.str,[.slot 7],false⟩],[]⟩),
  (4,⟨[1,3,4,5,11],[64,320],[⟨1004000,9,.str,[.slot 3],false⟩],[]⟩)]
 keepX:=[(0,.ret,⟨[2],[],[],[]⟩),
  (0,.exit 0,⟨[],[],[],[]⟩),
  (2,.ret,⟨[2],[],[],[]⟩),
  (2,.exit 2,⟨[1,3,4,5],[64,320],[⟨1502300,9,.str,[.slot 3],false⟩],[]⟩),
  (4,.ret,⟨[2],[],[],[]⟩),
  (4,.exit 4,⟨[1,3,4],[64],[⟨1504500,9,.str,[.slot 3],false⟩],[]⟩)]
 ro:=[false]
theorem j0fh:Con.OK Tryz.prog j06Y:=
 cOf tabOk mixedOk j0fO j06Y Tryz.func88 (And.intro j0bj (And.intro j0j2 (And.intro j0kw trivial))) (And.intro (fun h=>by kernel_rfl) (And.intro (fun h=>by kernel_rfl) (And.intro (fun h=>by kernel_rfl) trivial)))
def j08v:Con:=⟨45,[.v ty79],[ty79],⟨[.v iT],[]⟩,[iT],fun h=>Pw.j0cD h⟩
def j0kx:FnD where
 N:=45
 np:=1
 cs:=[j0aP,j09L,j06X,j06Y]
 ds:=[]
 modes:=[(85,[false]),(86,[false]),(87,[false]),(88,[false])]
 ro:=[false]
theorem j0fi:Con.OK Tryz.prog j08v:=
 cOf tabOk mixedOk j0kx j08v Tryz.func45 (And.intro j0iY (And.intro j0hT (And.intro j0fg (And.intro j0fh trivial)))) trivial
def j08T:Con:=⟨90,[.v ty60],[ty60],⟨[.v iT],[]⟩,[iT],fun h=>Pw.j0dB h⟩
def j0hU:FnD where
 N:=24
 np:=1
 cs:=[j01Q]
 ds:=[]
 modes:=[(89,[false])]
 ro:=[false]
theorem j0gR:Con.OK Tryz.prog j08T:=
 cOf tabOk mixedOk j0hU j08T Tryz.func90 (And.intro j03u trivial) trivial
def j0bY:Con:=⟨46,[.v ty60],[ty60],⟨[.v iT],[]⟩,[iT],fun h=>Pw.j0at h⟩
def j0lO:FnD where
 N:=20
 np:=1
 cs:=[j01Q,j08T]
 ds:=[]
 modes:=[(89,[false]),(90,[false])]
 ro:=[false]
theorem j0ky:Con.OK Tryz.prog j0bY:=
 cOf tabOk mixedOk j0lO j0bY Tryz.func46 (And.intro j03u (And.intro j0gR trivial)) trivial
def j08w:Con:=⟨91,[.v ty60,.v ty67],[ty60,ty67],⟨[.v iT],[]⟩,[iT],fun h=>Pw.j09r h.1 h.2⟩
def j0kz:FnD where
 N:=58
 np:=2
 cs:=[j08u]
 ds:=[]
 modes:=[(139,[false])]
 ro:=[false]
theorem j0fj:Con.OK Tryz.prog j08w:=
 cOf tabOk mixedOk j0kz j08w Tryz.func91 (And.intro j0ff trivial) trivial
def j0aT:Con:=⟨94,[.v iT],[iT],⟨[.v .bool],[]⟩,[.bool],fun h=>Pw.j0cE h⟩
def j0kA:FnD where
 N:=5
 np:=1
 cs:=[j07R]
 ds:=[]
 modes:=[(93,[false,false,false])]
 ro:=[false]
theorem j0j3:Con.OK Tryz.prog j0aT:=
 cOf tabOk mixedOk j0kA j0aT Tryz.func94 (And.intro j0d7 trivial) trivial
def j06I:Con:=⟨48,[.v ty60,.v ty8],[ty60,ty8],⟨[.v iT,.v iT],[]⟩,[iT,iT],fun h=>Pw.j02R h.1 h.2⟩
def j0kB:FnD where
 N:=76
 np:=2
 cs:=[j07R,j01Q,j0aT]
 ds:=[⟨0,[.s (.one (.bp 128 0)),.s (.one (.bp 192 0)),.s (.one (.ol 1000000)),sI,.b (.cell [.d .str,.d iT,.d ty53] false),.b (.cell [.d iT,.d iT] false),.b (.lst 146 ty8 false)],[iT,.str,iT,ty53,iT,iT,ty12],[⟨.ret,[sI,sI],[iT,iT]⟩,⟨.exit 0,[],[]⟩],fun h=>Pw.j02I h.1 h.2.1 h.2.2.1 h.2.2.2.1 h.2.2.2.2.1 h.2.2.2.2.2.1 h.2.2.2.2.2.2⟩]
 modes:=[(89,[false]),(93,[false,false,false]),(94,[false])]
 keep:=[(0,⟨[2,3,6,8],[128,192],[⟨1000000,146,ty8,[.slot 6],false⟩],[]⟩)]
 keepX:=[(0,.ret,⟨[4,5],[],[],[]⟩),
  (0,.exit 0,⟨[],[],[],[]⟩)]
 ro:=[false,false]
theorem j0bZ:Con.OK Tryz.prog j06I:=
 cOf tabOk mixedOk j0kB j06I Tryz.func48 (And.intro j0d7 (And.intro j03u (And.intro j0j3 trivial))) (And.intro (fun h=>by kernel_rfl) trivial)
def j05Z:Con:=⟨92,[.v ty60,.v ty67,.v iT],[ty60,ty67,iT],⟨[.v iT,.v .bool],[]⟩,[iT,.bool],fun h=>Pw.j05l h.1 h.2.1 h.2.2⟩
def j0gS:FnD where
 N:=66
 np:=3
 cs:=[j06I]
 ds:=[]
 modes:=[(48,[false,false])]
 ro:=[false,false]
theorem j0bC:Con.OK Tryz.prog j05Z:=
 cOf tabOk mixedOk j0gS j05Z Tryz.func92 (And.intro j0bZ trivial) trivial
def j07U:Con:=⟨47,[.v ty60,.v ty67,.v iT],[ty60,ty67,iT],⟨[.v iT,.v iT],[]⟩,[iT,iT],fun h=>Pw.j09s h.1 h.2.1 h.2.2⟩
def j0gT:FnD where
 N:=31
 np:=3
 cs:=[j08w,j05Z]
 ds:=[]
 modes:=[(91,[false,false]),(92,[false,false,false])]
 ro:=[false,false]
theorem j0fP:Con.OK Tryz.prog j07U:=
 cOf tabOk mixedOk j0gT j07U Tryz.func47 (And.intro j0fj (And.intro j0bC trivial)) trivial
def j08U:Con:=⟨15,[.v ty79,.v iT],[ty79,iT],⟨[.v iT],[]⟩,[iT],fun h=>Pw.j099 h.1 h.2⟩
def j0hV:FnD where
 N:=134
 np:=2
 cs:=[j08v,j0bY,j06I,j07U]
 ds:=[⟨0,[.s (.one (.bp 128 0)),.s (.one (.bp 320 0)),sI,sI,.b (.cell [.d ty61,.d ty51,.d ty26,.d ty73] false),.b (.cell [.d .str,.d ty68,.d ty39] false)],[iT,iT,ty61,ty51,ty26,ty73,.str,ty68,ty39],[⟨.exit 0,[.s (.one (.bp 320 0)),sI,.b (.cell [.d .str,.d ty68,.d ty39] false)],[iT,.str,ty68,ty39]⟩],fun h=>Pw.j02b h.1 h.2.1 h.2.2.1 h.2.2.2.1 h.2.2.2.2.1 h.2.2.2.2.2.1 h.2.2.2.2.2.2.1 h.2.2.2.2.2.2.2.1 h.2.2.2.2.2.2.2.2⟩,
  ⟨2,[.s (.one (.bp 320 0)),sI,sI,.b (.cell [.d .str,.d ty68,.d ty39] false)],[iT,iT,.str,ty68,ty39],[⟨.exit 2,[sI],[iT]⟩],fun h=>Pw.j02S h.1 h.2.1 h.2.2.1 h.2.2.2.1 h.2.2.2.2⟩]
 modes:=[(45,[false]),(46,[false]),(47,[false,false,false]),(48,[false,false])]
 keep:=[(0,⟨[2,5,6,7],[128,320],[],[]⟩),
  (2,⟨[5,6,15],[320],[],[]⟩)]
 keepX:=[(0,.exit 0,⟨[5,6],[320],[],[]⟩),
  (2,.exit 2,⟨[6],[],[],[]⟩)]
 ro:=[false]
theorem j0gU:Con.OK Tryz.prog j08U:=
 cOf tabOk mixedOk j0hV j08U Tryz.func15 (And.intro j0fi (And.intro j0ky (And.intro j0bZ (And.intro j0fP trivial)))) (And.intro (fun h=>by kernel_rfl) (And.intro (fun h=>by kernel_rfl) trivial))
def j0c0:Con:=⟨16,[.v iT,.v iT],[iT,iT],⟨[.v iT],[]⟩,[iT],fun h=>Pw.j0f1 h.1 h.2⟩
def j0lP:FnD where
 N:=12
 np:=2
 cs:=[]
 ds:=[]
 ro:=[false]
theorem j0kC:Con.OK Tryz.prog j0c0:=
 cOf tabOk mixedOk j0lP j0c0 Tryz.func16 trivial trivial
def j0fk:Con:=⟨95,[.v ty79,.v iT,.v iT],[ty79,iT,iT],⟨[.v .bool],[]⟩,[.bool],fun h=>Pw.r12_Ok h.1 h.2.1 h.2.2⟩
def j0nI:FnD where
 N:=29
 np:=3
 cs:=[j08v]
 ds:=[]
 modes:=[(45,[false])]
 ro:=[false]
theorem j0mR:Con.OK Tryz.prog j0fk:=
 cOf tabOk mixedOk j0nI j0fk Tryz.func95 (And.intro j0fi trivial) trivial
def j09M:Con:=⟨229,[.v ty60,.v ty12,.v iT],[ty60,ty12,iT],⟨[.v iT],[]⟩,[iT],fun h=>Pw.j0cF h.1 h.2.1 h.2.2⟩
def j0j4:FnD where
 N:=32
 np:=3
 cs:=[]
 ds:=[⟨0,[.s (.one (.d ty12)),sI,sI,sI],[ty12,iT,iT,iT],[⟨.exit 0,[sI],[iT]⟩],fun h=>Pw.j03o h.1 h.2.1 h.2.2.1 h.2.2.2⟩]
 keep:=[(0,⟨[1,2,7,8],[],[],[]⟩)]
 keepX:=[(0,.exit 0,⟨[7],[],[],[]⟩)]
 ro:=[false]
theorem j0hW:Con.OK Tryz.prog j09M:=
 cOf tabOk mixedOk j0j4 j09M Tryz.func229 trivial (And.intro (fun h=>by kernel_rfl) trivial)
def j07V:Con:=⟨185,[.v ty60,.v iT],[ty60,iT],⟨[.v iT,.v iT],[]⟩,[iT,iT],fun h=>Pw.j07H h.1 h.2⟩
def j0gV:FnD where
 N:=22
 np:=2
 cs:=[j07R,j01Q,j09M]
 ds:=[]
 modes:=[(89,[false]),(93,[false,false,false]),(229,[false,false,false])]
 ro:=[false,false]
theorem j0fQ:Con.OK Tryz.prog j07V:=
 cOf tabOk mixedOk j0gV j07V Tryz.func185 (And.intro j0d7 (And.intro j03u (And.intro j0hW trivial))) trivial
def j0aU:Con:=⟨186,[.v iT,.v iT],[iT,iT],⟨[.v ty8],[]⟩,[ty8],fun h=>Pw.j0eD h.1 h.2⟩
def j0kD:FnD where
 N:=16
 np:=2
 cs:=[]
 ds:=[]
 ro:=[false]
theorem j0j5:Con.OK Tryz.prog j0aU:=
 cOf tabOk mixedOk j0kD j0aU Tryz.func186 trivial trivial
def j058:Con:=⟨154,[.v ty60,.v iT],[ty60,iT],⟨[.v ty8,.v iT],[]⟩,[ty8,iT],fun h=>Pw.j02J h.1 h.2⟩
def j0hX:FnD where
 N:=21
 np:=2
 cs:=[j07V,j0aU]
 ds:=[]
 modes:=[(185,[false,false]),(186,[false,false])]
 ro:=[false,false]
theorem j09N:Con.OK Tryz.prog j058:=
 cOf tabOk mixedOk j0hX j058 Tryz.func154 (And.intro j0fQ (And.intro j0j5 trivial)) trivial
end Go.Proofs.Pk
