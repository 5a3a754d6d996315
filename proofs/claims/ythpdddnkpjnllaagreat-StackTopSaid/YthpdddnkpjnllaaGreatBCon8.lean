/- Contracts: each given function is its plain function, printed by a program. -/
import Derived.Test.YthpdddnkpjnllaaGreatBCon7
noncomputable section
open Go Go.Lft
set_option linter.unusedVariables false
set_option maxRecDepth 100000
namespace Go.Proofs.Pk
def j0aO:Con:=⟨229,[.v ty60,.v ty12,.v iT],[ty60,ty12,iT],⟨[.v iT],[]⟩,[iT],fun h=>Pw.j0dD h.1 h.2.1 h.2.2⟩
def j0ku:FnD where
 N:=32
 np:=3
 cs:=[]
 ds:=[⟨0,[.s (.one (.d ty12)),sI,sI,sI],[ty12,iT,iT,iT],[⟨.exit 0,[sI],[iT]⟩],fun h=>Pw.j03J h.1 h.2.1 h.2.2.1 h.2.2.2⟩]
 keep:=[(0,⟨[1,2,7,8],[],[],[]⟩)]
 keepX:=[(0,.exit 0,⟨[7],[],[],[]⟩)]
 ro:=[false]
theorem j0jk:Con.OK Tryz.prog j0aO:=
 cOf tabOk mixedOk j0ku j0aO Tryz.func229 trivial (And.intro (fun h=>by kernel_rfl) trivial)
def j08Q:Con:=⟨185,[.v ty60,.v iT],[ty60,iT],⟨[.v iT,.v iT],[]⟩,[iT,iT],fun h=>Pw.j08v h.1 h.2⟩
def j0ic:FnD where
 N:=22
 np:=2
 cs:=[j08N,j03d,j0aO]
 ds:=[]
 modes:=[(89,[false]),(93,[false,false,false]),(229,[false,false,false])]
 ro:=[false,false]
theorem j0h4:Con.OK Tryz.prog j08Q:=
 cOf tabOk mixedOk j0ic j08Q Tryz.func185 (And.intro j0e4 (And.intro j06O (And.intro j0jk trivial))) trivial
def j0c3:Con:=⟨186,[.v iT,.v iT],[iT,iT],⟨[.v ty8],[]⟩,[ty8],fun h=>Pw.j0fK h.1 h.2⟩
def j0m1:FnD where
 N:=16
 np:=2
 cs:=[]
 ds:=[]
 ro:=[false]
theorem j0kv:Con.OK Tryz.prog j0c3:=
 cOf tabOk mixedOk j0m1 j0c3 Tryz.func186 trivial trivial
def j05x:Con:=⟨154,[.v ty60,.v iT],[ty60,iT],⟨[.v ty8,.v iT],[]⟩,[ty8,iT],fun h=>Pw.j034 h.1 h.2⟩
def j0jl:FnD where
 N:=21
 np:=2
 cs:=[j08Q,j0c3]
 ds:=[]
 modes:=[(185,[false,false]),(186,[false,false])]
 ro:=[false,false]
theorem j0aP:Con.OK Tryz.prog j05x:=
 cOf tabOk mixedOk j0jl j05x Tryz.func154 (And.intro j0h4 (And.intro j0kv trivial)) trivial
def j08R:Con:=⟨92,[.v ty60,.v ty67,.v iT],[ty60,ty67,iT],⟨[.v iT,.v .bool],[]⟩,[iT,.bool],fun h=>Pw.j08w h.1 h.2.1 h.2.2⟩
def j0id:FnD where
 N:=66
 np:=3
 cs:=[j09s]
 ds:=[]
 modes:=[(48,[false,false])]
 ro:=[false,false]
theorem j0h5:Con.OK Tryz.prog j08R:=
 cOf tabOk mixedOk j0id j08R Tryz.func92 (And.intro j0gr trivial) trivial
def j0c4:Con:=⟨182,[.v ty60,.v ty67,.v iT],[ty60,ty67,iT],⟨[.v iT],[]⟩,[iT],fun h=>Pw.j0dE h.1 h.2.1 h.2.2⟩
def j0m2:FnD where
 N:=81
 np:=3
 cs:=[j09s,j05x,j08R]
 ds:=[⟨0,[sI,.s (.one (.bp 192 0)),.s (.one (.bp 256 0)),sI,.b (.cell [.d .str,.d iT,.d ty53] false),.b (.cell [.d .str,.d iT,.d iT,.d iT,.d iT,.d iT,.d (.list iT),.d ty12,.d iT,.d iT] false)],[iT,iT,.str,iT,ty53,.str,iT,iT,iT,iT,iT,(.list iT),ty12,iT,iT],[⟨.exit 0,[sI],[iT]⟩],fun h=>Pw.j04e h.1 h.2.1 h.2.2.1 h.2.2.2.1 h.2.2.2.2.1 h.2.2.2.2.2.1 h.2.2.2.2.2.2.1 h.2.2.2.2.2.2.2.1 h.2.2.2.2.2.2.2.2.1 h.2.2.2.2.2.2.2.2.2.1 h.2.2.2.2.2.2.2.2.2.2.1 h.2.2.2.2.2.2.2.2.2.2.2.1 h.2.2.2.2.2.2.2.2.2.2.2.2.1 h.2.2.2.2.2.2.2.2.2.2.2.2.2.1 h.2.2.2.2.2.2.2.2.2.2.2.2.2.2⟩]
 modes:=[(48,[false,false]),(92,[false,false,false]),(154,[false,false])]
 keep:=[(0,⟨[2,3,4,7],[192,256],[],[]⟩)]
 keepX:=[(0,.exit 0,⟨[7],[],[],[]⟩)]
 ro:=[false]
theorem j0kw:Con.OK Tryz.prog j0c4:=
 cOf tabOk mixedOk j0m2 j0c4 Tryz.func182 (And.intro j0gr (And.intro j0aP (And.intro j0h5 trivial))) (And.intro (fun h=>by kernel_rfl) trivial)
def j0c5:Con:=⟨152,[.v ty60,.v ty67,.v iT],[ty60,ty67,iT],⟨[.v iT,.v iT],[]⟩,[iT,iT],fun h=>Pw.j0dF h.1 h.2.1 h.2.2⟩
def j0m3:FnD where
 N:=22
 np:=3
 cs:=[j0c1,j0c4]
 ds:=[]
 modes:=[(91,[false,false]),(182,[false,false,false])]
 ro:=[false,false]
theorem j0kx:Con.OK Tryz.prog j0c5:=
 cOf tabOk mixedOk j0m3 j0c5 Tryz.func152 (And.intro j0ks (And.intro j0kw trivial)) trivial
def j0aQ:Con:=⟨228,[.v ty8],[ty8],⟨[.v iT],[]⟩,[iT],fun h=>Pw.j0dG h⟩
def j0ky:FnD where
 N:=10
 np:=1
 cs:=[j06Z]
 ds:=[]
 modes:=[(226,[false])]
 ro:=[false]
theorem j0jm:Con.OK Tryz.prog j0aQ:=
 cOf tabOk mixedOk j0ky j0aQ Tryz.func228 (And.intro j0e5 trivial) trivial
def j0aR:Con:=⟨183,[.v ty60,.v iT],[ty60,iT],⟨[.v iT,.v iT],[]⟩,[iT,iT],fun h=>Pw.j0ag h.1 h.2⟩
def j0kz:FnD where
 N:=19
 np:=2
 cs:=[j05x,j0aQ]
 ds:=[]
 modes:=[(154,[false,false]),(228,[false])]
 ro:=[false,false]
theorem j0jn:Con.OK Tryz.prog j0aR:=
 cOf tabOk mixedOk j0kz j0aR Tryz.func183 (And.intro j0aP (And.intro j0jm trivial)) trivial
def j0aS:Con:=⟨184,[.v ty12,.v iT],[ty12,iT],⟨[.v .bool],[]⟩,[.bool],fun h=>Pw.j0dH h.1 h.2⟩
def j0kA:FnD where
 N:=28
 np:=2
 cs:=[]
 ds:=[⟨0,[.s (.one (.d ty12)),sI,sI],[ty12,iT,iT],[⟨.ret,[.s (.one (.d .bool))],[.bool]⟩,⟨.exit 0,[],[]⟩],fun h=>Pw.j03K h.1 h.2.1 h.2.2⟩]
 keep:=[(0,⟨[0,1,5],[],[],[]⟩)]
 keepX:=[(0,.ret,⟨[4],[],[],[]⟩),
  (0,.exit 0,⟨[],[],[],[]⟩)]
 ro:=[false]
theorem j0jo:Con.OK Tryz.prog j0aS:=
 cOf tabOk mixedOk j0kA j0aS Tryz.func184 trivial (And.intro (fun h=>by kernel_rfl) trivial)
def j0gs:Con:=⟨153,[.v ty60,.v ty12,.v iT],[ty60,ty12,iT],⟨[.v .bool],[]⟩,[.bool],fun h=>Pw.r05_In h.1 h.2.1 h.2.2⟩
def j0oR:FnD where
 N:=27
 np:=3
 cs:=[j07h,j0aR,j0aS]
 ds:=[]
 modes:=[(142,[false]),(183,[false,false]),(184,[false,false])]
 ro:=[false]
theorem j0o8:Con.OK Tryz.prog j0gs:=
 cOf tabOk mixedOk j0oR j0gs Tryz.func153 (And.intro j0d1 (And.intro j0jn (And.intro j0jo trivial))) trivial
def j0aT:Con:=⟨100,[.v ty79,.v ty67,.v iT],[ty79,ty67,iT],⟨[.v iT,.v .bool],[]⟩,[iT,.bool],fun h=>Pw.j0cS h.1 h.2.1 h.2.2⟩
def j0ne:FnD where
 N:=94
 np:=3
 cs:=[j05x,j0c5,j0gs]
 ds:=[⟨0,[.s (.one (.bp 256 0)),sI,.s (.one (.bp 704 0)),.s (.one (.bp 768 0)),.s (.one (.d .bool)),sI,.b (.cell [.d .str,.d iT,.d iT,.d iT,.d iT,.d iT,.d (.list iT),.d ty12,.d iT,.d iT] false),.b (.cell [.d .str,.d iT,.d (.list iT)] false),.b (.cell [.d iT,.d iT] false)],[iT,.bool,iT,.str,iT,iT,iT,iT,iT,(.list iT),ty12,iT,iT,.str,iT,(.list iT),iT,iT],[⟨.exit 0,[.s (.one (.bp 256 0)),sI,.s (.one (.d .bool)),.b (.cell [.d .str,.d iT,.d iT,.d iT,.d iT,.d iT,.d (.list iT),.d ty12,.d iT,.d iT] false)],[iT,.bool,.str,iT,iT,iT,iT,iT,(.list iT),ty12,iT,iT]⟩],fun h=>Pw.j04N h.1 h.2.1 h.2.2.1 h.2.2.2.1 h.2.2.2.2.1 h.2.2.2.2.2.1 h.2.2.2.2.2.2.1 h.2.2.2.2.2.2.2.1 h.2.2.2.2.2.2.2.2.1 h.2.2.2.2.2.2.2.2.2.1 h.2.2.2.2.2.2.2.2.2.2.1 h.2.2.2.2.2.2.2.2.2.2.2.1 h.2.2.2.2.2.2.2.2.2.2.2.2.1 h.2.2.2.2.2.2.2.2.2.2.2.2.2.1 h.2.2.2.2.2.2.2.2.2.2.2.2.2.2.1 h.2.2.2.2.2.2.2.2.2.2.2.2.2.2.2.1 h.2.2.2.2.2.2.2.2.2.2.2.2.2.2.2.2.1 h.2.2.2.2.2.2.2.2.2.2.2.2.2.2.2.2.2⟩]
 modes:=[(152,[false,false,false]),(153,[false,false,false]),(154,[false,false])]
 keep:=[(0,⟨[4,9,11,12,14,15],[256,704,768],[],[]⟩)]
 keepX:=[(0,.exit 0,⟨[4,9,14],[256],[],[]⟩)]
 ro:=[false,false]
theorem j0hn:Con.OK Tryz.prog j0aT:=
 cOf tabOk mixedOk j0ne j0aT Tryz.func100 (And.intro j0aP (And.intro j0kx (And.intro j0o8 trivial))) (And.intro (fun h=>by kernel_rfl) trivial)
def j0c6:Con:=⟨99,[.v ty79,.v ty67,.v iT],[ty79,ty67,iT],⟨[.v .bool],[]⟩,[.bool],fun h=>Pw.j0hR h.1 h.2.1 h.2.2⟩
def j0m4:FnD where
 N:=17
 np:=3
 cs:=[j0aT]
 ds:=[]
 modes:=[(100,[false,false,false])]
 ro:=[false]
theorem j0kB:Con.OK Tryz.prog j0c6:=
 cOf tabOk mixedOk j0m4 j0c6 Tryz.func99 (And.intro j0hn trivial) trivial
def j0gt:Con:=⟨54,[.v ty79,.v ty67,.v iT],[ty79,ty67,iT],⟨[.v .bool],[]⟩,[.bool],fun h=>Pw.r11_On h.1 h.2.1 h.2.2⟩
def j0oS:FnD where
 N:=24
 np:=3
 cs:=[j0d3,j0c6]
 ds:=[]
 modes:=[(98,[false,false]),(99,[false,false,false])]
 ro:=[false]
theorem j0o9:Con.OK Tryz.prog j0gt:=
 cOf tabOk mixedOk j0oS j0gt Tryz.func54 (And.intro j0lX (And.intro j0kB trivial)) trivial
def j0eW:Con:=⟨55,[.v ty79,.v ty67,.v iT],[ty79,ty67,iT],⟨[.v iT],[]⟩,[iT],fun h=>Pw.r11_Raw h.1 h.2.1 h.2.2⟩
def j0oa:FnD where
 N:=27
 np:=3
 cs:=[j0aT]
 ds:=[]
 modes:=[(100,[false,false,false])]
 ro:=[false]
theorem j0nf:Con.OK Tryz.prog j0eW:=
 cOf tabOk mixedOk j0oa j0eW Tryz.func55 (And.intro j0hn trivial) trivial
def j0aU:Con:=⟨23,[.v ty79,.v ty67,.v iT],[ty79,ty67,iT],⟨[.v iT],[]⟩,[iT],fun h=>Pw.j0bE h.1 h.2.1 h.2.2⟩
def j0kC:FnD where
 N:=16
 np:=3
 cs:=[j0gt,j0eW]
 ds:=[]
 modes:=[(54,[false,false,false]),(55,[false,false,false])]
 ro:=[false]
theorem j0jp:Con.OK Tryz.prog j0aU:=
 cOf tabOk mixedOk j0kC j0aU Tryz.func23 (And.intro j0o9 (And.intro j0nf trivial)) trivial
def j0ak:Con:=⟨5,[.v (.list iT)],[(.list iT)],⟨[.v .bool],[]⟩,[.bool],fun h=>Pw.j0ax h⟩
def j0gu:FnD where
 N:=79
 np:=1
 cs:=[j0ay,j06p,j09q,j06Y,j0aL,j0bS,j00G,j03u,j061,j0aU]
 ds:=[⟨0,[.s (.one (.bp 1152 0)),.s (.one (.bp 256 0)),sI,.b (.cell [.d ty61,.d ty51,.d ty26,.d ty73] false),.b (.cell [.d (.list iT),.d iT] false)],[iT,ty61,ty51,ty26,ty73,(.list iT),iT],[⟨.ret,[.s (.one (.d .bool))],[.bool]⟩,⟨.exit 0,[],[]⟩],fun h=>Pw.j02l h.1 h.2.1 h.2.2.1 h.2.2.2.1 h.2.2.2.2.1 h.2.2.2.2.2.1 h.2.2.2.2.2.2⟩,
  ⟨2,[.s (.one (.bp 1152 0)),.s (.one (.bp 256 0)),sI,sI,sI,sI,sI,.s (.one (.d ty68)),sI,sI,.b (.cell [.d ty61,.d ty51,.d ty26,.d ty73] false),.b (.cell [.d (.list iT),.d iT] false)],[iT,iT,iT,iT,iT,ty68,iT,iT,ty61,ty51,ty26,ty73,(.list iT),iT],[⟨.exit 2,[.s (.one (.bp 1152 0)),.s (.one (.bp 256 0)),sI,sI,sI,sI,sI,.b (.cell [.d ty61,.d ty51,.d ty26,.d ty73] false),.b (.cell [.d (.list iT),.d iT] false)],[iT,iT,iT,iT,iT,ty61,ty51,ty26,ty73,(.list iT),iT]⟩],fun h=>Pw.j02k h.1 h.2.1 h.2.2.1 h.2.2.2.1 h.2.2.2.2.1 h.2.2.2.2.2.1 h.2.2.2.2.2.2.1 h.2.2.2.2.2.2.2.1 h.2.2.2.2.2.2.2.2.1 h.2.2.2.2.2.2.2.2.2.1 h.2.2.2.2.2.2.2.2.2.2.1 h.2.2.2.2.2.2.2.2.2.2.2.1 h.2.2.2.2.2.2.2.2.2.2.2.2.1 h.2.2.2.2.2.2.2.2.2.2.2.2.2⟩]
 modes:=[(10,[false]),(12,[false]),(13,[false,false]),(20,[]),(21,[false,false]),(22,[false]),(23,[false,false,false]),(24,[false,false,false]),(25,[false,false,false]),(26,[false,false,false])]
 keep:=[(0,⟨[3,4,5],[256,1152],[],[]⟩),
  (2,⟨[3,4,5,6,7,8,9,37,38,39],[256,1152],[],[]⟩)]
 keepX:=[(0,.ret,⟨[2],[],[],[]⟩),
  (0,.exit 0,⟨[],[],[],[]⟩),
  (2,.exit 2,⟨[3,4,5,6,7,8,9],[256,1152],[],[]⟩)]
 ro:=[false]
theorem law12_StackTop_ok:Con.OK Tryz.prog j0ak:=
 cOf tabOk mixedOk j0gu j0ak Tryz.func5 (And.intro j0iT (And.intro j0bQ (And.intro j0gi (And.intro j0e0 (And.intro j0jg (And.intro j0kh (And.intro j01l (And.intro j08M (And.intro j0e3 (And.intro j0jp trivial)))))))))) (And.intro (fun h=>by kernel_rfl) (And.intro (fun h=>by kernel_rfl) trivial))
end Go.Proofs.Pk
