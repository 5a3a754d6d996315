/- Contracts: each given function is its plain function, printed by a program. -/
import Derived.Test.YthpdddnkpjnllaaGreatACon7
noncomputable section
open Go Go.Lft
set_option linter.unusedVariables false
set_option maxRecDepth 100000
namespace Go.Proofs.Pk
def j0b3:Con:=⟨182,[.v ty60,.v ty67,.v iT],[ty60,ty67,iT],⟨[.v iT],[]⟩,[iT],fun h=>Pw.j0cJ h.1 h.2.1 h.2.2⟩
def j0kJ:FnD where
 N:=81
 np:=3
 cs:=[j06P,j063,j05f]
 ds:=[⟨0,[sI,.s (.one (.bp 192 0)),.s (.one (.bp 256 0)),sI,.b (.cell [.d .str,.d iT,.d ty53] false),.b (.cell [.d .str,.d iT,.d iT,.d iT,.d iT,.d iT,.d (.list iT),.d ty12,.d iT,.d iT] false)],[iT,iT,.str,iT,ty53,.str,iT,iT,iT,iT,iT,(.list iT),ty12,iT,iT],[⟨.exit 0,[sI],[iT]⟩],fun h=>Pw.j042 h.1 h.2.1 h.2.2.1 h.2.2.2.1 h.2.2.2.2.1 h.2.2.2.2.2.1 h.2.2.2.2.2.2.1 h.2.2.2.2.2.2.2.1 h.2.2.2.2.2.2.2.2.1 h.2.2.2.2.2.2.2.2.2.1 h.2.2.2.2.2.2.2.2.2.2.1 h.2.2.2.2.2.2.2.2.2.2.2.1 h.2.2.2.2.2.2.2.2.2.2.2.2.1 h.2.2.2.2.2.2.2.2.2.2.2.2.2.1 h.2.2.2.2.2.2.2.2.2.2.2.2.2.2⟩]
 modes:=[(48,[false,false]),(92,[false,false,false]),(154,[false,false])]
 keep:=[(0,⟨[2,3,4,7],[192,256],[],[]⟩)]
 keepX:=[(0,.exit 0,⟨[7],[],[],[]⟩)]
 ro:=[false]
theorem j0jb:Con.OK Tryz.prog j0b3:=
 cOf tabOk mixedOk j0kJ j0b3 Tryz.func182 (And.intro j0c7 (And.intro j0bK (And.intro j09Y trivial))) (And.intro (fun h=>by kernel_rfl) trivial)
def j0b4:Con:=⟨152,[.v ty60,.v ty67,.v iT],[ty60,ty67,iT],⟨[.v iT,.v iT],[]⟩,[iT,iT],fun h=>Pw.j0cK h.1 h.2.1 h.2.2⟩
def j0kK:FnD where
 N:=22
 np:=3
 cs:=[j08F,j0b3]
 ds:=[]
 modes:=[(91,[false,false]),(182,[false,false,false])]
 ro:=[false,false]
theorem j0jc:Con.OK Tryz.prog j0b4:=
 cOf tabOk mixedOk j0kK j0b4 Tryz.func152 (And.intro j0fm (And.intro j0jb trivial)) trivial
def j09Z:Con:=⟨228,[.v ty8],[ty8],⟨[.v iT],[]⟩,[iT],fun h=>Pw.j0cL h⟩
def j0jd:FnD where
 N:=10
 np:=1
 cs:=[j06w]
 ds:=[]
 modes:=[(226,[false])]
 ro:=[false]
theorem j0i4:Con.OK Tryz.prog j09Z:=
 cOf tabOk mixedOk j0jd j09Z Tryz.func228 (And.intro j0db trivial) trivial
def j0a0:Con:=⟨183,[.v ty60,.v iT],[ty60,iT],⟨[.v iT,.v iT],[]⟩,[iT,iT],fun h=>Pw.j09j h.1 h.2⟩
def j0je:FnD where
 N:=19
 np:=2
 cs:=[j05f,j09Z]
 ds:=[]
 modes:=[(154,[false,false]),(228,[false])]
 ro:=[false,false]
theorem j0i5:Con.OK Tryz.prog j0a0:=
 cOf tabOk mixedOk j0je j0a0 Tryz.func183 (And.intro j09Y (And.intro j0i4 trivial)) trivial
def j0a1:Con:=⟨184,[.v ty12,.v iT],[ty12,iT],⟨[.v .bool],[]⟩,[.bool],fun h=>Pw.j0cM h.1 h.2⟩
def j0jf:FnD where
 N:=28
 np:=2
 cs:=[]
 ds:=[⟨0,[.s (.one (.d ty12)),sI,sI],[ty12,iT,iT],[⟨.ret,[.s (.one (.d .bool))],[.bool]⟩,⟨.exit 0,[],[]⟩],fun h=>Pw.j03y h.1 h.2.1 h.2.2⟩]
 keep:=[(0,⟨[0,1,5],[],[],[]⟩)]
 keepX:=[(0,.ret,⟨[4],[],[],[]⟩),
  (0,.exit 0,⟨[],[],[],[]⟩)]
 ro:=[false]
theorem j0i6:Con.OK Tryz.prog j0a1:=
 cOf tabOk mixedOk j0jf j0a1 Tryz.func184 trivial (And.intro (fun h=>by kernel_rfl) trivial)
def j0fo:Con:=⟨153,[.v ty60,.v ty12,.v iT],[ty60,ty12,iT],⟨[.v .bool],[]⟩,[.bool],fun h=>Pw.r05_In h.1 h.2.1 h.2.2⟩
def j0nQ:FnD where
 N:=27
 np:=3
 cs:=[j06O,j0a0,j0a1]
 ds:=[]
 modes:=[(142,[false]),(183,[false,false]),(184,[false,false])]
 ro:=[false]
theorem j0n0:Con.OK Tryz.prog j0fo:=
 cOf tabOk mixedOk j0nQ j0fo Tryz.func153 (And.intro j0c4 (And.intro j0i5 (And.intro j0i6 trivial))) trivial
def j0c8:Con:=⟨100,[.v ty79,.v ty67,.v iT],[ty79,ty67,iT],⟨[.v iT,.v .bool],[]⟩,[iT,.bool],fun h=>Pw.j0f4 h.1 h.2.1 h.2.2⟩
def j0lV:FnD where
 N:=94
 np:=3
 cs:=[j05f,j0b4,j0fo]
 ds:=[⟨0,[.s (.one (.bp 256 0)),sI,.s (.one (.bp 704 0)),.s (.one (.bp 768 0)),.s (.one (.d .bool)),sI,.b (.cell [.d .str,.d iT,.d iT,.d iT,.d iT,.d iT,.d (.list iT),.d ty12,.d iT,.d iT] false),.b (.cell [.d .str,.d iT,.d (.list iT)] false),.b (.cell [.d iT,.d iT] false)],[iT,.bool,iT,.str,iT,iT,iT,iT,iT,(.list iT),ty12,iT,iT,.str,iT,(.list iT),iT,iT],[⟨.exit 0,[.s (.one (.bp 256 0)),sI,.s (.one (.d .bool)),.b (.cell [.d .str,.d iT,.d iT,.d iT,.d iT,.d iT,.d (.list iT),.d ty12,.d iT,.d iT] false)],[iT,.bool,.str,iT,iT,iT,iT,iT,(.list iT),ty12,iT,iT]⟩],fun h=>Pw.j04x h.1 h.2.1 h.2.2.1 h.2.2.2.1 h.2.2.2.2.1 h.2.2.2.2.2.1 h.2.2.2.2.2.2.1 h.2.2.2.2.2.2.2.1 h.2.2.2.2.2.2.2.2.1 h.2.2.2.2.2.2.2.2.2.1 h.2.2.2.2.2.2.2.2.2.2.1 h.2.2.2.2.2.2.2.2.2.2.2.1 h.2.2.2.2.2.2.2.2.2.2.2.2.1 h.2.2.2.2.2.2.2.2.2.2.2.2.2.1 h.2.2.2.2.2.2.2.2.2.2.2.2.2.2.1 h.2.2.2.2.2.2.2.2.2.2.2.2.2.2.2.1 h.2.2.2.2.2.2.2.2.2.2.2.2.2.2.2.2.1 h.2.2.2.2.2.2.2.2.2.2.2.2.2.2.2.2.2⟩]
 modes:=[(152,[false,false,false]),(153,[false,false,false]),(154,[false,false])]
 keep:=[(0,⟨[4,9,11,12,14,15],[256,704,768],[],[]⟩)]
 keepX:=[(0,.exit 0,⟨[4,9,14],[256],[],[]⟩)]
 ro:=[false,false]
theorem j0kL:Con.OK Tryz.prog j0c8:=
 cOf tabOk mixedOk j0lV j0c8 Tryz.func100 (And.intro j09Y (And.intro j0jc (And.intro j0n0 trivial))) (And.intro (fun h=>by kernel_rfl) trivial)
def j0e6:Con:=⟨55,[.v ty79,.v ty67,.v iT],[ty79,ty67,iT],⟨[.v iT],[]⟩,[iT],fun h=>Pw.r11_Raw h.1 h.2.1 h.2.2⟩
def j0n1:FnD where
 N:=27
 np:=3
 cs:=[j0c8]
 ds:=[]
 modes:=[(100,[false,false,false])]
 ro:=[false]
theorem j0lW:Con.OK Tryz.prog j0e6:=
 cOf tabOk mixedOk j0n1 j0e6 Tryz.func55 (And.intro j0kL trivial) trivial
def j0c9:Con:=⟨181,[.v ty72,.v iT,.v iT],[ty72,iT,iT],⟨[.v .bool],[]⟩,[.bool],fun h=>Pw.j0gG h.1 h.2.1 h.2.2⟩
def j0lX:FnD where
 N:=42
 np:=3
 cs:=[]
 ds:=[⟨0,[sI,sI,.s (.one (.bp 192 0)),sI,.b (.cell [.d .str,.d ty68,.d ty39] false)],[iT,iT,iT,.str,ty68,ty39],[⟨.ret,[.s (.one (.d .bool))],[.bool]⟩,⟨.exit 0,[],[]⟩],fun h=>Pw.j04y h.1 h.2.1 h.2.2.1 h.2.2.2.1 h.2.2.2.2.1 h.2.2.2.2.2⟩]
 keep:=[(0,⟨[1,2,3,7],[192],[],[]⟩)]
 keepX:=[(0,.ret,⟨[6],[],[],[]⟩),
  (0,.exit 0,⟨[],[],[],[]⟩)]
 ro:=[false]
theorem j0kM:Con.OK Tryz.prog j0c9:=
 cOf tabOk mixedOk j0lX j0c9 Tryz.func181 trivial (And.intro (fun h=>by kernel_rfl) trivial)
def j0e7:Con:=⟨149,[.v ty79,.v iT,.v iT],[ty79,iT,iT],⟨[.v iT,.v iT],[]⟩,[iT,iT],fun h=>Pw.r12_Top h.1 h.2.1 h.2.2⟩
def j0n2:FnD where
 N:=43
 np:=3
 cs:=[j0e6,j0c9]
 ds:=[⟨0,[sI,.s (.one (.bp 192 0)),.s (.one (.bp 512 0)),sI,.b (.cell [.d ty61,.d ty51,.d ty26,.d ty73] false),.b (.cell [.d .str,.d ty68,.d ty39] false)],[iT,iT,ty61,ty51,ty26,ty73,.str,ty68,ty39],[⟨.ret,[sI,sI],[iT,iT]⟩,⟨.exit 0,[],[]⟩],fun h=>Pw.j058 h.1 h.2.1 h.2.2.1 h.2.2.2.1 h.2.2.2.2.1 h.2.2.2.2.2.1 h.2.2.2.2.2.2.1 h.2.2.2.2.2.2.2.1 h.2.2.2.2.2.2.2.2⟩]
 modes:=[(55,[false,false,false]),(181,[false,false,false])]
 keep:=[(0,⟨[2,3,8,9],[192,512],[],[]⟩)]
 keepX:=[(0,.ret,⟨[6,7],[],[],[]⟩),
  (0,.exit 0,⟨[],[],[],[]⟩)]
 ro:=[false,false]
theorem j0lY:Con.OK Tryz.prog j0e7:=
 cOf tabOk mixedOk j0n2 j0e7 Tryz.func149 (And.intro j0lW (And.intro j0kM trivial)) (And.intro (fun h=>by kernel_rfl) trivial)
def j0ca:Con:=⟨150,[.v ty39,.v iT,.v iT],[ty39,iT,iT],⟨[.v iT],[]⟩,[iT],fun h=>Pw.j0iE h.1 h.2.1 h.2.2⟩
def j0lZ:FnD where
 N:=61
 np:=3
 cs:=[]
 ds:=[⟨0,[.s (.one (.d ty39)),sI,sI,sI],[ty39,iT,iT,iT],[⟨.exit 0,[sI],[iT]⟩],fun h=>Pw.j04z h.1 h.2.1 h.2.2.1 h.2.2.2⟩]
 keep:=[(0,⟨[0,1,2,7],[],[],[]⟩)]
 keepX:=[(0,.exit 0,⟨[1],[],[],[]⟩)]
 ro:=[false]
theorem j0kN:Con.OK Tryz.prog j0ca:=
 cOf tabOk mixedOk j0lZ j0ca Tryz.func150 trivial (And.intro (fun h=>by kernel_rfl) trivial)
def j0e8:Con:=⟨96,[.v ty79,.v iT,.v iT],[ty79,iT,iT],⟨[.v iT],[]⟩,[iT],fun h=>Pw.r13_Raw h.1 h.2.1 h.2.2⟩
def j0n3:FnD where
 N:=25
 np:=3
 cs:=[j0e7,j0ca]
 ds:=[]
 modes:=[(149,[false,false,false]),(150,[false,false,false])]
 ro:=[false]
theorem j0m0:Con.OK Tryz.prog j0e8:=
 cOf tabOk mixedOk j0n3 j0e8 Tryz.func96 (And.intro j0lY (And.intro j0kN trivial)) trivial
def j0e9:Con:=⟨49,[.v ty79,.v iT,.v iT],[ty79,iT,iT],⟨[.v iT],[]⟩,[iT],fun h=>Pw.r13_Who h.1 h.2.1 h.2.2⟩
def j0n4:FnD where
 N:=16
 np:=3
 cs:=[j0fn,j0e8]
 ds:=[]
 modes:=[(95,[false,false,false]),(96,[false,false,false])]
 ro:=[false]
theorem j0m1:Con.OK Tryz.prog j0e9:=
 cOf tabOk mixedOk j0n4 j0e9 Tryz.func49 (And.intro j0mZ (And.intro j0m0 trivial)) trivial
def j0ea:Con:=⟨17,[.v ty79,.v iT,.v iT],[ty79,iT,iT],⟨[.v iT],[]⟩,[iT],fun h=>Pw.r14_Who h.1 h.2.1 h.2.2⟩
def j0n5:FnD where
 N:=11
 np:=3
 cs:=[j0e9]
 ds:=[]
 modes:=[(49,[false,false,false])]
 ro:=[false]
theorem j0m2:Con.OK Tryz.prog j0ea:=
 cOf tabOk mixedOk j0n5 j0ea Tryz.func17 (And.intro j0m1 trivial) trivial
def j09q:Con:=⟨4,[.v (.list iT),.v iT],[(.list iT),iT],⟨[.v .bool],[]⟩,[.bool],fun h=>Pw.j09D h.1 h.2⟩
def j0fp:FnD where
 N:=115
 np:=2
 cs:=[j09E,j04C,j04E,j08C,j09U,j0aT,j05G,j0c1,j095,j0ea]
 ds:=[]
 modes:=[(10,[false]),(11,[]),(12,[false]),(13,[false,false]),(14,[false,false]),(15,[false,false]),(16,[false,false]),(17,[false,false,false]),(18,[false,false,false]),(19,[false,false,false])]
 ro:=[false]
theorem law16_CycleFar_ok:Con.OK Tryz.prog j09q:=
 cOf tabOk mixedOk j0fp j09q Tryz.func4 (And.intro j0hB (And.intro j08Y (And.intro j091 (And.intro j0fc (And.intro j0hW (And.intro j0iY (And.intro j0d9 (And.intro j0kr (And.intro j0gZ (And.intro j0m2 trivial)))))))))) trivial
end Go.Proofs.Pk
