/- Contracts: each given function is its plain function, printed by a program. -/
import Derived.Test.YthpdddnkpjnllaaGreatACon7
noncomputable section
open Go Go.Lft
set_option linter.unusedVariables false
set_option maxRecDepth 100000
namespace Go.Proofs.Pk
def j0aV:Con:=⟨182,[.v ty60,.v ty67,.v iT],[ty60,ty67,iT],⟨[.v iT],[]⟩,[iT],fun h=>Pw.j0cG h.1 h.2.1 h.2.2⟩
def j0kE:FnD where
 N:=81
 np:=3
 cs:=[j06I,j05Z,j058]
 ds:=[⟨0,[sI,.s (.one (.bp 192 0)),.s (.one (.bp 256 0)),sI,.b (.cell [.d .str,.d iT,.d ty53] false),.b (.cell [.d .str,.d iT,.d iT,.d iT,.d iT,.d iT,.d (.list iT),.d ty12,.d iT,.d iT] false)],[iT,iT,.str,iT,ty53,.str,iT,iT,iT,iT,iT,(.list iT),ty12,iT,iT],[⟨.exit 0,[sI],[iT]⟩],fun h=>Pw.j03R h.1 h.2.1 h.2.2.1 h.2.2.2.1 h.2.2.2.2.1 h.2.2.2.2.2.1 h.2.2.2.2.2.2.1 h.2.2.2.2.2.2.2.1 h.2.2.2.2.2.2.2.2.1 h.2.2.2.2.2.2.2.2.2.1 h.2.2.2.2.2.2.2.2.2.2.1 h.2.2.2.2.2.2.2.2.2.2.2.1 h.2.2.2.2.2.2.2.2.2.2.2.2.1 h.2.2.2.2.2.2.2.2.2.2.2.2.2.1 h.2.2.2.2.2.2.2.2.2.2.2.2.2.2⟩]
 modes:=[(48,[false,false]),(92,[false,false,false]),(154,[false,false])]
 keep:=[(0,⟨[2,3,4,7],[192,256],[],[]⟩)]
 keepX:=[(0,.exit 0,⟨[7],[],[],[]⟩)]
 ro:=[false]
theorem j0j6:Con.OK Tryz.prog j0aV:=
 cOf tabOk mixedOk j0kE j0aV Tryz.func182 (And.intro j0bZ (And.intro j0bC (And.intro j09N trivial))) (And.intro (fun h=>by kernel_rfl) trivial)
def j0aW:Con:=⟨152,[.v ty60,.v ty67,.v iT],[ty60,ty67,iT],⟨[.v iT,.v iT],[]⟩,[iT,iT],fun h=>Pw.j0cH h.1 h.2.1 h.2.2⟩
def j0kF:FnD where
 N:=22
 np:=3
 cs:=[j08w,j0aV]
 ds:=[]
 modes:=[(91,[false,false]),(182,[false,false,false])]
 ro:=[false,false]
theorem j0j7:Con.OK Tryz.prog j0aW:=
 cOf tabOk mixedOk j0kF j0aW Tryz.func152 (And.intro j0fj (And.intro j0j6 trivial)) trivial
def j09O:Con:=⟨228,[.v ty8],[ty8],⟨[.v iT],[]⟩,[iT],fun h=>Pw.j0cI h⟩
def j0j8:FnD where
 N:=10
 np:=1
 cs:=[j06s]
 ds:=[]
 modes:=[(226,[false])]
 ro:=[false]
theorem j0hY:Con.OK Tryz.prog j09O:=
 cOf tabOk mixedOk j0j8 j09O Tryz.func228 (And.intro j0d8 trivial) trivial
def j09P:Con:=⟨183,[.v ty60,.v iT],[ty60,iT],⟨[.v iT,.v iT],[]⟩,[iT,iT],fun h=>Pw.j09a h.1 h.2⟩
def j0j9:FnD where
 N:=19
 np:=2
 cs:=[j058,j09O]
 ds:=[]
 modes:=[(154,[false,false]),(228,[false])]
 ro:=[false,false]
theorem j0hZ:Con.OK Tryz.prog j09P:=
 cOf tabOk mixedOk j0j9 j09P Tryz.func183 (And.intro j09N (And.intro j0hY trivial)) trivial
def j09Q:Con:=⟨184,[.v ty12,.v iT],[ty12,iT],⟨[.v .bool],[]⟩,[.bool],fun h=>Pw.j0cJ h.1 h.2⟩
def j0ja:FnD where
 N:=28
 np:=2
 cs:=[]
 ds:=[⟨0,[.s (.one (.d ty12)),sI,sI],[ty12,iT,iT],[⟨.ret,[.s (.one (.d .bool))],[.bool]⟩,⟨.exit 0,[],[]⟩],fun h=>Pw.j03p h.1 h.2.1 h.2.2⟩]
 keep:=[(0,⟨[0,1,5],[],[],[]⟩)]
 keepX:=[(0,.ret,⟨[4],[],[],[]⟩),
  (0,.exit 0,⟨[],[],[],[]⟩)]
 ro:=[false]
theorem j0i0:Con.OK Tryz.prog j09Q:=
 cOf tabOk mixedOk j0ja j09Q Tryz.func184 trivial (And.intro (fun h=>by kernel_rfl) trivial)
def j0fl:Con:=⟨153,[.v ty60,.v ty12,.v iT],[ty60,ty12,iT],⟨[.v .bool],[]⟩,[.bool],fun h=>Pw.r05_In h.1 h.2.1 h.2.2⟩
def j0nJ:FnD where
 N:=27
 np:=3
 cs:=[j06H,j09P,j09Q]
 ds:=[]
 modes:=[(142,[false]),(183,[false,false]),(184,[false,false])]
 ro:=[false]
theorem j0mS:Con.OK Tryz.prog j0fl:=
 cOf tabOk mixedOk j0nJ j0fl Tryz.func153 (And.intro j0bW (And.intro j0hZ (And.intro j0i0 trivial))) trivial
def j0c1:Con:=⟨100,[.v ty79,.v ty67,.v iT],[ty79,ty67,iT],⟨[.v iT,.v .bool],[]⟩,[iT,.bool],fun h=>Pw.j0f2 h.1 h.2.1 h.2.2⟩
def j0lQ:FnD where
 N:=94
 np:=3
 cs:=[j058,j0aW,j0fl]
 ds:=[⟨0,[.s (.one (.bp 256 0)),sI,.s (.one (.bp 704 0)),.s (.one (.bp 768 0)),.s (.one (.d .bool)),sI,.b (.cell [.d .str,.d iT,.d iT,.d iT,.d iT,.d iT,.d (.list iT),.d ty12,.d iT,.d iT] false),.b (.cell [.d .str,.d iT,.d (.list iT)] false),.b (.cell [.d iT,.d iT] false)],[iT,.bool,iT,.str,iT,iT,iT,iT,iT,(.list iT),ty12,iT,iT,.str,iT,(.list iT),iT,iT],[⟨.exit 0,[.s (.one (.bp 256 0)),sI,.s (.one (.d .bool)),.b (.cell [.d .str,.d iT,.d iT,.d iT,.d iT,.d iT,.d (.list iT),.d ty12,.d iT,.d iT] false)],[iT,.bool,.str,iT,iT,iT,iT,iT,(.list iT),ty12,iT,iT]⟩],fun h=>Pw.j04p h.1 h.2.1 h.2.2.1 h.2.2.2.1 h.2.2.2.2.1 h.2.2.2.2.2.1 h.2.2.2.2.2.2.1 h.2.2.2.2.2.2.2.1 h.2.2.2.2.2.2.2.2.1 h.2.2.2.2.2.2.2.2.2.1 h.2.2.2.2.2.2.2.2.2.2.1 h.2.2.2.2.2.2.2.2.2.2.2.1 h.2.2.2.2.2.2.2.2.2.2.2.2.1 h.2.2.2.2.2.2.2.2.2.2.2.2.2.1 h.2.2.2.2.2.2.2.2.2.2.2.2.2.2.1 h.2.2.2.2.2.2.2.2.2.2.2.2.2.2.2.1 h.2.2.2.2.2.2.2.2.2.2.2.2.2.2.2.2.1 h.2.2.2.2.2.2.2.2.2.2.2.2.2.2.2.2.2⟩]
 modes:=[(152,[false,false,false]),(153,[false,false,false]),(154,[false,false])]
 keep:=[(0,⟨[4,9,11,12,14,15],[256,704,768],[],[]⟩)]
 keepX:=[(0,.exit 0,⟨[4,9,14],[256],[],[]⟩)]
 ro:=[false,false]
theorem j0kG:Con.OK Tryz.prog j0c1:=
 cOf tabOk mixedOk j0lQ j0c1 Tryz.func100 (And.intro j09N (And.intro j0j7 (And.intro j0mS trivial))) (And.intro (fun h=>by kernel_rfl) trivial)
def j0e1:Con:=⟨55,[.v ty79,.v ty67,.v iT],[ty79,ty67,iT],⟨[.v iT],[]⟩,[iT],fun h=>Pw.r11_Raw h.1 h.2.1 h.2.2⟩
def j0mT:FnD where
 N:=27
 np:=3
 cs:=[j0c1]
 ds:=[]
 modes:=[(100,[false,false,false])]
 ro:=[false]
theorem j0lR:Con.OK Tryz.prog j0e1:=
 cOf tabOk mixedOk j0mT j0e1 Tryz.func55 (And.intro j0kG trivial) trivial
def j0c2:Con:=⟨181,[.v ty72,.v iT,.v iT],[ty72,iT,iT],⟨[.v .bool],[]⟩,[.bool],fun h=>Pw.j0gB h.1 h.2.1 h.2.2⟩
def j0lS:FnD where
 N:=42
 np:=3
 cs:=[]
 ds:=[⟨0,[sI,sI,.s (.one (.bp 192 0)),sI,.b (.cell [.d .str,.d ty68,.d ty39] false)],[iT,iT,iT,.str,ty68,ty39],[⟨.ret,[.s (.one (.d .bool))],[.bool]⟩,⟨.exit 0,[],[]⟩],fun h=>Pw.j04q h.1 h.2.1 h.2.2.1 h.2.2.2.1 h.2.2.2.2.1 h.2.2.2.2.2⟩]
 keep:=[(0,⟨[1,2,3,7],[192],[],[]⟩)]
 keepX:=[(0,.ret,⟨[6],[],[],[]⟩),
  (0,.exit 0,⟨[],[],[],[]⟩)]
 ro:=[false]
theorem j0kH:Con.OK Tryz.prog j0c2:=
 cOf tabOk mixedOk j0lS j0c2 Tryz.func181 trivial (And.intro (fun h=>by kernel_rfl) trivial)
def j0e2:Con:=⟨149,[.v ty79,.v iT,.v iT],[ty79,iT,iT],⟨[.v iT,.v iT],[]⟩,[iT,iT],fun h=>Pw.r12_Top h.1 h.2.1 h.2.2⟩
def j0mU:FnD where
 N:=43
 np:=3
 cs:=[j0e1,j0c2]
 ds:=[⟨0,[sI,.s (.one (.bp 192 0)),.s (.one (.bp 512 0)),sI,.b (.cell [.d ty61,.d ty51,.d ty26,.d ty73] false),.b (.cell [.d .str,.d ty68,.d ty39] false)],[iT,iT,ty61,ty51,ty26,ty73,.str,ty68,ty39],[⟨.ret,[sI,sI],[iT,iT]⟩,⟨.exit 0,[],[]⟩],fun h=>Pw.j051 h.1 h.2.1 h.2.2.1 h.2.2.2.1 h.2.2.2.2.1 h.2.2.2.2.2.1 h.2.2.2.2.2.2.1 h.2.2.2.2.2.2.2.1 h.2.2.2.2.2.2.2.2⟩]
 modes:=[(55,[false,false,false]),(181,[false,false,false])]
 keep:=[(0,⟨[2,3,8,9],[192,512],[],[]⟩)]
 keepX:=[(0,.ret,⟨[6,7],[],[],[]⟩),
  (0,.exit 0,⟨[],[],[],[]⟩)]
 ro:=[false,false]
theorem j0lT:Con.OK Tryz.prog j0e2:=
 cOf tabOk mixedOk j0mU j0e2 Tryz.func149 (And.intro j0lR (And.intro j0kH trivial)) (And.intro (fun h=>by kernel_rfl) trivial)
def j0c3:Con:=⟨150,[.v ty39,.v iT,.v iT],[ty39,iT,iT],⟨[.v iT],[]⟩,[iT],fun h=>Pw.j0iy h.1 h.2.1 h.2.2⟩
def j0lU:FnD where
 N:=61
 np:=3
 cs:=[]
 ds:=[⟨0,[.s (.one (.d ty39)),sI,sI,sI],[ty39,iT,iT,iT],[⟨.exit 0,[sI],[iT]⟩],fun h=>Pw.j04r h.1 h.2.1 h.2.2.1 h.2.2.2⟩]
 keep:=[(0,⟨[0,1,2,7],[],[],[]⟩)]
 keepX:=[(0,.exit 0,⟨[1],[],[],[]⟩)]
 ro:=[false]
theorem j0kI:Con.OK Tryz.prog j0c3:=
 cOf tabOk mixedOk j0lU j0c3 Tryz.func150 trivial (And.intro (fun h=>by kernel_rfl) trivial)
def j0e3:Con:=⟨96,[.v ty79,.v iT,.v iT],[ty79,iT,iT],⟨[.v iT],[]⟩,[iT],fun h=>Pw.r13_Raw h.1 h.2.1 h.2.2⟩
def j0mV:FnD where
 N:=25
 np:=3
 cs:=[j0e2,j0c3]
 ds:=[]
 modes:=[(149,[false,false,false]),(150,[false,false,false])]
 ro:=[false]
theorem j0lV:Con.OK Tryz.prog j0e3:=
 cOf tabOk mixedOk j0mV j0e3 Tryz.func96 (And.intro j0lT (And.intro j0kI trivial)) trivial
def j0e4:Con:=⟨49,[.v ty79,.v iT,.v iT],[ty79,iT,iT],⟨[.v iT],[]⟩,[iT],fun h=>Pw.r13_Who h.1 h.2.1 h.2.2⟩
def j0mW:FnD where
 N:=16
 np:=3
 cs:=[j0fk,j0e3]
 ds:=[]
 modes:=[(95,[false,false,false]),(96,[false,false,false])]
 ro:=[false]
theorem j0lW:Con.OK Tryz.prog j0e4:=
 cOf tabOk mixedOk j0mW j0e4 Tryz.func49 (And.intro j0mR (And.intro j0lV trivial)) trivial
def j0e5:Con:=⟨17,[.v ty79,.v iT,.v iT],[ty79,iT,iT],⟨[.v iT],[]⟩,[iT],fun h=>Pw.r14_Who h.1 h.2.1 h.2.2⟩
def j0mX:FnD where
 N:=11
 np:=3
 cs:=[j0e4]
 ds:=[]
 modes:=[(49,[false,false,false])]
 ro:=[false]
theorem j0lX:Con.OK Tryz.prog j0e5:=
 cOf tabOk mixedOk j0mX j0e5 Tryz.func17 (And.intro j0lW trivial) trivial
def j06J:Con:=⟨3,[.v (.list iT),.v iT,.v iT],[(.list iT),iT,iT],⟨[.v .bool],[]⟩,[.bool],fun h=>Pw.j06e h.1 h.2.1 h.2.2⟩
def j0c4:FnD where
 N:=72
 np:=3
 cs:=[j09t,j04u,j09J,j0aL,j05y,j08U,j0c0,j0e5]
 ds:=[]
 modes:=[(10,[false]),(11,[]),(12,[false]),(13,[false,false]),(14,[false,false]),(15,[false,false]),(16,[false,false]),(17,[false,false,false])]
 ro:=[false]
theorem law16_CycleRepeats_ok:Con.OK Tryz.prog j06J:=
 cOf tabOk mixedOk j0c4 j06J Tryz.func3 (And.intro j0hv (And.intro j08O (And.intro j0hQ (And.intro j0iT (And.intro j0d6 (And.intro j0gU (And.intro j0kC (And.intro j0lX trivial)))))))) trivial
end Go.Proofs.Pk
