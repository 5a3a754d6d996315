/- Contracts: each given function is its plain function, printed by a program. -/
import Derived.Test.YthpdddnkpjnllaaGreatACon4
noncomputable section
open Go Go.Lft
set_option linter.unusedVariables false
set_option maxRecDepth 100000
namespace Go.Proofs.Pk
def j092:Con:=⟨218,[.v ty37,.v iT],[ty37,iT],⟨[.v .bool],[]⟩,[.bool],fun h=>Pw.j0dE h.1 h.2⟩
def j0hT:FnD where
 N:=15
 np:=2
 cs:=[]
 ds:=[]
 ro:=[false]
theorem j0gU:Con.OK Tryz.prog j092:=
 cOf tabOk mixedOk j0hT j092 Tryz.func218 trivial trivial
def j0aS:Con:=⟨169,[.v ty39,.v iT,.v iT],[ty39,iT,iT],⟨[.v iT],[]⟩,[iT],fun h=>Pw.j0bo h.1 h.2.1 h.2.2⟩
def j0kn:FnD where
 N:=51
 np:=3
 cs:=[j092]
 ds:=[⟨0,[sI,sI,.s (.one (.d ty39)),sI,sI],[iT,iT,ty39,iT,iT],[⟨.exit 0,[sI],[iT]⟩],fun h=>Pw.j03Y h.1 h.2.1 h.2.2.1 h.2.2.2.1 h.2.2.2.2⟩]
 modes:=[(218,[false,false])]
 keep:=[(0,⟨[1,2,9,10,11],[],[],[]⟩)]
 keepX:=[(0,.exit 0,⟨[1],[],[],[]⟩)]
 ro:=[false]
theorem j0iU:Con.OK Tryz.prog j0aS:=
 cOf tabOk mixedOk j0kn j0aS Tryz.func169 (And.intro j0gU trivial) (And.intro (fun h=>by kernel_rfl) trivial)
def j09S:Con:=⟨151,[.v ty81,.v ty72,.v iT],[ty81,ty72,iT],⟨[.v iT],[]⟩,[iT],fun h=>Pw.j09e h.1 h.2.1 h.2.2⟩
def j0iV:FnD where
 N:=27
 np:=3
 cs:=[j072,j0aS]
 ds:=[]
 modes:=[(59,[false,false,false]),(169,[false,false,false])]
 ro:=[false]
theorem j0hU:Con.OK Tryz.prog j09S:=
 cOf tabOk mixedOk j0iV j09S Tryz.func151 (And.intro j0fb (And.intro j0iU trivial)) trivial
def j0bZ:Con:=⟨97,[.v ty79,.v iT,.v iT],[ty79,iT,iT],⟨[.v iT],[]⟩,[iT],fun h=>Pw.j0dF h.1 h.2.1 h.2.2⟩
def j0lM:FnD where
 N:=30
 np:=3
 cs:=[j05c,j0br,j09S]
 ds:=[]
 modes:=[(41,[false,false]),(63,[false]),(151,[false,false,false])]
 ro:=[false]
theorem j0ko:Con.OK Tryz.prog j0bZ:=
 cOf tabOk mixedOk j0lM j0bZ Tryz.func97 (And.intro j09P (And.intro j0hP (And.intro j0hU trivial))) trivial
def j09T:Con:=⟨50,[.v ty79,.v iT,.v iT],[ty79,iT,iT],⟨[.v iT],[]⟩,[iT],fun h=>Pw.j06G h.1 h.2.1 h.2.2⟩
def j0iW:FnD where
 N:=11
 np:=3
 cs:=[j0bZ]
 ds:=[]
 modes:=[(97,[false,false,false])]
 ro:=[false]
theorem j0hV:Con.OK Tryz.prog j09T:=
 cOf tabOk mixedOk j0iW j09T Tryz.func50 (And.intro j0ko trivial) trivial
def j08C:Con:=⟨19,[.v ty79,.v iT,.v iT],[ty79,iT,iT],⟨[.v iT,.v iT],[]⟩,[iT,iT],fun h=>Pw.j08q h.1 h.2.1 h.2.2⟩
def j0kp:FnD where
 N:=23
 np:=3
 cs:=[j04E,j09T]
 ds:=[]
 modes:=[(18,[false,false,false]),(50,[false,false,false])]
 ro:=[false,false]
theorem j0fc:Con.OK Tryz.prog j08C:=
 cOf tabOk mixedOk j0kp j08C Tryz.func19 (And.intro j091 (And.intro j0hV trivial)) trivial
def j09U:Con:=⟨11,[],[],⟨[.v .bool],[]⟩,[.bool],fun h=>Pw.j06H⟩
def j0iX:FnD where
 N:=85
 np:=0
 cs:=[j06u,j04C,j04E,j08C]
 ds:=[]
 modes:=[(14,[false,false]),(18,[false,false,false]),(19,[false,false,false]),(35,[false])]
 ro:=[false]
theorem j0hW:Con.OK Tryz.prog j09U:=
 cOf tabOk mixedOk j0iX j09U Tryz.func11 (And.intro j0cQ (And.intro j08Y (And.intro j091 (And.intro j0fc trivial)))) trivial
def j0aT:Con:=⟨12,[.v (.list iT)],[(.list iT)],⟨[.box [(.list iT),iT]],[]⟩,[(.list iT),iT],fun h=>Pw.j0gB h⟩
def j0kq:FnD where
 N:=6
 np:=1
 cs:=[]
 ds:=[]
 ro:=[false]
theorem j0iY:Con.OK Tryz.prog j0aT:=
 cOf tabOk mixedOk j0kq j0aT Tryz.func12 trivial trivial
def j00W:Con:=⟨21,[.ref [(.list iT),iT],.v iT],[(.list iT),iT,iT],⟨[.v iT],[.ref [(.list iT),iT]]⟩,[iT,(.list iT),iT],fun h=>Pw.j002 h.1 h.2.1 h.2.2⟩
def j0fd:FnD where
 N:=45
 np:=2
 cs:=[]
 ds:=[]
 ro:=[false]
theorem j01y:Con.OK Tryz.prog j00W:=
 cOf tabOk mixedOk j0fd j00W Tryz.func21 trivial trivial
def j01E:Con:=⟨53,[.ref [(.list iT),iT],.v (.list iT)],[(.list iT),iT,(.list iT)],⟨[.v iT],[.ref [(.list iT),iT]]⟩,[iT,(.list iT),iT],fun h=>Pw.j012 h.1 h.2.1 h.2.2⟩
def j0fe:FnD where
 N:=12
 np:=2
 cs:=[j00W]
 ds:=[]
 modes:=[(21,[false,false])]
 ro:=[false]
theorem j02T:Con.OK Tryz.prog j01E:=
 cOf tabOk mixedOk j0fe j01E Tryz.func53 (And.intro j01y trivial) trivial
def j06k:Con:=⟨70,[.ref [(.list iT),iT],.v .str],[(.list iT),iT,.str],⟨[.v ty60],[.ref [(.list iT),iT]]⟩,[ty60,(.list iT),iT],fun h=>Pw.j02W h.1 h.2.1 h.2.2⟩
def j0ff:FnD where
 N:=98
 np:=2
 cs:=[j00W,j01E]
 ds:=[]
 modes:=[(21,[false,false]),(53,[false,false])]
 ro:=[false]
 dw:=[(7,[[],[],[0],[],[],[0],[],[0],[],[],[],[],[0],[],[],[],[],[],[],[0],[],[],[3968],[0,3968],[],[0],[],[0],[],[],[],[],[4608],[],[320]]),(9,[[],[],[],[5056],[0,5056],[],[]])]
theorem j0er:Con.OK Tryz.prog j06k:=
 cOf tabOk mixedOk j0ff j06k Tryz.func70 (And.intro j01y (And.intro j02T trivial)) trivial
def j07r:Con:=⟨38,[],[],⟨[.own 9 (.list .str)],[]⟩,[(.list .str)],fun h=>Pw.j0cx⟩
def j0iZ:FnD where
 N:=2
 np:=0
 cs:=[]
 ds:=[]
 ro:=[true]
theorem j0em:Con.OK Tryz.prog j07r:=
 cOf tabOk mixedOk j0iZ j07r Tryz.func38 trivial trivial
def j02A:Con:=⟨52,[.ref [(.list iT),iT],.v iT],[(.list iT),iT,iT],⟨[.v .bool],[.ref [(.list iT),iT]]⟩,[.bool,(.list iT),iT],fun h=>Pw.j00S h.1 h.2.1 h.2.2⟩
def j0fg:FnD where
 N:=11
 np:=2
 cs:=[j00W]
 ds:=[]
 modes:=[(21,[false,false])]
 ro:=[false]
theorem j05o:Con.OK Tryz.prog j02A:=
 cOf tabOk mixedOk j0fg j02A Tryz.func52 (And.intro j01y trivial) trivial
def j03i:Con:=⟨71,[.ref [(.list iT),iT]],[(.list iT),iT],⟨[.own 148 ty12],[.ref [(.list iT),iT]]⟩,[ty12,(.list iT),iT],fun h=>Pw.j02Q h.1 h.2⟩
def j0d7:FnD where
 N:=38
 np:=1
 cs:=[j00W,j01E]
 ds:=[⟨0,[.s (.one (.bp 0 0)),.s (.one (.ol 1000000)),sI,sI,.b (.cell [.d (.list iT),.d iT] false),.b (.lst 148 ty8 false)],[iT,iT,(.list iT),iT,ty12],[⟨.exit 0,[.s (.one (.ol 1500100)),.b (.cell [.d (.list iT),.d iT] false),.b (.lst 148 ty8 false)],[(.list iT),iT,ty12]⟩],fun h=>Pw.j01D h.1 h.2.1 h.2.2.1 h.2.2.2.1 h.2.2.2.2⟩]
 modes:=[(21,[false,false]),(53,[false,false])]
 keep:=[(0,⟨[0,3,4,5],[0],[⟨1000000,148,ty8,[.slot 3],false⟩],[]⟩)]
 keepX:=[(0,.exit 0,⟨[3],[0],[⟨1500100,148,ty8,[.slot 3],false⟩],[]⟩)]
 ro:=[true]
theorem j07X:Con.OK Tryz.prog j03i:=
 cOf tabOk mixedOk j0d7 j03i Tryz.func71 (And.intro j01y (And.intro j02T trivial)) (And.intro (fun h=>by kernel_rfl) trivial)
def j05Z:Con:=⟨36,[.ref [(.list iT),iT]],[(.list iT),iT],⟨[.vn ty79 [3]],[.ref [(.list iT),iT]]⟩,[ty79,(.list iT),iT],fun h=>Pw.j06r h.1 h.2⟩
def j0es:FnD where
 N:=109
 np:=1
 cs:=[j00W,j01E,j06k,j07r,j02A,j03i]
 ds:=[⟨0,[.s (.one (.bp 0 0)),.s (.one (.bp 128 0)),.s (.one (.bp 192 0)),sI,.b (.cell [.d (.list iT),.d iT] false),.b (.cell [.nil,.nil,.nil,.nil] false),.b (.cell [.ol 1000000,.nil,.nil,.nil] false),.b (.lst 77 ty60 false)],[iT,(.list iT),iT,ty61],[⟨.exit 0,[.s (.one (.bp 0 0)),.s (.one (.bp 128 0)),.s (.one (.bp 192 0)),.b (.cell [.d (.list iT),.d iT] false),.b (.cell [.nil,.nil,.nil,.nil] false),.b (.cell [.ol 1500100,.nil,.nil,.nil] false),.b (.lst 77 ty60 false)],[(.list iT),iT,ty61]⟩],fun h=>Pw.j01Z h.1 h.2.1 h.2.2.1 h.2.2.2⟩,
  ⟨2,[.s (.one (.bp 0 0)),.s (.one (.bp 128 0)),.s (.one (.bp 192 0)),sI,.b (.cell [.d (.list iT),.d iT] false),.b (.cell [.nil,.nil,.nil,.nil] false),.b (.cell [.ol 1002000,.ol 1002001,.nil,.nil] false),.b (.lst 77 ty60 false),.b (.lst 79 ty48 false)],[iT,(.list iT),iT,ty61,ty51],[⟨.exit 2,[.s (.one (.bp 0 0)),.s (.one (.bp 128 0)),.s (.one (.bp 192 0)),.b (.cell [.d (.list iT),.d iT] false),.b (.cell [.nil,.nil,.nil,.nil] false),.b (.cell [.ol 1502300,.ol 1502301,.nil,.nil] false),.b (.lst 77 ty60 false),.b (.lst 79 ty48 false)],[(.list iT),iT,ty61,ty51]⟩],fun h=>Pw.j020 h.1 h.2.1 h.2.2.1 h.2.2.2.1 h.2.2.2.2⟩,
  ⟨4,[.s (.one (.bp 0 0)),.s (.one (.bp 128 0)),.s (.one (.bp 192 0)),sI,.b (.cell [.d (.list iT),.d iT] false),.b (.cell [.nil,.nil,.nil,.nil] false),.b (.cell [.ol 1004000,.ol 1004001,.ol 1004002,.nil] false),.b (.lst 77 ty60 false),.b (.lst 79 ty48 false),.b (.lst 94 ty22 false)],[iT,(.list iT),iT,ty61,ty51,ty26],[⟨.exit 4,[.s (.one (.bp 128 0)),.s (.one (.bp 192 0)),.b (.cell [.d (.list iT),.d iT] false),.b (.cell [.nil,.nil,.nil,.nil] false),.b (.cell [.ol 1504500,.ol 1504501,.ol 1504502,.nil] false),.b (.lst 77 ty60 false),.b (.lst 79 ty48 false),.b (.lst 94 ty22 false)],[(.list iT),iT,ty61,ty51,ty26]⟩],fun h=>Pw.j01u h.1 h.2.1 h.2.2.1 h.2.2.2.1 h.2.2.2.2.1 h.2.2.2.2.2⟩,
  ⟨6,[.s (.one (.bp 0 0)),.s (.one (.bp 128 0)),.s (.one (.bp 192 0)),sI,.s (.one (.bp 512 0)),sI,sI,.b (.cell [.d (.list iT),.d iT] false),.b (.cell [.nil,.nil,.nil,.nil] false),.b (.cell [.ol 1006000,.ol 1006001,.ol 1006002,.nil] false),.b (.cell [.d .str,.d iT,.ol 1006003] false),.b (.lst 77 ty60 false),.b (.lst 79 ty48 false),.b (.lst 94 ty22 false),.b (.lst 3 iT false)],[iT,iT,iT,(.list iT),iT,.str,iT,ty61,ty51,ty26,(.list iT)],[⟨.exit 6,[.s (.one (.bp 0 0)),.s (.one (.bp 128 0)),.s (.one (.bp 192 0)),sI,.s (.one (.bp 512 0)),.b (.cell [.d (.list iT),.d iT] false),.b (.cell [.nil,.nil,.nil,.nil] false),.b (.cell [.ol 1506700,.ol 1506701,.ol 1506702,.nil] false),.b (.cell [.d .str,.d iT,.ol 1506703] false),.b (.lst 77 ty60 false),.b (.lst 79 ty48 false),.b (.lst 94 ty22 false),.b (.lst 3 iT false)],[iT,(.list iT),iT,.str,iT,ty61,ty51,ty26,(.list iT)]⟩],fun h=>Pw.j021 h.1 h.2.1 h.2.2.1 h.2.2.2.1 h.2.2.2.2.1 h.2.2.2.2.2.1 h.2.2.2.2.2.2.1 h.2.2.2.2.2.2.2.1 h.2.2.2.2.2.2.2.2.1 h.2.2.2.2.2.2.2.2.2.1 h.2.2.2.2.2.2.2.2.2.2⟩]
 modes:=[(21,[false,false]),(38,[]),(52,[false,false]),(53,[false,false]),(70,[false,false]),(71,[false])]
 keep:=[(0,⟨[0,2,3,4],[0,128,192],[⟨1000000,77,ty60,[.cell 192 0],false⟩],[]⟩),
  (2,⟨[0,2,3,5],[0,128,192],[⟨1002000,77,ty60,[.cell 192 0],false⟩,⟨1002001,79,ty48,[.cell 192 1],false⟩],[]⟩),
  (4,⟨[0,2,3,7],[0,128,192],[⟨1004000,77,ty60,[.cell 192 0],false⟩,⟨1004001,79,ty48,[.cell 192 1],false⟩,⟨1004002,94,ty22,[.cell 192 2],false⟩],[]⟩),
  (6,⟨[0,2,3,7,8,9,10],[0,128,192,512],[⟨1006000,77,ty60,[.cell 192 0],false⟩,⟨1006001,79,ty48,[.cell 192 1],false⟩,⟨1006002,94,ty22,[.cell 192 2],false⟩,⟨1006003,3,iT,[.cell 512 2],false⟩],[]⟩)]
 keepX:=[(0,.exit 0,⟨[0,2,3],[0,128,192],[⟨1500100,77,ty60,[.cell 192 0],false⟩],[]⟩),
  (2,.exit 2,⟨[0,2,3],[0,128,192],[⟨1502300,77,ty60,[.cell 192 0],false⟩,⟨1502301,79,ty48,[.cell 192 1],false⟩],[]⟩),
  (4,.exit 4,⟨[2,3],[0,128,192],[⟨1504500,77,ty60,[.cell 192 0],false⟩,⟨1504501,79,ty48,[.cell 192 1],false⟩,⟨1504502,94,ty22,[.cell 192 2],false⟩],[]⟩),
  (6,.exit 6,⟨[0,2,3,7,8],[0,128,192,512],[⟨1506700,77,ty60,[.cell 192 0],false⟩,⟨1506701,79,ty48,[.cell 192 1],false⟩,⟨1506702,94,ty22,[.cell 192 2],false⟩,⟨1506703,3,iT,[.cell 512 2],false⟩],[]⟩)]
 ro:=[false]
 dw:=[(5,[[],[],[],[1344],[],[],[],[],[],[0],[1792],[1856,1000000],[],[192]]),(9,[[2432],[],[],[],[],[],[],[],[],[],[0],[],[0],[],[384],[384]])]
 ns:=[3]
theorem j0dZ:Con.OK Tryz.prog j05Z:=
 cOf tabOk mixedOk j0es j05Z Tryz.func36 (And.intro j01y (And.intro j02T (And.intro j0er (And.intro j0em (And.intro j05o (And.intro j07X trivial)))))) (And.intro (fun h=>by kernel_rfl) (And.intro (fun h=>by kernel_rfl) (And.intro (fun h=>by kernel_rfl) (And.intro (fun h=>by kernel_rfl) trivial))))
def j060:Con:=⟨37,[.ref [(.list iT),iT],.v ty79,.v .str],[(.list iT),iT,ty79,.str],⟨[.v ty67],[.ref [(.list iT),iT]]⟩,[ty67,(.list iT),iT],fun h=>Pw.j06s h.1 h.2.1 h.2.2.1 h.2.2.2⟩
def j0et:FnD where
 N:=77
 np:=3
 cs:=[j00W,j01E,j02A,j03i]
 ds:=[⟨0,[.s (.one (.bp 0 0)),.s (.one (.bp 256 0)),.s (.one (.bp 384 0)),.s (.one (.bp 448 0)),sI,.b (.cell [.d (.list iT),.d iT] false),.b (.cell [.d ty61,.d ty51,.d ty26,.d ty73] false),.b (.cell [.d .str,.d iT,.d iT,.d iT,.d iT,.d iT,.nil,.nil,.d iT,.d iT] false),.b (.cell [.d .str,.d iT,.d iT,.d iT,.d iT,.d iT,.ol 1000000,.nil,.d iT,.d iT] false),.b (.lst 3 iT false)],[iT,(.list iT),iT,ty61,ty51,ty26,ty73,.str,iT,iT,iT,iT,iT,iT,iT,.str,iT,iT,iT,iT,iT,iT,iT,(.list iT)],[⟨.exit 0,[.s (.one (.bp 0 0)),.s (.one (.bp 256 0)),.s (.one (.bp 384 0)),.s (.one (.bp 448 0)),.b (.cell [.d (.list iT),.d iT] false),.b (.cell [.d ty61,.d ty51,.d ty26,.d ty73] false),.b (.cell [.d .str,.d iT,.d iT,.d iT,.d iT,.d iT,.nil,.nil,.d iT,.d iT] false),.b (.cell [.d .str,.d iT,.d iT,.d iT,.d iT,.d iT,.ol 1500100,.nil,.d iT,.d iT] false),.b (.lst 3 iT false)],[(.list iT),iT,ty61,ty51,ty26,ty73,.str,iT,iT,iT,iT,iT,iT,iT,.str,iT,iT,iT,iT,iT,iT,iT,(.list iT)]⟩],fun h=>Pw.j022 h.1 h.2.1 h.2.2.1 h.2.2.2.1 h.2.2.2.2.1 h.2.2.2.2.2.1 h.2.2.2.2.2.2.1 h.2.2.2.2.2.2.2.1 h.2.2.2.2.2.2.2.2.1 h.2.2.2.2.2.2.2.2.2.1 h.2.2.2.2.2.2.2.2.2.2.1 h.2.2.2.2.2.2.2.2.2.2.2.1 h.2.2.2.2.2.2.2.2.2.2.2.2.1 h.2.2.2.2.2.2.2.2.2.2.2.2.2.1 h.2.2.2.2.2.2.2.2.2.2.2.2.2.2.1 h.2.2.2.2.2.2.2.2.2.2.2.2.2.2.2.1 h.2.2.2.2.2.2.2.2.2.2.2.2.2.2.2.2.1 h.2.2.2.2.2.2.2.2.2.2.2.2.2.2.2.2.2.1 h.2.2.2.2.2.2.2.2.2.2.2.2.2.2.2.2.2.2.1 h.2.2.2.2.2.2.2.2.2.2.2.2.2.2.2.2.2.2.2.1 h.2.2.2.2.2.2.2.2.2.2.2.2.2.2.2.2.2.2.2.2.1 h.2.2.2.2.2.2.2.2.2.2.2.2.2.2.2.2.2.2.2.2.2.1 h.2.2.2.2.2.2.2.2.2.2.2.2.2.2.2.2.2.2.2.2.2.2.1 h.2.2.2.2.2.2.2.2.2.2.2.2.2.2.2.2.2.2.2.2.2.2.2⟩]
 modes:=[(21,[false,false]),(52,[false,false]),(53,[false,false]),(71,[false])]
 keep:=[(0,⟨[0,4,6,7,8],[0,256,384,448],[⟨1000000,3,iT,[.cell 448 6],false⟩],[]⟩)]
 keepX:=[(0,.exit 0,⟨[0,4,6,7],[0,256,384,448],[⟨1500100,3,iT,[.cell 448 6],false⟩],[]⟩)]
 ro:=[false]
 dw:=[(7,[[],[],[],[],[],[],[0],[3200],[3264,1000000],[],[448]])]
theorem j0e0:Con.OK Tryz.prog j060:=
 cOf tabOk mixedOk j0et j060 Tryz.func37 (And.intro j01y (And.intro j02T (And.intro j05o (And.intro j07X trivial)))) (And.intro (fun h=>by kernel_rfl) trivial)
def j053:Con:=⟨22,[.ref [(.list iT),iT]],[(.list iT),iT],⟨[.v iT],[.ref [(.list iT),iT]]⟩,[iT,(.list iT),iT],fun h=>Pw.j05l h.1 h.2⟩
def j0d8:FnD where
 N:=16
 np:=1
 cs:=[j00W,j01E,j02A]
 ds:=[]
 modes:=[(21,[false,false]),(52,[false,false]),(53,[false,false])]
 ro:=[false]
theorem j0c0:Con.OK Tryz.prog j053:=
 cOf tabOk mixedOk j0d8 j053 Tryz.func22 (And.intro j01y (And.intro j02T (And.intro j05o trivial))) trivial
def j06l:Con:=⟨39,[.ref [(.list iT),iT],.v ty79],[(.list iT),iT,ty79],⟨[.v ty37],[.ref [(.list iT),iT]]⟩,[ty37,(.list iT),iT],fun h=>Pw.j07j h.1 h.2.1 h.2.2⟩
def j0fh:FnD where
 N:=52
 np:=2
 cs:=[j00W,j01E,j02A,j053]
 ds:=[]
 modes:=[(21,[false,false]),(22,[false]),(52,[false,false]),(53,[false,false])]
 ro:=[false]
 dw:=[(3,[[],[],[],[1344],[0,1344],[],[],[384]]),(8,[[],[],[],[],[],[],[0],[],[],[],[],[384]])]
theorem j0eu:Con.OK Tryz.prog j06l:=
 cOf tabOk mixedOk j0fh j06l Tryz.func39 (And.intro j01y (And.intro j02T (And.intro j05o (And.intro j0c0 trivial)))) trivial
def j05G:Con:=⟨13,[.ref [(.list iT),iT],.v iT],[(.list iT),iT,iT],⟨[.v ty79],[.ref [(.list iT),iT]]⟩,[ty79,(.list iT),iT],fun h=>Pw.j05R h.1 h.2.1 h.2.2⟩
def j0e1:FnD where
 N:=69
 np:=2
 cs:=[j00W,j07r,j05Z,j060,j06l]
 ds:=[⟨0,[.s (.one (.bp 0 0)),.s (.one (.bp 256 0)),.s (.one (.bp 320 0)),sI,.b (.cell [.d (.list iT),.d iT] false),.b (.cell [.nil,.nil,.nil,.nil] false),.b (.cell [.d ty61,.d ty51,.d ty26,.ol 1000000] false),.b (.lst 48 ty72 true)],[iT,(.list iT),iT,ty61,ty51,ty26,ty73],[⟨.exit 0,[.s (.one (.bp 256 0)),.s (.one (.bp 320 0)),.b (.cell [.d (.list iT),.d iT] false),.b (.cell [.nil,.nil,.nil,.nil] false),.b (.cell [.d ty61,.d ty51,.d ty26,.ol 1500100] false),.b (.lst 48 ty72 true)],[(.list iT),iT,ty61,ty51,ty26,ty73]⟩],fun h=>Pw.j01T h.1 h.2.1 h.2.2.1 h.2.2.2.1 h.2.2.2.2.1 h.2.2.2.2.2.1 h.2.2.2.2.2.2⟩,
  ⟨2,[.s (.one (.bp 0 0)),.s (.one (.bp 256 0)),.s (.one (.bp 320 0)),sI,.s (.one (.bp 448 0)),sI,.b (.cell [.d (.list iT),.d iT] false),.b (.cell [.nil,.nil,.nil,.nil] false),.b (.cell [.d ty61,.d ty51,.d ty26,.ol 1002000] false),.b (.cell [.d .str,.ol 1002001,.nil] false),.b (.lst 48 ty72 true),.b (.lst 53 ty67 false)],[iT,iT,(.list iT),iT,ty61,ty51,ty26,.str,ty73,ty68],[⟨.exit 2,[.s (.one (.bp 0 0)),.s (.one (.bp 256 0)),.s (.one (.bp 320 0)),sI,.s (.one (.bp 448 0)),.b (.cell [.d (.list iT),.d iT] false),.b (.cell [.nil,.nil,.nil,.nil] false),.b (.cell [.d ty61,.d ty51,.d ty26,.ol 1502300] false),.b (.cell [.d .str,.ol 1502301,.nil] false),.b (.lst 48 ty72 true),.b (.lst 53 ty67 false)],[iT,(.list iT),iT,ty61,ty51,ty26,.str,ty73,ty68]⟩],fun h=>Pw.j01R h.1 h.2.1 h.2.2.1 h.2.2.2.1 h.2.2.2.2.1 h.2.2.2.2.2.1 h.2.2.2.2.2.2.1 h.2.2.2.2.2.2.2.1 h.2.2.2.2.2.2.2.2.1 h.2.2.2.2.2.2.2.2.2⟩,
  ⟨4,[.s (.one (.bp 0 0)),.s (.one (.bp 256 0)),.s (.one (.bp 320 0)),sI,.s (.one (.bp 448 0)),sI,.b (.cell [.d (.list iT),.d iT] false),.b (.cell [.nil,.nil,.nil,.nil] false),.b (.cell [.d ty61,.d ty51,.d ty26,.ol 1004000] false),.b (.cell [.d .str,.ol 1004001,.ol 1004002] false),.b (.lst 48 ty72 true),.b (.lst 53 ty67 false),.b (.lst 73 ty37 false)],[iT,iT,(.list iT),iT,ty61,ty51,ty26,.str,ty73,ty68,ty39],[⟨.exit 4,[.s (.one (.bp 0 0)),.s (.one (.bp 256 0)),.s (.one (.bp 320 0)),sI,.s (.one (.bp 448 0)),.b (.cell [.d (.list iT),.d iT] false),.b (.cell [.nil,.nil,.nil,.nil] false),.b (.cell [.d ty61,.d ty51,.d ty26,.ol 1504500] false),.b (.cell [.d .str,.ol 1504501,.ol 1504502] false),.b (.lst 48 ty72 true),.b (.lst 53 ty67 false),.b (.lst 73 ty37 false)],[iT,(.list iT),iT,ty61,ty51,ty26,.str,ty73,ty68,ty39]⟩],fun h=>Pw.j01S h.1 h.2.1 h.2.2.1 h.2.2.2.1 h.2.2.2.2.1 h.2.2.2.2.2.1 h.2.2.2.2.2.2.1 h.2.2.2.2.2.2.2.1 h.2.2.2.2.2.2.2.2.1 h.2.2.2.2.2.2.2.2.2.1 h.2.2.2.2.2.2.2.2.2.2⟩]
 modes:=[(21,[false,false]),(36,[false]),(37,[false,false,false]),(38,[]),(39,[false,false])]
 keep:=[(0,⟨[0,4,5,6],[0,256,320],[⟨1000000,48,ty72,[.cell 320 3],true⟩],[]⟩),
  (2,⟨[0,4,5,6,7,8],[0,256,320,448],[⟨1002000,48,ty72,[.cell 320 3],false⟩,⟨1002001,53,ty67,[.cell 448 1],false⟩],[]⟩),
  (4,⟨[0,4,5,6,7,9],[0,256,320,448],[⟨1004000,48,ty72,[.cell 320 3],false⟩,⟨1004001,53,ty67,[.cell 448 1],false⟩,⟨1004002,73,ty37,[.cell 448 2],false⟩],[]⟩)]
 keepX:=[(0,.exit 0,⟨[4,5],[0,256,320],[⟨1500100,48,ty72,[.cell 320 3],false⟩],[]⟩),
  (2,.exit 2,⟨[0,4,5,6,7],[0,256,320,448],[⟨1502300,48,ty72,[.cell 320 3],false⟩,⟨1502301,53,ty67,[.cell 448 1],false⟩],[]⟩),
  (4,.exit 4,⟨[0,4,5,6,7],[0,256,320,448],[⟨1504500,48,ty72,[.cell 320 3],false⟩,⟨1504501,53,ty67,[.cell 448 1],false⟩,⟨1504502,73,ty37,[.cell 448 2],false⟩],[]⟩)]
 ro:=[false]
 dw:=[(9,[[],[],[],[],[2432],[],[],[],[],[],[0,1002000],[2880],[2944,1002000,1002001],[],[448]]),(13,[[],[],[],[],[0,1004000],[3776],[3840,1004001,1004002],[],[448]])]
theorem j0d9:Con.OK Tryz.prog j05G:=
 cOf tabOk mixedOk j0e1 j05G Tryz.func13 (And.intro j01y (And.intro j0em (And.intro j0dZ (And.intro j0e0 (And.intro j0eu trivial))))) (And.intro (fun h=>by kernel_rfl) (And.intro (fun h=>by kernel_rfl) (And.intro (fun h=>by kernel_rfl) trivial)))
def j0c1:Con:=⟨16,[.v iT,.v iT],[iT,iT],⟨[.v iT],[]⟩,[iT],fun h=>Pw.j0gC h.1 h.2⟩
def j0lN:FnD where
 N:=12
 np:=2
 cs:=[]
 ds:=[]
 ro:=[false]
theorem j0kr:Con.OK Tryz.prog j0c1:=
 cOf tabOk mixedOk j0lN j0c1 Tryz.func16 trivial trivial
end Go.Proofs.Pk
