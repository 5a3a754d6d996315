/- Contracts: each given function is its plain function, printed by a program. -/
import Derived.Test.YthpdddnkpjnllaaGreatBCon5
noncomputable section
open Go Go.Lft
set_option linter.unusedVariables false
set_option maxRecDepth 100000
namespace Go.Proofs.Pk
def j06L:Con:=⟨70,[.ref [(.list iT),iT],.v .str],[(.list iT),iT,.str],⟨[.v ty60],[.ref [(.list iT),iT]]⟩,[ty60,(.list iT),iT],fun h=>Pw.j039 h.1 h.2.1 h.2.2⟩
def j0gl:FnD where
 N:=98
 np:=2
 cs:=[j00G,j01P]
 ds:=[]
 modes:=[(21,[false,false]),(53,[false,false])]
 ro:=[false]
 dw:=[(7,[[],[],[0],[],[],[0],[],[0],[],[],[],[],[0],[],[],[],[],[],[],[0],[],[],[3968],[0,3968],[],[0],[],[0],[],[],[],[],[4608],[],[320]]),(9,[[],[],[],[5056],[0,5056],[],[]])]
theorem j0fq:Con.OK Tryz.prog j06L:=
 cOf tabOk mixedOk j0gl j06L Tryz.func70 (And.intro j01l (And.intro j035 trivial)) trivial
def j07X:Con:=⟨38,[],[],⟨[.own 9 (.list .str)],[]⟩,[(.list .str)],fun h=>Pw.j0ds⟩
def j0ki:FnD where
 N:=2
 np:=0
 cs:=[]
 ds:=[]
 ro:=[true]
theorem j0fi:Con.OK Tryz.prog j07X:=
 cOf tabOk mixedOk j0ki j07X Tryz.func38 trivial trivial
def j02K:Con:=⟨52,[.ref [(.list iT),iT],.v iT],[(.list iT),iT,iT],⟨[.v .bool],[.ref [(.list iT),iT]]⟩,[.bool,(.list iT),iT],fun h=>Pw.j00S h.1 h.2.1 h.2.2⟩
def j0gm:FnD where
 N:=11
 np:=2
 cs:=[j00G]
 ds:=[]
 modes:=[(21,[false,false])]
 ro:=[false]
theorem j05I:Con.OK Tryz.prog j02K:=
 cOf tabOk mixedOk j0gm j02K Tryz.func52 (And.intro j01l trivial) trivial
def j03t:Con:=⟨71,[.ref [(.list iT),iT]],[(.list iT),iT],⟨[.own 148 ty12],[.ref [(.list iT),iT]]⟩,[ty12,(.list iT),iT],fun h=>Pw.j032 h.1 h.2⟩
def j0e1:FnD where
 N:=38
 np:=1
 cs:=[j00G,j01P]
 ds:=[⟨0,[.s (.one (.bp 0 0)),.s (.one (.ol 1000000)),sI,sI,.b (.cell [.d (.list iT),.d iT] false),.b (.lst 148 ty8 false)],[iT,iT,(.list iT),iT,ty12],[⟨.exit 0,[.s (.one (.ol 1500100)),.b (.cell [.d (.list iT),.d iT] false),.b (.lst 148 ty8 false)],[(.list iT),iT,ty12]⟩],fun h=>Pw.j01O h.1 h.2.1 h.2.2.1 h.2.2.2.1 h.2.2.2.2⟩]
 modes:=[(21,[false,false]),(53,[false,false])]
 keep:=[(0,⟨[0,3,4,5],[0],[⟨1000000,148,ty8,[.slot 3],false⟩],[]⟩)]
 keepX:=[(0,.exit 0,⟨[3],[0],[⟨1500100,148,ty8,[.slot 3],false⟩],[]⟩)]
 ro:=[true]
theorem j08L:Con.OK Tryz.prog j03t:=
 cOf tabOk mixedOk j0e1 j03t Tryz.func71 (And.intro j01l (And.intro j035 trivial)) (And.intro (fun h=>by kernel_rfl) trivial)
def j06q:Con:=⟨36,[.ref [(.list iT),iT]],[(.list iT),iT],⟨[.vn ty79 [3]],[.ref [(.list iT),iT]]⟩,[ty79,(.list iT),iT],fun h=>Pw.j06T h.1 h.2⟩
def j0fr:FnD where
 N:=109
 np:=1
 cs:=[j00G,j01P,j06L,j07X,j02K,j03t]
 ds:=[⟨0,[.s (.one (.bp 0 0)),.s (.one (.bp 128 0)),.s (.one (.bp 192 0)),sI,.b (.cell [.d (.list iT),.d iT] false),.b (.cell [.nil,.nil,.nil,.nil] false),.b (.cell [.ol 1000000,.nil,.nil,.nil] false),.b (.lst 77 ty60 false)],[iT,(.list iT),iT,ty61],[⟨.exit 0,[.s (.one (.bp 0 0)),.s (.one (.bp 128 0)),.s (.one (.bp 192 0)),.b (.cell [.d (.list iT),.d iT] false),.b (.cell [.nil,.nil,.nil,.nil] false),.b (.cell [.ol 1500100,.nil,.nil,.nil] false),.b (.lst 77 ty60 false)],[(.list iT),iT,ty61]⟩],fun h=>Pw.j028 h.1 h.2.1 h.2.2.1 h.2.2.2⟩,
  ⟨2,[.s (.one (.bp 0 0)),.s (.one (.bp 128 0)),.s (.one (.bp 192 0)),sI,.b (.cell [.d (.list iT),.d iT] false),.b (.cell [.nil,.nil,.nil,.nil] false),.b (.cell [.ol 1002000,.ol 1002001,.nil,.nil] false),.b (.lst 77 ty60 false),.b (.lst 79 ty48 false)],[iT,(.list iT),iT,ty61,ty51],[⟨.exit 2,[.s (.one (.bp 0 0)),.s (.one (.bp 128 0)),.s (.one (.bp 192 0)),.b (.cell [.d (.list iT),.d iT] false),.b (.cell [.nil,.nil,.nil,.nil] false),.b (.cell [.ol 1502300,.ol 1502301,.nil,.nil] false),.b (.lst 77 ty60 false),.b (.lst 79 ty48 false)],[(.list iT),iT,ty61,ty51]⟩],fun h=>Pw.j029 h.1 h.2.1 h.2.2.1 h.2.2.2.1 h.2.2.2.2⟩,
  ⟨4,[.s (.one (.bp 0 0)),.s (.one (.bp 128 0)),.s (.one (.bp 192 0)),sI,.b (.cell [.d (.list iT),.d iT] false),.b (.cell [.nil,.nil,.nil,.nil] false),.b (.cell [.ol 1004000,.ol 1004001,.ol 1004002,.nil] false),.b (.lst 77 ty60 false),.b (.lst 79 ty48 false),.b (.lst 94 ty22 false)],[iT,(.list iT),iT,ty61,ty51,ty26],[⟨.exit 4,[.s (.one (.bp 128 0)),.s (.one (.bp 192 0)),.b (.cell [.d (.list iT),.d iT] false),.b (.cell [.nil,.nil,.nil,.nil] false),.b (.cell [.ol 1504500,.ol 1504501,.ol 1504502,.nil] false),.b (.lst 77 ty60 false),.b (.lst 79 ty48 false),.b (.lst 94 ty22 false)],[(.list iT),iT,ty61,ty51,ty26]⟩],fun h=>Pw.j01B h.1 h.2.1 h.2.2.1 h.2.2.2.1 h.2.2.2.2.1 h.2.2.2.2.2⟩,
  ⟨6,[.s (.one (.bp 0 0)),.s (.one (.bp 128 0)),.s (.one (.bp 192 0)),sI,.s (.one (.bp 512 0)),sI,sI,.b (.cell [.d (.list iT),.d iT] false),.b (.cell [.nil,.nil,.nil,.nil] false),.b (.cell [.ol 1006000,.ol 1006001,.ol 1006002,.nil] false),.b (.cell [.d .str,.d iT,.ol 1006003] false),.b (.lst 77 ty60 false),.b (.lst 79 ty48 false),.b (.lst 94 ty22 false),.b (.lst 3 iT false)],[iT,iT,iT,(.list iT),iT,.str,iT,ty61,ty51,ty26,(.list iT)],[⟨.exit 6,[.s (.one (.bp 0 0)),.s (.one (.bp 128 0)),.s (.one (.bp 192 0)),sI,.s (.one (.bp 512 0)),.b (.cell [.d (.list iT),.d iT] false),.b (.cell [.nil,.nil,.nil,.nil] false),.b (.cell [.ol 1506700,.ol 1506701,.ol 1506702,.nil] false),.b (.cell [.d .str,.d iT,.ol 1506703] false),.b (.lst 77 ty60 false),.b (.lst 79 ty48 false),.b (.lst 94 ty22 false),.b (.lst 3 iT false)],[iT,(.list iT),iT,.str,iT,ty61,ty51,ty26,(.list iT)]⟩],fun h=>Pw.j02a h.1 h.2.1 h.2.2.1 h.2.2.2.1 h.2.2.2.2.1 h.2.2.2.2.2.1 h.2.2.2.2.2.2.1 h.2.2.2.2.2.2.2.1 h.2.2.2.2.2.2.2.2.1 h.2.2.2.2.2.2.2.2.2.1 h.2.2.2.2.2.2.2.2.2.2⟩]
 modes:=[(21,[false,false]),(38,[]),(52,[false,false]),(53,[false,false]),(70,[false,false]),(71,[false])]
 keep:=[(0,⟨[0,2,3,4],[0,128,192],[⟨1000000,77,ty60,[.cell 192 0],false⟩],[]⟩),
  (2,⟨[0,2,3,5],[0,128,192],[⟨1002000,77,ty60,[.cell 192 0],false⟩,⟨1002001,79,ty48,[.cell 192 1],false⟩],[]⟩),
  (4,⟨[0,2,3,7],[0,128,192],[⟨1004000,77,ty60,[.cell 192 0],false⟩,⟨1004001,79,ty48,[.cell 192 1],false⟩,⟨1004002,94,ty22,[.cell 192 2],false⟩],[]⟩),
  (6,⟨[0,2,3,7,8,9,10],[0,128,192,512],[⟨1006000,77,ty60,[.cell 192 0],false⟩,⟨1006001,79,ty48,[.cell 192 1],false⟩,⟨1006002,94,ty22,[.cell 192 2],false⟩,⟨1006003,3,iT,[.cell 512 2],false⟩],[]⟩)]
 keepX:=[(0,.exit 0,⟨[0,2,3],[0,128,192],[⟨1500100,77,ty60,[.cell 192 0],false⟩],[]⟩),
  (2,.exit 2,⟨[0,2,3],[0,128,192],[⟨1502300,77,ty60,[.cell 192 0],false⟩,⟨1502301,79,ty48,[.cell 192 1],false⟩],[]⟩),
  (4,.exit 4,⟨[2,3],[0,128,192],[⟨1504500,77,ty60,[.cell 192 0],false⟩,⟨1504501,79,ty48,[.cell 192 1],false⟩,⟨1504502,94,ty22,[.cell 192 2],false⟩],[]⟩),
  (6,.exit 6,⟨[0,2,3,7,8],[0,128,192,512],[⟨1506700,77,ty60,[.cell 192 0],false⟩,⟨1506701,79,ty48,[.cell 192 1],false⟩,⟨1506702,94,ty22,[.cell 192 2],false⟩,⟨1506703,3,iT,[.cell 512 2],false⟩],[]⟩)]
 ro:=[false]
 dw:=[(5,[[],[],[],[1344],[],[],[],[],[],[0],[1792],[1856,1000000],[],[192]]),(9,[[2432],[],[],[],[],[],[],[],[],[],[0],[],[0],[],[384],[384]])]
 ns:=[3]
theorem j0eP:Con.OK Tryz.prog j06q:=
 cOf tabOk mixedOk j0fr j06q Tryz.func36 (And.intro j01l (And.intro j035 (And.intro j0fq (And.intro j0fi (And.intro j05I (And.intro j08L trivial)))))) (And.intro (fun h=>by kernel_rfl) (And.intro (fun h=>by kernel_rfl) (And.intro (fun h=>by kernel_rfl) (And.intro (fun h=>by kernel_rfl) trivial))))
def j06r:Con:=⟨37,[.ref [(.list iT),iT],.v ty79,.v .str],[(.list iT),iT,ty79,.str],⟨[.v ty67],[.ref [(.list iT),iT]]⟩,[ty67,(.list iT),iT],fun h=>Pw.j06U h.1 h.2.1 h.2.2.1 h.2.2.2⟩
def j0fs:FnD where
 N:=77
 np:=3
 cs:=[j00G,j01P,j02K,j03t]
 ds:=[⟨0,[.s (.one (.bp 0 0)),.s (.one (.bp 256 0)),.s (.one (.bp 384 0)),.s (.one (.bp 448 0)),sI,.b (.cell [.d (.list iT),.d iT] false),.b (.cell [.d ty61,.d ty51,.d ty26,.d ty73] false),.b (.cell [.d .str,.d iT,.d iT,.d iT,.d iT,.d iT,.nil,.nil,.d iT,.d iT] false),.b (.cell [.d .str,.d iT,.d iT,.d iT,.d iT,.d iT,.ol 1000000,.nil,.d iT,.d iT] false),.b (.lst 3 iT false)],[iT,(.list iT),iT,ty61,ty51,ty26,ty73,.str,iT,iT,iT,iT,iT,iT,iT,.str,iT,iT,iT,iT,iT,iT,iT,(.list iT)],[⟨.exit 0,[.s (.one (.bp 0 0)),.s (.one (.bp 256 0)),.s (.one (.bp 384 0)),.s (.one (.bp 448 0)),.b (.cell [.d (.list iT),.d iT] false),.b (.cell [.d ty61,.d ty51,.d ty26,.d ty73] false),.b (.cell [.d .str,.d iT,.d iT,.d iT,.d iT,.d iT,.nil,.nil,.d iT,.d iT] false),.b (.cell [.d .str,.d iT,.d iT,.d iT,.d iT,.d iT,.ol 1500100,.nil,.d iT,.d iT] false),.b (.lst 3 iT false)],[(.list iT),iT,ty61,ty51,ty26,ty73,.str,iT,iT,iT,iT,iT,iT,iT,.str,iT,iT,iT,iT,iT,iT,iT,(.list iT)]⟩],fun h=>Pw.j02b h.1 h.2.1 h.2.2.1 h.2.2.2.1 h.2.2.2.2.1 h.2.2.2.2.2.1 h.2.2.2.2.2.2.1 h.2.2.2.2.2.2.2.1 h.2.2.2.2.2.2.2.2.1 h.2.2.2.2.2.2.2.2.2.1 h.2.2.2.2.2.2.2.2.2.2.1 h.2.2.2.2.2.2.2.2.2.2.2.1 h.2.2.2.2.2.2.2.2.2.2.2.2.1 h.2.2.2.2.2.2.2.2.2.2.2.2.2.1 h.2.2.2.2.2.2.2.2.2.2.2.2.2.2.1 h.2.2.2.2.2.2.2.2.2.2.2.2.2.2.2.1 h.2.2.2.2.2.2.2.2.2.2.2.2.2.2.2.2.1 h.2.2.2.2.2.2.2.2.2.2.2.2.2.2.2.2.2.1 h.2.2.2.2.2.2.2.2.2.2.2.2.2.2.2.2.2.2.1 h.2.2.2.2.2.2.2.2.2.2.2.2.2.2.2.2.2.2.2.1 h.2.2.2.2.2.2.2.2.2.2.2.2.2.2.2.2.2.2.2.2.1 h.2.2.2.2.2.2.2.2.2.2.2.2.2.2.2.2.2.2.2.2.2.1 h.2.2.2.2.2.2.2.2.2.2.2.2.2.2.2.2.2.2.2.2.2.2.1 h.2.2.2.2.2.2.2.2.2.2.2.2.2.2.2.2.2.2.2.2.2.2.2⟩]
 modes:=[(21,[false,false]),(52,[false,false]),(53,[false,false]),(71,[false])]
 keep:=[(0,⟨[0,4,6,7,8],[0,256,384,448],[⟨1000000,3,iT,[.cell 448 6],false⟩],[]⟩)]
 keepX:=[(0,.exit 0,⟨[0,4,6,7],[0,256,384,448],[⟨1500100,3,iT,[.cell 448 6],false⟩],[]⟩)]
 ro:=[false]
 dw:=[(7,[[],[],[],[],[],[],[0],[3200],[3264,1000000],[],[448]])]
theorem j0eQ:Con.OK Tryz.prog j06r:=
 cOf tabOk mixedOk j0fs j06r Tryz.func37 (And.intro j01l (And.intro j035 (And.intro j05I (And.intro j08L trivial)))) (And.intro (fun h=>by kernel_rfl) trivial)
def j03u:Con:=⟨22,[.ref [(.list iT),iT]],[(.list iT),iT],⟨[.v iT],[.ref [(.list iT),iT]]⟩,[iT,(.list iT),iT],fun h=>Pw.j04a h.1 h.2⟩
def j0e2:FnD where
 N:=16
 np:=1
 cs:=[j00G,j01P,j02K]
 ds:=[]
 modes:=[(21,[false,false]),(52,[false,false]),(53,[false,false])]
 ro:=[false]
theorem j08M:Con.OK Tryz.prog j03u:=
 cOf tabOk mixedOk j0e2 j03u Tryz.func22 (And.intro j01l (And.intro j035 (And.intro j05I trivial))) trivial
def j06M:Con:=⟨39,[.ref [(.list iT),iT],.v ty79],[(.list iT),iT,ty79],⟨[.v ty37],[.ref [(.list iT),iT]]⟩,[ty37,(.list iT),iT],fun h=>Pw.j07N h.1 h.2.1 h.2.2⟩
def j0gn:FnD where
 N:=52
 np:=2
 cs:=[j00G,j01P,j02K,j03u]
 ds:=[]
 modes:=[(21,[false,false]),(22,[false]),(52,[false,false]),(53,[false,false])]
 ro:=[false]
 dw:=[(3,[[],[],[],[1344],[0,1344],[],[],[384]]),(8,[[],[],[],[],[],[],[0],[],[],[],[],[384]])]
theorem j0ft:Con.OK Tryz.prog j06M:=
 cOf tabOk mixedOk j0gn j06M Tryz.func39 (And.intro j01l (And.intro j035 (And.intro j05I (And.intro j08M trivial)))) trivial
def j061:Con:=⟨13,[.ref [(.list iT),iT],.v iT],[(.list iT),iT,iT],⟨[.v ty79],[.ref [(.list iT),iT]]⟩,[ty79,(.list iT),iT],fun h=>Pw.j06i h.1 h.2.1 h.2.2⟩
def j0eR:FnD where
 N:=69
 np:=2
 cs:=[j00G,j07X,j06q,j06r,j06M]
 ds:=[⟨0,[.s (.one (.bp 0 0)),.s (.one (.bp 256 0)),.s (.one (.bp 320 0)),sI,.b (.cell [.d (.list iT),.d iT] false),.b (.cell [.nil,.nil,.nil,.nil] false),.b (.cell [.d ty61,.d ty51,.d ty26,.ol 1000000] false),.b (.lst 48 ty72 true)],[iT,(.list iT),iT,ty61,ty51,ty26,ty73],[⟨.exit 0,[.s (.one (.bp 256 0)),.s (.one (.bp 320 0)),.b (.cell [.d (.list iT),.d iT] false),.b (.cell [.nil,.nil,.nil,.nil] false),.b (.cell [.d ty61,.d ty51,.d ty26,.ol 1500100] false),.b (.lst 48 ty72 true)],[(.list iT),iT,ty61,ty51,ty26,ty73]⟩],fun h=>Pw.j022 h.1 h.2.1 h.2.2.1 h.2.2.2.1 h.2.2.2.2.1 h.2.2.2.2.2.1 h.2.2.2.2.2.2⟩,
  ⟨2,[.s (.one (.bp 0 0)),.s (.one (.bp 256 0)),.s (.one (.bp 320 0)),sI,.s (.one (.bp 448 0)),sI,.b (.cell [.d (.list iT),.d iT] false),.b (.cell [.nil,.nil,.nil,.nil] false),.b (.cell [.d ty61,.d ty51,.d ty26,.ol 1002000] false),.b (.cell [.d .str,.ol 1002001,.nil] false),.b (.lst 48 ty72 true),.b (.lst 53 ty67 false)],[iT,iT,(.list iT),iT,ty61,ty51,ty26,.str,ty73,ty68],[⟨.exit 2,[.s (.one (.bp 0 0)),.s (.one (.bp 256 0)),.s (.one (.bp 320 0)),sI,.s (.one (.bp 448 0)),.b (.cell [.d (.list iT),.d iT] false),.b (.cell [.nil,.nil,.nil,.nil] false),.b (.cell [.d ty61,.d ty51,.d ty26,.ol 1502300] false),.b (.cell [.d .str,.ol 1502301,.nil] false),.b (.lst 48 ty72 true),.b (.lst 53 ty67 false)],[iT,(.list iT),iT,ty61,ty51,ty26,.str,ty73,ty68]⟩],fun h=>Pw.j020 h.1 h.2.1 h.2.2.1 h.2.2.2.1 h.2.2.2.2.1 h.2.2.2.2.2.1 h.2.2.2.2.2.2.1 h.2.2.2.2.2.2.2.1 h.2.2.2.2.2.2.2.2.1 h.2.2.2.2.2.2.2.2.2⟩,
  ⟨4,[.s (.one (.bp 0 0)),.s (.one (.bp 256 0)),.s (.one (.bp 320 0)),sI,.s (.one (.bp 448 0)),sI,.b (.cell [.d (.list iT),.d iT] false),.b (.cell [.nil,.nil,.nil,.nil] false),.b (.cell [.d ty61,.d ty51,.d ty26,.ol 1004000] false),.b (.cell [.d .str,.ol 1004001,.ol 1004002] false),.b (.lst 48 ty72 true),.b (.lst 53 ty67 false),.b (.lst 73 ty37 false)],[iT,iT,(.list iT),iT,ty61,ty51,ty26,.str,ty73,ty68,ty39],[⟨.exit 4,[.s (.one (.bp 0 0)),.s (.one (.bp 256 0)),.s (.one (.bp 320 0)),sI,.s (.one (.bp 448 0)),.b (.cell [.d (.list iT),.d iT] false),.b (.cell [.nil,.nil,.nil,.nil] false),.b (.cell [.d ty61,.d ty51,.d ty26,.ol 1504500] false),.b (.cell [.d .str,.ol 1504501,.ol 1504502] false),.b (.lst 48 ty72 true),.b (.lst 53 ty67 false),.b (.lst 73 ty37 false)],[iT,(.list iT),iT,ty61,ty51,ty26,.str,ty73,ty68,ty39]⟩],fun h=>Pw.j021 h.1 h.2.1 h.2.2.1 h.2.2.2.1 h.2.2.2.2.1 h.2.2.2.2.2.1 h.2.2.2.2.2.2.1 h.2.2.2.2.2.2.2.1 h.2.2.2.2.2.2.2.2.1 h.2.2.2.2.2.2.2.2.2.1 h.2.2.2.2.2.2.2.2.2.2⟩]
 modes:=[(21,[false,false]),(36,[false]),(37,[false,false,false]),(38,[]),(39,[false,false])]
 keep:=[(0,⟨[0,4,5,6],[0,256,320],[⟨1000000,48,ty72,[.cell 320 3],true⟩],[]⟩),
  (2,⟨[0,4,5,6,7,8],[0,256,320,448],[⟨1002000,48,ty72,[.cell 320 3],false⟩,⟨1002001,53,ty67,[.cell 448 1],false⟩],[]⟩),
  (4,⟨[0,4,5,6,7,9],[0,256,320,448],[⟨1004000,48,ty72,[.cell 320 3],false⟩,⟨1004001,53,ty67,[.cell 448 1],false⟩,⟨1004002,73,ty37,[.cell 448 2],false⟩],[]⟩)]
 keepX:=[(0,.exit 0,⟨[4,5],[0,256,320],[⟨1500100,48,ty72,[.cell 320 3],false⟩],[]⟩),
  (2,.exit 2,⟨[0,4,5,6,7],[0,256,320,448],[⟨1502300,48,ty72,[.cell 320 3],false⟩,⟨1502301,53,ty67,[.cell 448 1],false⟩],[]⟩),
  (4,.exit 4,⟨[0,4,5,6,7],[0,256,320,448],[⟨1504500,48,ty72,[.cell 320 3],false⟩,⟨1504501,53,ty67,[.cell 448 1],false⟩,⟨1504502,73,ty37,[.cell 448 2],false⟩],[]⟩)]
 ro:=[false]
 dw:=[(9,[[],[],[],[],[2432],[],[],[],[],[],[0,1002000],[2880],[2944,1002000,1002001],[],[448]]),(13,[[],[],[],[],[0,1004000],[3776],[3840,1004001,1004002],[],[448]])]
theorem j0e3:Con.OK Tryz.prog j061:=
 cOf tabOk mixedOk j0eR j061 Tryz.func13 (And.intro j01l (And.intro j0fi (And.intro j0eP (And.intro j0eQ (And.intro j0ft trivial))))) (And.intro (fun h=>by kernel_rfl) (And.intro (fun h=>by kernel_rfl) (And.intro (fun h=>by kernel_rfl) trivial)))
def j0bT:Con:=⟨224,[.v (.int .u8)],[(.int .u8)],⟨[.v .bool],[]⟩,[.bool],fun h=>Pw.j0hO h⟩
def j0lL:FnD where
 N:=9
 np:=1
 cs:=[]
 ds:=[]
 ro:=[false]
theorem j0kj:Con.OK Tryz.prog j0bT:=
 cOf tabOk mixedOk j0lL j0bT Tryz.func224 trivial trivial
def j0cZ:Con:=⟨178,[.v .str],[.str],⟨[.v .bool],[]⟩,[.bool],fun h=>Pw.j0hP h⟩
def j0n7:FnD where
 N:=57
 np:=1
 cs:=[j0bT]
 ds:=[⟨0,[.s (.one (.d .str)),sI],[.str,iT],[⟨.ret,[.s (.one (.d .bool))],[.bool]⟩,⟨.exit 0,[],[]⟩],fun h=>Pw.j04F h.1 h.2⟩]
 modes:=[(224,[false])]
 keep:=[(0,⟨[0,3],[],[],[]⟩)]
 keepX:=[(0,.ret,⟨[2],[],[],[]⟩),
  (0,.exit 0,⟨[],[],[],[]⟩)]
 ro:=[false]
theorem j0lM:Con.OK Tryz.prog j0cZ:=
 cOf tabOk mixedOk j0n7 j0cZ Tryz.func178 (And.intro j0kj trivial) (And.intro (fun h=>by kernel_rfl) trivial)
def j06N:Con:=⟨138,[.v (.list .str),.v iT],[(.list .str),iT],⟨[.v iT],[]⟩,[iT],fun h=>Pw.j0aw h.1 h.2⟩
def j0n8:FnD where
 N:=26
 np:=2
 cs:=[j0cZ]
 ds:=[⟨0,[.s (.one (.d (.list .str))),sI,sI],[(.list .str),iT,iT],[⟨.ret,[sI],[iT]⟩,⟨.exit 0,[],[]⟩],fun h=>Pw.j04G h.1 h.2.1 h.2.2⟩]
 modes:=[(178,[false])]
 keep:=[(0,⟨[0,1,5],[],[],[]⟩)]
 keepX:=[(0,.ret,⟨[4],[],[],[]⟩),
  (0,.exit 0,⟨[],[],[],[]⟩)]
 ro:=[false]
theorem j0cw:Con.OK Tryz.prog j06N:=
 cOf tabOk mixedOk j0n8 j06N Tryz.func138 (And.intro j0lM trivial) (And.intro (fun h=>by kernel_rfl) trivial)
def j08N:Con:=⟨93,[.v iT,.v iT,.v iT],[iT,iT,iT],⟨[.v .bool],[]⟩,[.bool],fun h=>Pw.r04_in h.1 h.2.1 h.2.2⟩
def j0oP:FnD where
 N:=15
 np:=3
 cs:=[]
 ds:=[]
 ro:=[false]
theorem j0e4:Con.OK Tryz.prog j08N:=
 cOf tabOk mixedOk j0oP j08N Tryz.func93 trivial trivial
def j0bU:Con:=⟨147,[.v ty50],[ty50],⟨[.v .bool],[]⟩,[.bool],fun h=>Pw.j0dv h⟩
def j0lN:FnD where
 N:=38
 np:=1
 cs:=[j08N]
 ds:=[]
 modes:=[(93,[false,false,false])]
 ro:=[false]
theorem j0kk:Con.OK Tryz.prog j0bU:=
 cOf tabOk mixedOk j0lN j0bU Tryz.func147 (And.intro j0e4 trivial) trivial
def j0d0:Con:=⟨251,[.v iT],[iT],⟨[.v .bool],[]⟩,[.bool],fun h=>Pw.j01K h⟩
def j0n9:FnD where
 N:=16
 np:=1
 cs:=[]
 ds:=[]
 ro:=[false]
theorem j0lO:Con.OK Tryz.prog j0d0:=
 cOf tabOk mixedOk j0n9 j0d0 Tryz.func251 trivial trivial
def j08O:Con:=⟨227,[.v iT,.v iT],[iT,iT],⟨[.v iT],[]⟩,[iT],fun h=>Pw.j0cR h.1 h.2⟩
def j0na:FnD where
 N:=23
 np:=2
 cs:=[j0d0]
 ds:=[]
 modes:=[(251,[false])]
 ro:=[false]
theorem j0eS:Con.OK Tryz.prog j08O:=
 cOf tabOk mixedOk j0na j08O Tryz.func227 (And.intro j0lO trivial) trivial
def j0bV:Con:=⟨250,[.v ty20],[ty20],⟨[.v .bool],[]⟩,[.bool],fun h=>Pw.j0fI h⟩
def j0lP:FnD where
 N:=36
 np:=1
 cs:=[j08O]
 ds:=[]
 modes:=[(227,[false,false])]
 ro:=[false]
theorem j0kl:Con.OK Tryz.prog j0bV:=
 cOf tabOk mixedOk j0lP j0bV Tryz.func250 (And.intro j0eS trivial) trivial
def j0aM:Con:=⟨179,[.v iT],[iT],⟨[.v iT],[]⟩,[iT],fun h=>Pw.j0g5 h⟩
def j0nb:FnD where
 N:=18
 np:=1
 cs:=[]
 ds:=[]
 ro:=[false]
theorem j0hm:Con.OK Tryz.prog j0aM:=
 cOf tabOk mixedOk j0nb j0aM Tryz.func179 trivial trivial
def j0eT:Con:=⟨225,[.v ty20],[ty20],⟨[.v iT,.v iT],[]⟩,[iT,iT],fun h=>Pw.r01_Day h⟩
def j0o6:FnD where
 N:=29
 np:=1
 cs:=[j08O,j0bV,j0aM]
 ds:=[⟨0,[.s (.one (.bp 64 0)),sI,sI,.b (.cell [.d iT,.d iT,.d iT] false)],[iT,iT,iT,iT,iT],[⟨.exit 0,[.s (.one (.bp 64 0)),sI,.b (.cell [.d iT,.d iT,.d iT] false)],[iT,iT,iT,iT]⟩],fun h=>Pw.j05n h.1 h.2.1 h.2.2.1 h.2.2.2.1 h.2.2.2.2⟩]
 modes:=[(179,[false]),(227,[false,false]),(250,[false])]
 keep:=[(0,⟨[1,4,5],[64],[],[]⟩)]
 keepX:=[(0,.exit 0,⟨[1,4],[64],[],[]⟩)]
 ro:=[false,false]
theorem r01_Day_ok:Con.OK Tryz.prog j0eT:=
 cOf tabOk mixedOk j0o6 j0eT Tryz.func225 (And.intro j0eS (And.intro j0kl (And.intro j0hm trivial))) (And.intro (fun h=>by kernel_rfl) trivial)
def j06Z:Con:=⟨226,[.v iT],[iT],⟨[.v iT],[]⟩,[iT],fun h=>Pw.j0cs h⟩
def j0jh:FnD where
 N:=7
 np:=1
 cs:=[]
 ds:=[]
 ro:=[false]
theorem j0e5:Con.OK Tryz.prog j06Z:=
 cOf tabOk mixedOk j0jh j06Z Tryz.func226 trivial trivial
end Go.Proofs.Pk
