/- Contracts: each given function is its plain function, printed by a program. -/
import Derived.Test.YthpdddnkpjnllaaGreatACon4
noncomputable section
open Go Go.Lft
set_option linter.unusedVariables false
set_option maxRecDepth 100000
namespace Go.Proofs.Pk
def j08R:Con:=⟨218,[.v ty37,.v iT],[ty37,iT],⟨[.v .bool],[]⟩,[.bool],fun h=>Pw.j0g6 h.1 h.2⟩
def j0hN:FnD where
 N:=15
 np:=2
 cs:=[]
 ds:=[]
 ro:=[false]
theorem j0gP:Con.OK Tryz.prog j08R:=
 cOf tabOk mixedOk j0hN j08R Tryz.func218 trivial trivial
def j0aJ:Con:=⟨169,[.v ty39,.v iT,.v iT],[ty39,iT,iT],⟨[.v iT],[]⟩,[iT],fun h=>Pw.j0cs h.1 h.2.1 h.2.2⟩
def j0ki:FnD where
 N:=51
 np:=3
 cs:=[j08R]
 ds:=[⟨0,[sI,sI,.s (.one (.d ty39)),sI,sI],[iT,iT,ty39,iT,iT],[⟨.exit 0,[sI],[iT]⟩],fun h=>Pw.j09Z h.1 h.2.1 h.2.2.1 h.2.2.2.1 h.2.2.2.2⟩]
 modes:=[(218,[false,false])]
 keep:=[(0,⟨[1,2,9,10,11],[],[],[]⟩)]
 keepX:=[(0,.exit 0,⟨[1],[],[],[]⟩)]
 ro:=[false]
theorem j0iO:Con.OK Tryz.prog j0aJ:=
 cOf tabOk mixedOk j0ki j0aJ Tryz.func169 (And.intro j0gP trivial) (And.intro (fun h=>by kernel_rfl) trivial)
def j09H:Con:=⟨151,[.v ty81,.v ty72,.v iT],[ty81,ty72,iT],⟨[.v iT],[]⟩,[iT],fun h=>Pw.j0ao h.1 h.2.1 h.2.2⟩
def j0iP:FnD where
 N:=27
 np:=3
 cs:=[j06W,j0aJ]
 ds:=[]
 modes:=[(59,[false,false,false]),(169,[false,false,false])]
 ro:=[false]
theorem j0hO:Con.OK Tryz.prog j09H:=
 cOf tabOk mixedOk j0iP j09H Tryz.func151 (And.intro j0f9 (And.intro j0iO trivial)) trivial
def j0bS:Con:=⟨97,[.v ty79,.v iT,.v iT],[ty79,iT,iT],⟨[.v iT],[]⟩,[iT],fun h=>Pw.j0eX h.1 h.2.1 h.2.2⟩
def j0lH:FnD where
 N:=30
 np:=3
 cs:=[j055,j0bi,j09H]
 ds:=[]
 modes:=[(41,[false,false]),(63,[false]),(151,[false,false,false])]
 ro:=[false]
theorem j0kj:Con.OK Tryz.prog j0bS:=
 cOf tabOk mixedOk j0lH j0bS Tryz.func97 (And.intro j09E (And.intro j0hJ (And.intro j0hO trivial))) trivial
def j09I:Con:=⟨50,[.v ty79,.v iT,.v iT],[ty79,iT,iT],⟨[.v iT],[]⟩,[iT],fun h=>Pw.j0ap h.1 h.2.1 h.2.2⟩
def j0iQ:FnD where
 N:=11
 np:=3
 cs:=[j0bS]
 ds:=[]
 modes:=[(97,[false,false,false])]
 ro:=[false]
theorem j0hP:Con.OK Tryz.prog j09I:=
 cOf tabOk mixedOk j0iQ j09I Tryz.func50 (And.intro j0kj trivial) trivial
def j0aK:Con:=⟨19,[.v ty79,.v iT,.v iT],[ty79,iT,iT],⟨[.v iT,.v iT],[]⟩,[iT,iT],fun h=>Pw.j0ct h.1 h.2.1 h.2.2⟩
def j0kk:FnD where
 N:=23
 np:=3
 cs:=[j05U,j09I]
 ds:=[]
 modes:=[(18,[false,false,false]),(50,[false,false,false])]
 ro:=[false,false]
theorem j0iR:Con.OK Tryz.prog j0aK:=
 cOf tabOk mixedOk j0kk j0aK Tryz.func19 (And.intro j0bB (And.intro j0hP trivial)) trivial
def j09J:Con:=⟨11,[],[],⟨[.v .bool],[]⟩,[.bool],fun h=>Pw.j04X⟩
def j0iS:FnD where
 N:=85
 np:=0
 cs:=[j06q,j04u,j05U,j0aK]
 ds:=[]
 modes:=[(14,[false,false]),(18,[false,false,false]),(19,[false,false,false]),(35,[false])]
 ro:=[false]
theorem j0hQ:Con.OK Tryz.prog j09J:=
 cOf tabOk mixedOk j0iS j09J Tryz.func11 (And.intro j0cN (And.intro j08O (And.intro j0bB (And.intro j0iR trivial)))) trivial
def j0aL:Con:=⟨12,[.v (.list iT)],[(.list iT)],⟨[.box [(.list iT),iT]],[]⟩,[(.list iT),iT],fun h=>Pw.j0gx h⟩
def j0kl:FnD where
 N:=6
 np:=1
 cs:=[]
 ds:=[]
 ro:=[false]
theorem j0iT:Con.OK Tryz.prog j0aL:=
 cOf tabOk mixedOk j0kl j0aL Tryz.func12 trivial trivial
def j00V:Con:=⟨21,[.ref [(.list iT),iT],.v iT],[(.list iT),iT,iT],⟨[.v iT],[.ref [(.list iT),iT]]⟩,[iT,(.list iT),iT],fun h=>Pw.j002 h.1 h.2.1 h.2.2⟩
def j0fa:FnD where
 N:=45
 np:=2
 cs:=[]
 ds:=[]
 ro:=[false]
theorem j01v:Con.OK Tryz.prog j00V:=
 cOf tabOk mixedOk j0fa j00V Tryz.func21 trivial trivial
def j01B:Con:=⟨53,[.ref [(.list iT),iT],.v (.list iT)],[(.list iT),iT,(.list iT)],⟨[.v iT],[.ref [(.list iT),iT]]⟩,[iT,(.list iT),iT],fun h=>Pw.j011 h.1 h.2.1 h.2.2⟩
def j0fb:FnD where
 N:=12
 np:=2
 cs:=[j00V]
 ds:=[]
 modes:=[(21,[false,false])]
 ro:=[false]
theorem j02K:Con.OK Tryz.prog j01B:=
 cOf tabOk mixedOk j0fb j01B Tryz.func53 (And.intro j01v trivial) trivial
def j06g:Con:=⟨70,[.ref [(.list iT),iT],.v .str],[(.list iT),iT,.str],⟨[.v ty60],[.ref [(.list iT),iT]]⟩,[ty60,(.list iT),iT],fun h=>Pw.j02O h.1 h.2.1 h.2.2⟩
def j0fc:FnD where
 N:=98
 np:=2
 cs:=[j00V,j01B]
 ds:=[]
 modes:=[(21,[false,false]),(53,[false,false])]
 ro:=[false]
 dw:=[(7,[[],[],[0],[],[],[0],[],[0],[],[],[],[],[0],[],[],[],[],[],[],[0],[],[],[3968],[0,3968],[],[0],[],[0],[],[],[],[],[4608],[],[320]]),(9,[[],[],[],[5056],[0,5056],[],[]])]
theorem j0em:Con.OK Tryz.prog j06g:=
 cOf tabOk mixedOk j0fc j06g Tryz.func70 (And.intro j01v (And.intro j02K trivial)) trivial
def j07l:Con:=⟨38,[],[],⟨[.own 9 (.list .str)],[]⟩,[(.list .str)],fun h=>Pw.j0cu⟩
def j0iU:FnD where
 N:=2
 np:=0
 cs:=[]
 ds:=[]
 ro:=[true]
theorem j0eh:Con.OK Tryz.prog j07l:=
 cOf tabOk mixedOk j0iU j07l Tryz.func38 trivial trivial
def j02s:Con:=⟨52,[.ref [(.list iT),iT],.v iT],[(.list iT),iT,iT],⟨[.v .bool],[.ref [(.list iT),iT]]⟩,[.bool,(.list iT),iT],fun h=>Pw.j00P h.1 h.2.1 h.2.2⟩
def j0fd:FnD where
 N:=11
 np:=2
 cs:=[j00V]
 ds:=[]
 modes:=[(21,[false,false])]
 ro:=[false]
theorem j05h:Con.OK Tryz.prog j02s:=
 cOf tabOk mixedOk j0fd j02s Tryz.func52 (And.intro j01v trivial) trivial
def j039:Con:=⟨71,[.ref [(.list iT),iT]],[(.list iT),iT],⟨[.own 148 ty12],[.ref [(.list iT),iT]]⟩,[ty12,(.list iT),iT],fun h=>Pw.j02H h.1 h.2⟩
def j0d4:FnD where
 N:=38
 np:=1
 cs:=[j00V,j01B]
 ds:=[⟨0,[.s (.one (.bp 0 0)),.s (.one (.ol 1000000)),sI,sI,.b (.cell [.d (.list iT),.d iT] false),.b (.lst 148 ty8 false)],[iT,iT,(.list iT),iT,ty12],[⟨.exit 0,[.s (.one (.ol 1500100)),.b (.cell [.d (.list iT),.d iT] false),.b (.lst 148 ty8 false)],[(.list iT),iT,ty12]⟩],fun h=>Pw.j01A h.1 h.2.1 h.2.2.1 h.2.2.2.1 h.2.2.2.2⟩]
 modes:=[(21,[false,false]),(53,[false,false])]
 keep:=[(0,⟨[0,3,4,5],[0],[⟨1000000,148,ty8,[.slot 3],false⟩],[]⟩)]
 keepX:=[(0,.exit 0,⟨[3],[0],[⟨1500100,148,ty8,[.slot 3],false⟩],[]⟩)]
 ro:=[true]
theorem j07Q:Con.OK Tryz.prog j039:=
 cOf tabOk mixedOk j0d4 j039 Tryz.func71 (And.intro j01v (And.intro j02K trivial)) (And.intro (fun h=>by kernel_rfl) trivial)
def j05V:Con:=⟨36,[.ref [(.list iT),iT]],[(.list iT),iT],⟨[.vn ty79 [3]],[.ref [(.list iT),iT]]⟩,[ty79,(.list iT),iT],fun h=>Pw.j06n h.1 h.2⟩
def j0en:FnD where
 N:=109
 np:=1
 cs:=[j00V,j01B,j06g,j07l,j02s,j039]
 ds:=[⟨0,[.s (.one (.bp 0 0)),.s (.one (.bp 128 0)),.s (.one (.bp 192 0)),sI,.b (.cell [.d (.list iT),.d iT] false),.b (.cell [.nil,.nil,.nil,.nil] false),.b (.cell [.ol 1000000,.nil,.nil,.nil] false),.b (.lst 77 ty60 false)],[iT,(.list iT),iT,ty61],[⟨.exit 0,[.s (.one (.bp 0 0)),.s (.one (.bp 128 0)),.s (.one (.bp 192 0)),.b (.cell [.d (.list iT),.d iT] false),.b (.cell [.nil,.nil,.nil,.nil] false),.b (.cell [.ol 1500100,.nil,.nil,.nil] false),.b (.lst 77 ty60 false)],[(.list iT),iT,ty61]⟩],fun h=>Pw.j01U h.1 h.2.1 h.2.2.1 h.2.2.2⟩,
  ⟨2,[.s (.one (.bp 0 0)),.s (.one (.bp 128 0)),.s (.one (.bp 192 0)),sI,.b (.cell [.d (.list iT),.d iT] false),.b (.cell [.nil,.nil,.nil,.nil] false),.b (.cell [.ol 1002000,.ol 1002001,.nil,.nil] false),.b (.lst 77 ty60 false),.b (.lst 79 ty48 false)],[iT,(.list iT),iT,ty61,ty51],[⟨.exit 2,[.s (.one (.bp 0 0)),.s (.one (.bp 128 0)),.s (.one (.bp 192 0)),.b (.cell [.d (.list iT),.d iT] false),.b (.cell [.nil,.nil,.nil,.nil] false),.b (.cell [.ol 1502300,.ol 1502301,.nil,.nil] false),.b (.lst 77 ty60 false),.b (.lst 79 ty48 false)],[(.list iT),iT,ty61,ty51]⟩],fun h=>Pw.j01V h.1 h.2.1 h.2.2.1 h.2.2.2.1 h.2.2.2.2⟩,
  ⟨4,[.s (.one (.bp 0 0)),.s (.one (.bp 128 0)),.s (.one (.bp 192 0)),sI,.b (.cell [.d (.list iT),.d iT] false),.b (.cell [.nil,.nil,.nil,.nil] false),.b (.cell [.ol 1004000,.ol 1004001,.ol 1004002,.nil] false),.b (.lst 77 ty60 false),.b (.lst 79 ty48 false),.b (.lst 94 ty22 false)],[iT,(.list iT),iT,ty61,ty51,ty26],[⟨.exit 4,[.s (.one (.bp 128 0)),.s (.one (.bp 192 0)),.b (.cell [.d (.list iT),.d iT] false),.b (.cell [.nil,.nil,.nil,.nil] false),.b (.cell [.ol 1504500,.ol 1504501,.ol 1504502,.nil] false),.b (.lst 77 ty60 false),.b (.lst 79 ty48 false),.b (.lst 94 ty22 false)],[(.list iT),iT,ty61,ty51,ty26]⟩],fun h=>Pw.j01r h.1 h.2.1 h.2.2.1 h.2.2.2.1 h.2.2.2.2.1 h.2.2.2.2.2⟩,
  ⟨6,[.s (.one (.bp 0 0)),.s (.one (.bp 128 0)),.s (.one (.bp 192 0)),sI,.s (.one (.bp 512 0)),sI,sI,.b (.cell [.d (.list iT),.d iT] false),.b (.cell [.nil,.nil,.nil,.nil] false),.b (.cell [.ol 1006000,.ol 1006001,.ol 1006002,.nil] false),.b (.cell [.d .str,.d iT,.ol 1006003] false),.b (.lst 77 ty60 false),.b (.lst 79 ty48 false),.b (.lst 94 ty22 false),.b (.lst 3 iT false)],[iT,iT,iT,(.list iT),iT,.str,iT,ty61,ty51,ty26,(.list iT)],[⟨.exit 6,[.s (.one (.bp 0 0)),.s (.one (.bp 128 0)),.s (.one (.bp 192 0)),sI,.s (.one (.bp 512 0)),.b (.cell [.d (.list iT),.d iT] false),.b (.cell [.nil,.nil,.nil,.nil] false),.b (.cell [.ol 1506700,.ol 1506701,.ol 1506702,.nil] false),.b (.cell [.d .str,.d iT,.ol 1506703] false),.b (.lst 77 ty60 false),.b (.lst 79 ty48 false),.b (.lst 94 ty22 false),.b (.lst 3 iT false)],[iT,(.list iT),iT,.str,iT,ty61,ty51,ty26,(.list iT)]⟩],fun h=>Pw.j01W h.1 h.2.1 h.2.2.1 h.2.2.2.1 h.2.2.2.2.1 h.2.2.2.2.2.1 h.2.2.2.2.2.2.1 h.2.2.2.2.2.2.2.1 h.2.2.2.2.2.2.2.2.1 h.2.2.2.2.2.2.2.2.2.1 h.2.2.2.2.2.2.2.2.2.2⟩]
 modes:=[(21,[false,false]),(38,[]),(52,[false,false]),(53,[false,false]),(70,[false,false]),(71,[false])]
 keep:=[(0,⟨[0,2,3,4],[0,128,192],[⟨1000000,77,ty60,[.cell 192 0],false⟩],[]⟩),
  (2,⟨[0,2,3,5],[0,128,192],[⟨1002000,77,ty60,[.cell 192 0],false⟩,⟨1002001,79,ty48,[.cell 192 1],false⟩],[]⟩),
  (4,⟨[0,2,3,7],[0,128,192],[⟨1004000,77,ty60,[.cell 192 0],false⟩,⟨1004001,79,ty48,[.cell 192 1],false⟩,⟨1004002,94,ty22,[.cell 192 2],false⟩],[]⟩),
  (6,⟨[0,2,3,7,8,9,10],[0,128,192,512],[⟨1006000,77,ty60,[.cell 192 0],false⟩,⟨1006001,79,ty48,[.cell 192 1],false⟩,⟨1006002,94,ty22,[.cell 192 2],false⟩,⟨1006003,3,iT,[.cell 512 2],false⟩],[]⟩)]
 keepX:=[(0,.exit 0,⟨[0,2,3],[0,128,192],[⟨1500100,77,ty60,[.cell 192 0],false⟩],[]⟩),
  (2,.exit 2,⟨[0,2,3],[0,128,192],[⟨1502300,77,ty60,[.cell 192 0],false⟩,⟨1502301,79,ty48,[.cell 192 1],false⟩],[]⟩),
  (4,.exit 4,⟨[2,3],[0,128,192],[⟨1504500,77,ty60,[.cell 192 0],false⟩,⟨1504501,79,ty48,[.cell 192 1],false⟩,⟨1504502,94,ty22,[.cell 192 2],false⟩],[]⟩),
  (6,.exit 6,⟨[0,2,3,7,8],[0,128,192,512],[⟨1506700,77,ty60,[.cell 192 0],false⟩,⟨1506701,79,ty48,[.cell 192 1],false⟩,⟨1506702,94,ty22,[.cell 192 2],false⟩,⟨1506703,3,iT,[.cell 512 2],false⟩],[]⟩)]
 ro:=[false]
 dw:=[(5,[[],[],[],[1344],[],[],[],[],[],[0],[1792],[1856,1000000],[],[192]]),(9,[[2432],[],[],[],[],[],[],[],[],[],[0],[],[0],[],[384],[384]])]
 ns:=[3]
theorem j0dU:Con.OK Tryz.prog j05V:=
 cOf tabOk mixedOk j0en j05V Tryz.func36 (And.intro j01v (And.intro j02K (And.intro j0em (And.intro j0eh (And.intro j05h (And.intro j07Q trivial)))))) (And.intro (fun h=>by kernel_rfl) (And.intro (fun h=>by kernel_rfl) (And.intro (fun h=>by kernel_rfl) (And.intro (fun h=>by kernel_rfl) trivial))))
def j05W:Con:=⟨37,[.ref [(.list iT),iT],.v ty79,.v .str],[(.list iT),iT,ty79,.str],⟨[.v ty67],[.ref [(.list iT),iT]]⟩,[ty67,(.list iT),iT],fun h=>Pw.j06o h.1 h.2.1 h.2.2.1 h.2.2.2⟩
def j0eo:FnD where
 N:=77
 np:=3
 cs:=[j00V,j01B,j02s,j039]
 ds:=[⟨0,[.s (.one (.bp 0 0)),.s (.one (.bp 256 0)),.s (.one (.bp 384 0)),.s (.one (.bp 448 0)),sI,.b (.cell [.d (.list iT),.d iT] false),.b (.cell [.d ty61,.d ty51,.d ty26,.d ty73] false),.b (.cell [.d .str,.d iT,.d iT,.d iT,.d iT,.d iT,.nil,.nil,.d iT,.d iT] false),.b (.cell [.d .str,.d iT,.d iT,.d iT,.d iT,.d iT,.ol 1000000,.nil,.d iT,.d iT] false),.b (.lst 3 iT false)],[iT,(.list iT),iT,ty61,ty51,ty26,ty73,.str,iT,iT,iT,iT,iT,iT,iT,.str,iT,iT,iT,iT,iT,iT,iT,(.list iT)],[⟨.exit 0,[.s (.one (.bp 0 0)),.s (.one (.bp 256 0)),.s (.one (.bp 384 0)),.s (.one (.bp 448 0)),.b (.cell [.d (.list iT),.d iT] false),.b (.cell [.d ty61,.d ty51,.d ty26,.d ty73] false),.b (.cell [.d .str,.d iT,.d iT,.d iT,.d iT,.d iT,.nil,.nil,.d iT,.d iT] false),.b (.cell [.d .str,.d iT,.d iT,.d iT,.d iT,.d iT,.ol 1500100,.nil,.d iT,.d iT] false),.b (.lst 3 iT false)],[(.list iT),iT,ty61,ty51,ty26,ty73,.str,iT,iT,iT,iT,iT,iT,iT,.str,iT,iT,iT,iT,iT,iT,iT,(.list iT)]⟩],fun h=>Pw.j01X h.1 h.2.1 h.2.2.1 h.2.2.2.1 h.2.2.2.2.1 h.2.2.2.2.2.1 h.2.2.2.2.2.2.1 h.2.2.2.2.2.2.2.1 h.2.2.2.2.2.2.2.2.1 h.2.2.2.2.2.2.2.2.2.1 h.2.2.2.2.2.2.2.2.2.2.1 h.2.2.2.2.2.2.2.2.2.2.2.1 h.2.2.2.2.2.2.2.2.2.2.2.2.1 h.2.2.2.2.2.2.2.2.2.2.2.2.2.1 h.2.2.2.2.2.2.2.2.2.2.2.2.2.2.1 h.2.2.2.2.2.2.2.2.2.2.2.2.2.2.2.1 h.2.2.2.2.2.2.2.2.2.2.2.2.2.2.2.2.1 h.2.2.2.2.2.2.2.2.2.2.2.2.2.2.2.2.2.1 h.2.2.2.2.2.2.2.2.2.2.2.2.2.2.2.2.2.2.1 h.2.2.2.2.2.2.2.2.2.2.2.2.2.2.2.2.2.2.2.1 h.2.2.2.2.2.2.2.2.2.2.2.2.2.2.2.2.2.2.2.2.1 h.2.2.2.2.2.2.2.2.2.2.2.2.2.2.2.2.2.2.2.2.2.1 h.2.2.2.2.2.2.2.2.2.2.2.2.2.2.2.2.2.2.2.2.2.2.1 h.2.2.2.2.2.2.2.2.2.2.2.2.2.2.2.2.2.2.2.2.2.2.2⟩]
 modes:=[(21,[false,false]),(52,[false,false]),(53,[false,false]),(71,[false])]
 keep:=[(0,⟨[0,4,6,7,8],[0,256,384,448],[⟨1000000,3,iT,[.cell 448 6],false⟩],[]⟩)]
 keepX:=[(0,.exit 0,⟨[0,4,6,7],[0,256,384,448],[⟨1500100,3,iT,[.cell 448 6],false⟩],[]⟩)]
 ro:=[false]
 dw:=[(7,[[],[],[],[],[],[],[0],[3200],[3264,1000000],[],[448]])]
theorem j0dV:Con.OK Tryz.prog j05W:=
 cOf tabOk mixedOk j0eo j05W Tryz.func37 (And.intro j01v (And.intro j02K (And.intro j05h (And.intro j07Q trivial)))) (And.intro (fun h=>by kernel_rfl) trivial)
def j04U:Con:=⟨22,[.ref [(.list iT),iT]],[(.list iT),iT],⟨[.v iT],[.ref [(.list iT),iT]]⟩,[iT,(.list iT),iT],fun h=>Pw.j05e h.1 h.2⟩
def j0d5:FnD where
 N:=16
 np:=1
 cs:=[j00V,j01B,j02s]
 ds:=[]
 modes:=[(21,[false,false]),(52,[false,false]),(53,[false,false])]
 ro:=[false]
theorem j0bT:Con.OK Tryz.prog j04U:=
 cOf tabOk mixedOk j0d5 j04U Tryz.func22 (And.intro j01v (And.intro j02K (And.intro j05h trivial))) trivial
def j06h:Con:=⟨39,[.ref [(.list iT),iT],.v ty79],[(.list iT),iT,ty79],⟨[.v ty37],[.ref [(.list iT),iT]]⟩,[ty37,(.list iT),iT],fun h=>Pw.j07d h.1 h.2.1 h.2.2⟩
def j0fe:FnD where
 N:=52
 np:=2
 cs:=[j00V,j01B,j02s,j04U]
 ds:=[]
 modes:=[(21,[false,false]),(22,[false]),(52,[false,false]),(53,[false,false])]
 ro:=[false]
 dw:=[(3,[[],[],[],[1344],[0,1344],[],[],[384]]),(8,[[],[],[],[],[],[],[0],[],[],[],[],[384]])]
theorem j0ep:Con.OK Tryz.prog j06h:=
 cOf tabOk mixedOk j0fe j06h Tryz.func39 (And.intro j01v (And.intro j02K (And.intro j05h (And.intro j0bT trivial)))) trivial
def j05y:Con:=⟨13,[.ref [(.list iT),iT],.v iT],[(.list iT),iT,iT],⟨[.v ty79],[.ref [(.list iT),iT]]⟩,[ty79,(.list iT),iT],fun h=>Pw.j05M h.1 h.2.1 h.2.2⟩
def j0dW:FnD where
 N:=69
 np:=2
 cs:=[j00V,j07l,j05V,j05W,j06h]
 ds:=[⟨0,[.s (.one (.bp 0 0)),.s (.one (.bp 256 0)),.s (.one (.bp 320 0)),sI,.b (.cell [.d (.list iT),.d iT] false),.b (.cell [.nil,.nil,.nil,.nil] false),.b (.cell [.d ty61,.d ty51,.d ty26,.ol 1000000] false),.b (.lst 48 ty72 true)],[iT,(.list iT),iT,ty61,ty51,ty26,ty73],[⟨.exit 0,[.s (.one (.bp 256 0)),.s (.one (.bp 320 0)),.b (.cell [.d (.list iT),.d iT] false),.b (.cell [.nil,.nil,.nil,.nil] false),.b (.cell [.d ty61,.d ty51,.d ty26,.ol 1500100] false),.b (.lst 48 ty72 true)],[(.list iT),iT,ty61,ty51,ty26,ty73]⟩],fun h=>Pw.j01O h.1 h.2.1 h.2.2.1 h.2.2.2.1 h.2.2.2.2.1 h.2.2.2.2.2.1 h.2.2.2.2.2.2⟩,
  ⟨2,[.s (.one (.bp 0 0)),.s (.one (.bp 256 0)),.s (.one (.bp 320 0)),sI,.s (.one (.bp 448 0)),sI,.b (.cell [.d (.list iT),.d iT] false),.b (.cell [.nil,.nil,.nil,.nil] false),.b (.cell [.d ty61,.d ty51,.d ty26,.ol 1002000] false),.b (.cell [.d .str,.ol 1002001,.nil] false),.b (.lst 48 ty72 true),.b (.lst 53 ty67 false)],[iT,iT,(.list iT),iT,ty61,ty51,ty26,.str,ty73,ty68],[⟨.exit 2,[.s (.one (.bp 0 0)),.s (.one (.bp 256 0)),.s (.one (.bp 320 0)),sI,.s (.one (.bp 448 0)),.b (.cell [.d (.list iT),.d iT] false),.b (.cell [.nil,.nil,.nil,.nil] false),.b (.cell [.d ty61,.d ty51,.d ty26,.ol 1502300] false),.b (.cell [.d .str,.ol 1502301,.nil] false),.b (.lst 48 ty72 true),.b (.lst 53 ty67 false)],[iT,(.list iT),iT,ty61,ty51,ty26,.str,ty73,ty68]⟩],fun h=>Pw.j01M h.1 h.2.1 h.2.2.1 h.2.2.2.1 h.2.2.2.2.1 h.2.2.2.2.2.1 h.2.2.2.2.2.2.1 h.2.2.2.2.2.2.2.1 h.2.2.2.2.2.2.2.2.1 h.2.2.2.2.2.2.2.2.2⟩,
  ⟨4,[.s (.one (.bp 0 0)),.s (.one (.bp 256 0)),.s (.one (.bp 320 0)),sI,.s (.one (.bp 448 0)),sI,.b (.cell [.d (.list iT),.d iT] false),.b (.cell [.nil,.nil,.nil,.nil] false),.b (.cell [.d ty61,.d ty51,.d ty26,.ol 1004000] false),.b (.cell [.d .str,.ol 1004001,.ol 1004002] false),.b (.lst 48 ty72 true),.b (.lst 53 ty67 false),.b (.lst 73 ty37 false)],[iT,iT,(.list iT),iT,ty61,ty51,ty26,.str,ty73,ty68,ty39],[⟨.exit 4,[.s (.one (.bp 0 0)),.s (.one (.bp 256 0)),.s (.one (.bp 320 0)),sI,.s (.one (.bp 448 0)),.b (.cell [.d (.list iT),.d iT] false),.b (.cell [.nil,.nil,.nil,.nil] false),.b (.cell [.d ty61,.d ty51,.d ty26,.ol 1504500] false),.b (.cell [.d .str,.ol 1504501,.ol 1504502] false),.b (.lst 48 ty72 true),.b (.lst 53 ty67 false),.b (.lst 73 ty37 false)],[iT,(.list iT),iT,ty61,ty51,ty26,.str,ty73,ty68,ty39]⟩],fun h=>Pw.j01N h.1 h.2.1 h.2.2.1 h.2.2.2.1 h.2.2.2.2.1 h.2.2.2.2.2.1 h.2.2.2.2.2.2.1 h.2.2.2.2.2.2.2.1 h.2.2.2.2.2.2.2.2.1 h.2.2.2.2.2.2.2.2.2.1 h.2.2.2.2.2.2.2.2.2.2⟩]
 modes:=[(21,[false,false]),(36,[false]),(37,[false,false,false]),(38,[]),(39,[false,false])]
 keep:=[(0,⟨[0,4,5,6],[0,256,320],[⟨1000000,48,ty72,[.cell 320 3],true⟩],[]⟩),
  (2,⟨[0,4,5,6,7,8],[0,256,320,448],[⟨1002000,48,ty72,[.cell 320 3],false⟩,⟨1002001,53,ty67,[.cell 448 1],false⟩],[]⟩),
  (4,⟨[0,4,5,6,7,9],[0,256,320,448],[⟨1004000,48,ty72,[.cell 320 3],false⟩,⟨1004001,53,ty67,[.cell 448 1],false⟩,⟨1004002,73,ty37,[.cell 448 2],false⟩],[]⟩)]
 keepX:=[(0,.exit 0,⟨[4,5],[0,256,320],[⟨1500100,48,ty72,[.cell 320 3],false⟩],[]⟩),
  (2,.exit 2,⟨[0,4,5,6,7],[0,256,320,448],[⟨1502300,48,ty72,[.cell 320 3],false⟩,⟨1502301,53,ty67,[.cell 448 1],false⟩],[]⟩),
  (4,.exit 4,⟨[0,4,5,6,7],[0,256,320,448],[⟨1504500,48,ty72,[.cell 320 3],false⟩,⟨1504501,53,ty67,[.cell 448 1],false⟩,⟨1504502,73,ty37,[.cell 448 2],false⟩],[]⟩)]
 ro:=[false]
 dw:=[(9,[[],[],[],[],[2432],[],[],[],[],[],[0,1002000],[2880],[2944,1002000,1002001],[],[448]]),(13,[[],[],[],[],[0,1004000],[3776],[3840,1004001,1004002],[],[448]])]
theorem j0d6:Con.OK Tryz.prog j05y:=
 cOf tabOk mixedOk j0dW j05y Tryz.func13 (And.intro j01v (And.intro j0eh (And.intro j0dU (And.intro j0dV (And.intro j0ep trivial))))) (And.intro (fun h=>by kernel_rfl) (And.intro (fun h=>by kernel_rfl) (And.intro (fun h=>by kernel_rfl) trivial)))
def j0aM:Con:=⟨224,[.v (.int .u8)],[(.int .u8)],⟨[.v .bool],[]⟩,[.bool],fun h=>Pw.j0gy h⟩
def j0km:FnD where
 N:=9
 np:=1
 cs:=[]
 ds:=[]
 ro:=[false]
theorem j0iV:Con.OK Tryz.prog j0aM:=
 cOf tabOk mixedOk j0km j0aM Tryz.func224 trivial trivial
end Go.Proofs.Pk
