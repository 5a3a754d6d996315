/- Contracts: each given function is its plain function, printed by a program. -/
import Derived.Test.YtaieocafhcjelaaGreatACon6
noncomputable section
open Go Go.Lft
set_option linter.unusedVariables false
set_option maxRecDepth 100000
namespace Go.Proofs.Pk
def j5u:Con:=⟨143,[.ref [(.list iT),iT]],[(.list iT),iT],⟨[.own 200 ty13],[.ref [(.list iT),iT]]⟩,[ty13,(.list iT),iT],Pw.unc2 Pw.j4E⟩
def jiI:FnD where
 N:=38
 np:=1
 cs:=[j1p,j2G]
 ds:=[⟨0,[.s (.one (.bp 0 0)),.s (.one (.ol 1000000)),sI,sI,.b (.cell [.d (.list iT),.d iT] false),.b (.lst 200 ty8 false)],[iT,iT,(.list iT),iT,ty13],[⟨.exit 0,[.s (.one (.ol 1500100)),.b (.cell [.d (.list iT),.d iT] false),.b (.lst 200 ty8 false)],[(.list iT),iT,ty13]⟩],Pw.unc5 (Pw.j2I)⟩]
 modes:=[(40,[false,false]),(45,[false,false])]
 keep:=[(0,⟨[0,3,4,5],[0],[⟨1000000,200,ty8,[.slot 3],false⟩],[]⟩)]
 keepX:=[(0,.exit 0,⟨[3],[0],[⟨1500100,200,ty8,[.slot 3],false⟩],[]⟩)]
 ro:=[true]
theorem jbN:Con.OK Tryz.prog j5u:=
 cOf j0c j03 jiI j5u Tryz.func143 (j9 j2x (j9 j4G trivial)) (j9 (fun h=>by kernel_rfl) trivial)
def j8N:Con:=⟨71,[.ref [(.list iT),iT]],[(.list iT),iT],⟨[.vn ty84 [3]],[.ref [(.list iT),iT]]⟩,[ty84,(.list iT),iT],Pw.unc2 Pw.j9g⟩
def jkO:FnD where
 N:=109
 np:=1
 cs:=[j1p,j2G,j9x,jaD,j47,j5u]
 ds:=[⟨0,[.s (.one (.bp 0 0)),.s (.one (.bp 128 0)),.s (.one (.bp 192 0)),sI,.b (.cell [.d (.list iT),.d iT] false),.b (.cell [.nil,.nil,.nil,.nil] false),.b (.cell [.ol 1000000,.nil,.nil,.nil] false),.b (.lst 91 ty65 false)],[iT,(.list iT),iT,ty66],[⟨.exit 0,[.s (.one (.bp 0 0)),.s (.one (.bp 128 0)),.s (.one (.bp 192 0)),.b (.cell [.d (.list iT),.d iT] false),.b (.cell [.nil,.nil,.nil,.nil] false),.b (.cell [.ol 1500100,.nil,.nil,.nil] false),.b (.lst 91 ty65 false)],[(.list iT),iT,ty66]⟩],Pw.unc4 (Pw.j3e)⟩,
  ⟨2,[.s (.one (.bp 0 0)),.s (.one (.bp 128 0)),.s (.one (.bp 192 0)),sI,.b (.cell [.d (.list iT),.d iT] false),.b (.cell [.nil,.nil,.nil,.nil] false),.b (.cell [.ol 1002000,.ol 1002001,.nil,.nil] false),.b (.lst 91 ty65 false),.b (.lst 93 ty53 false)],[iT,(.list iT),iT,ty66,ty56],[⟨.exit 2,[.s (.one (.bp 0 0)),.s (.one (.bp 128 0)),.s (.one (.bp 192 0)),.b (.cell [.d (.list iT),.d iT] false),.b (.cell [.nil,.nil,.nil,.nil] false),.b (.cell [.ol 1502300,.ol 1502301,.nil,.nil] false),.b (.lst 91 ty65 false),.b (.lst 93 ty53 false)],[(.list iT),iT,ty66,ty56]⟩],Pw.unc5 (Pw.j3f)⟩,
  ⟨4,[.s (.one (.bp 0 0)),.s (.one (.bp 128 0)),.s (.one (.bp 192 0)),sI,.b (.cell [.d (.list iT),.d iT] false),.b (.cell [.nil,.nil,.nil,.nil] false),.b (.cell [.ol 1004000,.ol 1004001,.ol 1004002,.nil] false),.b (.lst 91 ty65 false),.b (.lst 93 ty53 false),.b (.lst 152 ty24 false)],[iT,(.list iT),iT,ty66,ty56,ty29],[⟨.exit 4,[.s (.one (.bp 128 0)),.s (.one (.bp 192 0)),.b (.cell [.d (.list iT),.d iT] false),.b (.cell [.nil,.nil,.nil,.nil] false),.b (.cell [.ol 1504500,.ol 1504501,.ol 1504502,.nil] false),.b (.lst 91 ty65 false),.b (.lst 93 ty53 false),.b (.lst 152 ty24 false)],[(.list iT),iT,ty66,ty56,ty29]⟩],Pw.unc6 (Pw.j2t)⟩,
  ⟨6,[.s (.one (.bp 0 0)),.s (.one (.bp 128 0)),.s (.one (.bp 192 0)),sI,.s (.one (.bp 512 0)),sI,sI,.b (.cell [.d (.list iT),.d iT] false),.b (.cell [.nil,.nil,.nil,.nil] false),.b (.cell [.ol 1006000,.ol 1006001,.ol 1006002,.nil] false),.b (.cell [.d .str,.d iT,.ol 1006003] false),.b (.lst 91 ty65 false),.b (.lst 93 ty53 false),.b (.lst 152 ty24 false),.b (.lst 3 iT false)],[iT,iT,iT,(.list iT),iT,.str,iT,ty66,ty56,ty29,(.list iT)],[⟨.exit 6,[.s (.one (.bp 0 0)),.s (.one (.bp 128 0)),.s (.one (.bp 192 0)),sI,.s (.one (.bp 512 0)),.b (.cell [.d (.list iT),.d iT] false),.b (.cell [.nil,.nil,.nil,.nil] false),.b (.cell [.ol 1506700,.ol 1506701,.ol 1506702,.nil] false),.b (.cell [.d .str,.d iT,.ol 1506703] false),.b (.lst 91 ty65 false),.b (.lst 93 ty53 false),.b (.lst 152 ty24 false),.b (.lst 3 iT false)],[iT,(.list iT),iT,.str,iT,ty66,ty56,ty29,(.list iT)]⟩],Pw.jrr (Pw.j3g)⟩]
 modes:=[(40,[false,false]),(45,[false,false]),(73,[]),(74,[false,false]),(143,[false]),(149,[false,false])]
 keep:=[(0,⟨[0,2,3,4],[0,128,192],[⟨1000000,91,ty65,[.cell 192 0],false⟩],[]⟩),
  (2,⟨[0,2,3,5],[0,128,192],[⟨1002000,91,ty65,[.cell 192 0],false⟩,⟨1002001,93,ty53,[.cell 192 1],false⟩],[]⟩),
  (4,⟨[0,2,3,7],[0,128,192],[⟨1004000,91,ty65,[.cell 192 0],false⟩,⟨1004001,93,ty53,[.cell 192 1],false⟩,⟨1004002,152,ty24,[.cell 192 2],false⟩],[]⟩),
  (6,⟨[0,2,3,7,8,9,10],[0,128,192,512],[⟨1006000,91,ty65,[.cell 192 0],false⟩,⟨1006001,93,ty53,[.cell 192 1],false⟩,⟨1006002,152,ty24,[.cell 192 2],false⟩,⟨1006003,3,iT,[.cell 512 2],false⟩],[]⟩)]
 keepX:=[(0,.exit 0,⟨[0,2,3],[0,128,192],[⟨1500100,91,ty65,[.cell 192 0],false⟩],[]⟩),
  (2,.exit 2,⟨[0,2,3],[0,128,192],[⟨1502300,91,ty65,[.cell 192 0],false⟩,⟨1502301,93,ty53,[.cell 192 1],false⟩],[]⟩),
  (4,.exit 4,⟨[2,3],[0,128,192],[⟨1504500,91,ty65,[.cell 192 0],false⟩,⟨1504501,93,ty53,[.cell 192 1],false⟩,⟨1504502,152,ty24,[.cell 192 2],false⟩],[]⟩),
  (6,.exit 6,⟨[0,2,3,7,8],[0,128,192,512],[⟨1506700,91,ty65,[.cell 192 0],false⟩,⟨1506701,93,ty53,[.cell 192 1],false⟩,⟨1506702,152,ty24,[.cell 192 2],false⟩,⟨1506703,3,iT,[.cell 512 2],false⟩],[]⟩)]
 ro:=[false]
 dw:=[(5,[[],[],[],[1344],[],[],[],[],[],[0],[1792],[1856,1000000],[],[192]]),(9,[[2432],[],[],[],[],[],[],[],[],[],[0],[],[0],[],[384],[384]])]
 ns:=[3]
theorem jjY:Con.OK Tryz.prog j8N:=
 cOf j0c j03 jkO j8N Tryz.func71 (j9 j2x (j9 j4G (j9 jkN (j9 jjX (j9 j7R (j9 jbN trivial)))))) (j9 (fun h=>by kernel_rfl) (j9 (fun h=>by kernel_rfl) (j9 (fun h=>by kernel_rfl) (j9 (fun h=>by kernel_rfl) trivial))))
def j8O:Con:=⟨72,[.ref [(.list iT),iT],.v ty84,.v .str],[(.list iT),iT,ty84,.str],⟨[.v ty72],[.ref [(.list iT),iT]]⟩,[ty72,(.list iT),iT],Pw.unc4 Pw.j9h⟩
def jkP:FnD where
 N:=77
 np:=3
 cs:=[j1p,j2G,j47,j5u]
 ds:=[⟨0,[.s (.one (.bp 0 0)),.s (.one (.bp 256 0)),.s (.one (.bp 384 0)),.s (.one (.bp 448 0)),sI,.b (.cell [.d (.list iT),.d iT] false),.b (.cell [.d ty66,.d ty56,.d ty29,.d ty78] false),.b (.cell [.d .str,.d iT,.d iT,.d iT,.d iT,.d iT,.nil,.nil,.d iT,.d iT] false),.b (.cell [.d .str,.d iT,.d iT,.d iT,.d iT,.d iT,.ol 1000000,.nil,.d iT,.d iT] false),.b (.lst 3 iT false)],[iT,(.list iT),iT,ty66,ty56,ty29,ty78,.str,iT,iT,iT,iT,iT,iT,iT,.str,iT,iT,iT,iT,iT,iT,iT,(.list iT)],[⟨.exit 0,[.s (.one (.bp 0 0)),.s (.one (.bp 256 0)),.s (.one (.bp 384 0)),.s (.one (.bp 448 0)),.b (.cell [.d (.list iT),.d iT] false),.b (.cell [.d ty66,.d ty56,.d ty29,.d ty78] false),.b (.cell [.d .str,.d iT,.d iT,.d iT,.d iT,.d iT,.nil,.nil,.d iT,.d iT] false),.b (.cell [.d .str,.d iT,.d iT,.d iT,.d iT,.d iT,.ol 1500100,.nil,.d iT,.d iT] false),.b (.lst 3 iT false)],[(.list iT),iT,ty66,ty56,ty29,ty78,.str,iT,iT,iT,iT,iT,iT,iT,.str,iT,iT,iT,iT,iT,iT,iT,(.list iT)]⟩],Pw.jC4 (Pw.j3h)⟩]
 modes:=[(40,[false,false]),(45,[false,false]),(74,[false,false]),(143,[false])]
 keep:=[(0,⟨[0,4,6,7,8],[0,256,384,448],[⟨1000000,3,iT,[.cell 448 6],false⟩],[]⟩)]
 keepX:=[(0,.exit 0,⟨[0,4,6,7],[0,256,384,448],[⟨1500100,3,iT,[.cell 448 6],false⟩],[]⟩)]
 ro:=[false]
 dw:=[(7,[[],[],[],[],[],[],[0],[3200],[3264,1000000],[],[448]])]
theorem jjZ:Con.OK Tryz.prog j8O:=
 cOf j0c j03 jkP j8O Tryz.func72 (j9 j2x (j9 j4G (j9 j7R (j9 jbN trivial)))) (j9 (fun h=>by kernel_rfl) trivial)
def j5v:Con:=⟨22,[.ref [(.list iT),iT]],[(.list iT),iT],⟨[.v iT],[.ref [(.list iT),iT]]⟩,[iT,(.list iT),iT],Pw.unc2 Pw.j60⟩
def jiJ:FnD where
 N:=16
 np:=1
 cs:=[j1p,j2G,j47]
 ds:=[]
 modes:=[(40,[false,false]),(45,[false,false]),(74,[false,false])]
 ro:=[false]
theorem jbO:Con.OK Tryz.prog j5v:=
 cOf j0c j03 jiJ j5v Tryz.func22 (j9 j2x (j9 j4G (j9 j7R trivial))) trivial
def j7b:Con:=⟨37,[.ref [(.list iT),iT],.v ty84],[(.list iT),iT,ty84],⟨[.v ty42],[.ref [(.list iT),iT]]⟩,[ty42,(.list iT),iT],Pw.unc3 Pw.j6S⟩
def jlN:FnD where
 N:=52
 np:=2
 cs:=[j1p,j2G,j47,j5v]
 ds:=[]
 modes:=[(22,[false]),(40,[false,false]),(45,[false,false]),(74,[false,false])]
 ro:=[false]
 dw:=[(3,[[],[],[],[1344],[0,1344],[],[],[384]]),(8,[[],[],[],[],[],[],[0],[],[],[],[],[384]])]
theorem jeF:Con.OK Tryz.prog j7b:=
 cOf j0c j03 jlN j7b Tryz.func37 (j9 j2x (j9 j4G (j9 j7R (j9 jbO trivial)))) trivial
def j8f:Con:=⟨21,[.ref [(.list iT),iT],.v iT],[(.list iT),iT,iT],⟨[.v ty84],[.ref [(.list iT),iT]]⟩,[ty84,(.list iT),iT],Pw.unc3 Pw.j8D⟩
def jk0:FnD where
 N:=69
 np:=2
 cs:=[j1p,jaD,j8N,j8O,j7b]
 ds:=[⟨0,[.s (.one (.bp 0 0)),.s (.one (.bp 256 0)),.s (.one (.bp 320 0)),sI,.b (.cell [.d (.list iT),.d iT] false),.b (.cell [.nil,.nil,.nil,.nil] false),.b (.cell [.d ty66,.d ty56,.d ty29,.ol 1000000] false),.b (.lst 45 ty77 true)],[iT,(.list iT),iT,ty66,ty56,ty29,ty78],[⟨.exit 0,[.s (.one (.bp 256 0)),.s (.one (.bp 320 0)),.b (.cell [.d (.list iT),.d iT] false),.b (.cell [.nil,.nil,.nil,.nil] false),.b (.cell [.d ty66,.d ty56,.d ty29,.ol 1500100] false),.b (.lst 45 ty77 true)],[(.list iT),iT,ty66,ty56,ty29,ty78]⟩],Pw.unc7 (Pw.j31)⟩,
  ⟨2,[.s (.one (.bp 0 0)),.s (.one (.bp 256 0)),.s (.one (.bp 320 0)),sI,.s (.one (.bp 448 0)),sI,.b (.cell [.d (.list iT),.d iT] false),.b (.cell [.nil,.nil,.nil,.nil] false),.b (.cell [.d ty66,.d ty56,.d ty29,.ol 1002000] false),.b (.cell [.d .str,.ol 1002001,.nil] false),.b (.lst 45 ty77 true),.b (.lst 52 ty72 false)],[iT,iT,(.list iT),iT,ty66,ty56,ty29,.str,ty78,ty73],[⟨.exit 2,[.s (.one (.bp 0 0)),.s (.one (.bp 256 0)),.s (.one (.bp 320 0)),sI,.s (.one (.bp 448 0)),.b (.cell [.d (.list iT),.d iT] false),.b (.cell [.nil,.nil,.nil,.nil] false),.b (.cell [.d ty66,.d ty56,.d ty29,.ol 1502300] false),.b (.cell [.d .str,.ol 1502301,.nil] false),.b (.lst 45 ty77 true),.b (.lst 52 ty72 false)],[iT,(.list iT),iT,ty66,ty56,ty29,.str,ty78,ty73]⟩],Pw.jlv (Pw.j2Z)⟩,
  ⟨4,[.s (.one (.bp 0 0)),.s (.one (.bp 256 0)),.s (.one (.bp 320 0)),sI,.s (.one (.bp 448 0)),sI,.b (.cell [.d (.list iT),.d iT] false),.b (.cell [.nil,.nil,.nil,.nil] false),.b (.cell [.d ty66,.d ty56,.d ty29,.ol 1004000] false),.b (.cell [.d .str,.ol 1004001,.ol 1004002] false),.b (.lst 45 ty77 true),.b (.lst 52 ty72 false),.b (.lst 56 ty42 false)],[iT,iT,(.list iT),iT,ty66,ty56,ty29,.str,ty78,ty73,ty44],[⟨.exit 4,[.s (.one (.bp 0 0)),.s (.one (.bp 256 0)),.s (.one (.bp 320 0)),sI,.s (.one (.bp 448 0)),.b (.cell [.d (.list iT),.d iT] false),.b (.cell [.nil,.nil,.nil,.nil] false),.b (.cell [.d ty66,.d ty56,.d ty29,.ol 1504500] false),.b (.cell [.d .str,.ol 1504501,.ol 1504502] false),.b (.lst 45 ty77 true),.b (.lst 52 ty72 false),.b (.lst 56 ty42 false)],[iT,(.list iT),iT,ty66,ty56,ty29,.str,ty78,ty73,ty44]⟩],Pw.jrr (Pw.j30)⟩]
 modes:=[(37,[false,false]),(40,[false,false]),(71,[false]),(72,[false,false,false]),(73,[])]
 keep:=[(0,⟨[0,4,5,6],[0,256,320],[⟨1000000,45,ty77,[.cell 320 3],true⟩],[]⟩),
  (2,⟨[0,4,5,6,7,8],[0,256,320,448],[⟨1002000,45,ty77,[.cell 320 3],false⟩,⟨1002001,52,ty72,[.cell 448 1],false⟩],[]⟩),
  (4,⟨[0,4,5,6,7,9],[0,256,320,448],[⟨1004000,45,ty77,[.cell 320 3],false⟩,⟨1004001,52,ty72,[.cell 448 1],false⟩,⟨1004002,56,ty42,[.cell 448 2],false⟩],[]⟩)]
 keepX:=[(0,.exit 0,⟨[4,5],[0,256,320],[⟨1500100,45,ty77,[.cell 320 3],false⟩],[]⟩),
  (2,.exit 2,⟨[0,4,5,6,7],[0,256,320,448],[⟨1502300,45,ty77,[.cell 320 3],false⟩,⟨1502301,52,ty72,[.cell 448 1],false⟩],[]⟩),
  (4,.exit 4,⟨[0,4,5,6,7],[0,256,320,448],[⟨1504500,45,ty77,[.cell 320 3],false⟩,⟨1504501,52,ty72,[.cell 448 1],false⟩,⟨1504502,56,ty42,[.cell 448 2],false⟩],[]⟩)]
 ro:=[false]
 dw:=[(9,[[],[],[],[],[2432],[],[],[],[],[],[0,1002000],[2880],[2944,1002000,1002001],[],[448]]),(13,[[],[],[],[],[0,1004000],[3776],[3840,1004001,1004002],[],[448]])]
theorem jiK:Con.OK Tryz.prog j8f:=
 cOf j0c j03 jk0 j8f Tryz.func21 (j9 j2x (j9 jjX (j9 jjY (j9 jjZ (j9 jeF trivial))))) (j9 (fun h=>by kernel_rfl) (j9 (fun h=>by kernel_rfl) (j9 (fun h=>by kernel_rfl) trivial)))
def jfp:Con:=⟨378,[.v (.int .u8)],[(.int .u8)],⟨[.v .bool],[]⟩,[.bool],fun h=>Pw.jmY h⟩
def jtj:FnD where
 N:=9
 np:=1
 cs:=[]
 ds:=[]
 ro:=[false]
theorem jrT:Con.OK Tryz.prog jfp:=
 cOf j0c j03 jtj jfp Tryz.func378 trivial trivial
def jgW:Con:=⟨334,[.v .str],[.str],⟨[.v .bool],[]⟩,[.bool],fun h=>Pw.jmd h⟩
def jvA:FnD where
 N:=57
 np:=1
 cs:=[jfp]
 ds:=[⟨0,[.s (.one (.d .str)),sI],[.str,iT],[⟨.ret,[.s (.one (.d .bool))],[.bool]⟩,⟨.exit 0,[],[]⟩],Pw.unc2 (Pw.j6B)⟩]
 modes:=[(378,[false])]
 keep:=[(0,⟨[0,3],[],[],[]⟩)]
 keepX:=[(0,.ret,⟨[2],[],[],[]⟩),
  (0,.exit 0,⟨[],[],[],[]⟩)]
 ro:=[false]
theorem jtk:Con.OK Tryz.prog jgW:=
 cOf j0c j03 jvA jgW Tryz.func334 (j9 jrT trivial) (j9 (fun h=>by kernel_rfl) trivial)
def j93:Con:=⟨283,[.v (.list .str),.v iT],[(.list .str),iT],⟨[.v iT],[]⟩,[iT],Pw.unc2 Pw.jbS⟩
def jvB:FnD where
 N:=26
 np:=2
 cs:=[jgW]
 ds:=[⟨0,[.s (.one (.d (.list .str))),sI,sI],[(.list .str),iT,iT],[⟨.ret,[sI],[iT]⟩,⟨.exit 0,[],[]⟩],Pw.unc3 (Pw.j6C)⟩]
 modes:=[(334,[false])]
 keep:=[(0,⟨[0,1,5],[],[],[]⟩)]
 keepX:=[(0,.ret,⟨[4],[],[],[]⟩),
  (0,.exit 0,⟨[],[],[],[]⟩)]
 ro:=[false]
theorem jfq:Con.OK Tryz.prog j93:=
 cOf j0c j03 jvB j93 Tryz.func283 (j9 jtk trivial) (j9 (fun h=>by kernel_rfl) trivial)
def jar:Con:=⟨196,[.v iT,.v iT,.v iT],[iT,iT,iT],⟨[.v .bool],[]⟩,[.bool],Pw.unc3 Pw.ja0⟩
def jz8:FnD where
 N:=15
 np:=3
 cs:=[]
 ds:=[]
 ro:=[false]
theorem jgX:Con.OK Tryz.prog jar:=
 cOf j0c j03 jz8 jar Tryz.func196 trivial trivial
def jfr:Con:=⟨197,[.v ty55],[ty55],⟨[.v .bool],[]⟩,[.bool],fun h=>Pw.jgC h⟩
def jtl:FnD where
 N:=38
 np:=1
 cs:=[jar]
 ds:=[]
 modes:=[(196,[false,false,false])]
 ro:=[false]
theorem jrU:Con.OK Tryz.prog jfr:=
 cOf j0c j03 jtl jfr Tryz.func197 (j9 jgX trivial) trivial
def jgY:Con:=⟨382,[.v iT],[iT],⟨[.v .bool],[]⟩,[.bool],fun h=>Pw.j1X h⟩
def jvC:FnD where
 N:=16
 np:=1
 cs:=[]
 ds:=[]
 ro:=[false]
theorem jtm:Con.OK Tryz.prog jgY:=
 cOf j0c j03 jvC jgY Tryz.func382 trivial trivial
def jb9:Con:=⟨339,[.v iT,.v iT],[iT,iT],⟨[.v iT],[]⟩,[iT],Pw.unc2 Pw.jf7⟩
def jvD:FnD where
 N:=23
 np:=2
 cs:=[jgY]
 ds:=[]
 modes:=[(382,[false])]
 ro:=[false]
theorem jiL:Con.OK Tryz.prog jb9:=
 cOf j0c j03 jvD jb9 Tryz.func339 (j9 jtm trivial) trivial
def jfs:Con:=⟨381,[.v ty21],[ty21],⟨[.v .bool],[]⟩,[.bool],fun h=>Pw.jjv h⟩
def jtn:FnD where
 N:=36
 np:=1
 cs:=[jb9]
 ds:=[]
 modes:=[(339,[false,false])]
 ro:=[false]
theorem jrV:Con.OK Tryz.prog jfs:=
 cOf j0c j03 jtn jfs Tryz.func381 (j9 jiL trivial) trivial
def jdD:Con:=⟨335,[.v iT],[iT],⟨[.v iT],[]⟩,[iT],fun h=>Pw.jjw h⟩
def jvE:FnD where
 N:=18
 np:=1
 cs:=[]
 ds:=[]
 ro:=[false]
theorem jno:Con.OK Tryz.prog jdD:=
 cOf j0c j03 jvE jdD Tryz.func335 trivial trivial
def jiM:Con:=⟨338,[.v ty21],[ty21],⟨[.v iT,.v iT],[]⟩,[iT,iT],fun h=>Pw.jpG h⟩
def jxl:FnD where
 N:=29
 np:=1
 cs:=[jb9,jfs,jdD]
 ds:=[⟨0,[.s (.one (.bp 64 0)),sI,sI,.b (.cell [.d iT,.d iT,.d iT] false)],[iT,iT,iT,iT,iT],[⟨.exit 0,[.s (.one (.bp 64 0)),sI,.b (.cell [.d iT,.d iT,.d iT] false)],[iT,iT,iT,iT]⟩],Pw.unc5 (Pw.j7q)⟩]
 modes:=[(335,[false]),(339,[false,false]),(381,[false])]
 keep:=[(0,⟨[1,4,5],[64],[],[]⟩)]
 keepX:=[(0,.exit 0,⟨[1,4],[64],[],[]⟩)]
 ro:=[false,false]
theorem r01_Day_ok:Con.OK Tryz.prog jiM:=
 cOf j0c j03 jxl jiM Tryz.func338 (j9 jiL (j9 jrV (j9 jno trivial))) (j9 (fun h=>by kernel_rfl) trivial)
def j9y:Con:=⟨294,[.v iT],[iT],⟨[.v iT],[]⟩,[iT],fun h=>Pw.jf8 h⟩
def jq8:FnD where
 N:=7
 np:=1
 cs:=[]
 ds:=[]
 ro:=[false]
theorem ji4:Con.OK Tryz.prog j9y:=
 cOf j0c j03 jq8 j9y Tryz.func294 trivial trivial
def jiN:Con:=⟨293,[.v iT,.v iT,.v iT,.v iT],[iT,iT,iT,iT],⟨[.v iT,.v iT],[]⟩,[iT,iT],Pw.unc4 Pw.jpH⟩
def jxm:FnD where
 N:=63
 np:=4
 cs:=[jb9,jiM,j9y]
 ds:=[⟨0,[sI,sI,sI,sI,sI,sI],[iT,iT,iT,iT,iT,iT],[⟨.exit 0,[sI,sI,sI,sI,sI],[iT,iT,iT,iT,iT]⟩],Pw.unc6 (Pw.j7r)⟩,
  ⟨2,[sI,sI,sI,sI],[iT,iT,iT,iT],[⟨.exit 2,[sI],[iT]⟩],Pw.unc4 (Pw.j7s)⟩]
 modes:=[(294,[false]),(338,[false]),(339,[false,false])]
 keep:=[(0,⟨[0,1,2,3,10,12],[],[],[]⟩),
  (2,⟨[0,1,10,12],[],[],[]⟩)]
 keepX:=[(0,.exit 0,⟨[0,1,2,10,12],[],[],[]⟩),
  (2,.exit 2,⟨[12],[],[],[]⟩)]
 ro:=[false,false]
theorem r01_Nth_ok:Con.OK Tryz.prog jiN:=
 cOf j0c j03 jxm jiN Tryz.func293 (j9 jiL (j9 r01_Day_ok (j9 ji4 trivial))) (j9 (fun h=>by kernel_rfl) (j9 (fun h=>by kernel_rfl) trivial))
def j8P:Con:=⟨198,[.v ty58],[ty58],⟨[.own 262 ty13],[]⟩,[ty13],fun h=>Pw.j9i h⟩
def jkQ:FnD where
 N:=98
 np:=1
 cs:=[jiN]
 ds:=[⟨0,[.s (.one (.d ty58)),.s (.one (.ol 1000000)),sI,.b (.lst 262 ty8 false)],[ty58,iT,ty13],[⟨.exit 0,[.s (.one (.ol 1500100)),.b (.lst 262 ty8 false)],[ty13]⟩],Pw.unc3 (Pw.j3k)⟩,
  ⟨2,[.s (.one (.d ty58)),.s (.one (.ol 1002000)),sI,sI,.b (.lst 262 ty8 false)],[ty58,iT,iT,ty13],[⟨.exit 2,[.s (.one (.d ty58)),.s (.one (.ol 1502300)),sI,.b (.lst 262 ty8 false)],[ty58,iT,ty13]⟩],Pw.unc4 (Pw.j3j)⟩,
  ⟨4,[.s (.one (.d ty58)),.s (.one (.ol 1004000)),sI,sI,.s (.one (.bp 512 0)),sI,.b (.cell [.d iT,.d iT] false),.b (.lst 262 ty8 false)],[ty58,iT,iT,iT,iT,iT,ty13],[⟨.exit 4,[.s (.one (.d ty58)),.s (.one (.ol 1504500)),sI,sI,.s (.one (.bp 512 0)),sI,.b (.cell [.d iT,.d iT] false),.b (.lst 262 ty8 false)],[ty58,iT,iT,iT,iT,iT,ty13]⟩],Pw.unc7 (Pw.j3i)⟩]
 modes:=[(293,[false,false,false,false])]
 keep:=[(0,⟨[0,3,4],[],[⟨1000000,262,ty8,[.slot 3],false⟩],[]⟩),
  (2,⟨[0,3,4,5],[],[⟨1002000,262,ty8,[.slot 3],false⟩],[]⟩),
  (4,⟨[0,3,4,5,8,9],[512],[⟨1004000,262,ty8,[.slot 3],false⟩],[]⟩)]
 keepX:=[(0,.exit 0,⟨[3],[],[⟨1500100,262,ty8,[.slot 3],false⟩],[]⟩),
  (2,.exit 2,⟨[0,3,4],[],[⟨1502300,262,ty8,[.slot 3],false⟩],[]⟩),
  (4,.exit 4,⟨[0,3,4,5,8,9],[512],[⟨1504500,262,ty8,[.slot 3],false⟩],[]⟩)]
 ro:=[true]
 dw:=[(9,[[],[],[],[],[],[],[],[],[],[],[],[],[],[],[512],[512]]),(14,[[],[],[],[],[],[],[],[5376]])]
theorem jk1:Con.OK Tryz.prog j8P:=
 cOf j0c j03 jkQ j8P Tryz.func198 (j9 r01_Nth_ok trivial) (j9 (fun h=>by kernel_rfl) (j9 (fun h=>by kernel_rfl) (j9 (fun h=>by kernel_rfl) trivial)))
def j4P:Con:=⟨128,[.v ty65],[ty65],⟨[.own 186 ty13,.v iT],[]⟩,[ty13,iT],fun h=>Pw.j1H h⟩
def jkR:FnD where
 N:=119
 np:=1
 cs:=[jar,jfr,j8P]
 ds:=[⟨0,[.s (.one (.bp 64 0)),sI,sI,.b (.cell [.d .str,.d iT,.d ty58] false)],[iT,iT,.str,iT,ty58],[⟨.ret,[.s (.one (.nil)),sI],[iT]⟩,⟨.exit 0,[.s (.one (.bp 64 0)),sI,.b (.cell [.d .str,.d iT,.d ty58] false)],[iT,.str,iT,ty58]⟩],Pw.unc5 (Pw.j3l)⟩,
  ⟨2,[.s (.one (.ol 1002000)),.s (.one (.ol 1002001)),sI,sI,.b (.lst 186 ty8 false),.b (.lst 262 ty8 false)],[iT,iT,ty13,ty13],[⟨.ret,[.s (.one (.nil)),sI],[iT]⟩,⟨.exit 2,[.s (.one (.ol 1502300)),.b (.lst 186 ty8 false)],[ty13]⟩],Pw.unc4 (Pw.j3m)⟩]
 modes:=[(196,[false,false,false]),(197,[false]),(198,[false])]
 keep:=[(0,⟨[1,4,5],[64],[],[]⟩),
  (2,⟨[6,7,8,9],[],[⟨1002000,186,ty8,[.slot 6],false⟩,⟨1002001,262,ty8,[.slot 7],false⟩],[]⟩)]
 keepX:=[(0,.ret,⟨[2,3],[],[],[]⟩),
  (0,.exit 0,⟨[1,4],[64],[],[]⟩),
  (2,.ret,⟨[2,3],[],[],[]⟩),
  (2,.exit 2,⟨[6],[],[⟨1502300,186,ty8,[.slot 6],false⟩],[]⟩)]
 ro:=[true,false]
 dw:=[(21,[[],[],[],[],[],[],[],[],[],[],[],[],[],[640],[640]]),(24,[[],[],[7296],[7360,1002000],[],[],[],[]])]
theorem j9z:Con.OK Tryz.prog j4P:=
 cOf j0c j03 jkR j4P Tryz.func128 (j9 jgX (j9 jrU (j9 jk1 trivial))) (j9 (fun h=>by kernel_rfl) (j9 (fun h=>by kernel_rfl) trivial))
end Go.Proofs.Pk
