/- Contracts: each given function is its plain function, printed by a program. -/
import Derived.Test.YtpbnnhakjhalaaaGreatSLCon5
noncomputable section
open Go Go.Lft
set_option linter.unusedVariables false
set_option maxRecDepth 100000
namespace Go.Proofs.Pk
def j73:Con:=⟨147,[.ref [(.list iT),iT],.v .str],[(.list iT),iT,.str],⟨[.v ty65],[.ref [(.list iT),iT]]⟩,[ty65,(.list iT),iT],Pw.unc3 Pw.j3r⟩
def jgM:FnD where
 N:=98
 np:=2
 cs:=[j0P,j1B]
 ds:=[]
 modes:=[(27,[false,false]),(32,[false,false])]
 ro:=[false]
 dw:=[(7,[[],[],[0],[],[],[0],[],[0],[],[],[],[],[0],[],[],[],[],[],[],[0],[],[],[3968],[0,3968],[],[0],[],[0],[],[],[],[],[4608],[],[320]]),(9,[[],[],[],[5056],[0,5056],[],[]])]
theorem jg6:Con.OK Tryz.prog j73:=
 cOf j0l j04 jgM j73 Tryz.func147 (j9 j1w (j9 j2P trivial)) trivial
def j7U:Con:=⟨67,[],[],⟨[.own 9 (.list .str)],[]⟩,[(.list .str)],fun h=>Pw.jdk⟩
def jmd:FnD where
 N:=2
 np:=0
 cs:=[]
 ds:=[]
 ro:=[true]
theorem jfo:Con.OK Tryz.prog j7U:=
 cOf j0l j04 jmd j7U Tryz.func67 trivial trivial
def j32:Con:=⟨74,[.ref [(.list iT),iT],.v iT],[(.list iT),iT,iT],⟨[.v .bool],[.ref [(.list iT),iT]]⟩,[.bool,(.list iT),iT],Pw.unc3 Pw.j0Z⟩
def jgN:FnD where
 N:=11
 np:=2
 cs:=[j0P]
 ds:=[]
 modes:=[(27,[false,false])]
 ro:=[false]
theorem j5H:Con.OK Tryz.prog j32:=
 cOf j0l j04 jgN j32 Tryz.func74 (j9 j1w trivial) trivial
def j3W:Con:=⟨121,[.ref [(.list iT),iT]],[(.list iT),iT],⟨[.own 182 ty13],[.ref [(.list iT),iT]]⟩,[ty13,(.list iT),iT],Pw.unc2 Pw.j3u⟩
def jei:FnD where
 N:=38
 np:=1
 cs:=[j0P,j1B]
 ds:=[⟨0,[.s (.one (.bp 0 0)),.s (.one (.ol 1000000)),sI,sI,.b (.cell [.d (.list iT),.d iT] false),.b (.lst 182 ty8 false)],[iT,iT,(.list iT),iT,ty13],[⟨.exit 0,[.s (.one (.ol 1500100)),.b (.cell [.d (.list iT),.d iT] false),.b (.lst 182 ty8 false)],[(.list iT),iT,ty13]⟩],Pw.unc5 (Pw.j25)⟩]
 modes:=[(27,[false,false]),(32,[false,false])]
 keep:=[(0,⟨[0,3,4,5],[0],[⟨1000000,182,ty8,[.slot 3],false⟩],[]⟩)]
 keepX:=[(0,.exit 0,⟨[3],[0],[⟨1500100,182,ty8,[.slot 3],false⟩],[]⟩)]
 ro:=[true]
theorem j8X:Con.OK Tryz.prog j3W:=
 cOf j0l j04 jei j3W Tryz.func121 (j9 j1w (j9 j2P trivial)) (j9 (fun h=>by kernel_rfl) trivial)
def j6r:Con:=⟨65,[.ref [(.list iT),iT]],[(.list iT),iT],⟨[.vn ty84 [3]],[.ref [(.list iT),iT]]⟩,[ty84,(.list iT),iT],Pw.unc2 Pw.j6S⟩
def jg7:FnD where
 N:=109
 np:=1
 cs:=[j0P,j1B,j73,j7U,j32,j3W]
 ds:=[⟨0,[.s (.one (.bp 0 0)),.s (.one (.bp 128 0)),.s (.one (.bp 192 0)),sI,.b (.cell [.d (.list iT),.d iT] false),.b (.cell [.nil,.nil,.nil,.nil] false),.b (.cell [.ol 1000000,.nil,.nil,.nil] false),.b (.lst 68 ty65 false)],[iT,(.list iT),iT,ty66],[⟨.exit 0,[.s (.one (.bp 0 0)),.s (.one (.bp 128 0)),.s (.one (.bp 192 0)),.b (.cell [.d (.list iT),.d iT] false),.b (.cell [.nil,.nil,.nil,.nil] false),.b (.cell [.ol 1500100,.nil,.nil,.nil] false),.b (.lst 68 ty65 false)],[(.list iT),iT,ty66]⟩],Pw.unc4 (Pw.j2w)⟩,
  ⟨2,[.s (.one (.bp 0 0)),.s (.one (.bp 128 0)),.s (.one (.bp 192 0)),sI,.b (.cell [.d (.list iT),.d iT] false),.b (.cell [.nil,.nil,.nil,.nil] false),.b (.cell [.ol 1002000,.ol 1002001,.nil,.nil] false),.b (.lst 68 ty65 false),.b (.lst 71 ty53 false)],[iT,(.list iT),iT,ty66,ty56],[⟨.exit 2,[.s (.one (.bp 0 0)),.s (.one (.bp 128 0)),.s (.one (.bp 192 0)),.b (.cell [.d (.list iT),.d iT] false),.b (.cell [.nil,.nil,.nil,.nil] false),.b (.cell [.ol 1502300,.ol 1502301,.nil,.nil] false),.b (.lst 68 ty65 false),.b (.lst 71 ty53 false)],[(.list iT),iT,ty66,ty56]⟩],Pw.unc5 (Pw.j2x)⟩,
  ⟨4,[.s (.one (.bp 0 0)),.s (.one (.bp 128 0)),.s (.one (.bp 192 0)),sI,.b (.cell [.d (.list iT),.d iT] false),.b (.cell [.nil,.nil,.nil,.nil] false),.b (.cell [.ol 1004000,.ol 1004001,.ol 1004002,.nil] false),.b (.lst 68 ty65 false),.b (.lst 71 ty53 false),.b (.lst 120 ty24 false)],[iT,(.list iT),iT,ty66,ty56,ty29],[⟨.exit 4,[.s (.one (.bp 128 0)),.s (.one (.bp 192 0)),.b (.cell [.d (.list iT),.d iT] false),.b (.cell [.nil,.nil,.nil,.nil] false),.b (.cell [.ol 1504500,.ol 1504501,.ol 1504502,.nil] false),.b (.lst 68 ty65 false),.b (.lst 71 ty53 false),.b (.lst 120 ty24 false)],[(.list iT),iT,ty66,ty56,ty29]⟩],Pw.unc6 (Pw.j1U)⟩,
  ⟨6,[.s (.one (.bp 0 0)),.s (.one (.bp 128 0)),.s (.one (.bp 192 0)),sI,.s (.one (.bp 512 0)),sI,sI,.b (.cell [.d (.list iT),.d iT] false),.b (.cell [.nil,.nil,.nil,.nil] false),.b (.cell [.ol 1006000,.ol 1006001,.ol 1006002,.nil] false),.b (.cell [.d .str,.d iT,.ol 1006003] false),.b (.lst 68 ty65 false),.b (.lst 71 ty53 false),.b (.lst 120 ty24 false),.b (.lst 3 iT false)],[iT,iT,iT,(.list iT),iT,.str,iT,ty66,ty56,ty29,(.list iT)],[⟨.exit 6,[.s (.one (.bp 0 0)),.s (.one (.bp 128 0)),.s (.one (.bp 192 0)),sI,.s (.one (.bp 512 0)),.b (.cell [.d (.list iT),.d iT] false),.b (.cell [.nil,.nil,.nil,.nil] false),.b (.cell [.ol 1506700,.ol 1506701,.ol 1506702,.nil] false),.b (.cell [.d .str,.d iT,.ol 1506703] false),.b (.lst 68 ty65 false),.b (.lst 71 ty53 false),.b (.lst 120 ty24 false),.b (.lst 3 iT false)],[iT,(.list iT),iT,.str,iT,ty66,ty56,ty29,(.list iT)]⟩],Pw.jrN (Pw.j2y)⟩]
 modes:=[(27,[false,false]),(32,[false,false]),(67,[]),(74,[false,false]),(121,[false]),(147,[false,false])]
 keep:=[(0,⟨[0,2,3,4],[0,128,192],[⟨1000000,68,ty65,[.cell 192 0],false⟩],[]⟩),
  (2,⟨[0,2,3,5],[0,128,192],[⟨1002000,68,ty65,[.cell 192 0],false⟩,⟨1002001,71,ty53,[.cell 192 1],false⟩],[]⟩),
  (4,⟨[0,2,3,7],[0,128,192],[⟨1004000,68,ty65,[.cell 192 0],false⟩,⟨1004001,71,ty53,[.cell 192 1],false⟩,⟨1004002,120,ty24,[.cell 192 2],false⟩],[]⟩),
  (6,⟨[0,2,3,7,8,9,10],[0,128,192,512],[⟨1006000,68,ty65,[.cell 192 0],false⟩,⟨1006001,71,ty53,[.cell 192 1],false⟩,⟨1006002,120,ty24,[.cell 192 2],false⟩,⟨1006003,3,iT,[.cell 512 2],false⟩],[]⟩)]
 keepX:=[(0,.exit 0,⟨[0,2,3],[0,128,192],[⟨1500100,68,ty65,[.cell 192 0],false⟩],[]⟩),
  (2,.exit 2,⟨[0,2,3],[0,128,192],[⟨1502300,68,ty65,[.cell 192 0],false⟩,⟨1502301,71,ty53,[.cell 192 1],false⟩],[]⟩),
  (4,.exit 4,⟨[2,3],[0,128,192],[⟨1504500,68,ty65,[.cell 192 0],false⟩,⟨1504501,71,ty53,[.cell 192 1],false⟩,⟨1504502,120,ty24,[.cell 192 2],false⟩],[]⟩),
  (6,.exit 6,⟨[0,2,3,7,8],[0,128,192,512],[⟨1506700,68,ty65,[.cell 192 0],false⟩,⟨1506701,71,ty53,[.cell 192 1],false⟩,⟨1506702,120,ty24,[.cell 192 2],false⟩,⟨1506703,3,iT,[.cell 512 2],false⟩],[]⟩)]
 ro:=[false]
 dw:=[(5,[[],[],[],[1344],[],[],[],[],[],[0],[1792],[1856,1000000],[],[192]]),(9,[[2432],[],[],[],[],[],[],[],[],[],[0],[],[0],[],[384],[384]])]
 ns:=[3]
theorem jfp:Con.OK Tryz.prog j6r:=
 cOf j0l j04 jg7 j6r Tryz.func65 (j9 j1w (j9 j2P (j9 jg6 (j9 jfo (j9 j5H (j9 j8X trivial)))))) (j9 (fun h=>by kernel_rfl) (j9 (fun h=>by kernel_rfl) (j9 (fun h=>by kernel_rfl) (j9 (fun h=>by kernel_rfl) trivial))))
def j6s:Con:=⟨66,[.ref [(.list iT),iT],.v ty84,.v .str],[(.list iT),iT,ty84,.str],⟨[.v ty72],[.ref [(.list iT),iT]]⟩,[ty72,(.list iT),iT],Pw.unc4 Pw.j6T⟩
def jg8:FnD where
 N:=77
 np:=3
 cs:=[j0P,j1B,j32,j3W]
 ds:=[⟨0,[.s (.one (.bp 0 0)),.s (.one (.bp 256 0)),.s (.one (.bp 384 0)),.s (.one (.bp 448 0)),sI,.b (.cell [.d (.list iT),.d iT] false),.b (.cell [.d ty66,.d ty56,.d ty29,.d ty78] false),.b (.cell [.d .str,.d iT,.d iT,.d iT,.d iT,.d iT,.nil,.nil,.d iT,.d iT] false),.b (.cell [.d .str,.d iT,.d iT,.d iT,.d iT,.d iT,.ol 1000000,.nil,.d iT,.d iT] false),.b (.lst 3 iT false)],[iT,(.list iT),iT,ty66,ty56,ty29,ty78,.str,iT,iT,iT,iT,iT,iT,iT,.str,iT,iT,iT,iT,iT,iT,iT,(.list iT)],[⟨.exit 0,[.s (.one (.bp 0 0)),.s (.one (.bp 256 0)),.s (.one (.bp 384 0)),.s (.one (.bp 448 0)),.b (.cell [.d (.list iT),.d iT] false),.b (.cell [.d ty66,.d ty56,.d ty29,.d ty78] false),.b (.cell [.d .str,.d iT,.d iT,.d iT,.d iT,.d iT,.nil,.nil,.d iT,.d iT] false),.b (.cell [.d .str,.d iT,.d iT,.d iT,.d iT,.d iT,.ol 1500100,.nil,.d iT,.d iT] false),.b (.lst 3 iT false)],[(.list iT),iT,ty66,ty56,ty29,ty78,.str,iT,iT,iT,iT,iT,iT,iT,.str,iT,iT,iT,iT,iT,iT,iT,(.list iT)]⟩],Pw.jtM (Pw.j2z)⟩]
 modes:=[(27,[false,false]),(32,[false,false]),(74,[false,false]),(121,[false])]
 keep:=[(0,⟨[0,4,6,7,8],[0,256,384,448],[⟨1000000,3,iT,[.cell 448 6],false⟩],[]⟩)]
 keepX:=[(0,.exit 0,⟨[0,4,6,7],[0,256,384,448],[⟨1500100,3,iT,[.cell 448 6],false⟩],[]⟩)]
 ro:=[false]
 dw:=[(7,[[],[],[],[],[],[],[0],[3200],[3264,1000000],[],[448]])]
theorem jfq:Con.OK Tryz.prog j6s:=
 cOf j0l j04 jg8 j6s Tryz.func66 (j9 j1w (j9 j2P (j9 j5H (j9 j8X trivial)))) (j9 (fun h=>by kernel_rfl) trivial)
def j3X:Con:=⟨25,[.ref [(.list iT),iT]],[(.list iT),iT],⟨[.v iT],[.ref [(.list iT),iT]]⟩,[iT,(.list iT),iT],Pw.unc2 Pw.j3v⟩
def jej:FnD where
 N:=16
 np:=1
 cs:=[j0P,j1B,j32]
 ds:=[]
 modes:=[(27,[false,false]),(32,[false,false]),(74,[false,false])]
 ro:=[false]
theorem j8Y:Con.OK Tryz.prog j3X:=
 cOf j0l j04 jej j3X Tryz.func25 (j9 j1w (j9 j2P (j9 j5H trivial))) trivial
def j74:Con:=⟨23,[.ref [(.list iT),iT],.v ty84],[(.list iT),iT,ty84],⟨[.v ty42],[.ref [(.list iT),iT]]⟩,[ty42,(.list iT),iT],Pw.unc3 Pw.j7O⟩
def jgO:FnD where
 N:=52
 np:=2
 cs:=[j0P,j1B,j32,j3X]
 ds:=[]
 modes:=[(25,[false]),(27,[false,false]),(32,[false,false]),(74,[false,false])]
 ro:=[false]
 dw:=[(3,[[],[],[],[1344],[0,1344],[],[],[384]]),(8,[[],[],[],[],[],[],[0],[],[],[],[],[384]])]
theorem jg9:Con.OK Tryz.prog j74:=
 cOf j0l j04 jgO j74 Tryz.func23 (j9 j1w (j9 j2P (j9 j5H (j9 j8Y trivial)))) trivial
def j63:Con:=⟨19,[.ref [(.list iT),iT],.v iT],[(.list iT),iT,iT],⟨[.v ty84],[.ref [(.list iT),iT]]⟩,[ty84,(.list iT),iT],Pw.unc3 Pw.j6j⟩
def jfr:FnD where
 N:=69
 np:=2
 cs:=[j0P,j7U,j6r,j6s,j74]
 ds:=[⟨0,[.s (.one (.bp 0 0)),.s (.one (.bp 256 0)),.s (.one (.bp 320 0)),sI,.b (.cell [.d (.list iT),.d iT] false),.b (.cell [.nil,.nil,.nil,.nil] false),.b (.cell [.d ty66,.d ty56,.d ty29,.ol 1000000] false),.b (.lst 38 ty77 true)],[iT,(.list iT),iT,ty66,ty56,ty29,ty78],[⟨.exit 0,[.s (.one (.bp 256 0)),.s (.one (.bp 320 0)),.b (.cell [.d (.list iT),.d iT] false),.b (.cell [.nil,.nil,.nil,.nil] false),.b (.cell [.d ty66,.d ty56,.d ty29,.ol 1500100] false),.b (.lst 38 ty77 true)],[(.list iT),iT,ty66,ty56,ty29,ty78]⟩],Pw.unc7 (Pw.j2l)⟩,
  ⟨2,[.s (.one (.bp 0 0)),.s (.one (.bp 256 0)),.s (.one (.bp 320 0)),sI,.s (.one (.bp 448 0)),sI,.b (.cell [.d (.list iT),.d iT] false),.b (.cell [.nil,.nil,.nil,.nil] false),.b (.cell [.d ty66,.d ty56,.d ty29,.ol 1002000] false),.b (.cell [.d .str,.ol 1002001,.nil] false),.b (.lst 38 ty77 true),.b (.lst 111 ty72 false)],[iT,iT,(.list iT),iT,ty66,ty56,ty29,.str,ty78,ty73],[⟨.exit 2,[.s (.one (.bp 0 0)),.s (.one (.bp 256 0)),.s (.one (.bp 320 0)),sI,.s (.one (.bp 448 0)),.b (.cell [.d (.list iT),.d iT] false),.b (.cell [.nil,.nil,.nil,.nil] false),.b (.cell [.d ty66,.d ty56,.d ty29,.ol 1502300] false),.b (.cell [.d .str,.ol 1502301,.nil] false),.b (.lst 38 ty77 true),.b (.lst 111 ty72 false)],[iT,(.list iT),iT,ty66,ty56,ty29,.str,ty78,ty73]⟩],Pw.jrM (Pw.j2j)⟩,
  ⟨4,[.s (.one (.bp 0 0)),.s (.one (.bp 256 0)),.s (.one (.bp 320 0)),sI,.s (.one (.bp 448 0)),sI,.b (.cell [.d (.list iT),.d iT] false),.b (.cell [.nil,.nil,.nil,.nil] false),.b (.cell [.d ty66,.d ty56,.d ty29,.ol 1004000] false),.b (.cell [.d .str,.ol 1004001,.ol 1004002] false),.b (.lst 38 ty77 true),.b (.lst 111 ty72 false),.b (.lst 46 ty42 false)],[iT,iT,(.list iT),iT,ty66,ty56,ty29,.str,ty78,ty73,ty44],[⟨.exit 4,[.s (.one (.bp 0 0)),.s (.one (.bp 256 0)),.s (.one (.bp 320 0)),sI,.s (.one (.bp 448 0)),.b (.cell [.d (.list iT),.d iT] false),.b (.cell [.nil,.nil,.nil,.nil] false),.b (.cell [.d ty66,.d ty56,.d ty29,.ol 1504500] false),.b (.cell [.d .str,.ol 1504501,.ol 1504502] false),.b (.lst 38 ty77 true),.b (.lst 111 ty72 false),.b (.lst 46 ty42 false)],[iT,(.list iT),iT,ty66,ty56,ty29,.str,ty78,ty73,ty44]⟩],Pw.jrN (Pw.j2k)⟩]
 modes:=[(23,[false,false]),(27,[false,false]),(65,[false]),(66,[false,false,false]),(67,[])]
 keep:=[(0,⟨[0,4,5,6],[0,256,320],[⟨1000000,38,ty77,[.cell 320 3],true⟩],[]⟩),
  (2,⟨[0,4,5,6,7,8],[0,256,320,448],[⟨1002000,38,ty77,[.cell 320 3],false⟩,⟨1002001,111,ty72,[.cell 448 1],false⟩],[]⟩),
  (4,⟨[0,4,5,6,7,9],[0,256,320,448],[⟨1004000,38,ty77,[.cell 320 3],false⟩,⟨1004001,111,ty72,[.cell 448 1],false⟩,⟨1004002,46,ty42,[.cell 448 2],false⟩],[]⟩)]
 keepX:=[(0,.exit 0,⟨[4,5],[0,256,320],[⟨1500100,38,ty77,[.cell 320 3],false⟩],[]⟩),
  (2,.exit 2,⟨[0,4,5,6,7],[0,256,320,448],[⟨1502300,38,ty77,[.cell 320 3],false⟩,⟨1502301,111,ty72,[.cell 448 1],false⟩],[]⟩),
  (4,.exit 4,⟨[0,4,5,6,7],[0,256,320,448],[⟨1504500,38,ty77,[.cell 320 3],false⟩,⟨1504501,111,ty72,[.cell 448 1],false⟩,⟨1504502,46,ty42,[.cell 448 2],false⟩],[]⟩)]
 ro:=[false]
 dw:=[(9,[[],[],[],[],[2432],[],[],[],[],[],[0,1002000],[2880],[2944,1002000,1002001],[],[448]]),(13,[[],[],[],[],[0,1004000],[3776],[3840,1004001,1004002],[],[448]])]
theorem jek:Con.OK Tryz.prog j63:=
 cOf j0l j04 jfr j63 Tryz.func19 (j9 j1w (j9 jfo (j9 jfp (j9 jfq (j9 jg9 trivial))))) (j9 (fun h=>by kernel_rfl) (j9 (fun h=>by kernel_rfl) (j9 (fun h=>by kernel_rfl) trivial)))
def jbT:Con:=⟨28,[.v ty84],[ty84],⟨[.raw [2560,1920,2112] [.s (.st [.d ty66,.d ty56,.d ty29,.s1 2560]),.b (.cell [.d .str,.ol 1920,.ol 2112] false),.b (.lst 111 ty72 false),.b (.lst 46 ty42 false)]],[]⟩,[ty66,ty56,ty29,.str,ty73,ty44],fun h=>Pw.jcS h⟩
def jni:FnD where
 N:=43
 np:=1
 cs:=[]
 ds:=[⟨0,[],[],[],fun _=>none⟩]
 dw:=[(1,[[],[],[512],[],[],[704],[],[],[896],[],[192],[192]]),(6,[[],[],[1920],[],[],[2112],[],[320],[],[320]])]
 un:=[0]
 pre:=[(8,[.da [(.cell 192 0,ty66),(.cell 192 1,ty56),(.cell 192 2,ty29)]])]
 rw:=true
 rn:=[2560,1920,2112]
 b1:=[39]
theorem jme:Con.OK Tryz.prog jbT:=
 cOf j0l j04 jni jbT Tryz.func28 trivial (j9 (fun h=>by kernel_rfl) trivial)
def j8h:Con:=⟨7,[.v (.list iT)],[(.list iT)],⟨[.v .bool],[]⟩,[.bool],fun h=>Pw.j7F h⟩
def jel:FnD where
 N:=107
 np:=1
 cs:=[jaA,j98,jaL,jbS,j0P,j1B,j3X,j63,jbT]
 ds:=[⟨0,[.s (.one (.bp 1216 0)),.s (.one (.bp 256 0)),sI,sI,sI,.s (.one (.bp 512 0)),sI,.b (.cell [.d ty66,.d ty56,.d ty29,.d ty78] false),.b (.cell [.d ty66,.d ty56,.d ty29,.s1 2560] false),.b (.cell [.d (.list iT),.d iT] false),.b (.cell [.d .str,.d ty73,.d ty44] true)],[iT,iT,iT,iT,ty66,ty56,ty29,ty78,ty66,ty56,ty29,(.list iT),iT,.str,ty73,ty44],[⟨.ret,[.s (.one (.d .bool))],[.bool]⟩,⟨.exit 0,[],[]⟩],Pw.jtJ (Pw.j26)⟩]
 modes:=[(15,[false]),(17,[false]),(19,[false,false]),(25,[false]),(27,[false,false]),(28,[false]),(31,[]),(32,[false,false]),(33,[false,false,false])]
 keep:=[(0,⟨[3,4,5,6,7,8,9],[256,512,1216,2560],[],[]⟩)]
 keepX:=[(0,.ret,⟨[2],[],[],[]⟩),
  (0,.exit 0,⟨[],[],[],[]⟩)]
 ro:=[false]
 dw:=[(9,[[],[],[],[],[],[],[],[],[],[],[],[3008],[2112,3072],[],[],[2560]])]
 pre:=[(10,[.se 2560])]
theorem law12_StackLeaves_ok:Con.OK Tryz.prog j8h:=
 cOf j0l j04 jel j8h Tryz.func7 (j9 jks (j9 jgx (j9 jkN (j9 jmc (j9 j1w (j9 j2P (j9 j8Y (j9 jek (j9 jme trivial))))))))) (j9 (fun h=>by kernel_rfl) trivial)
def jdo:Con:=⟨191,[.v iT,.v iT,.v iT],[iT,iT,iT],⟨[.v .bool],[]⟩,[.bool],Pw.unc3 Pw.jb6⟩
def jrQ:FnD where
 N:=15
 np:=3
 cs:=[]
 ds:=[]
 ro:=[false]
theorem jmf:Con.OK Tryz.prog jdo:=
 cOf j0l j04 jrQ jdo Tryz.func191 trivial trivial
def jbU:Con:=⟨192,[.v ty55],[ty55],⟨[.v .bool],[]⟩,[.bool],fun h=>Pw.jcT h⟩
def jnj:FnD where
 N:=38
 np:=1
 cs:=[jdo]
 ds:=[]
 modes:=[(191,[false,false,false])]
 ro:=[false]
theorem jmg:Con.OK Tryz.prog jbU:=
 cOf j0l j04 jnj jbU Tryz.func192 (j9 jmf trivial) trivial
def jd1:Con:=⟨390,[.v iT],[iT],⟨[.v .bool],[]⟩,[.bool],fun h=>Pw.j1s h⟩
def jp0:FnD where
 N:=16
 np:=1
 cs:=[]
 ds:=[]
 ro:=[false]
theorem jnk:Con.OK Tryz.prog jd1:=
 cOf j0l j04 jp0 jd1 Tryz.func390 trivial trivial
def j8i:Con:=⟨338,[.v iT,.v iT],[iT,iT],⟨[.v iT],[]⟩,[iT],Pw.unc2 Pw.jbI⟩
def jp1:FnD where
 N:=23
 np:=2
 cs:=[jd1]
 ds:=[]
 modes:=[(390,[false])]
 ro:=[false]
theorem jem:Con.OK Tryz.prog j8i:=
 cOf j0l j04 jp1 j8i Tryz.func338 (j9 jnk trivial) trivial
def jbV:Con:=⟨389,[.v ty21],[ty21],⟨[.v .bool],[]⟩,[.bool],fun h=>Pw.jf0 h⟩
def jnl:FnD where
 N:=36
 np:=1
 cs:=[j8i]
 ds:=[]
 modes:=[(338,[false,false])]
 ro:=[false]
theorem jmh:Con.OK Tryz.prog jbV:=
 cOf j0l j04 jnl jbV Tryz.func389 (j9 jem trivial) trivial
def jd2:Con:=⟨335,[.v iT],[iT],⟨[.v iT],[]⟩,[iT],fun h=>Pw.jhb h⟩
def jp2:FnD where
 N:=18
 np:=1
 cs:=[]
 ds:=[]
 ro:=[false]
theorem jnm:Con.OK Tryz.prog jd2:=
 cOf j0l j04 jp2 jd2 Tryz.func335 trivial trivial
def jen:Con:=⟨337,[.v ty21],[ty21],⟨[.v iT,.v iT],[]⟩,[iT,iT],fun h=>Pw.jkq h⟩
def jqF:FnD where
 N:=29
 np:=1
 cs:=[j8i,jbV,jd2]
 ds:=[⟨0,[.s (.one (.bp 64 0)),sI,sI,.b (.cell [.d iT,.d iT,.d iT] false)],[iT,iT,iT,iT,iT],[⟨.exit 0,[.s (.one (.bp 64 0)),sI,.b (.cell [.d iT,.d iT,.d iT] false)],[iT,iT,iT,iT]⟩],Pw.unc5 (Pw.j5i)⟩]
 modes:=[(335,[false]),(338,[false,false]),(389,[false])]
 keep:=[(0,⟨[1,4,5],[64],[],[]⟩)]
 keepX:=[(0,.exit 0,⟨[1,4],[64],[],[]⟩)]
 ro:=[false,false]
theorem r01_Day_ok:Con.OK Tryz.prog jen:=
 cOf j0l j04 jqF jen Tryz.func337 (j9 jem (j9 jmh (j9 jnm trivial))) (j9 (fun h=>by kernel_rfl) trivial)
def j9W:Con:=⟨287,[.v iT],[iT],⟨[.v iT],[]⟩,[iT],fun h=>Pw.je1 h⟩
def jkO:FnD where
 N:=7
 np:=1
 cs:=[]
 ds:=[]
 ro:=[false]
theorem jj0:Con.OK Tryz.prog j9W:=
 cOf j0l j04 jkO j9W Tryz.func287 trivial trivial
def jeo:Con:=⟨286,[.v iT,.v iT,.v iT,.v iT],[iT,iT,iT,iT],⟨[.v iT,.v iT],[]⟩,[iT,iT],Pw.unc4 Pw.jkr⟩
def jqG:FnD where
 N:=63
 np:=4
 cs:=[j8i,jen,j9W]
 ds:=[⟨0,[sI,sI,sI,sI,sI,sI],[iT,iT,iT,iT,iT,iT],[⟨.exit 0,[sI,sI,sI,sI,sI],[iT,iT,iT,iT,iT]⟩],Pw.unc6 (Pw.j5j)⟩,
  ⟨2,[sI,sI,sI,sI],[iT,iT,iT,iT],[⟨.exit 2,[sI],[iT]⟩],Pw.unc4 (Pw.j5k)⟩]
 modes:=[(287,[false]),(337,[false]),(338,[false,false])]
 keep:=[(0,⟨[0,1,2,3,10,12],[],[],[]⟩),
  (2,⟨[0,1,10,12],[],[],[]⟩)]
 keepX:=[(0,.exit 0,⟨[0,1,2,10,12],[],[],[]⟩),
  (2,.exit 2,⟨[12],[],[],[]⟩)]
 ro:=[false,false]
theorem r01_Nth_ok:Con.OK Tryz.prog jeo:=
 cOf j0l j04 jqG jeo Tryz.func286 (j9 jem (j9 r01_Day_ok (j9 jj0 trivial))) (j9 (fun h=>by kernel_rfl) (j9 (fun h=>by kernel_rfl) trivial))
end Go.Proofs.Pk
