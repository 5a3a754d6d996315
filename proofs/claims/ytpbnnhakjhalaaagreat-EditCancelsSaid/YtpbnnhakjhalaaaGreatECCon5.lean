/- Contracts: each given function is its plain function, printed by a program. -/
import Derived.Test.YtpbnnhakjhalaaaGreatECCon4
noncomputable section
open Go Go.Lft
set_option linter.unusedVariables false
set_option maxRecDepth 100000
namespace Go.Proofs.Pk
def j1o:Con:=⟨166,[.v ty44,.clo 167 [.p [iT],.p [iT]]],[ty44,iT,iT],⟨[.v .bool],[]⟩,[.bool],Pw.unc3 Pw.j0H⟩
def j5K:FnD where
 N:=9
 np:=2
 cs:=[j1C]
 ds:=[]
 modes:=[(247,[false,false])]
 ro:=[false]
theorem j5g:Con.OK Tryz.prog j1o:=
 cOf j0f j02 j5K j1o Tryz.func166 (j8 j6i trivial) trivial
def jaN:Con:=⟨85,[.v ty77,.v iT,.v iT],[ty77,iT,iT],⟨[.v .bool],[]⟩,[.bool],Pw.unc3 Pw.jbb⟩
def jmh:FnD where
 N:=11
 np:=3
 cs:=[j1o]
 ds:=[]
 modes:=[(166,[false,false])]
 ro:=[false]
theorem jkS:Con.OK Tryz.prog jaN:=
 cOf j0f j02 jmh jaN Tryz.func85 (j8 j5g trivial) trivial
def j7T:Con:=⟨87,[.v ty86,.v ty77,.v iT],[ty86,ty77,iT],⟨[.v iT,.v iT],[]⟩,[iT,iT],Pw.unc3 Pw.j73⟩
def jix:FnD where
 N:=29
 np:=3
 cs:=[j1x,j6h,jaN]
 ds:=[⟨0,[sI,.s (.one (.bp 192 0)),.s (.one (.bp 256 0)),.s (.one (.bp 320 0)),.s (.one (.bp 384 0)),.s (.one (.bp 448 0)),.s (.one (.clo 248 [.p [ty73]])),.b (.cell [.d ty66,.d ty56,.d ty29,.d ty78,.d ty33] false),.b (.cell [.d .str,.d ty73,.d ty44] false),.b (.cell [.d iT] false),.b (.cell [.d iT] false),.b (.cell [.d iT] false)],[iT,ty73,ty66,ty56,ty29,ty78,ty33,.str,ty73,ty44,iT,iT,iT],[⟨.normal,[.s (.one (.bp 384 0)),.s (.one (.bp 448 0)),.b (.cell [.d iT] false),.b (.cell [.d iT] false)],[iT,iT]⟩,⟨.ret,[.s (.one (.bp 384 0)),.s (.one (.bp 448 0)),.b (.cell [.d iT] false),.b (.cell [.d iT] false)],[iT,iT]⟩],Pw.jue (Pw.j2E)⟩]
 modes:=[(85,[false,false,false]),(168,[false]),(169,[false,false,false])]
 keep:=[(0,⟨[3,4,5,6,7,13],[192,256,320,384,448],[],[]⟩)]
 keepX:=[(0,.normal,⟨[6,7],[384,448],[],[]⟩),
  (0,.ret,⟨[6,7],[384,448],[],[]⟩)]
 ro:=[false,false]
 bw:=[(248,(false,ty72))]
theorem jsc:ItOK Tryz.prog 248 false (ty72):=juT <| juc j0f Tryz.func248 (fn:=Tryz.f248) (A0:=bwA Tryz.f248 0) (A1:=bwA Tryz.f248 1) (A2:=bwA Tryz.f248 2) (A3:=bwA Tryz.f248 3) (by kernel_rfl) (by kernel_rfl) (by kernel_rfl) (by kernel_rfl) (by kernel_rfl) (by kernel_rfl) (by kernel_rfl) (by kernel_rfl) (by kernel_rfl) (by kernel_rfl) (by kernel_rfl) ⟨(by kernel_rfl),(by kernel_rfl)⟩
 (fun xs=>by kernel_rfl) (fun i=>by kernel_rfl) (fun i=>by kernel_rfl) (fun xs i=>by kernel_rfl) (fun b i=>by kernel_rfl)
theorem jgV:Con.OK Tryz.prog j7T:=
 cOf j0f j02 jix j7T Tryz.func87 (j8 j5X (j8 jeI (j8 jkS trivial))) (j8 (fun h=>by kernel_rfl) trivial) (j8 jsc trivial)
def j9Z:Con:=⟨79,[.v ty42,.v iT],[ty42,iT],⟨[.v .bool],[]⟩,[.bool],Pw.unc2 Pw.jig⟩
def jkT:FnD where
 N:=15
 np:=2
 cs:=[]
 ds:=[]
 ro:=[false]
theorem jjb:Con.OK Tryz.prog j9Z:=
 cOf j0f j02 jkT j9Z Tryz.func79 trivial trivial
def jbY:Con:=⟨29,[.v ty44,.v iT,.v iT],[ty44,iT,iT],⟨[.v iT],[]⟩,[iT],Pw.unc3 Pw.jd3⟩
def jns:FnD where
 N:=51
 np:=3
 cs:=[j9Z]
 ds:=[⟨0,[sI,sI,.s (.one (.d ty44)),sI,sI],[iT,iT,ty44,iT,iT],[⟨.exit 0,[sI],[iT]⟩],Pw.unc5 (Pw.jbc)⟩]
 modes:=[(79,[false,false])]
 keep:=[(0,⟨[1,2,9,10,11],[],[],[]⟩)]
 keepX:=[(0,.exit 0,⟨[1],[],[],[]⟩)]
 ro:=[false]
theorem jmi:Con.OK Tryz.prog jbY:=
 cOf j0f j02 jns jbY Tryz.func29 (j8 jjb trivial) (j8 (fun h=>by kernel_rfl) trivial)
def jaO:Con:=⟨78,[.v ty86,.v ty77,.v iT],[ty86,ty77,iT],⟨[.v iT],[]⟩,[iT],Pw.unc3 Pw.jbd⟩
def jmj:FnD where
 N:=27
 np:=3
 cs:=[j7T,jbY]
 ds:=[]
 modes:=[(29,[false,false,false]),(87,[false,false,false])]
 ro:=[false]
theorem jkU:Con.OK Tryz.prog jaO:=
 cOf j0f j02 jmj jaO Tryz.func78 (j8 jgV (j8 jmi trivial)) trivial
def jdg:Con:=⟨26,[.v ty84,.v iT,.v iT],[ty84,iT,iT],⟨[.v iT],[]⟩,[iT],Pw.unc3 Pw.jar⟩
def jpj:FnD where
 N:=30
 np:=3
 cs:=[j7c,jeB,jaO]
 ds:=[]
 modes:=[(76,[false]),(77,[false,false]),(78,[false,false,false])]
 ro:=[false]
theorem jnt:Con.OK Tryz.prog jdg:=
 cOf j0f j02 jpj jdg Tryz.func26 (j8 je6 (j8 jph (j8 jkU trivial))) trivial
def jaP:Con:=⟨16,[],[],⟨[.v .bool],[]⟩,[.bool],fun h=>Pw.j6Q⟩
def jmk:FnD where
 N:=65
 np:=0
 cs:=[j9L,jaL,j7g,jdg]
 ds:=[]
 modes:=[(21,[false,false,false]),(24,[false,false,false]),(26,[false,false,false]),(64,[])]
 ro:=[false]
theorem jkV:Con.OK Tryz.prog jaP:=
 cOf j0f j02 jmk jaP Tryz.func16 (j8 jiZ (j8 jkN (j8 je7 (j8 jnt trivial)))) trivial
def jbZ:Con:=⟨17,[.v (.list iT)],[(.list iT)],⟨[.box [(.list iT),iT]],[]⟩,[(.list iT),iT],fun h=>Pw.jih h⟩
def jnu:FnD where
 N:=6
 np:=1
 cs:=[]
 ds:=[]
 ro:=[false]
theorem jml:Con.OK Tryz.prog jbZ:=
 cOf j0f j02 jnu jbZ Tryz.func17 trivial trivial
def j0V:Con:=⟨27,[.ref [(.list iT),iT],.v iT],[(.list iT),iT,iT],⟨[.v iT],[.ref [(.list iT),iT]]⟩,[iT,(.list iT),iT],Pw.unc3 Pw.j03⟩
def jgW:FnD where
 N:=45
 np:=2
 cs:=[]
 ds:=[]
 ro:=[false]
theorem j1D:Con.OK Tryz.prog j0V:=
 cOf j0f j02 jgW j0V Tryz.func27 trivial trivial
def j1K:Con:=⟨32,[.ref [(.list iT),iT],.v (.list iT)],[(.list iT),iT,(.list iT)],⟨[.v iT],[.ref [(.list iT),iT]]⟩,[iT,(.list iT),iT],Pw.unc3 Pw.j0Z⟩
def jgX:FnD where
 N:=12
 np:=2
 cs:=[j0V]
 ds:=[]
 modes:=[(27,[false,false])]
 ro:=[false]
theorem j3f:Con.OK Tryz.prog j1K:=
 cOf j0f j02 jgX j1K Tryz.func32 (j8 j1D trivial) trivial
def j7h:Con:=⟨147,[.ref [(.list iT),iT],.v .str],[(.list iT),iT,.str],⟨[.v ty65],[.ref [(.list iT),iT]]⟩,[ty65,(.list iT),iT],Pw.unc3 Pw.j3b⟩
def jgY:FnD where
 N:=98
 np:=2
 cs:=[j0V,j1K]
 ds:=[]
 modes:=[(27,[false,false]),(32,[false,false])]
 ro:=[false]
 dw:=[(7,[[],[],[0],[],[],[0],[],[0],[],[],[],[],[0],[],[],[],[],[],[],[0],[],[],[3968],[0,3968],[],[0],[],[0],[],[],[],[],[4608],[],[320]]),(9,[[],[],[],[5056],[0,5056],[],[]])]
theorem jgk:Con.OK Tryz.prog j7h:=
 cOf j0f j02 jgY j7h Tryz.func147 (j8 j1D (j8 j3f trivial)) trivial
def j81:Con:=⟨67,[],[],⟨[.own 9 (.list .str)],[]⟩,[(.list .str)],fun h=>Pw.jdD⟩
def jmm:FnD where
 N:=2
 np:=0
 cs:=[]
 ds:=[]
 ro:=[true]
theorem jfO:Con.OK Tryz.prog j81:=
 cOf j0f j02 jmm j81 Tryz.func67 trivial trivial
def j2T:Con:=⟨74,[.ref [(.list iT),iT],.v iT],[(.list iT),iT,iT],⟨[.v .bool],[.ref [(.list iT),iT]]⟩,[.bool,(.list iT),iT],Pw.unc3 Pw.j0N⟩
def jgZ:FnD where
 N:=11
 np:=2
 cs:=[j0V]
 ds:=[]
 modes:=[(27,[false,false])]
 ro:=[false]
theorem j5Y:Con.OK Tryz.prog j2T:=
 cOf j0f j02 jgZ j2T Tryz.func74 (j8 j1D trivial) trivial
def j3O:Con:=⟨121,[.ref [(.list iT),iT]],[(.list iT),iT],⟨[.own 182 ty13],[.ref [(.list iT),iT]]⟩,[ty13,(.list iT),iT],Pw.unc2 Pw.j3e⟩
def jeJ:FnD where
 N:=38
 np:=1
 cs:=[j0V,j1K]
 ds:=[⟨0,[.s (.one (.bp 0 0)),.s (.one (.ol 1000000)),sI,sI,.b (.cell [.d (.list iT),.d iT] false),.b (.lst 182 ty8 false)],[iT,iT,(.list iT),iT,ty13],[⟨.exit 0,[.s (.one (.ol 1500100)),.b (.cell [.d (.list iT),.d iT] false),.b (.lst 182 ty8 false)],[(.list iT),iT,ty13]⟩],Pw.unc5 (Pw.j1M)⟩]
 modes:=[(27,[false,false]),(32,[false,false])]
 keep:=[(0,⟨[0,3,4,5],[0],[⟨1000000,182,ty8,[.slot 3],false⟩],[]⟩)]
 keepX:=[(0,.exit 0,⟨[3],[0],[⟨1500100,182,ty8,[.slot 3],false⟩],[]⟩)]
 ro:=[true]
theorem j96:Con.OK Tryz.prog j3O:=
 cOf j0f j02 jeJ j3O Tryz.func121 (j8 j1D (j8 j3f trivial)) (j8 (fun h=>by kernel_rfl) trivial)
def j6E:Con:=⟨65,[.ref [(.list iT),iT]],[(.list iT),iT],⟨[.vn ty84 [3]],[.ref [(.list iT),iT]]⟩,[ty84,(.list iT),iT],Pw.unc2 Pw.j75⟩
def jgl:FnD where
 N:=109
 np:=1
 cs:=[j0V,j1K,j7h,j81,j2T,j3O]
 ds:=[⟨0,[.s (.one (.bp 0 0)),.s (.one (.bp 128 0)),.s (.one (.bp 192 0)),sI,.b (.cell [.d (.list iT),.d iT] false),.b (.cell [.nil,.nil,.nil,.nil] false),.b (.cell [.ol 1000000,.nil,.nil,.nil] false),.b (.lst 68 ty65 false)],[iT,(.list iT),iT,ty66],[⟨.exit 0,[.s (.one (.bp 0 0)),.s (.one (.bp 128 0)),.s (.one (.bp 192 0)),.b (.cell [.d (.list iT),.d iT] false),.b (.cell [.nil,.nil,.nil,.nil] false),.b (.cell [.ol 1500100,.nil,.nil,.nil] false),.b (.lst 68 ty65 false)],[(.list iT),iT,ty66]⟩],Pw.unc4 (Pw.j2b)⟩,
  ⟨2,[.s (.one (.bp 0 0)),.s (.one (.bp 128 0)),.s (.one (.bp 192 0)),sI,.b (.cell [.d (.list iT),.d iT] false),.b (.cell [.nil,.nil,.nil,.nil] false),.b (.cell [.ol 1002000,.ol 1002001,.nil,.nil] false),.b (.lst 68 ty65 false),.b (.lst 71 ty53 false)],[iT,(.list iT),iT,ty66,ty56],[⟨.exit 2,[.s (.one (.bp 0 0)),.s (.one (.bp 128 0)),.s (.one (.bp 192 0)),.b (.cell [.d (.list iT),.d iT] false),.b (.cell [.nil,.nil,.nil,.nil] false),.b (.cell [.ol 1502300,.ol 1502301,.nil,.nil] false),.b (.lst 68 ty65 false),.b (.lst 71 ty53 false)],[(.list iT),iT,ty66,ty56]⟩],Pw.unc5 (Pw.j2c)⟩,
  ⟨4,[.s (.one (.bp 0 0)),.s (.one (.bp 128 0)),.s (.one (.bp 192 0)),sI,.b (.cell [.d (.list iT),.d iT] false),.b (.cell [.nil,.nil,.nil,.nil] false),.b (.cell [.ol 1004000,.ol 1004001,.ol 1004002,.nil] false),.b (.lst 68 ty65 false),.b (.lst 71 ty53 false),.b (.lst 120 ty24 false)],[iT,(.list iT),iT,ty66,ty56,ty29],[⟨.exit 4,[.s (.one (.bp 128 0)),.s (.one (.bp 192 0)),.b (.cell [.d (.list iT),.d iT] false),.b (.cell [.nil,.nil,.nil,.nil] false),.b (.cell [.ol 1504500,.ol 1504501,.ol 1504502,.nil] false),.b (.lst 68 ty65 false),.b (.lst 71 ty53 false),.b (.lst 120 ty24 false)],[(.list iT),iT,ty66,ty56,ty29]⟩],Pw.unc6 (Pw.j1B)⟩,
  ⟨6,[.s (.one (.bp 0 0)),.s (.one (.bp 128 0)),.s (.one (.bp 192 0)),sI,.s (.one (.bp 512 0)),sI,sI,.b (.cell [.d (.list iT),.d iT] false),.b (.cell [.nil,.nil,.nil,.nil] false),.b (.cell [.ol 1006000,.ol 1006001,.ol 1006002,.nil] false),.b (.cell [.d .str,.d iT,.ol 1006003] false),.b (.lst 68 ty65 false),.b (.lst 71 ty53 false),.b (.lst 120 ty24 false),.b (.lst 3 iT false)],[iT,iT,iT,(.list iT),iT,.str,iT,ty66,ty56,ty29,(.list iT)],[⟨.exit 6,[.s (.one (.bp 0 0)),.s (.one (.bp 128 0)),.s (.one (.bp 192 0)),sI,.s (.one (.bp 512 0)),.b (.cell [.d (.list iT),.d iT] false),.b (.cell [.nil,.nil,.nil,.nil] false),.b (.cell [.ol 1506700,.ol 1506701,.ol 1506702,.nil] false),.b (.cell [.d .str,.d iT,.ol 1506703] false),.b (.lst 68 ty65 false),.b (.lst 71 ty53 false),.b (.lst 120 ty24 false),.b (.lst 3 iT false)],[iT,(.list iT),iT,.str,iT,ty66,ty56,ty29,(.list iT)]⟩],Pw.jpf (Pw.j2d)⟩]
 modes:=[(27,[false,false]),(32,[false,false]),(67,[]),(74,[false,false]),(121,[false]),(147,[false,false])]
 keep:=[(0,⟨[0,2,3,4],[0,128,192],[⟨1000000,68,ty65,[.cell 192 0],false⟩],[]⟩),
  (2,⟨[0,2,3,5],[0,128,192],[⟨1002000,68,ty65,[.cell 192 0],false⟩,⟨1002001,71,ty53,[.cell 192 1],false⟩],[]⟩),
  (4,⟨[0,2,3,7],[0,128,192],[⟨1004000,68,ty65,[.cell 192 0],false⟩,⟨1004001,71,ty53,[.cell 192 1],false⟩,⟨1004002,120,ty24,[.cell 192 2],false⟩],[]⟩),
  (6,⟨[0,2,3,7,8,9,10],[0,128,192,512],[⟨1006000,68,ty65,[.cell 192 0],false⟩,⟨1006001,71,ty53,[.cell 192 1],false⟩,⟨1006002,120,ty24,[.cell 192 2],false⟩,⟨1006003,3,iT,[.cell 512 2],false⟩],[]⟩)]
 keepX:=[(0,.exit 0,⟨[0,2,3],[0,128,192],[⟨1500100,68,ty65,[.cell 192 0],false⟩],[]⟩),
  (2,.exit 2,⟨[0,2,3],[0,128,192],[⟨1502300,68,ty65,[.cell 192 0],false⟩,⟨1502301,71,ty53,[.cell 192 1],false⟩],[]⟩),
  (4,.exit 4,⟨[2,3],[0,128,192],[⟨1504500,68,ty65,[.cell 192 0],false⟩,⟨1504501,71,ty53,[.cell 192 1],false⟩,⟨1504502,120,ty24,[.cell 192 2],false⟩],[]⟩),
  (6,.exit 6,⟨[0,2,3,7,8],[0,128,192,512],[⟨1506700,68,ty65,[.cell 192 0],false⟩,⟨1506701,71,ty53,[.cell 192 1],false⟩,⟨1506702,120,ty24,[.cell 192 2],false⟩,⟨1506703,3,iT,[.cell 512 2],false⟩],[]⟩)]
 ro:=[false]
 dw:=[(5,[[],[],[],[1344],[],[],[],[],[],[0],[1792],[1856,1000000],[],[192]]),(9,[[2432],[],[],[],[],[],[],[],[],[],[0],[],[0],[],[384],[384]])]
 ns:=[3]
theorem jfP:Con.OK Tryz.prog j6E:=
 cOf j0f j02 jgl j6E Tryz.func65 (j8 j1D (j8 j3f (j8 jgk (j8 jfO (j8 j5Y (j8 j96 trivial)))))) (j8 (fun h=>by kernel_rfl) (j8 (fun h=>by kernel_rfl) (j8 (fun h=>by kernel_rfl) (j8 (fun h=>by kernel_rfl) trivial))))
def j6F:Con:=⟨66,[.ref [(.list iT),iT],.v ty84,.v .str],[(.list iT),iT,ty84,.str],⟨[.v ty72],[.ref [(.list iT),iT]]⟩,[ty72,(.list iT),iT],Pw.unc4 Pw.j76⟩
def jgm:FnD where
 N:=77
 np:=3
 cs:=[j0V,j1K,j2T,j3O]
 ds:=[⟨0,[.s (.one (.bp 0 0)),.s (.one (.bp 256 0)),.s (.one (.bp 384 0)),.s (.one (.bp 448 0)),sI,.b (.cell [.d (.list iT),.d iT] false),.b (.cell [.d ty66,.d ty56,.d ty29,.d ty78] false),.b (.cell [.d .str,.d iT,.d iT,.d iT,.d iT,.d iT,.nil,.nil,.d iT,.d iT] false),.b (.cell [.d .str,.d iT,.d iT,.d iT,.d iT,.d iT,.ol 1000000,.nil,.d iT,.d iT] false),.b (.lst 3 iT false)],[iT,(.list iT),iT,ty66,ty56,ty29,ty78,.str,iT,iT,iT,iT,iT,iT,iT,.str,iT,iT,iT,iT,iT,iT,iT,(.list iT)],[⟨.exit 0,[.s (.one (.bp 0 0)),.s (.one (.bp 256 0)),.s (.one (.bp 384 0)),.s (.one (.bp 448 0)),.b (.cell [.d (.list iT),.d iT] false),.b (.cell [.d ty66,.d ty56,.d ty29,.d ty78] false),.b (.cell [.d .str,.d iT,.d iT,.d iT,.d iT,.d iT,.nil,.nil,.d iT,.d iT] false),.b (.cell [.d .str,.d iT,.d iT,.d iT,.d iT,.d iT,.ol 1500100,.nil,.d iT,.d iT] false),.b (.lst 3 iT false)],[(.list iT),iT,ty66,ty56,ty29,ty78,.str,iT,iT,iT,iT,iT,iT,iT,.str,iT,iT,iT,iT,iT,iT,iT,(.list iT)]⟩],Pw.jug (Pw.j2e)⟩]
 modes:=[(27,[false,false]),(32,[false,false]),(74,[false,false]),(121,[false])]
 keep:=[(0,⟨[0,4,6,7,8],[0,256,384,448],[⟨1000000,3,iT,[.cell 448 6],false⟩],[]⟩)]
 keepX:=[(0,.exit 0,⟨[0,4,6,7],[0,256,384,448],[⟨1500100,3,iT,[.cell 448 6],false⟩],[]⟩)]
 ro:=[false]
 dw:=[(7,[[],[],[],[],[],[],[0],[3200],[3264,1000000],[],[448]])]
theorem jfQ:Con.OK Tryz.prog j6F:=
 cOf j0f j02 jgm j6F Tryz.func66 (j8 j1D (j8 j3f (j8 j5Y (j8 j96 trivial)))) (j8 (fun h=>by kernel_rfl) trivial)
def j5L:Con:=⟨25,[.ref [(.list iT),iT]],[(.list iT),iT],⟨[.v iT],[.ref [(.list iT),iT]]⟩,[iT,(.list iT),iT],Pw.unc2 Pw.j5U⟩
def jeK:FnD where
 N:=16
 np:=1
 cs:=[j0V,j1K,j2T]
 ds:=[]
 modes:=[(27,[false,false]),(32,[false,false]),(74,[false,false])]
 ro:=[false]
theorem jdQ:Con.OK Tryz.prog j5L:=
 cOf j0f j02 jeK j5L Tryz.func25 (j8 j1D (j8 j3f (j8 j5Y trivial))) trivial
def j5c:Con:=⟨23,[.ref [(.list iT),iT],.v ty84],[(.list iT),iT,ty84],⟨[.v ty42],[.ref [(.list iT),iT]]⟩,[ty42,(.list iT),iT],Pw.unc3 Pw.j4Z⟩
def jh0:FnD where
 N:=52
 np:=2
 cs:=[j0V,j1K,j2T,j5L]
 ds:=[]
 modes:=[(25,[false]),(27,[false,false]),(32,[false,false]),(74,[false,false])]
 ro:=[false]
 dw:=[(3,[[],[],[],[1344],[0,1344],[],[],[384]]),(8,[[],[],[],[],[],[],[0],[],[],[],[],[384]])]
theorem jbk:Con.OK Tryz.prog j5c:=
 cOf j0f j02 jh0 j5c Tryz.func23 (j8 j1D (j8 j3f (j8 j5Y (j8 jdQ trivial)))) trivial
def j6j:Con:=⟨19,[.ref [(.list iT),iT],.v iT],[(.list iT),iT,iT],⟨[.v ty84],[.ref [(.list iT),iT]]⟩,[ty84,(.list iT),iT],Pw.unc3 Pw.j4I⟩
def jfR:FnD where
 N:=69
 np:=2
 cs:=[j0V,j81,j6E,j6F,j5c]
 ds:=[⟨0,[.s (.one (.bp 0 0)),.s (.one (.bp 256 0)),.s (.one (.bp 320 0)),sI,.b (.cell [.d (.list iT),.d iT] false),.b (.cell [.nil,.nil,.nil,.nil] false),.b (.cell [.d ty66,.d ty56,.d ty29,.ol 1000000] false),.b (.lst 38 ty77 true)],[iT,(.list iT),iT,ty66,ty56,ty29,ty78],[⟨.exit 0,[.s (.one (.bp 256 0)),.s (.one (.bp 320 0)),.b (.cell [.d (.list iT),.d iT] false),.b (.cell [.nil,.nil,.nil,.nil] false),.b (.cell [.d ty66,.d ty56,.d ty29,.ol 1500100] false),.b (.lst 38 ty77 true)],[(.list iT),iT,ty66,ty56,ty29,ty78]⟩],Pw.unc7 (Pw.j21)⟩,
  ⟨2,[.s (.one (.bp 0 0)),.s (.one (.bp 256 0)),.s (.one (.bp 320 0)),sI,.s (.one (.bp 448 0)),sI,.b (.cell [.d (.list iT),.d iT] false),.b (.cell [.nil,.nil,.nil,.nil] false),.b (.cell [.d ty66,.d ty56,.d ty29,.ol 1002000] false),.b (.cell [.d .str,.ol 1002001,.nil] false),.b (.lst 38 ty77 true),.b (.lst 111 ty72 false)],[iT,iT,(.list iT),iT,ty66,ty56,ty29,.str,ty78,ty73],[⟨.exit 2,[.s (.one (.bp 0 0)),.s (.one (.bp 256 0)),.s (.one (.bp 320 0)),sI,.s (.one (.bp 448 0)),.b (.cell [.d (.list iT),.d iT] false),.b (.cell [.nil,.nil,.nil,.nil] false),.b (.cell [.d ty66,.d ty56,.d ty29,.ol 1502300] false),.b (.cell [.d .str,.ol 1502301,.nil] false),.b (.lst 38 ty77 true),.b (.lst 111 ty72 false)],[iT,(.list iT),iT,ty66,ty56,ty29,.str,ty78,ty73]⟩],Pw.jiY (Pw.j1Z)⟩,
  ⟨4,[.s (.one (.bp 0 0)),.s (.one (.bp 256 0)),.s (.one (.bp 320 0)),sI,.s (.one (.bp 448 0)),sI,.b (.cell [.d (.list iT),.d iT] false),.b (.cell [.nil,.nil,.nil,.nil] false),.b (.cell [.d ty66,.d ty56,.d ty29,.ol 1004000] false),.b (.cell [.d .str,.ol 1004001,.ol 1004002] false),.b (.lst 38 ty77 true),.b (.lst 111 ty72 false),.b (.lst 46 ty42 false)],[iT,iT,(.list iT),iT,ty66,ty56,ty29,.str,ty78,ty73,ty44],[⟨.exit 4,[.s (.one (.bp 0 0)),.s (.one (.bp 256 0)),.s (.one (.bp 320 0)),sI,.s (.one (.bp 448 0)),.b (.cell [.d (.list iT),.d iT] false),.b (.cell [.nil,.nil,.nil,.nil] false),.b (.cell [.d ty66,.d ty56,.d ty29,.ol 1504500] false),.b (.cell [.d .str,.ol 1504501,.ol 1504502] false),.b (.lst 38 ty77 true),.b (.lst 111 ty72 false),.b (.lst 46 ty42 false)],[iT,(.list iT),iT,ty66,ty56,ty29,.str,ty78,ty73,ty44]⟩],Pw.jpf (Pw.j20)⟩]
 modes:=[(23,[false,false]),(27,[false,false]),(65,[false]),(66,[false,false,false]),(67,[])]
 keep:=[(0,⟨[0,4,5,6],[0,256,320],[⟨1000000,38,ty77,[.cell 320 3],true⟩],[]⟩),
  (2,⟨[0,4,5,6,7,8],[0,256,320,448],[⟨1002000,38,ty77,[.cell 320 3],false⟩,⟨1002001,111,ty72,[.cell 448 1],false⟩],[]⟩),
  (4,⟨[0,4,5,6,7,9],[0,256,320,448],[⟨1004000,38,ty77,[.cell 320 3],false⟩,⟨1004001,111,ty72,[.cell 448 1],false⟩,⟨1004002,46,ty42,[.cell 448 2],false⟩],[]⟩)]
 keepX:=[(0,.exit 0,⟨[4,5],[0,256,320],[⟨1500100,38,ty77,[.cell 320 3],false⟩],[]⟩),
  (2,.exit 2,⟨[0,4,5,6,7],[0,256,320,448],[⟨1502300,38,ty77,[.cell 320 3],false⟩,⟨1502301,111,ty72,[.cell 448 1],false⟩],[]⟩),
  (4,.exit 4,⟨[0,4,5,6,7],[0,256,320,448],[⟨1504500,38,ty77,[.cell 320 3],false⟩,⟨1504501,111,ty72,[.cell 448 1],false⟩,⟨1504502,46,ty42,[.cell 448 2],false⟩],[]⟩)]
 ro:=[false]
 dw:=[(9,[[],[],[],[],[2432],[],[],[],[],[],[0,1002000],[2880],[2944,1002000,1002001],[],[448]]),(13,[[],[],[],[],[0,1004000],[3776],[3840,1004001,1004002],[],[448]])]
theorem jeL:Con.OK Tryz.prog j6j:=
 cOf j0f j02 jfR j6j Tryz.func19 (j8 j1D (j8 jfO (j8 jfP (j8 jfQ (j8 jbk trivial))))) (j8 (fun h=>by kernel_rfl) (j8 (fun h=>by kernel_rfl) (j8 (fun h=>by kernel_rfl) trivial)))
end Go.Proofs.Pk
