/- Contracts: each given function is its plain function, printed by a program. -/
import Derived.Test.YtpbnnhakjhalaaaGreatESCon4
noncomputable section
open Go Go.Lft
set_option linter.unusedVariables false
set_option maxRecDepth 100000
namespace Go.Proofs.Pk
def j1B:Con:=⟨166,[.v ty44,.clo 167 [.p [iT],.p [iT]]],[ty44,iT,iT],⟨[.v .bool],[]⟩,[.bool],Pw.unc3 Pw.j0D⟩
def j5o:FnD where
 N:=9
 np:=2
 cs:=[j1Q]
 ds:=[]
 modes:=[(247,[false,false])]
 ro:=[false]
theorem j4X:Con.OK Tryz.prog j1B:=
 cOf j0r j04 j5o j1B Tryz.func166 (j9 j5U trivial) trivial
def j9P:Con:=⟨85,[.v ty77,.v iT,.v iT],[ty77,iT,iT],⟨[.v .bool],[]⟩,[.bool],Pw.unc3 Pw.j7l⟩
def jkj:FnD where
 N:=11
 np:=3
 cs:=[j1B]
 ds:=[]
 modes:=[(166,[false,false])]
 ro:=[false]
theorem jiU:Con.OK Tryz.prog j9P:=
 cOf j0r j04 jkj j9P Tryz.func85 (j9 j4X trivial) trivial
def j7r:Con:=⟨87,[.v ty86,.v ty77,.v iT],[ty86,ty77,iT],⟨[.v iT,.v iT],[]⟩,[iT,iT],Pw.unc3 Pw.j3a⟩
def jgC:FnD where
 N:=29
 np:=3
 cs:=[j1L,j5T,j9P]
 ds:=[⟨0,[sI,.s (.one (.bp 192 0)),.s (.one (.bp 256 0)),.s (.one (.bp 320 0)),.s (.one (.bp 384 0)),.s (.one (.bp 448 0)),.s (.one (.clo 248 [.p [ty73]])),.b (.cell [.d ty66,.d ty56,.d ty29,.d ty78,.d ty33] false),.b (.cell [.d .str,.d ty73,.d ty44] false),.b (.cell [.d iT] false),.b (.cell [.d iT] false),.b (.cell [.d iT] false)],[iT,ty73,ty66,ty56,ty29,ty78,ty33,.str,ty73,ty44,iT,iT,iT],[⟨.normal,[.s (.one (.bp 384 0)),.s (.one (.bp 448 0)),.b (.cell [.d iT] false),.b (.cell [.d iT] false)],[iT,iT]⟩,⟨.ret,[.s (.one (.bp 384 0)),.s (.one (.bp 448 0)),.b (.cell [.d iT] false),.b (.cell [.d iT] false)],[iT,iT]⟩],Pw.jrR (Pw.j1m)⟩]
 modes:=[(85,[false,false,false]),(168,[false]),(169,[false,false,false])]
 keep:=[(0,⟨[3,4,5,6,7,13],[192,256,320,384,448],[],[]⟩)]
 keepX:=[(0,.normal,⟨[6,7],[384,448],[],[]⟩),
  (0,.ret,⟨[6,7],[384,448],[],[]⟩)]
 ro:=[false,false]
 bw:=[(248,(false,ty72))]
theorem jpS:ItOK Tryz.prog 248 false (ty72):=jss <| jrP j0r Tryz.func248 (fn:=Tryz.f248) (A0:=bwA Tryz.f248 0) (A1:=bwA Tryz.f248 1) (A2:=bwA Tryz.f248 2) (A3:=bwA Tryz.f248 3) (by kernel_rfl) (by kernel_rfl) (by kernel_rfl) (by kernel_rfl) (by kernel_rfl) (by kernel_rfl) (by kernel_rfl) (by kernel_rfl) (by kernel_rfl) (by kernel_rfl) (by kernel_rfl) ⟨(by kernel_rfl),(by kernel_rfl)⟩
 (fun xs=>by kernel_rfl) (fun i=>by kernel_rfl) (fun i=>by kernel_rfl) (fun xs i=>by kernel_rfl) (fun b i=>by kernel_rfl)
theorem jf8:Con.OK Tryz.prog j7r:=
 cOf j0r j04 jgC j7r Tryz.func87 (j9 j5z (j9 jd9 (j9 jiU trivial))) (j9 (fun h=>by kernel_rfl) trivial) (j9 jpS trivial)
def j95:Con:=⟨79,[.v ty42,.v iT],[ty42,iT],⟨[.v .bool],[]⟩,[.bool],Pw.unc2 Pw.jcR⟩
def jiV:FnD where
 N:=15
 np:=2
 cs:=[]
 ds:=[]
 ro:=[false]
theorem jhg:Con.OK Tryz.prog j95:=
 cOf j0r j04 jiV j95 Tryz.func79 trivial trivial
def jaU:Con:=⟨29,[.v ty44,.v iT,.v iT],[ty44,iT,iT],⟨[.v iT],[]⟩,[iT],Pw.unc3 Pw.jad⟩
def jlp:FnD where
 N:=51
 np:=3
 cs:=[j95]
 ds:=[⟨0,[sI,sI,.s (.one (.d ty44)),sI,sI],[iT,iT,ty44,iT,iT],[⟨.exit 0,[sI],[iT]⟩],Pw.unc5 (Pw.j4d)⟩]
 modes:=[(79,[false,false])]
 keep:=[(0,⟨[1,2,9,10,11],[],[],[]⟩)]
 keepX:=[(0,.exit 0,⟨[1],[],[],[]⟩)]
 ro:=[false]
theorem jkk:Con.OK Tryz.prog jaU:=
 cOf j0r j04 jlp jaU Tryz.func29 (j9 jhg trivial) (j9 (fun h=>by kernel_rfl) trivial)
def j9Q:Con:=⟨78,[.v ty86,.v ty77,.v iT],[ty86,ty77,iT],⟨[.v iT],[]⟩,[iT],Pw.unc3 Pw.j6n⟩
def jkl:FnD where
 N:=27
 np:=3
 cs:=[j7r,jaU]
 ds:=[]
 modes:=[(29,[false,false,false]),(87,[false,false,false])]
 ro:=[false]
theorem jiW:Con.OK Tryz.prog j9Q:=
 cOf j0r j04 jkl j9Q Tryz.func78 (j9 jf8 (j9 jkk trivial)) trivial
def j9B:Con:=⟨26,[.v ty84,.v iT,.v iT],[ty84,iT,iT],⟨[.v iT],[]⟩,[iT],Pw.unc3 Pw.j4N⟩
def jn4:FnD where
 N:=30
 np:=3
 cs:=[j6I,jd2,j9Q]
 ds:=[]
 modes:=[(76,[false]),(77,[false,false]),(78,[false,false,false])]
 ro:=[false]
theorem jgD:Con.OK Tryz.prog j9B:=
 cOf j0r j04 jn4 j9B Tryz.func26 (j9 jcx (j9 jn2 (j9 jiW trivial))) trivial
def j9R:Con:=⟨16,[],[],⟨[.v .bool],[]⟩,[.bool],fun h=>Pw.j6o⟩
def jkm:FnD where
 N:=65
 np:=0
 cs:=[j8Q,j7v,j90,j9B]
 ds:=[]
 modes:=[(21,[false,false,false]),(24,[false,false,false]),(26,[false,false,false]),(64,[])]
 ro:=[false]
theorem jiX:Con.OK Tryz.prog j9R:=
 cOf j0r j04 jkm j9R Tryz.func16 (j9 jh3 (j9 je0 (j9 jha (j9 jgD trivial)))) trivial
def jaV:Con:=⟨17,[.v (.list iT)],[(.list iT)],⟨[.box [(.list iT),iT]],[]⟩,[(.list iT),iT],fun h=>Pw.jgo h⟩
def jlq:FnD where
 N:=6
 np:=1
 cs:=[]
 ds:=[]
 ro:=[false]
theorem jkn:Con.OK Tryz.prog jaV:=
 cOf j0r j04 jlq jaV Tryz.func17 trivial trivial
def j0O:Con:=⟨27,[.ref [(.list iT),iT],.v iT],[(.list iT),iT,iT],⟨[.v iT],[.ref [(.list iT),iT]]⟩,[iT,(.list iT),iT],Pw.unc3 Pw.j02⟩
def jf9:FnD where
 N:=45
 np:=2
 cs:=[]
 ds:=[]
 ro:=[false]
theorem j1y:Con.OK Tryz.prog j0O:=
 cOf j0r j04 jf9 j0O Tryz.func27 trivial trivial
def j1Y:Con:=⟨32,[.ref [(.list iT),iT],.v (.list iT)],[(.list iT),iT,(.list iT)],⟨[.v iT],[.ref [(.list iT),iT]]⟩,[iT,(.list iT),iT],Pw.unc3 Pw.j15⟩
def jfa:FnD where
 N:=12
 np:=2
 cs:=[j0O]
 ds:=[]
 modes:=[(27,[false,false])]
 ro:=[false]
theorem j3m:Con.OK Tryz.prog j1Y:=
 cOf j0r j04 jfa j1Y Tryz.func32 (j9 j1y trivial) trivial
def j6M:Con:=⟨147,[.ref [(.list iT),iT],.v .str],[(.list iT),iT,.str],⟨[.v ty65],[.ref [(.list iT),iT]]⟩,[ty65,(.list iT),iT],Pw.unc3 Pw.j3h⟩
def jfb:FnD where
 N:=98
 np:=2
 cs:=[j0O,j1Y]
 ds:=[]
 modes:=[(27,[false,false]),(32,[false,false])]
 ro:=[false]
 dw:=[(7,[[],[],[0],[],[],[0],[],[0],[],[],[],[],[0],[],[],[],[],[],[],[0],[],[],[3968],[0,3968],[],[0],[],[0],[],[],[],[],[4608],[],[320]]),(9,[[],[],[],[5056],[0,5056],[],[]])]
theorem jez:Con.OK Tryz.prog j6M:=
 cOf j0r j04 jfb j6M Tryz.func147 (j9 j1y (j9 j3m trivial)) trivial
def j7x:Con:=⟨67,[],[],⟨[.own 9 (.list .str)],[]⟩,[(.list .str)],fun h=>Pw.jcb⟩
def jko:FnD where
 N:=2
 np:=0
 cs:=[]
 ds:=[]
 ro:=[true]
theorem je8:Con.OK Tryz.prog j7x:=
 cOf j0r j04 jko j7x Tryz.func67 trivial trivial
def j2X:Con:=⟨74,[.ref [(.list iT),iT],.v iT],[(.list iT),iT,iT],⟨[.v .bool],[.ref [(.list iT),iT]]⟩,[.bool,(.list iT),iT],Pw.unc3 Pw.j0V⟩
def jfc:FnD where
 N:=11
 np:=2
 cs:=[j0O]
 ds:=[]
 modes:=[(27,[false,false])]
 ro:=[false]
theorem j5A:Con.OK Tryz.prog j2X:=
 cOf j0r j04 jfc j2X Tryz.func74 (j9 j1y trivial) trivial
def j3K:Con:=⟨121,[.ref [(.list iT),iT]],[(.list iT),iT],⟨[.own 182 ty13],[.ref [(.list iT),iT]]⟩,[ty13,(.list iT),iT],Pw.unc2 Pw.j3l⟩
def jda:FnD where
 N:=38
 np:=1
 cs:=[j0O,j1Y]
 ds:=[⟨0,[.s (.one (.bp 0 0)),.s (.one (.ol 1000000)),sI,sI,.b (.cell [.d (.list iT),.d iT] false),.b (.lst 182 ty8 false)],[iT,iT,(.list iT),iT,ty13],[⟨.exit 0,[.s (.one (.ol 1500100)),.b (.cell [.d (.list iT),.d iT] false),.b (.lst 182 ty8 false)],[(.list iT),iT,ty13]⟩],Pw.unc5 (Pw.j1Z)⟩]
 modes:=[(27,[false,false]),(32,[false,false])]
 keep:=[(0,⟨[0,3,4,5],[0],[⟨1000000,182,ty8,[.slot 3],false⟩],[]⟩)]
 keepX:=[(0,.exit 0,⟨[3],[0],[⟨1500100,182,ty8,[.slot 3],false⟩],[]⟩)]
 ro:=[true]
theorem j8o:Con.OK Tryz.prog j3K:=
 cOf j0r j04 jda j3K Tryz.func121 (j9 j1y (j9 j3m trivial)) (j9 (fun h=>by kernel_rfl) trivial)
def j6b:Con:=⟨65,[.ref [(.list iT),iT]],[(.list iT),iT],⟨[.vn ty84 [3]],[.ref [(.list iT),iT]]⟩,[ty84,(.list iT),iT],Pw.unc2 Pw.j6C⟩
def jeA:FnD where
 N:=109
 np:=1
 cs:=[j0O,j1Y,j6M,j7x,j2X,j3K]
 ds:=[⟨0,[.s (.one (.bp 0 0)),.s (.one (.bp 128 0)),.s (.one (.bp 192 0)),sI,.b (.cell [.d (.list iT),.d iT] false),.b (.cell [.nil,.nil,.nil,.nil] false),.b (.cell [.ol 1000000,.nil,.nil,.nil] false),.b (.lst 68 ty65 false)],[iT,(.list iT),iT,ty66],[⟨.exit 0,[.s (.one (.bp 0 0)),.s (.one (.bp 128 0)),.s (.one (.bp 192 0)),.b (.cell [.d (.list iT),.d iT] false),.b (.cell [.nil,.nil,.nil,.nil] false),.b (.cell [.ol 1500100,.nil,.nil,.nil] false),.b (.lst 68 ty65 false)],[(.list iT),iT,ty66]⟩],Pw.unc4 (Pw.j2o)⟩,
  ⟨2,[.s (.one (.bp 0 0)),.s (.one (.bp 128 0)),.s (.one (.bp 192 0)),sI,.b (.cell [.d (.list iT),.d iT] false),.b (.cell [.nil,.nil,.nil,.nil] false),.b (.cell [.ol 1002000,.ol 1002001,.nil,.nil] false),.b (.lst 68 ty65 false),.b (.lst 71 ty53 false)],[iT,(.list iT),iT,ty66,ty56],[⟨.exit 2,[.s (.one (.bp 0 0)),.s (.one (.bp 128 0)),.s (.one (.bp 192 0)),.b (.cell [.d (.list iT),.d iT] false),.b (.cell [.nil,.nil,.nil,.nil] false),.b (.cell [.ol 1502300,.ol 1502301,.nil,.nil] false),.b (.lst 68 ty65 false),.b (.lst 71 ty53 false)],[(.list iT),iT,ty66,ty56]⟩],Pw.unc5 (Pw.j2p)⟩,
  ⟨4,[.s (.one (.bp 0 0)),.s (.one (.bp 128 0)),.s (.one (.bp 192 0)),sI,.b (.cell [.d (.list iT),.d iT] false),.b (.cell [.nil,.nil,.nil,.nil] false),.b (.cell [.ol 1004000,.ol 1004001,.ol 1004002,.nil] false),.b (.lst 68 ty65 false),.b (.lst 71 ty53 false),.b (.lst 120 ty24 false)],[iT,(.list iT),iT,ty66,ty56,ty29],[⟨.exit 4,[.s (.one (.bp 128 0)),.s (.one (.bp 192 0)),.b (.cell [.d (.list iT),.d iT] false),.b (.cell [.nil,.nil,.nil,.nil] false),.b (.cell [.ol 1504500,.ol 1504501,.ol 1504502,.nil] false),.b (.lst 68 ty65 false),.b (.lst 71 ty53 false),.b (.lst 120 ty24 false)],[(.list iT),iT,ty66,ty56,ty29]⟩],Pw.unc6 (Pw.j1P)⟩,
  ⟨6,[.s (.one (.bp 0 0)),.s (.one (.bp 128 0)),.s (.one (.bp 192 0)),sI,.s (.one (.bp 512 0)),sI,sI,.b (.cell [.d (.list iT),.d iT] false),.b (.cell [.nil,.nil,.nil,.nil] false),.b (.cell [.ol 1006000,.ol 1006001,.ol 1006002,.nil] false),.b (.cell [.d .str,.d iT,.ol 1006003] false),.b (.lst 68 ty65 false),.b (.lst 71 ty53 false),.b (.lst 120 ty24 false),.b (.lst 3 iT false)],[iT,iT,iT,(.list iT),iT,.str,iT,ty66,ty56,ty29,(.list iT)],[⟨.exit 6,[.s (.one (.bp 0 0)),.s (.one (.bp 128 0)),.s (.one (.bp 192 0)),sI,.s (.one (.bp 512 0)),.b (.cell [.d (.list iT),.d iT] false),.b (.cell [.nil,.nil,.nil,.nil] false),.b (.cell [.ol 1506700,.ol 1506701,.ol 1506702,.nil] false),.b (.cell [.d .str,.d iT,.ol 1506703] false),.b (.lst 68 ty65 false),.b (.lst 71 ty53 false),.b (.lst 120 ty24 false),.b (.lst 3 iT false)],[iT,(.list iT),iT,.str,iT,ty66,ty56,ty29,(.list iT)]⟩],Pw.jpQ (Pw.j2q)⟩]
 modes:=[(27,[false,false]),(32,[false,false]),(67,[]),(74,[false,false]),(121,[false]),(147,[false,false])]
 keep:=[(0,⟨[0,2,3,4],[0,128,192],[⟨1000000,68,ty65,[.cell 192 0],false⟩],[]⟩),
  (2,⟨[0,2,3,5],[0,128,192],[⟨1002000,68,ty65,[.cell 192 0],false⟩,⟨1002001,71,ty53,[.cell 192 1],false⟩],[]⟩),
  (4,⟨[0,2,3,7],[0,128,192],[⟨1004000,68,ty65,[.cell 192 0],false⟩,⟨1004001,71,ty53,[.cell 192 1],false⟩,⟨1004002,120,ty24,[.cell 192 2],false⟩],[]⟩),
  (6,⟨[0,2,3,7,8,9,10],[0,128,192,512],[⟨1006000,68,ty65,[.cell 192 0],false⟩,⟨1006001,71,ty53,[.cell 192 1],false⟩,⟨1006002,120,ty24,[.cell 192 2],false⟩,⟨1006003,3,iT,[.cell 512 2],false⟩],[]⟩)]
 keepX:=[(0,.exit 0,⟨[0,2,3],[0,128,192],[⟨1500100,68,ty65,[.cell 192 0],false⟩],[]⟩),
  (2,.exit 2,⟨[0,2,3],[0,128,192],[⟨1502300,68,ty65,[.cell 192 0],false⟩,⟨1502301,71,ty53,[.cell 192 1],false⟩],[]⟩),
  (4,.exit 4,⟨[2,3],[0,128,192],[⟨1504500,68,ty65,[.cell 192 0],false⟩,⟨1504501,71,ty53,[.cell 192 1],false⟩,⟨1504502,120,ty24,[.cell 192 2],false⟩],[]⟩),
  (6,.exit 6,⟨[0,2,3,7,8],[0,128,192,512],[⟨1506700,68,ty65,[.cell 192 0],false⟩,⟨1506701,71,ty53,[.cell 192 1],false⟩,⟨1506702,120,ty24,[.cell 192 2],false⟩,⟨1506703,3,iT,[.cell 512 2],false⟩],[]⟩)]
 ro:=[false]
 dw:=[(5,[[],[],[],[1344],[],[],[],[],[],[0],[1792],[1856,1000000],[],[192]]),(9,[[2432],[],[],[],[],[],[],[],[],[],[0],[],[0],[],[384],[384]])]
 ns:=[3]
theorem je9:Con.OK Tryz.prog j6b:=
 cOf j0r j04 jeA j6b Tryz.func65 (j9 j1y (j9 j3m (j9 jez (j9 je8 (j9 j5A (j9 j8o trivial)))))) (j9 (fun h=>by kernel_rfl) (j9 (fun h=>by kernel_rfl) (j9 (fun h=>by kernel_rfl) (j9 (fun h=>by kernel_rfl) trivial))))
def j6c:Con:=⟨66,[.ref [(.list iT),iT],.v ty84,.v .str],[(.list iT),iT,ty84,.str],⟨[.v ty72],[.ref [(.list iT),iT]]⟩,[ty72,(.list iT),iT],Pw.unc4 Pw.j6D⟩
def jeB:FnD where
 N:=77
 np:=3
 cs:=[j0O,j1Y,j2X,j3K]
 ds:=[⟨0,[.s (.one (.bp 0 0)),.s (.one (.bp 256 0)),.s (.one (.bp 384 0)),.s (.one (.bp 448 0)),sI,.b (.cell [.d (.list iT),.d iT] false),.b (.cell [.d ty66,.d ty56,.d ty29,.d ty78] false),.b (.cell [.d .str,.d iT,.d iT,.d iT,.d iT,.d iT,.nil,.nil,.d iT,.d iT] false),.b (.cell [.d .str,.d iT,.d iT,.d iT,.d iT,.d iT,.ol 1000000,.nil,.d iT,.d iT] false),.b (.lst 3 iT false)],[iT,(.list iT),iT,ty66,ty56,ty29,ty78,.str,iT,iT,iT,iT,iT,iT,iT,.str,iT,iT,iT,iT,iT,iT,iT,(.list iT)],[⟨.exit 0,[.s (.one (.bp 0 0)),.s (.one (.bp 256 0)),.s (.one (.bp 384 0)),.s (.one (.bp 448 0)),.b (.cell [.d (.list iT),.d iT] false),.b (.cell [.d ty66,.d ty56,.d ty29,.d ty78] false),.b (.cell [.d .str,.d iT,.d iT,.d iT,.d iT,.d iT,.nil,.nil,.d iT,.d iT] false),.b (.cell [.d .str,.d iT,.d iT,.d iT,.d iT,.d iT,.ol 1500100,.nil,.d iT,.d iT] false),.b (.lst 3 iT false)],[(.list iT),iT,ty66,ty56,ty29,ty78,.str,iT,iT,iT,iT,iT,iT,iT,.str,iT,iT,iT,iT,iT,iT,iT,(.list iT)]⟩],Pw.jrT (Pw.j2r)⟩]
 modes:=[(27,[false,false]),(32,[false,false]),(74,[false,false]),(121,[false])]
 keep:=[(0,⟨[0,4,6,7,8],[0,256,384,448],[⟨1000000,3,iT,[.cell 448 6],false⟩],[]⟩)]
 keepX:=[(0,.exit 0,⟨[0,4,6,7],[0,256,384,448],[⟨1500100,3,iT,[.cell 448 6],false⟩],[]⟩)]
 ro:=[false]
 dw:=[(7,[[],[],[],[],[],[],[0],[3200],[3264,1000000],[],[448]])]
theorem jea:Con.OK Tryz.prog j6c:=
 cOf j0r j04 jeB j6c Tryz.func66 (j9 j1y (j9 j3m (j9 j5A (j9 j8o trivial)))) (j9 (fun h=>by kernel_rfl) trivial)
def j3L:Con:=⟨25,[.ref [(.list iT),iT]],[(.list iT),iT],⟨[.v iT],[.ref [(.list iT),iT]]⟩,[iT,(.list iT),iT],Pw.unc2 Pw.j4e⟩
def jdb:FnD where
 N:=16
 np:=1
 cs:=[j0O,j1Y,j2X]
 ds:=[]
 modes:=[(27,[false,false]),(32,[false,false]),(74,[false,false])]
 ro:=[false]
theorem j8p:Con.OK Tryz.prog j3L:=
 cOf j0r j04 jdb j3L Tryz.func25 (j9 j1y (j9 j3m (j9 j5A trivial))) trivial
def j6N:Con:=⟨23,[.ref [(.list iT),iT],.v ty84],[(.list iT),iT,ty84],⟨[.v ty42],[.ref [(.list iT),iT]]⟩,[ty42,(.list iT),iT],Pw.unc3 Pw.j7t⟩
def jfd:FnD where
 N:=52
 np:=2
 cs:=[j0O,j1Y,j2X,j3L]
 ds:=[]
 modes:=[(25,[false]),(27,[false,false]),(32,[false,false]),(74,[false,false])]
 ro:=[false]
 dw:=[(3,[[],[],[],[1344],[0,1344],[],[],[384]]),(8,[[],[],[],[],[],[],[0],[],[],[],[],[384]])]
theorem jeC:Con.OK Tryz.prog j6N:=
 cOf j0r j04 jfd j6N Tryz.func23 (j9 j1y (j9 j3m (j9 j5A (j9 j8p trivial)))) trivial
def j5V:Con:=⟨19,[.ref [(.list iT),iT],.v iT],[(.list iT),iT,iT],⟨[.v ty84],[.ref [(.list iT),iT]]⟩,[ty84,(.list iT),iT],Pw.unc3 Pw.j4B⟩
def jeb:FnD where
 N:=69
 np:=2
 cs:=[j0O,j7x,j6b,j6c,j6N]
 ds:=[⟨0,[.s (.one (.bp 0 0)),.s (.one (.bp 256 0)),.s (.one (.bp 320 0)),sI,.b (.cell [.d (.list iT),.d iT] false),.b (.cell [.nil,.nil,.nil,.nil] false),.b (.cell [.d ty66,.d ty56,.d ty29,.ol 1000000] false),.b (.lst 38 ty77 true)],[iT,(.list iT),iT,ty66,ty56,ty29,ty78],[⟨.exit 0,[.s (.one (.bp 256 0)),.s (.one (.bp 320 0)),.b (.cell [.d (.list iT),.d iT] false),.b (.cell [.nil,.nil,.nil,.nil] false),.b (.cell [.d ty66,.d ty56,.d ty29,.ol 1500100] false),.b (.lst 38 ty77 true)],[(.list iT),iT,ty66,ty56,ty29,ty78]⟩],Pw.unc7 (Pw.j2h)⟩,
  ⟨2,[.s (.one (.bp 0 0)),.s (.one (.bp 256 0)),.s (.one (.bp 320 0)),sI,.s (.one (.bp 448 0)),sI,.b (.cell [.d (.list iT),.d iT] false),.b (.cell [.nil,.nil,.nil,.nil] false),.b (.cell [.d ty66,.d ty56,.d ty29,.ol 1002000] false),.b (.cell [.d .str,.ol 1002001,.nil] false),.b (.lst 38 ty77 true),.b (.lst 111 ty72 false)],[iT,iT,(.list iT),iT,ty66,ty56,ty29,.str,ty78,ty73],[⟨.exit 2,[.s (.one (.bp 0 0)),.s (.one (.bp 256 0)),.s (.one (.bp 320 0)),sI,.s (.one (.bp 448 0)),.b (.cell [.d (.list iT),.d iT] false),.b (.cell [.nil,.nil,.nil,.nil] false),.b (.cell [.d ty66,.d ty56,.d ty29,.ol 1502300] false),.b (.cell [.d .str,.ol 1502301,.nil] false),.b (.lst 38 ty77 true),.b (.lst 111 ty72 false)],[iT,(.list iT),iT,ty66,ty56,ty29,.str,ty78,ty73]⟩],Pw.jpP (Pw.j2f)⟩,
  ⟨4,[.s (.one (.bp 0 0)),.s (.one (.bp 256 0)),.s (.one (.bp 320 0)),sI,.s (.one (.bp 448 0)),sI,.b (.cell [.d (.list iT),.d iT] false),.b (.cell [.nil,.nil,.nil,.nil] false),.b (.cell [.d ty66,.d ty56,.d ty29,.ol 1004000] false),.b (.cell [.d .str,.ol 1004001,.ol 1004002] false),.b (.lst 38 ty77 true),.b (.lst 111 ty72 false),.b (.lst 46 ty42 false)],[iT,iT,(.list iT),iT,ty66,ty56,ty29,.str,ty78,ty73,ty44],[⟨.exit 4,[.s (.one (.bp 0 0)),.s (.one (.bp 256 0)),.s (.one (.bp 320 0)),sI,.s (.one (.bp 448 0)),.b (.cell [.d (.list iT),.d iT] false),.b (.cell [.nil,.nil,.nil,.nil] false),.b (.cell [.d ty66,.d ty56,.d ty29,.ol 1504500] false),.b (.cell [.d .str,.ol 1504501,.ol 1504502] false),.b (.lst 38 ty77 true),.b (.lst 111 ty72 false),.b (.lst 46 ty42 false)],[iT,(.list iT),iT,ty66,ty56,ty29,.str,ty78,ty73,ty44]⟩],Pw.jpQ (Pw.j2g)⟩]
 modes:=[(23,[false,false]),(27,[false,false]),(65,[false]),(66,[false,false,false]),(67,[])]
 keep:=[(0,⟨[0,4,5,6],[0,256,320],[⟨1000000,38,ty77,[.cell 320 3],true⟩],[]⟩),
  (2,⟨[0,4,5,6,7,8],[0,256,320,448],[⟨1002000,38,ty77,[.cell 320 3],false⟩,⟨1002001,111,ty72,[.cell 448 1],false⟩],[]⟩),
  (4,⟨[0,4,5,6,7,9],[0,256,320,448],[⟨1004000,38,ty77,[.cell 320 3],false⟩,⟨1004001,111,ty72,[.cell 448 1],false⟩,⟨1004002,46,ty42,[.cell 448 2],false⟩],[]⟩)]
 keepX:=[(0,.exit 0,⟨[4,5],[0,256,320],[⟨1500100,38,ty77,[.cell 320 3],false⟩],[]⟩),
  (2,.exit 2,⟨[0,4,5,6,7],[0,256,320,448],[⟨1502300,38,ty77,[.cell 320 3],false⟩,⟨1502301,111,ty72,[.cell 448 1],false⟩],[]⟩),
  (4,.exit 4,⟨[0,4,5,6,7],[0,256,320,448],[⟨1504500,38,ty77,[.cell 320 3],false⟩,⟨1504501,111,ty72,[.cell 448 1],false⟩,⟨1504502,46,ty42,[.cell 448 2],false⟩],[]⟩)]
 ro:=[false]
 dw:=[(9,[[],[],[],[],[2432],[],[],[],[],[],[0,1002000],[2880],[2944,1002000,1002001],[],[448]]),(13,[[],[],[],[],[0,1004000],[3776],[3840,1004001,1004002],[],[448]])]
theorem jdc:Con.OK Tryz.prog j5V:=
 cOf j0r j04 jeb j5V Tryz.func19 (j9 j1y (j9 je8 (j9 je9 (j9 jea (j9 jeC trivial))))) (j9 (fun h=>by kernel_rfl) (j9 (fun h=>by kernel_rfl) (j9 (fun h=>by kernel_rfl) trivial)))
end Go.Proofs.Pk
