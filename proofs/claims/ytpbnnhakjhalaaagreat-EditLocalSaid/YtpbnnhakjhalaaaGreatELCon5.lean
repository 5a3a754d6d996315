/- Contracts: each given function is its plain function, printed by a program. -/
import Derived.Test.YtpbnnhakjhalaaaGreatELCon4
noncomputable section
open Go Go.Lft
set_option linter.unusedVariables false
set_option maxRecDepth 100000
namespace Go.Proofs.Pk
def j1A:Con:=⟨166,[.v ty44,.clo 167 [.p [iT],.p [iT]]],[ty44,iT,iT],⟨[.v .bool],[]⟩,[.bool],Pw.unc3 Pw.j0D⟩
def j5L:FnD where
 N:=9
 np:=2
 cs:=[j1R]
 ds:=[]
 modes:=[(247,[false,false])]
 ro:=[false]
theorem j5g:Con.OK Tryz.prog j1A:=
 cOf j0n j04 j5L j1A Tryz.func166 (j9 j6i trivial) trivial
def jam:Con:=⟨85,[.v ty77,.v iT,.v iT],[ty77,iT,iT],⟨[.v .bool],[]⟩,[.bool],Pw.unc3 Pw.j7K⟩
def jl3:FnD where
 N:=11
 np:=3
 cs:=[j1A]
 ds:=[]
 modes:=[(166,[false,false])]
 ro:=[false]
theorem jjF:Con.OK Tryz.prog jam:=
 cOf j0n j04 jl3 jam Tryz.func85 (j9 j5g trivial) trivial
def j7R:Con:=⟨87,[.v ty86,.v ty77,.v iT],[ty86,ty77,iT],⟨[.v iT,.v iT],[]⟩,[iT,iT],Pw.unc3 Pw.j3g⟩
def jhm:FnD where
 N:=29
 np:=3
 cs:=[j1K,j6h,jam]
 ds:=[⟨0,[sI,.s (.one (.bp 192 0)),.s (.one (.bp 256 0)),.s (.one (.bp 320 0)),.s (.one (.bp 384 0)),.s (.one (.bp 448 0)),.s (.one (.clo 248 [.p [ty73]])),.b (.cell [.d ty66,.d ty56,.d ty29,.d ty78,.d ty33] false),.b (.cell [.d .str,.d ty73,.d ty44] false),.b (.cell [.d iT] false),.b (.cell [.d iT] false),.b (.cell [.d iT] false)],[iT,ty73,ty66,ty56,ty29,ty78,ty33,.str,ty73,ty44,iT,iT,iT],[⟨.normal,[.s (.one (.bp 384 0)),.s (.one (.bp 448 0)),.b (.cell [.d iT] false),.b (.cell [.d iT] false)],[iT,iT]⟩,⟨.ret,[.s (.one (.bp 384 0)),.s (.one (.bp 448 0)),.b (.cell [.d iT] false),.b (.cell [.d iT] false)],[iT,iT]⟩],Pw.jsV (Pw.j1o)⟩]
 modes:=[(85,[false,false,false]),(168,[false]),(169,[false,false,false])]
 keep:=[(0,⟨[3,4,5,6,7,13],[192,256,320,384,448],[],[]⟩)]
 keepX:=[(0,.normal,⟨[6,7],[384,448],[],[]⟩),
  (0,.ret,⟨[6,7],[384,448],[],[]⟩)]
 ro:=[false,false]
 bw:=[(248,(false,ty72))]
theorem jqN:ItOK Tryz.prog 248 false (ty72):=jtB <| jsT j0n Tryz.func248 (fn:=Tryz.f248) (A0:=bwA Tryz.f248 0) (A1:=bwA Tryz.f248 1) (A2:=bwA Tryz.f248 2) (A3:=bwA Tryz.f248 3) (by kernel_rfl) (by kernel_rfl) (by kernel_rfl) (by kernel_rfl) (by kernel_rfl) (by kernel_rfl) (by kernel_rfl) (by kernel_rfl) (by kernel_rfl) (by kernel_rfl) (by kernel_rfl) ⟨(by kernel_rfl),(by kernel_rfl)⟩
 (fun xs=>by kernel_rfl) (fun i=>by kernel_rfl) (fun i=>by kernel_rfl) (fun xs i=>by kernel_rfl) (fun b i=>by kernel_rfl)
theorem jfS:Con.OK Tryz.prog j7R:=
 cOf j0n j04 jhm j7R Tryz.func87 (j9 j5Y (j9 jdQ (j9 jjF trivial))) (j9 (fun h=>by kernel_rfl) trivial) (j9 jqN trivial)
def j9z:Con:=⟨79,[.v ty42,.v iT],[ty42,iT],⟨[.v .bool],[]⟩,[.bool],Pw.unc2 Pw.jdy⟩
def jjG:FnD where
 N:=15
 np:=2
 cs:=[]
 ds:=[]
 ro:=[false]
theorem ji0:Con.OK Tryz.prog j9z:=
 cOf j0n j04 jjG j9z Tryz.func79 trivial trivial
def jbu:Con:=⟨29,[.v ty44,.v iT,.v iT],[ty44,iT,iT],⟨[.v iT],[]⟩,[iT],Pw.unc3 Pw.jaK⟩
def jma:FnD where
 N:=51
 np:=3
 cs:=[j9z]
 ds:=[⟨0,[sI,sI,.s (.one (.d ty44)),sI,sI],[iT,iT,ty44,iT,iT],[⟨.exit 0,[sI],[iT]⟩],Pw.unc5 (Pw.j4p)⟩]
 modes:=[(79,[false,false])]
 keep:=[(0,⟨[1,2,9,10,11],[],[],[]⟩)]
 keepX:=[(0,.exit 0,⟨[1],[],[],[]⟩)]
 ro:=[false]
theorem jl4:Con.OK Tryz.prog jbu:=
 cOf j0n j04 jma jbu Tryz.func29 (j9 ji0 trivial) (j9 (fun h=>by kernel_rfl) trivial)
def jan:Con:=⟨78,[.v ty86,.v ty77,.v iT],[ty86,ty77,iT],⟨[.v iT],[]⟩,[iT],Pw.unc3 Pw.j5V⟩
def jl5:FnD where
 N:=27
 np:=3
 cs:=[j7R,jbu]
 ds:=[]
 modes:=[(29,[false,false,false]),(87,[false,false,false])]
 ro:=[false]
theorem jjH:Con.OK Tryz.prog jan:=
 cOf j0n j04 jl5 jan Tryz.func78 (j9 jfS (j9 jl4 trivial)) trivial
def ja7:Con:=⟨26,[.v ty84,.v iT,.v iT],[ty84,iT,iT],⟨[.v iT],[]⟩,[iT],Pw.unc3 Pw.j56⟩
def jnS:FnD where
 N:=30
 np:=3
 cs:=[j75,jdJ,jan]
 ds:=[]
 modes:=[(76,[false]),(77,[false,false]),(78,[false,false,false])]
 ro:=[false]
theorem jhn:Con.OK Tryz.prog ja7:=
 cOf j0n j04 jnS ja7 Tryz.func26 (j9 jdd (j9 jnQ (j9 jjH trivial))) trivial
def jao:Con:=⟨16,[],[],⟨[.v .bool],[]⟩,[.bool],fun h=>Pw.j7L⟩
def jl6:FnD where
 N:=65
 np:=0
 cs:=[j9l,j7V,j79,ja7]
 ds:=[]
 modes:=[(21,[false,false,false]),(24,[false,false,false]),(26,[false,false,false]),(64,[])]
 ro:=[false]
theorem jjI:Con.OK Tryz.prog jao:=
 cOf j0n j04 jl6 jao Tryz.func16 (j9 jhO (j9 jeJ (j9 jde (j9 jhn trivial)))) trivial
def jbv:Con:=⟨17,[.v (.list iT)],[(.list iT)],⟨[.box [(.list iT),iT]],[]⟩,[(.list iT),iT],fun h=>Pw.jh8 h⟩
def jmb:FnD where
 N:=6
 np:=1
 cs:=[]
 ds:=[]
 ro:=[false]
theorem jl7:Con.OK Tryz.prog jbv:=
 cOf j0n j04 jmb jbv Tryz.func17 trivial trivial
def j11:Con:=⟨27,[.ref [(.list iT),iT],.v iT],[(.list iT),iT,iT],⟨[.v iT],[.ref [(.list iT),iT]]⟩,[iT,(.list iT),iT],Pw.unc3 Pw.j03⟩
def jfT:FnD where
 N:=45
 np:=2
 cs:=[]
 ds:=[]
 ro:=[false]
theorem j1S:Con.OK Tryz.prog j11:=
 cOf j0n j04 jfT j11 Tryz.func27 trivial trivial
def j20:Con:=⟨32,[.ref [(.list iT),iT],.v (.list iT)],[(.list iT),iT,(.list iT)],⟨[.v iT],[.ref [(.list iT),iT]]⟩,[iT,(.list iT),iT],Pw.unc3 Pw.j15⟩
def jfU:FnD where
 N:=12
 np:=2
 cs:=[j11]
 ds:=[]
 modes:=[(27,[false,false])]
 ro:=[false]
theorem j3s:Con.OK Tryz.prog j20:=
 cOf j0n j04 jfU j20 Tryz.func32 (j9 j1S trivial) trivial
def j7a:Con:=⟨147,[.ref [(.list iT),iT],.v .str],[(.list iT),iT,.str],⟨[.v ty65],[.ref [(.list iT),iT]]⟩,[ty65,(.list iT),iT],Pw.unc3 Pw.j3n⟩
def jfV:FnD where
 N:=98
 np:=2
 cs:=[j11,j20]
 ds:=[]
 modes:=[(27,[false,false]),(32,[false,false])]
 ro:=[false]
 dw:=[(7,[[],[],[0],[],[],[0],[],[0],[],[],[],[],[0],[],[],[],[],[],[],[0],[],[],[3968],[0,3968],[],[0],[],[0],[],[],[],[],[4608],[],[320]]),(9,[[],[],[],[5056],[0,5056],[],[]])]
theorem jfj:Con.OK Tryz.prog j7a:=
 cOf j0n j04 jfV j7a Tryz.func147 (j9 j1S (j9 j3s trivial)) trivial
def j7X:Con:=⟨67,[],[],⟨[.own 9 (.list .str)],[]⟩,[(.list .str)],fun h=>Pw.jcN⟩
def jl8:FnD where
 N:=2
 np:=0
 cs:=[]
 ds:=[]
 ro:=[true]
theorem jeR:Con.OK Tryz.prog j7X:=
 cOf j0n j04 jl8 j7X Tryz.func67 trivial trivial
def j31:Con:=⟨74,[.ref [(.list iT),iT],.v iT],[(.list iT),iT,iT],⟨[.v .bool],[.ref [(.list iT),iT]]⟩,[.bool,(.list iT),iT],Pw.unc3 Pw.j0U⟩
def jfW:FnD where
 N:=11
 np:=2
 cs:=[j11]
 ds:=[]
 modes:=[(27,[false,false])]
 ro:=[false]
theorem j5Z:Con.OK Tryz.prog j31:=
 cOf j0n j04 jfW j31 Tryz.func74 (j9 j1S trivial) trivial
def j3W:Con:=⟨121,[.ref [(.list iT),iT]],[(.list iT),iT],⟨[.own 182 ty13],[.ref [(.list iT),iT]]⟩,[ty13,(.list iT),iT],Pw.unc2 Pw.j3r⟩
def jdR:FnD where
 N:=38
 np:=1
 cs:=[j11,j20]
 ds:=[⟨0,[.s (.one (.bp 0 0)),.s (.one (.ol 1000000)),sI,sI,.b (.cell [.d (.list iT),.d iT] false),.b (.lst 182 ty8 false)],[iT,iT,(.list iT),iT,ty13],[⟨.exit 0,[.s (.one (.ol 1500100)),.b (.cell [.d (.list iT),.d iT] false),.b (.lst 182 ty8 false)],[(.list iT),iT,ty13]⟩],Pw.unc5 (Pw.j21)⟩]
 modes:=[(27,[false,false]),(32,[false,false])]
 keep:=[(0,⟨[0,3,4,5],[0],[⟨1000000,182,ty8,[.slot 3],false⟩],[]⟩)]
 keepX:=[(0,.exit 0,⟨[3],[0],[⟨1500100,182,ty8,[.slot 3],false⟩],[]⟩)]
 ro:=[true]
theorem j8S:Con.OK Tryz.prog j3W:=
 cOf j0n j04 jdR j3W Tryz.func121 (j9 j1S (j9 j3s trivial)) (j9 (fun h=>by kernel_rfl) trivial)
def j6B:Con:=⟨65,[.ref [(.list iT),iT]],[(.list iT),iT],⟨[.vn ty84 [3]],[.ref [(.list iT),iT]]⟩,[ty84,(.list iT),iT],Pw.unc2 Pw.j6Y⟩
def jfk:FnD where
 N:=109
 np:=1
 cs:=[j11,j20,j7a,j7X,j31,j3W]
 ds:=[⟨0,[.s (.one (.bp 0 0)),.s (.one (.bp 128 0)),.s (.one (.bp 192 0)),sI,.b (.cell [.d (.list iT),.d iT] false),.b (.cell [.nil,.nil,.nil,.nil] false),.b (.cell [.ol 1000000,.nil,.nil,.nil] false),.b (.lst 68 ty65 false)],[iT,(.list iT),iT,ty66],[⟨.exit 0,[.s (.one (.bp 0 0)),.s (.one (.bp 128 0)),.s (.one (.bp 192 0)),.b (.cell [.d (.list iT),.d iT] false),.b (.cell [.nil,.nil,.nil,.nil] false),.b (.cell [.ol 1500100,.nil,.nil,.nil] false),.b (.lst 68 ty65 false)],[(.list iT),iT,ty66]⟩],Pw.unc4 (Pw.j2t)⟩,
  ⟨2,[.s (.one (.bp 0 0)),.s (.one (.bp 128 0)),.s (.one (.bp 192 0)),sI,.b (.cell [.d (.list iT),.d iT] false),.b (.cell [.nil,.nil,.nil,.nil] false),.b (.cell [.ol 1002000,.ol 1002001,.nil,.nil] false),.b (.lst 68 ty65 false),.b (.lst 71 ty53 false)],[iT,(.list iT),iT,ty66,ty56],[⟨.exit 2,[.s (.one (.bp 0 0)),.s (.one (.bp 128 0)),.s (.one (.bp 192 0)),.b (.cell [.d (.list iT),.d iT] false),.b (.cell [.nil,.nil,.nil,.nil] false),.b (.cell [.ol 1502300,.ol 1502301,.nil,.nil] false),.b (.lst 68 ty65 false),.b (.lst 71 ty53 false)],[(.list iT),iT,ty66,ty56]⟩],Pw.unc5 (Pw.j2u)⟩,
  ⟨4,[.s (.one (.bp 0 0)),.s (.one (.bp 128 0)),.s (.one (.bp 192 0)),sI,.b (.cell [.d (.list iT),.d iT] false),.b (.cell [.nil,.nil,.nil,.nil] false),.b (.cell [.ol 1004000,.ol 1004001,.ol 1004002,.nil] false),.b (.lst 68 ty65 false),.b (.lst 71 ty53 false),.b (.lst 120 ty24 false)],[iT,(.list iT),iT,ty66,ty56,ty29],[⟨.exit 4,[.s (.one (.bp 128 0)),.s (.one (.bp 192 0)),.b (.cell [.d (.list iT),.d iT] false),.b (.cell [.nil,.nil,.nil,.nil] false),.b (.cell [.ol 1504500,.ol 1504501,.ol 1504502,.nil] false),.b (.lst 68 ty65 false),.b (.lst 71 ty53 false),.b (.lst 120 ty24 false)],[(.list iT),iT,ty66,ty56,ty29]⟩],Pw.unc6 (Pw.j1Q)⟩,
  ⟨6,[.s (.one (.bp 0 0)),.s (.one (.bp 128 0)),.s (.one (.bp 192 0)),sI,.s (.one (.bp 512 0)),sI,sI,.b (.cell [.d (.list iT),.d iT] false),.b (.cell [.nil,.nil,.nil,.nil] false),.b (.cell [.ol 1006000,.ol 1006001,.ol 1006002,.nil] false),.b (.cell [.d .str,.d iT,.ol 1006003] false),.b (.lst 68 ty65 false),.b (.lst 71 ty53 false),.b (.lst 120 ty24 false),.b (.lst 3 iT false)],[iT,iT,iT,(.list iT),iT,.str,iT,ty66,ty56,ty29,(.list iT)],[⟨.exit 6,[.s (.one (.bp 0 0)),.s (.one (.bp 128 0)),.s (.one (.bp 192 0)),sI,.s (.one (.bp 512 0)),.b (.cell [.d (.list iT),.d iT] false),.b (.cell [.nil,.nil,.nil,.nil] false),.b (.cell [.ol 1506700,.ol 1506701,.ol 1506702,.nil] false),.b (.cell [.d .str,.d iT,.ol 1506703] false),.b (.lst 68 ty65 false),.b (.lst 71 ty53 false),.b (.lst 120 ty24 false),.b (.lst 3 iT false)],[iT,(.list iT),iT,.str,iT,ty66,ty56,ty29,(.list iT)]⟩],Pw.jqL (Pw.j2v)⟩]
 modes:=[(27,[false,false]),(32,[false,false]),(67,[]),(74,[false,false]),(121,[false]),(147,[false,false])]
 keep:=[(0,⟨[0,2,3,4],[0,128,192],[⟨1000000,68,ty65,[.cell 192 0],false⟩],[]⟩),
  (2,⟨[0,2,3,5],[0,128,192],[⟨1002000,68,ty65,[.cell 192 0],false⟩,⟨1002001,71,ty53,[.cell 192 1],false⟩],[]⟩),
  (4,⟨[0,2,3,7],[0,128,192],[⟨1004000,68,ty65,[.cell 192 0],false⟩,⟨1004001,71,ty53,[.cell 192 1],false⟩,⟨1004002,120,ty24,[.cell 192 2],false⟩],[]⟩),
  (6,⟨[0,2,3,7,8,9,10],[0,128,192,512],[⟨1006000,68,ty65,[.cell 192 0],false⟩,⟨1006001,71,ty53,[.cell 192 1],false⟩,⟨1006002,120,ty24,[.cell 192 2],false⟩,⟨1006003,3,iT,[.cell 512 2],false⟩],[]⟩)]
 keepX:=[(0,.exit 0,⟨[0,2,3],[0,128,192],[⟨1500100,68,ty65,[.cell 192 0],false⟩],[]⟩),
  (2,.exit 2,⟨[0,2,3],[0,128,192],[⟨1502300,68,ty65,[.cell 192 0],false⟩,⟨1502301,71,ty53,[.cell 192 1],false⟩],[]⟩),
  (4,.exit 4,⟨[2,3],[0,128,192],[⟨1504500,68,ty65,[.cell 192 0],false⟩,⟨1504501,71,ty53,[.cell 192 1],false⟩,⟨1504502,120,ty24,[.cell 192 2],false⟩],[]⟩),
  (6,.exit 6,⟨[0,2,3,7,8],[0,128,192,512],[⟨1506700,68,ty65,[.cell 192 0],false⟩,⟨1506701,71,ty53,[.cell 192 1],false⟩,⟨1506702,120,ty24,[.cell 192 2],false⟩,⟨1506703,3,iT,[.cell 512 2],false⟩],[]⟩)]
 ro:=[false]
 dw:=[(5,[[],[],[],[1344],[],[],[],[],[],[0],[1792],[1856,1000000],[],[192]]),(9,[[2432],[],[],[],[],[],[],[],[],[],[0],[],[0],[],[384],[384]])]
 ns:=[3]
theorem jeS:Con.OK Tryz.prog j6B:=
 cOf j0n j04 jfk j6B Tryz.func65 (j9 j1S (j9 j3s (j9 jfj (j9 jeR (j9 j5Z (j9 j8S trivial)))))) (j9 (fun h=>by kernel_rfl) (j9 (fun h=>by kernel_rfl) (j9 (fun h=>by kernel_rfl) (j9 (fun h=>by kernel_rfl) trivial))))
def j6C:Con:=⟨66,[.ref [(.list iT),iT],.v ty84,.v .str],[(.list iT),iT,ty84,.str],⟨[.v ty72],[.ref [(.list iT),iT]]⟩,[ty72,(.list iT),iT],Pw.unc4 Pw.j6Z⟩
def jfl:FnD where
 N:=77
 np:=3
 cs:=[j11,j20,j31,j3W]
 ds:=[⟨0,[.s (.one (.bp 0 0)),.s (.one (.bp 256 0)),.s (.one (.bp 384 0)),.s (.one (.bp 448 0)),sI,.b (.cell [.d (.list iT),.d iT] false),.b (.cell [.d ty66,.d ty56,.d ty29,.d ty78] false),.b (.cell [.d .str,.d iT,.d iT,.d iT,.d iT,.d iT,.nil,.nil,.d iT,.d iT] false),.b (.cell [.d .str,.d iT,.d iT,.d iT,.d iT,.d iT,.ol 1000000,.nil,.d iT,.d iT] false),.b (.lst 3 iT false)],[iT,(.list iT),iT,ty66,ty56,ty29,ty78,.str,iT,iT,iT,iT,iT,iT,iT,.str,iT,iT,iT,iT,iT,iT,iT,(.list iT)],[⟨.exit 0,[.s (.one (.bp 0 0)),.s (.one (.bp 256 0)),.s (.one (.bp 384 0)),.s (.one (.bp 448 0)),.b (.cell [.d (.list iT),.d iT] false),.b (.cell [.d ty66,.d ty56,.d ty29,.d ty78] false),.b (.cell [.d .str,.d iT,.d iT,.d iT,.d iT,.d iT,.nil,.nil,.d iT,.d iT] false),.b (.cell [.d .str,.d iT,.d iT,.d iT,.d iT,.d iT,.ol 1500100,.nil,.d iT,.d iT] false),.b (.lst 3 iT false)],[(.list iT),iT,ty66,ty56,ty29,ty78,.str,iT,iT,iT,iT,iT,iT,iT,.str,iT,iT,iT,iT,iT,iT,iT,(.list iT)]⟩],Pw.jsX (Pw.j2w)⟩]
 modes:=[(27,[false,false]),(32,[false,false]),(74,[false,false]),(121,[false])]
 keep:=[(0,⟨[0,4,6,7,8],[0,256,384,448],[⟨1000000,3,iT,[.cell 448 6],false⟩],[]⟩)]
 keepX:=[(0,.exit 0,⟨[0,4,6,7],[0,256,384,448],[⟨1500100,3,iT,[.cell 448 6],false⟩],[]⟩)]
 ro:=[false]
 dw:=[(7,[[],[],[],[],[],[],[0],[3200],[3264,1000000],[],[448]])]
theorem jeT:Con.OK Tryz.prog j6C:=
 cOf j0n j04 jfl j6C Tryz.func66 (j9 j1S (j9 j3s (j9 j5Z (j9 j8S trivial)))) (j9 (fun h=>by kernel_rfl) trivial)
def j3X:Con:=⟨25,[.ref [(.list iT),iT]],[(.list iT),iT],⟨[.v iT],[.ref [(.list iT),iT]]⟩,[iT,(.list iT),iT],Pw.unc2 Pw.j2h⟩
def jdS:FnD where
 N:=16
 np:=1
 cs:=[j11,j20,j31]
 ds:=[]
 modes:=[(27,[false,false]),(32,[false,false]),(74,[false,false])]
 ro:=[false]
theorem j8T:Con.OK Tryz.prog j3X:=
 cOf j0n j04 jdS j3X Tryz.func25 (j9 j1S (j9 j3s (j9 j5Z trivial))) trivial
def j5c:Con:=⟨23,[.ref [(.list iT),iT],.v ty84],[(.list iT),iT,ty84],⟨[.v ty42],[.ref [(.list iT),iT]]⟩,[ty42,(.list iT),iT],Pw.unc3 Pw.j4Z⟩
def jfX:FnD where
 N:=52
 np:=2
 cs:=[j11,j20,j31,j3X]
 ds:=[]
 modes:=[(25,[false]),(27,[false,false]),(32,[false,false]),(74,[false,false])]
 ro:=[false]
 dw:=[(3,[[],[],[],[1344],[0,1344],[],[],[384]]),(8,[[],[],[],[],[],[],[0],[],[],[],[],[384]])]
theorem jaQ:Con.OK Tryz.prog j5c:=
 cOf j0n j04 jfX j5c Tryz.func23 (j9 j1S (j9 j3s (j9 j5Z (j9 j8T trivial)))) trivial
def j6j:Con:=⟨19,[.ref [(.list iT),iT],.v iT],[(.list iT),iT,iT],⟨[.v ty84],[.ref [(.list iT),iT]]⟩,[ty84,(.list iT),iT],Pw.unc3 Pw.j4O⟩
def jeU:FnD where
 N:=69
 np:=2
 cs:=[j11,j7X,j6B,j6C,j5c]
 ds:=[⟨0,[.s (.one (.bp 0 0)),.s (.one (.bp 256 0)),.s (.one (.bp 320 0)),sI,.b (.cell [.d (.list iT),.d iT] false),.b (.cell [.nil,.nil,.nil,.nil] false),.b (.cell [.d ty66,.d ty56,.d ty29,.ol 1000000] false),.b (.lst 38 ty77 true)],[iT,(.list iT),iT,ty66,ty56,ty29,ty78],[⟨.exit 0,[.s (.one (.bp 256 0)),.s (.one (.bp 320 0)),.b (.cell [.d (.list iT),.d iT] false),.b (.cell [.nil,.nil,.nil,.nil] false),.b (.cell [.d ty66,.d ty56,.d ty29,.ol 1500100] false),.b (.lst 38 ty77 true)],[(.list iT),iT,ty66,ty56,ty29,ty78]⟩],Pw.unc7 (Pw.j2k)⟩,
  ⟨2,[.s (.one (.bp 0 0)),.s (.one (.bp 256 0)),.s (.one (.bp 320 0)),sI,.s (.one (.bp 448 0)),sI,.b (.cell [.d (.list iT),.d iT] false),.b (.cell [.nil,.nil,.nil,.nil] false),.b (.cell [.d ty66,.d ty56,.d ty29,.ol 1002000] false),.b (.cell [.d .str,.ol 1002001,.nil] false),.b (.lst 38 ty77 true),.b (.lst 111 ty72 false)],[iT,iT,(.list iT),iT,ty66,ty56,ty29,.str,ty78,ty73],[⟨.exit 2,[.s (.one (.bp 0 0)),.s (.one (.bp 256 0)),.s (.one (.bp 320 0)),sI,.s (.one (.bp 448 0)),.b (.cell [.d (.list iT),.d iT] false),.b (.cell [.nil,.nil,.nil,.nil] false),.b (.cell [.d ty66,.d ty56,.d ty29,.ol 1502300] false),.b (.cell [.d .str,.ol 1502301,.nil] false),.b (.lst 38 ty77 true),.b (.lst 111 ty72 false)],[iT,(.list iT),iT,ty66,ty56,ty29,.str,ty78,ty73]⟩],Pw.jqK (Pw.j2i)⟩,
  ⟨4,[.s (.one (.bp 0 0)),.s (.one (.bp 256 0)),.s (.one (.bp 320 0)),sI,.s (.one (.bp 448 0)),sI,.b (.cell [.d (.list iT),.d iT] false),.b (.cell [.nil,.nil,.nil,.nil] false),.b (.cell [.d ty66,.d ty56,.d ty29,.ol 1004000] false),.b (.cell [.d .str,.ol 1004001,.ol 1004002] false),.b (.lst 38 ty77 true),.b (.lst 111 ty72 false),.b (.lst 46 ty42 false)],[iT,iT,(.list iT),iT,ty66,ty56,ty29,.str,ty78,ty73,ty44],[⟨.exit 4,[.s (.one (.bp 0 0)),.s (.one (.bp 256 0)),.s (.one (.bp 320 0)),sI,.s (.one (.bp 448 0)),.b (.cell [.d (.list iT),.d iT] false),.b (.cell [.nil,.nil,.nil,.nil] false),.b (.cell [.d ty66,.d ty56,.d ty29,.ol 1504500] false),.b (.cell [.d .str,.ol 1504501,.ol 1504502] false),.b (.lst 38 ty77 true),.b (.lst 111 ty72 false),.b (.lst 46 ty42 false)],[iT,(.list iT),iT,ty66,ty56,ty29,.str,ty78,ty73,ty44]⟩],Pw.jqL (Pw.j2j)⟩]
 modes:=[(23,[false,false]),(27,[false,false]),(65,[false]),(66,[false,false,false]),(67,[])]
 keep:=[(0,⟨[0,4,5,6],[0,256,320],[⟨1000000,38,ty77,[.cell 320 3],true⟩],[]⟩),
  (2,⟨[0,4,5,6,7,8],[0,256,320,448],[⟨1002000,38,ty77,[.cell 320 3],false⟩,⟨1002001,111,ty72,[.cell 448 1],false⟩],[]⟩),
  (4,⟨[0,4,5,6,7,9],[0,256,320,448],[⟨1004000,38,ty77,[.cell 320 3],false⟩,⟨1004001,111,ty72,[.cell 448 1],false⟩,⟨1004002,46,ty42,[.cell 448 2],false⟩],[]⟩)]
 keepX:=[(0,.exit 0,⟨[4,5],[0,256,320],[⟨1500100,38,ty77,[.cell 320 3],false⟩],[]⟩),
  (2,.exit 2,⟨[0,4,5,6,7],[0,256,320,448],[⟨1502300,38,ty77,[.cell 320 3],false⟩,⟨1502301,111,ty72,[.cell 448 1],false⟩],[]⟩),
  (4,.exit 4,⟨[0,4,5,6,7],[0,256,320,448],[⟨1504500,38,ty77,[.cell 320 3],false⟩,⟨1504501,111,ty72,[.cell 448 1],false⟩,⟨1504502,46,ty42,[.cell 448 2],false⟩],[]⟩)]
 ro:=[false]
 dw:=[(9,[[],[],[],[],[2432],[],[],[],[],[],[0,1002000],[2880],[2944,1002000,1002001],[],[448]]),(13,[[],[],[],[],[0,1004000],[3776],[3840,1004001,1004002],[],[448]])]
theorem jdT:Con.OK Tryz.prog j6j:=
 cOf j0n j04 jeU j6j Tryz.func19 (j9 j1S (j9 jeR (j9 jeS (j9 jeT (j9 jaQ trivial))))) (j9 (fun h=>by kernel_rfl) (j9 (fun h=>by kernel_rfl) (j9 (fun h=>by kernel_rfl) trivial)))
end Go.Proofs.Pk
