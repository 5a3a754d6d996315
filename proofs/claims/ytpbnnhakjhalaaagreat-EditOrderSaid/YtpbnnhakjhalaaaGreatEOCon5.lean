/- Contracts: each given function is its plain function, printed by a program. -/
import Derived.Test.YtpbnnhakjhalaaaGreatEOCon4
noncomputable section
open Go Go.Lft
set_option linter.unusedVariables false
set_option maxRecDepth 100000
namespace Go.Proofs.Pk
def j1w:Con:=⟨166,[.v ty44,.clo 167 [.p [iT],.p [iT]]],[ty44,iT,iT],⟨[.v .bool],[]⟩,[.bool],Pw.unc3 Pw.j0D⟩
def j60:FnD where
 N:=9
 np:=2
 cs:=[j1L]
 ds:=[]
 modes:=[(247,[false,false])]
 ro:=[false]
theorem j5A:Con.OK Tryz.prog j1w:=
 cOf j0e j03 j60 j1w Tryz.func166 (j9 j6x trivial) trivial
def jb9:Con:=⟨85,[.v ty77,.v iT,.v iT],[ty77,iT,iT],⟨[.v .bool],[]⟩,[.bool],Pw.unc3 Pw.j87⟩
def jnl:FnD where
 N:=11
 np:=3
 cs:=[j1w]
 ds:=[]
 modes:=[(166,[false,false])]
 ro:=[false]
theorem jlN:Con.OK Tryz.prog jb9:=
 cOf j0e j03 jnl jb9 Tryz.func85 (j9 j5A trivial) trivial
def j8f:Con:=⟨87,[.v ty86,.v ty77,.v iT],[ty86,ty77,iT],⟨[.v iT,.v iT],[]⟩,[iT,iT],Pw.unc3 Pw.j3g⟩
def jjg:FnD where
 N:=29
 np:=3
 cs:=[j1G,j6w,jb9]
 ds:=[⟨0,[sI,.s (.one (.bp 192 0)),.s (.one (.bp 256 0)),.s (.one (.bp 320 0)),.s (.one (.bp 384 0)),.s (.one (.bp 448 0)),.s (.one (.clo 248 [.p [ty73]])),.b (.cell [.d ty66,.d ty56,.d ty29,.d ty78,.d ty33] false),.b (.cell [.d .str,.d ty73,.d ty44] false),.b (.cell [.d iT] false),.b (.cell [.d iT] false),.b (.cell [.d iT] false)],[iT,ty73,ty66,ty56,ty29,ty78,ty33,.str,ty73,ty44,iT,iT,iT],[⟨.normal,[.s (.one (.bp 384 0)),.s (.one (.bp 448 0)),.b (.cell [.d iT] false),.b (.cell [.d iT] false)],[iT,iT]⟩,⟨.ret,[.s (.one (.bp 384 0)),.s (.one (.bp 448 0)),.b (.cell [.d iT] false),.b (.cell [.d iT] false)],[iT,iT]⟩],Pw.jwf (Pw.j1k)⟩]
 modes:=[(85,[false,false,false]),(168,[false]),(169,[false,false,false])]
 keep:=[(0,⟨[3,4,5,6,7,13],[192,256,320,384,448],[],[]⟩)]
 keepX:=[(0,.normal,⟨[6,7],[384,448],[],[]⟩),
  (0,.ret,⟨[6,7],[384,448],[],[]⟩)]
 ro:=[false,false]
 bw:=[(248,(false,ty72))]
theorem ju0:ItOK Tryz.prog 248 false (ty72):=jx0 <| jwd j0e Tryz.func248 (fn:=Tryz.f248) (A0:=bwA Tryz.f248 0) (A1:=bwA Tryz.f248 1) (A2:=bwA Tryz.f248 2) (A3:=bwA Tryz.f248 3) (by kernel_rfl) (by kernel_rfl) (by kernel_rfl) (by kernel_rfl) (by kernel_rfl) (by kernel_rfl) (by kernel_rfl) (by kernel_rfl) (by kernel_rfl) (by kernel_rfl) (by kernel_rfl) ⟨(by kernel_rfl),(by kernel_rfl)⟩
 (fun xs=>by kernel_rfl) (fun i=>by kernel_rfl) (fun i=>by kernel_rfl) (fun xs i=>by kernel_rfl) (fun b i=>by kernel_rfl)
theorem jhI:Con.OK Tryz.prog j8f:=
 cOf j0e j03 jjg j8f Tryz.func87 (j9 j6c (j9 jfq (j9 jlN trivial))) (j9 (fun h=>by kernel_rfl) trivial) (j9 ju0 trivial)
def jal:Con:=⟨79,[.v ty42,.v iT],[ty42,iT],⟨[.v .bool],[]⟩,[.bool],Pw.unc2 Pw.jf8⟩
def jlO:FnD where
 N:=15
 np:=2
 cs:=[]
 ds:=[]
 ro:=[false]
theorem jk2:Con.OK Tryz.prog jal:=
 cOf j0e j03 jlO jal Tryz.func79 trivial trivial
def j9z:Con:=⟨29,[.v ty44,.v iT,.v iT],[ty44,iT,iT],⟨[.v iT],[]⟩,[iT],Pw.unc3 Pw.j8u⟩
def joH:FnD where
 N:=51
 np:=3
 cs:=[jal]
 ds:=[⟨0,[sI,sI,.s (.one (.d ty44)),sI,sI],[iT,iT,ty44,iT,iT],[⟨.exit 0,[sI],[iT]⟩],Pw.unc5 (Pw.j4w)⟩]
 modes:=[(79,[false,false])]
 keep:=[(0,⟨[1,2,9,10,11],[],[],[]⟩)]
 keepX:=[(0,.exit 0,⟨[1],[],[],[]⟩)]
 ro:=[false]
theorem jht:Con.OK Tryz.prog j9z:=
 cOf j0e j03 joH j9z Tryz.func29 (j9 jk2 trivial) (j9 (fun h=>by kernel_rfl) trivial)
def jba:Con:=⟨78,[.v ty86,.v ty77,.v iT],[ty86,ty77,iT],⟨[.v iT],[]⟩,[iT],Pw.unc3 Pw.j74⟩
def jnm:FnD where
 N:=27
 np:=3
 cs:=[j8f,j9z]
 ds:=[]
 modes:=[(29,[false,false,false]),(87,[false,false,false])]
 ro:=[false]
theorem jlP:Con.OK Tryz.prog jba:=
 cOf j0e j03 jnm jba Tryz.func78 (j9 jhI (j9 jht trivial)) trivial
def jaS:Con:=⟨26,[.v ty84,.v iT,.v iT],[ty84,iT,iT],⟨[.v iT],[]⟩,[iT],Pw.unc3 Pw.j69⟩
def jqP:FnD where
 N:=30
 np:=3
 cs:=[j7r,jfj,jba]
 ds:=[]
 modes:=[(76,[false]),(77,[false,false]),(78,[false,false,false])]
 ro:=[false]
theorem jjh:Con.OK Tryz.prog jaS:=
 cOf j0e j03 jqP jaS Tryz.func26 (j9 jeO (j9 jqN (j9 jlP trivial))) trivial
def jbb:Con:=⟨16,[],[],⟨[.v .bool],[]⟩,[.bool],fun h=>Pw.j88⟩
def jnn:FnD where
 N:=65
 np:=0
 cs:=[ja6,jb7,jag,jaS]
 ds:=[]
 modes:=[(21,[false,false,false]),(24,[false,false,false]),(26,[false,false,false]),(64,[])]
 ro:=[false]
theorem jlQ:Con.OK Tryz.prog jbb:=
 cOf j0e j03 jnn jbb Tryz.func16 (j9 jjP (j9 jlI (j9 jjW (j9 jjh trivial)))) trivial
def jcw:Con:=⟨17,[.v (.list iT)],[(.list iT)],⟨[.box [(.list iT),iT]],[]⟩,[(.list iT),iT],fun h=>Pw.jiZ h⟩
def joI:FnD where
 N:=6
 np:=1
 cs:=[]
 ds:=[]
 ro:=[false]
theorem jno:Con.OK Tryz.prog jcw:=
 cOf j0e j03 joI jcw Tryz.func17 trivial trivial
def j14:Con:=⟨27,[.ref [(.list iT),iT],.v iT],[(.list iT),iT,iT],⟨[.v iT],[.ref [(.list iT),iT]]⟩,[iT,(.list iT),iT],Pw.unc3 Pw.j04⟩
def jhJ:FnD where
 N:=45
 np:=2
 cs:=[]
 ds:=[]
 ro:=[false]
theorem j1M:Con.OK Tryz.prog j14:=
 cOf j0e j03 jhJ j14 Tryz.func27 trivial trivial
def j1T:Con:=⟨32,[.ref [(.list iT),iT],.v (.list iT)],[(.list iT),iT,(.list iT)],⟨[.v iT],[.ref [(.list iT),iT]]⟩,[iT,(.list iT),iT],Pw.unc3 Pw.j17⟩
def jhK:FnD where
 N:=12
 np:=2
 cs:=[j14]
 ds:=[]
 modes:=[(27,[false,false])]
 ro:=[false]
theorem j3v:Con.OK Tryz.prog j1T:=
 cOf j0e j03 jhK j1T Tryz.func32 (j9 j1M trivial) trivial
def j7v:Con:=⟨147,[.ref [(.list iT),iT],.v .str],[(.list iT),iT,.str],⟨[.v ty65],[.ref [(.list iT),iT]]⟩,[ty65,(.list iT),iT],Pw.unc3 Pw.j3p⟩
def jhL:FnD where
 N:=98
 np:=2
 cs:=[j14,j1T]
 ds:=[]
 modes:=[(27,[false,false]),(32,[false,false])]
 ro:=[false]
 dw:=[(7,[[],[],[0],[],[],[0],[],[0],[],[],[],[],[0],[],[],[],[],[],[],[0],[],[],[3968],[0,3968],[],[0],[],[0],[],[],[],[],[4608],[],[320]]),(9,[[],[],[],[5056],[0,5056],[],[]])]
theorem jh2:Con.OK Tryz.prog j7v:=
 cOf j0e j03 jhL j7v Tryz.func147 (j9 j1M (j9 j3v trivial)) trivial
def j8n:Con:=⟨67,[],[],⟨[.own 9 (.list .str)],[]⟩,[(.list .str)],fun h=>Pw.jel⟩
def jnp:FnD where
 N:=2
 np:=0
 cs:=[]
 ds:=[]
 ro:=[true]
theorem jgx:Con.OK Tryz.prog j8n:=
 cOf j0e j03 jnp j8n Tryz.func67 trivial trivial
def j33:Con:=⟨74,[.ref [(.list iT),iT],.v iT],[(.list iT),iT,iT],⟨[.v .bool],[.ref [(.list iT),iT]]⟩,[.bool,(.list iT),iT],Pw.unc3 Pw.j0X⟩
def jhM:FnD where
 N:=11
 np:=2
 cs:=[j14]
 ds:=[]
 modes:=[(27,[false,false])]
 ro:=[false]
theorem j6d:Con.OK Tryz.prog j33:=
 cOf j0e j03 jhM j33 Tryz.func74 (j9 j1M trivial) trivial
def j46:Con:=⟨121,[.ref [(.list iT),iT]],[(.list iT),iT],⟨[.own 182 ty13],[.ref [(.list iT),iT]]⟩,[ty13,(.list iT),iT],Pw.unc2 Pw.j3t⟩
def jfr:FnD where
 N:=38
 np:=1
 cs:=[j14,j1T]
 ds:=[⟨0,[.s (.one (.bp 0 0)),.s (.one (.ol 1000000)),sI,sI,.b (.cell [.d (.list iT),.d iT] false),.b (.lst 182 ty8 false)],[iT,iT,(.list iT),iT,ty13],[⟨.exit 0,[.s (.one (.ol 1500100)),.b (.cell [.d (.list iT),.d iT] false),.b (.lst 182 ty8 false)],[(.list iT),iT,ty13]⟩],Pw.unc5 (Pw.j1U)⟩]
 modes:=[(27,[false,false]),(32,[false,false])]
 keep:=[(0,⟨[0,3,4,5],[0],[⟨1000000,182,ty8,[.slot 3],false⟩],[]⟩)]
 keepX:=[(0,.exit 0,⟨[3],[0],[⟨1500100,182,ty8,[.slot 3],false⟩],[]⟩)]
 ro:=[true]
theorem j9p:Con.OK Tryz.prog j46:=
 cOf j0e j03 jfr j46 Tryz.func121 (j9 j1M (j9 j3v trivial)) (j9 (fun h=>by kernel_rfl) trivial)
def j6T:Con:=⟨65,[.ref [(.list iT),iT]],[(.list iT),iT],⟨[.vn ty84 [3]],[.ref [(.list iT),iT]]⟩,[ty84,(.list iT),iT],Pw.unc2 Pw.j7j⟩
def jh3:FnD where
 N:=109
 np:=1
 cs:=[j14,j1T,j7v,j8n,j33,j46]
 ds:=[⟨0,[.s (.one (.bp 0 0)),.s (.one (.bp 128 0)),.s (.one (.bp 192 0)),sI,.b (.cell [.d (.list iT),.d iT] false),.b (.cell [.nil,.nil,.nil,.nil] false),.b (.cell [.ol 1000000,.nil,.nil,.nil] false),.b (.lst 68 ty65 false)],[iT,(.list iT),iT,ty66],[⟨.exit 0,[.s (.one (.bp 0 0)),.s (.one (.bp 128 0)),.s (.one (.bp 192 0)),.b (.cell [.d (.list iT),.d iT] false),.b (.cell [.nil,.nil,.nil,.nil] false),.b (.cell [.ol 1500100,.nil,.nil,.nil] false),.b (.lst 68 ty65 false)],[(.list iT),iT,ty66]⟩],Pw.unc4 (Pw.j2k)⟩,
  ⟨2,[.s (.one (.bp 0 0)),.s (.one (.bp 128 0)),.s (.one (.bp 192 0)),sI,.b (.cell [.d (.list iT),.d iT] false),.b (.cell [.nil,.nil,.nil,.nil] false),.b (.cell [.ol 1002000,.ol 1002001,.nil,.nil] false),.b (.lst 68 ty65 false),.b (.lst 71 ty53 false)],[iT,(.list iT),iT,ty66,ty56],[⟨.exit 2,[.s (.one (.bp 0 0)),.s (.one (.bp 128 0)),.s (.one (.bp 192 0)),.b (.cell [.d (.list iT),.d iT] false),.b (.cell [.nil,.nil,.nil,.nil] false),.b (.cell [.ol 1502300,.ol 1502301,.nil,.nil] false),.b (.lst 68 ty65 false),.b (.lst 71 ty53 false)],[(.list iT),iT,ty66,ty56]⟩],Pw.unc5 (Pw.j2l)⟩,
  ⟨4,[.s (.one (.bp 0 0)),.s (.one (.bp 128 0)),.s (.one (.bp 192 0)),sI,.b (.cell [.d (.list iT),.d iT] false),.b (.cell [.nil,.nil,.nil,.nil] false),.b (.cell [.ol 1004000,.ol 1004001,.ol 1004002,.nil] false),.b (.lst 68 ty65 false),.b (.lst 71 ty53 false),.b (.lst 120 ty24 false)],[iT,(.list iT),iT,ty66,ty56,ty29],[⟨.exit 4,[.s (.one (.bp 128 0)),.s (.one (.bp 192 0)),.b (.cell [.d (.list iT),.d iT] false),.b (.cell [.nil,.nil,.nil,.nil] false),.b (.cell [.ol 1504500,.ol 1504501,.ol 1504502,.nil] false),.b (.lst 68 ty65 false),.b (.lst 71 ty53 false),.b (.lst 120 ty24 false)],[(.list iT),iT,ty66,ty56,ty29]⟩],Pw.unc6 (Pw.j1K)⟩,
  ⟨6,[.s (.one (.bp 0 0)),.s (.one (.bp 128 0)),.s (.one (.bp 192 0)),sI,.s (.one (.bp 512 0)),sI,sI,.b (.cell [.d (.list iT),.d iT] false),.b (.cell [.nil,.nil,.nil,.nil] false),.b (.cell [.ol 1006000,.ol 1006001,.ol 1006002,.nil] false),.b (.cell [.d .str,.d iT,.ol 1006003] false),.b (.lst 68 ty65 false),.b (.lst 71 ty53 false),.b (.lst 120 ty24 false),.b (.lst 3 iT false)],[iT,iT,iT,(.list iT),iT,.str,iT,ty66,ty56,ty29,(.list iT)],[⟨.exit 6,[.s (.one (.bp 0 0)),.s (.one (.bp 128 0)),.s (.one (.bp 192 0)),sI,.s (.one (.bp 512 0)),.b (.cell [.d (.list iT),.d iT] false),.b (.cell [.nil,.nil,.nil,.nil] false),.b (.cell [.ol 1506700,.ol 1506701,.ol 1506702,.nil] false),.b (.cell [.d .str,.d iT,.ol 1506703] false),.b (.lst 68 ty65 false),.b (.lst 71 ty53 false),.b (.lst 120 ty24 false),.b (.lst 3 iT false)],[iT,(.list iT),iT,.str,iT,ty66,ty56,ty29,(.list iT)]⟩],Pw.jn4 (Pw.j2m)⟩]
 modes:=[(27,[false,false]),(32,[false,false]),(67,[]),(74,[false,false]),(121,[false]),(147,[false,false])]
 keep:=[(0,⟨[0,2,3,4],[0,128,192],[⟨1000000,68,ty65,[.cell 192 0],false⟩],[]⟩),
  (2,⟨[0,2,3,5],[0,128,192],[⟨1002000,68,ty65,[.cell 192 0],false⟩,⟨1002001,71,ty53,[.cell 192 1],false⟩],[]⟩),
  (4,⟨[0,2,3,7],[0,128,192],[⟨1004000,68,ty65,[.cell 192 0],false⟩,⟨1004001,71,ty53,[.cell 192 1],false⟩,⟨1004002,120,ty24,[.cell 192 2],false⟩],[]⟩),
  (6,⟨[0,2,3,7,8,9,10],[0,128,192,512],[⟨1006000,68,ty65,[.cell 192 0],false⟩,⟨1006001,71,ty53,[.cell 192 1],false⟩,⟨1006002,120,ty24,[.cell 192 2],false⟩,⟨1006003,3,iT,[.cell 512 2],false⟩],[]⟩)]
 keepX:=[(0,.exit 0,⟨[0,2,3],[0,128,192],[⟨1500100,68,ty65,[.cell 192 0],false⟩],[]⟩),
  (2,.exit 2,⟨[0,2,3],[0,128,192],[⟨1502300,68,ty65,[.cell 192 0],false⟩,⟨1502301,71,ty53,[.cell 192 1],false⟩],[]⟩),
  (4,.exit 4,⟨[2,3],[0,128,192],[⟨1504500,68,ty65,[.cell 192 0],false⟩,⟨1504501,71,ty53,[.cell 192 1],false⟩,⟨1504502,120,ty24,[.cell 192 2],false⟩],[]⟩),
  (6,.exit 6,⟨[0,2,3,7,8],[0,128,192,512],[⟨1506700,68,ty65,[.cell 192 0],false⟩,⟨1506701,71,ty53,[.cell 192 1],false⟩,⟨1506702,120,ty24,[.cell 192 2],false⟩,⟨1506703,3,iT,[.cell 512 2],false⟩],[]⟩)]
 ro:=[false]
 dw:=[(5,[[],[],[],[1344],[],[],[],[],[],[0],[1792],[1856,1000000],[],[192]]),(9,[[2432],[],[],[],[],[],[],[],[],[],[0],[],[0],[],[384],[384]])]
 ns:=[3]
theorem jgy:Con.OK Tryz.prog j6T:=
 cOf j0e j03 jh3 j6T Tryz.func65 (j9 j1M (j9 j3v (j9 jh2 (j9 jgx (j9 j6d (j9 j9p trivial)))))) (j9 (fun h=>by kernel_rfl) (j9 (fun h=>by kernel_rfl) (j9 (fun h=>by kernel_rfl) (j9 (fun h=>by kernel_rfl) trivial))))
def j6U:Con:=⟨66,[.ref [(.list iT),iT],.v ty84,.v .str],[(.list iT),iT,ty84,.str],⟨[.v ty72],[.ref [(.list iT),iT]]⟩,[ty72,(.list iT),iT],Pw.unc4 Pw.j7k⟩
def jh4:FnD where
 N:=77
 np:=3
 cs:=[j14,j1T,j33,j46]
 ds:=[⟨0,[.s (.one (.bp 0 0)),.s (.one (.bp 256 0)),.s (.one (.bp 384 0)),.s (.one (.bp 448 0)),sI,.b (.cell [.d (.list iT),.d iT] false),.b (.cell [.d ty66,.d ty56,.d ty29,.d ty78] false),.b (.cell [.d .str,.d iT,.d iT,.d iT,.d iT,.d iT,.nil,.nil,.d iT,.d iT] false),.b (.cell [.d .str,.d iT,.d iT,.d iT,.d iT,.d iT,.ol 1000000,.nil,.d iT,.d iT] false),.b (.lst 3 iT false)],[iT,(.list iT),iT,ty66,ty56,ty29,ty78,.str,iT,iT,iT,iT,iT,iT,iT,.str,iT,iT,iT,iT,iT,iT,iT,(.list iT)],[⟨.exit 0,[.s (.one (.bp 0 0)),.s (.one (.bp 256 0)),.s (.one (.bp 384 0)),.s (.one (.bp 448 0)),.b (.cell [.d (.list iT),.d iT] false),.b (.cell [.d ty66,.d ty56,.d ty29,.d ty78] false),.b (.cell [.d .str,.d iT,.d iT,.d iT,.d iT,.d iT,.nil,.nil,.d iT,.d iT] false),.b (.cell [.d .str,.d iT,.d iT,.d iT,.d iT,.d iT,.ol 1500100,.nil,.d iT,.d iT] false),.b (.lst 3 iT false)],[(.list iT),iT,ty66,ty56,ty29,ty78,.str,iT,iT,iT,iT,iT,iT,iT,.str,iT,iT,iT,iT,iT,iT,iT,(.list iT)]⟩],Pw.jwi (Pw.j2n)⟩]
 modes:=[(27,[false,false]),(32,[false,false]),(74,[false,false]),(121,[false])]
 keep:=[(0,⟨[0,4,6,7,8],[0,256,384,448],[⟨1000000,3,iT,[.cell 448 6],false⟩],[]⟩)]
 keepX:=[(0,.exit 0,⟨[0,4,6,7],[0,256,384,448],[⟨1500100,3,iT,[.cell 448 6],false⟩],[]⟩)]
 ro:=[false]
 dw:=[(7,[[],[],[],[],[],[],[0],[3200],[3264,1000000],[],[448]])]
theorem jgz:Con.OK Tryz.prog j6U:=
 cOf j0e j03 jh4 j6U Tryz.func66 (j9 j1M (j9 j3v (j9 j6d (j9 j9p trivial)))) (j9 (fun h=>by kernel_rfl) trivial)
def j47:Con:=⟨25,[.ref [(.list iT),iT]],[(.list iT),iT],⟨[.v iT],[.ref [(.list iT),iT]]⟩,[iT,(.list iT),iT],Pw.unc2 Pw.j4x⟩
def jfs:FnD where
 N:=16
 np:=1
 cs:=[j14,j1T,j33]
 ds:=[]
 modes:=[(27,[false,false]),(32,[false,false]),(74,[false,false])]
 ro:=[false]
theorem j9q:Con.OK Tryz.prog j47:=
 cOf j0e j03 jfs j47 Tryz.func25 (j9 j1M (j9 j3v (j9 j6d trivial))) trivial
def j5w:Con:=⟨23,[.ref [(.list iT),iT],.v ty84],[(.list iT),iT,ty84],⟨[.v ty42],[.ref [(.list iT),iT]]⟩,[ty42,(.list iT),iT],Pw.unc3 Pw.j5i⟩
def jhN:FnD where
 N:=52
 np:=2
 cs:=[j14,j1T,j33,j47]
 ds:=[]
 modes:=[(25,[false]),(27,[false,false]),(32,[false,false]),(74,[false,false])]
 ro:=[false]
 dw:=[(3,[[],[],[],[1344],[0,1344],[],[],[384]]),(8,[[],[],[],[],[],[],[0],[],[],[],[],[384]])]
theorem jbR:Con.OK Tryz.prog j5w:=
 cOf j0e j03 jhN j5w Tryz.func23 (j9 j1M (j9 j3v (j9 j6d (j9 j9q trivial)))) trivial
def j6y:Con:=⟨19,[.ref [(.list iT),iT],.v iT],[(.list iT),iT,iT],⟨[.v ty84],[.ref [(.list iT),iT]]⟩,[ty84,(.list iT),iT],Pw.unc3 Pw.j52⟩
def jgA:FnD where
 N:=69
 np:=2
 cs:=[j14,j8n,j6T,j6U,j5w]
 ds:=[⟨0,[.s (.one (.bp 0 0)),.s (.one (.bp 256 0)),.s (.one (.bp 320 0)),sI,.b (.cell [.d (.list iT),.d iT] false),.b (.cell [.nil,.nil,.nil,.nil] false),.b (.cell [.d ty66,.d ty56,.d ty29,.ol 1000000] false),.b (.lst 38 ty77 true)],[iT,(.list iT),iT,ty66,ty56,ty29,ty78],[⟨.exit 0,[.s (.one (.bp 256 0)),.s (.one (.bp 320 0)),.b (.cell [.d (.list iT),.d iT] false),.b (.cell [.nil,.nil,.nil,.nil] false),.b (.cell [.d ty66,.d ty56,.d ty29,.ol 1500100] false),.b (.lst 38 ty77 true)],[(.list iT),iT,ty66,ty56,ty29,ty78]⟩],Pw.unc7 (Pw.j2b)⟩,
  ⟨2,[.s (.one (.bp 0 0)),.s (.one (.bp 256 0)),.s (.one (.bp 320 0)),sI,.s (.one (.bp 448 0)),sI,.b (.cell [.d (.list iT),.d iT] false),.b (.cell [.nil,.nil,.nil,.nil] false),.b (.cell [.d ty66,.d ty56,.d ty29,.ol 1002000] false),.b (.cell [.d .str,.ol 1002001,.nil] false),.b (.lst 38 ty77 true),.b (.lst 111 ty72 false)],[iT,iT,(.list iT),iT,ty66,ty56,ty29,.str,ty78,ty73],[⟨.exit 2,[.s (.one (.bp 0 0)),.s (.one (.bp 256 0)),.s (.one (.bp 320 0)),sI,.s (.one (.bp 448 0)),.b (.cell [.d (.list iT),.d iT] false),.b (.cell [.nil,.nil,.nil,.nil] false),.b (.cell [.d ty66,.d ty56,.d ty29,.ol 1502300] false),.b (.cell [.d .str,.ol 1502301,.nil] false),.b (.lst 38 ty77 true),.b (.lst 111 ty72 false)],[iT,(.list iT),iT,ty66,ty56,ty29,.str,ty78,ty73]⟩],Pw.jjO (Pw.j29)⟩,
  ⟨4,[.s (.one (.bp 0 0)),.s (.one (.bp 256 0)),.s (.one (.bp 320 0)),sI,.s (.one (.bp 448 0)),sI,.b (.cell [.d (.list iT),.d iT] false),.b (.cell [.nil,.nil,.nil,.nil] false),.b (.cell [.d ty66,.d ty56,.d ty29,.ol 1004000] false),.b (.cell [.d .str,.ol 1004001,.ol 1004002] false),.b (.lst 38 ty77 true),.b (.lst 111 ty72 false),.b (.lst 46 ty42 false)],[iT,iT,(.list iT),iT,ty66,ty56,ty29,.str,ty78,ty73,ty44],[⟨.exit 4,[.s (.one (.bp 0 0)),.s (.one (.bp 256 0)),.s (.one (.bp 320 0)),sI,.s (.one (.bp 448 0)),.b (.cell [.d (.list iT),.d iT] false),.b (.cell [.nil,.nil,.nil,.nil] false),.b (.cell [.d ty66,.d ty56,.d ty29,.ol 1504500] false),.b (.cell [.d .str,.ol 1504501,.ol 1504502] false),.b (.lst 38 ty77 true),.b (.lst 111 ty72 false),.b (.lst 46 ty42 false)],[iT,(.list iT),iT,ty66,ty56,ty29,.str,ty78,ty73,ty44]⟩],Pw.jn4 (Pw.j2a)⟩]
 modes:=[(23,[false,false]),(27,[false,false]),(65,[false]),(66,[false,false,false]),(67,[])]
 keep:=[(0,⟨[0,4,5,6],[0,256,320],[⟨1000000,38,ty77,[.cell 320 3],true⟩],[]⟩),
  (2,⟨[0,4,5,6,7,8],[0,256,320,448],[⟨1002000,38,ty77,[.cell 320 3],false⟩,⟨1002001,111,ty72,[.cell 448 1],false⟩],[]⟩),
  (4,⟨[0,4,5,6,7,9],[0,256,320,448],[⟨1004000,38,ty77,[.cell 320 3],false⟩,⟨1004001,111,ty72,[.cell 448 1],false⟩,⟨1004002,46,ty42,[.cell 448 2],false⟩],[]⟩)]
 keepX:=[(0,.exit 0,⟨[4,5],[0,256,320],[⟨1500100,38,ty77,[.cell 320 3],false⟩],[]⟩),
  (2,.exit 2,⟨[0,4,5,6,7],[0,256,320,448],[⟨1502300,38,ty77,[.cell 320 3],false⟩,⟨1502301,111,ty72,[.cell 448 1],false⟩],[]⟩),
  (4,.exit 4,⟨[0,4,5,6,7],[0,256,320,448],[⟨1504500,38,ty77,[.cell 320 3],false⟩,⟨1504501,111,ty72,[.cell 448 1],false⟩,⟨1504502,46,ty42,[.cell 448 2],false⟩],[]⟩)]
 ro:=[false]
 dw:=[(9,[[],[],[],[],[2432],[],[],[],[],[],[0,1002000],[2880],[2944,1002000,1002001],[],[448]]),(13,[[],[],[],[],[0,1004000],[3776],[3840,1004001,1004002],[],[448]])]
theorem jft:Con.OK Tryz.prog j6y:=
 cOf j0e j03 jgA j6y Tryz.func19 (j9 j1M (j9 jgx (j9 jgy (j9 jgz (j9 jbR trivial))))) (j9 (fun h=>by kernel_rfl) (j9 (fun h=>by kernel_rfl) (j9 (fun h=>by kernel_rfl) trivial)))
end Go.Proofs.Pk
