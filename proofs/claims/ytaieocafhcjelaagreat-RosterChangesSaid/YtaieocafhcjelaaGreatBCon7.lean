/- Contracts: each given function is its plain function, printed by a program. -/
import Derived.Test.YtaieocafhcjelaaGreatBCon6
noncomputable section
open Go Go.Lft
set_option linter.unusedVariables false
set_option maxRecDepth 100000
namespace Go.Proofs.Pk
def j4R:Con:=⟨143,[.ref [(.list iT),iT]],[(.list iT),iT],⟨[.own 200 ty13],[.ref [(.list iT),iT]]⟩,[ty13,(.list iT),iT],Pw.unc2 Pw.j4h⟩
def jfF:FnD where
 N:=38
 np:=1
 cs:=[j1o,j2y]
 ds:=[⟨0,[.s (.one (.bp 0 0)),.s (.one (.ol 1000000)),sI,sI,.b (.cell [.d (.list iT),.d iT] false),.b (.lst 200 ty8 false)],[iT,iT,(.list iT),iT,ty13],[⟨.exit 0,[.s (.one (.ol 1500100)),.b (.cell [.d (.list iT),.d iT] false),.b (.lst 200 ty8 false)],[(.list iT),iT,ty13]⟩],Pw.unc5 (Pw.j2D)⟩]
 modes:=[(40,[false,false]),(45,[false,false])]
 keep:=[(0,⟨[0,3,4,5],[0],[⟨1000000,200,ty8,[.slot 3],false⟩],[]⟩)]
 keepX:=[(0,.exit 0,⟨[3],[0],[⟨1500100,200,ty8,[.slot 3],false⟩],[]⟩)]
 ro:=[true]
theorem jaf:Con.OK Tryz.prog j4R:=
 cOf j0n j04 jfF j4R Tryz.func143 (j9 j2t (j9 j4i trivial)) (j9 (fun h=>by kernel_rfl) trivial)
def j7M:Con:=⟨71,[.ref [(.list iT),iT]],[(.list iT),iT],⟨[.vn ty84 [3]],[.ref [(.list iT),iT]]⟩,[ty84,(.list iT),iT],Pw.unc2 Pw.j8b⟩
def jho:FnD where
 N:=109
 np:=1
 cs:=[j1o,j2y,j8o,j9j,j3N,j4R]
 ds:=[⟨0,[.s (.one (.bp 0 0)),.s (.one (.bp 128 0)),.s (.one (.bp 192 0)),sI,.b (.cell [.d (.list iT),.d iT] false),.b (.cell [.nil,.nil,.nil,.nil] false),.b (.cell [.ol 1000000,.nil,.nil,.nil] false),.b (.lst 91 ty65 false)],[iT,(.list iT),iT,ty66],[⟨.exit 0,[.s (.one (.bp 0 0)),.s (.one (.bp 128 0)),.s (.one (.bp 192 0)),.b (.cell [.d (.list iT),.d iT] false),.b (.cell [.nil,.nil,.nil,.nil] false),.b (.cell [.ol 1500100,.nil,.nil,.nil] false),.b (.lst 91 ty65 false)],[(.list iT),iT,ty66]⟩],Pw.unc4 (Pw.j37)⟩,
  ⟨2,[.s (.one (.bp 0 0)),.s (.one (.bp 128 0)),.s (.one (.bp 192 0)),sI,.b (.cell [.d (.list iT),.d iT] false),.b (.cell [.nil,.nil,.nil,.nil] false),.b (.cell [.ol 1002000,.ol 1002001,.nil,.nil] false),.b (.lst 91 ty65 false),.b (.lst 93 ty53 false)],[iT,(.list iT),iT,ty66,ty56],[⟨.exit 2,[.s (.one (.bp 0 0)),.s (.one (.bp 128 0)),.s (.one (.bp 192 0)),.b (.cell [.d (.list iT),.d iT] false),.b (.cell [.nil,.nil,.nil,.nil] false),.b (.cell [.ol 1502300,.ol 1502301,.nil,.nil] false),.b (.lst 91 ty65 false),.b (.lst 93 ty53 false)],[(.list iT),iT,ty66,ty56]⟩],Pw.unc5 (Pw.j38)⟩,
  ⟨4,[.s (.one (.bp 0 0)),.s (.one (.bp 128 0)),.s (.one (.bp 192 0)),sI,.b (.cell [.d (.list iT),.d iT] false),.b (.cell [.nil,.nil,.nil,.nil] false),.b (.cell [.ol 1004000,.ol 1004001,.ol 1004002,.nil] false),.b (.lst 91 ty65 false),.b (.lst 93 ty53 false),.b (.lst 152 ty24 false)],[iT,(.list iT),iT,ty66,ty56,ty29],[⟨.exit 4,[.s (.one (.bp 128 0)),.s (.one (.bp 192 0)),.b (.cell [.d (.list iT),.d iT] false),.b (.cell [.nil,.nil,.nil,.nil] false),.b (.cell [.ol 1504500,.ol 1504501,.ol 1504502,.nil] false),.b (.lst 91 ty65 false),.b (.lst 93 ty53 false),.b (.lst 152 ty24 false)],[(.list iT),iT,ty66,ty56,ty29]⟩],Pw.unc6 (Pw.j2p)⟩,
  ⟨6,[.s (.one (.bp 0 0)),.s (.one (.bp 128 0)),.s (.one (.bp 192 0)),sI,.s (.one (.bp 512 0)),sI,sI,.b (.cell [.d (.list iT),.d iT] false),.b (.cell [.nil,.nil,.nil,.nil] false),.b (.cell [.ol 1006000,.ol 1006001,.ol 1006002,.nil] false),.b (.cell [.d .str,.d iT,.ol 1006003] false),.b (.lst 91 ty65 false),.b (.lst 93 ty53 false),.b (.lst 152 ty24 false),.b (.lst 3 iT false)],[iT,iT,iT,(.list iT),iT,.str,iT,ty66,ty56,ty29,(.list iT)],[⟨.exit 6,[.s (.one (.bp 0 0)),.s (.one (.bp 128 0)),.s (.one (.bp 192 0)),sI,.s (.one (.bp 512 0)),.b (.cell [.d (.list iT),.d iT] false),.b (.cell [.nil,.nil,.nil,.nil] false),.b (.cell [.ol 1506700,.ol 1506701,.ol 1506702,.nil] false),.b (.cell [.d .str,.d iT,.ol 1506703] false),.b (.lst 91 ty65 false),.b (.lst 93 ty53 false),.b (.lst 152 ty24 false),.b (.lst 3 iT false)],[iT,(.list iT),iT,.str,iT,ty66,ty56,ty29,(.list iT)]⟩],Pw.jtE (Pw.j39)⟩]
 modes:=[(40,[false,false]),(45,[false,false]),(73,[]),(74,[false,false]),(143,[false]),(149,[false,false])]
 keep:=[(0,⟨[0,2,3,4],[0,128,192],[⟨1000000,91,ty65,[.cell 192 0],false⟩],[]⟩),
  (2,⟨[0,2,3,5],[0,128,192],[⟨1002000,91,ty65,[.cell 192 0],false⟩,⟨1002001,93,ty53,[.cell 192 1],false⟩],[]⟩),
  (4,⟨[0,2,3,7],[0,128,192],[⟨1004000,91,ty65,[.cell 192 0],false⟩,⟨1004001,93,ty53,[.cell 192 1],false⟩,⟨1004002,152,ty24,[.cell 192 2],false⟩],[]⟩),
  (6,⟨[0,2,3,7,8,9,10],[0,128,192,512],[⟨1006000,91,ty65,[.cell 192 0],false⟩,⟨1006001,93,ty53,[.cell 192 1],false⟩,⟨1006002,152,ty24,[.cell 192 2],false⟩,⟨1006003,3,iT,[.cell 512 2],false⟩],[]⟩)]
 keepX:=[(0,.exit 0,⟨[0,2,3],[0,128,192],[⟨1500100,91,ty65,[.cell 192 0],false⟩],[]⟩),
  (2,.exit 2,⟨[0,2,3],[0,128,192],[⟨1502300,91,ty65,[.cell 192 0],false⟩,⟨1502301,93,ty53,[.cell 192 1],false⟩],[]⟩),
  (4,.exit 4,⟨[2,3],[0,128,192],[⟨1504500,91,ty65,[.cell 192 0],false⟩,⟨1504501,93,ty53,[.cell 192 1],false⟩,⟨1504502,152,ty24,[.cell 192 2],false⟩],[]⟩),
  (6,.exit 6,⟨[0,2,3,7,8],[0,128,192,512],[⟨1506700,91,ty65,[.cell 192 0],false⟩,⟨1506701,93,ty53,[.cell 192 1],false⟩,⟨1506702,152,ty24,[.cell 192 2],false⟩,⟨1506703,3,iT,[.cell 512 2],false⟩],[]⟩)]
 ro:=[false]
 dw:=[(5,[[],[],[],[1344],[],[],[],[],[],[0],[1792],[1856,1000000],[],[192]]),(9,[[2432],[],[],[],[],[],[],[],[],[],[0],[],[0],[],[384],[384]])]
 ns:=[3]
theorem jgC:Con.OK Tryz.prog j7M:=
 cOf j0n j04 jho j7M Tryz.func71 (j9 j2t (j9 j4i (j9 jhn (j9 jgB (j9 j6R (j9 jaf trivial)))))) (j9 (fun h=>by kernel_rfl) (j9 (fun h=>by kernel_rfl) (j9 (fun h=>by kernel_rfl) (j9 (fun h=>by kernel_rfl) trivial))))
def j7N:Con:=⟨72,[.ref [(.list iT),iT],.v ty84,.v .str],[(.list iT),iT,ty84,.str],⟨[.v ty72],[.ref [(.list iT),iT]]⟩,[ty72,(.list iT),iT],Pw.unc4 Pw.j8c⟩
def jhp:FnD where
 N:=77
 np:=3
 cs:=[j1o,j2y,j3N,j4R]
 ds:=[⟨0,[.s (.one (.bp 0 0)),.s (.one (.bp 256 0)),.s (.one (.bp 384 0)),.s (.one (.bp 448 0)),sI,.b (.cell [.d (.list iT),.d iT] false),.b (.cell [.d ty66,.d ty56,.d ty29,.d ty78] false),.b (.cell [.d .str,.d iT,.d iT,.d iT,.d iT,.d iT,.nil,.nil,.d iT,.d iT] false),.b (.cell [.d .str,.d iT,.d iT,.d iT,.d iT,.d iT,.ol 1000000,.nil,.d iT,.d iT] false),.b (.lst 3 iT false)],[iT,(.list iT),iT,ty66,ty56,ty29,ty78,.str,iT,iT,iT,iT,iT,iT,iT,.str,iT,iT,iT,iT,iT,iT,iT,(.list iT)],[⟨.exit 0,[.s (.one (.bp 0 0)),.s (.one (.bp 256 0)),.s (.one (.bp 384 0)),.s (.one (.bp 448 0)),.b (.cell [.d (.list iT),.d iT] false),.b (.cell [.d ty66,.d ty56,.d ty29,.d ty78] false),.b (.cell [.d .str,.d iT,.d iT,.d iT,.d iT,.d iT,.nil,.nil,.d iT,.d iT] false),.b (.cell [.d .str,.d iT,.d iT,.d iT,.d iT,.d iT,.ol 1500100,.nil,.d iT,.d iT] false),.b (.lst 3 iT false)],[(.list iT),iT,ty66,ty56,ty29,ty78,.str,iT,iT,iT,iT,iT,iT,iT,.str,iT,iT,iT,iT,iT,iT,iT,(.list iT)]⟩],Pw.jwf (Pw.j3a)⟩]
 modes:=[(40,[false,false]),(45,[false,false]),(74,[false,false]),(143,[false])]
 keep:=[(0,⟨[0,4,6,7,8],[0,256,384,448],[⟨1000000,3,iT,[.cell 448 6],false⟩],[]⟩)]
 keepX:=[(0,.exit 0,⟨[0,4,6,7],[0,256,384,448],[⟨1500100,3,iT,[.cell 448 6],false⟩],[]⟩)]
 ro:=[false]
 dw:=[(7,[[],[],[],[],[],[],[0],[3200],[3264,1000000],[],[448]])]
theorem jgD:Con.OK Tryz.prog j7N:=
 cOf j0n j04 jhp j7N Tryz.func72 (j9 j2t (j9 j4i (j9 j6R (j9 jaf trivial)))) (j9 (fun h=>by kernel_rfl) trivial)
def j4S:Con:=⟨22,[.ref [(.list iT),iT]],[(.list iT),iT],⟨[.v iT],[.ref [(.list iT),iT]]⟩,[iT,(.list iT),iT],Pw.unc2 Pw.j5r⟩
def jfG:FnD where
 N:=16
 np:=1
 cs:=[j1o,j2y,j3N]
 ds:=[]
 modes:=[(40,[false,false]),(45,[false,false]),(74,[false,false])]
 ro:=[false]
theorem jag:Con.OK Tryz.prog j4S:=
 cOf j0n j04 jfG j4S Tryz.func22 (j9 j2t (j9 j4i (j9 j6R trivial))) trivial
def j8p:Con:=⟨37,[.ref [(.list iT),iT],.v ty84],[(.list iT),iT,ty84],⟨[.v ty42],[.ref [(.list iT),iT]]⟩,[ty42,(.list iT),iT],Pw.unc3 Pw.j9f⟩
def jib:FnD where
 N:=52
 np:=2
 cs:=[j1o,j2y,j3N,j4S]
 ds:=[]
 modes:=[(22,[false]),(40,[false,false]),(45,[false,false]),(74,[false,false])]
 ro:=[false]
 dw:=[(3,[[],[],[],[1344],[0,1344],[],[],[384]]),(8,[[],[],[],[],[],[],[0],[],[],[],[],[384]])]
theorem jhq:Con.OK Tryz.prog j8p:=
 cOf j0n j04 jib j8p Tryz.func37 (j9 j2t (j9 j4i (j9 j6R (j9 jag trivial)))) trivial
def j7f:Con:=⟨21,[.ref [(.list iT),iT],.v iT],[(.list iT),iT,iT],⟨[.v ty84],[.ref [(.list iT),iT]]⟩,[ty84,(.list iT),iT],Pw.unc3 Pw.j7C⟩
def jgE:FnD where
 N:=69
 np:=2
 cs:=[j1o,j9j,j7M,j7N,j8p]
 ds:=[⟨0,[.s (.one (.bp 0 0)),.s (.one (.bp 256 0)),.s (.one (.bp 320 0)),sI,.b (.cell [.d (.list iT),.d iT] false),.b (.cell [.nil,.nil,.nil,.nil] false),.b (.cell [.d ty66,.d ty56,.d ty29,.ol 1000000] false),.b (.lst 45 ty77 true)],[iT,(.list iT),iT,ty66,ty56,ty29,ty78],[⟨.exit 0,[.s (.one (.bp 256 0)),.s (.one (.bp 320 0)),.b (.cell [.d (.list iT),.d iT] false),.b (.cell [.nil,.nil,.nil,.nil] false),.b (.cell [.d ty66,.d ty56,.d ty29,.ol 1500100] false),.b (.lst 45 ty77 true)],[(.list iT),iT,ty66,ty56,ty29,ty78]⟩],Pw.unc7 (Pw.j2W)⟩,
  ⟨2,[.s (.one (.bp 0 0)),.s (.one (.bp 256 0)),.s (.one (.bp 320 0)),sI,.s (.one (.bp 448 0)),sI,.b (.cell [.d (.list iT),.d iT] false),.b (.cell [.nil,.nil,.nil,.nil] false),.b (.cell [.d ty66,.d ty56,.d ty29,.ol 1002000] false),.b (.cell [.d .str,.ol 1002001,.nil] false),.b (.lst 45 ty77 true),.b (.lst 52 ty72 false)],[iT,iT,(.list iT),iT,ty66,ty56,ty29,.str,ty78,ty73],[⟨.exit 2,[.s (.one (.bp 0 0)),.s (.one (.bp 256 0)),.s (.one (.bp 320 0)),sI,.s (.one (.bp 448 0)),.b (.cell [.d (.list iT),.d iT] false),.b (.cell [.nil,.nil,.nil,.nil] false),.b (.cell [.d ty66,.d ty56,.d ty29,.ol 1502300] false),.b (.cell [.d .str,.ol 1502301,.nil] false),.b (.lst 45 ty77 true),.b (.lst 52 ty72 false)],[iT,(.list iT),iT,ty66,ty56,ty29,.str,ty78,ty73]⟩],Pw.jqy (Pw.j2U)⟩,
  ⟨4,[.s (.one (.bp 0 0)),.s (.one (.bp 256 0)),.s (.one (.bp 320 0)),sI,.s (.one (.bp 448 0)),sI,.b (.cell [.d (.list iT),.d iT] false),.b (.cell [.nil,.nil,.nil,.nil] false),.b (.cell [.d ty66,.d ty56,.d ty29,.ol 1004000] false),.b (.cell [.d .str,.ol 1004001,.ol 1004002] false),.b (.lst 45 ty77 true),.b (.lst 52 ty72 false),.b (.lst 56 ty42 false)],[iT,iT,(.list iT),iT,ty66,ty56,ty29,.str,ty78,ty73,ty44],[⟨.exit 4,[.s (.one (.bp 0 0)),.s (.one (.bp 256 0)),.s (.one (.bp 320 0)),sI,.s (.one (.bp 448 0)),.b (.cell [.d (.list iT),.d iT] false),.b (.cell [.nil,.nil,.nil,.nil] false),.b (.cell [.d ty66,.d ty56,.d ty29,.ol 1504500] false),.b (.cell [.d .str,.ol 1504501,.ol 1504502] false),.b (.lst 45 ty77 true),.b (.lst 52 ty72 false),.b (.lst 56 ty42 false)],[iT,(.list iT),iT,ty66,ty56,ty29,.str,ty78,ty73,ty44]⟩],Pw.jtE (Pw.j2V)⟩]
 modes:=[(37,[false,false]),(40,[false,false]),(71,[false]),(72,[false,false,false]),(73,[])]
 keep:=[(0,⟨[0,4,5,6],[0,256,320],[⟨1000000,45,ty77,[.cell 320 3],true⟩],[]⟩),
  (2,⟨[0,4,5,6,7,8],[0,256,320,448],[⟨1002000,45,ty77,[.cell 320 3],false⟩,⟨1002001,52,ty72,[.cell 448 1],false⟩],[]⟩),
  (4,⟨[0,4,5,6,7,9],[0,256,320,448],[⟨1004000,45,ty77,[.cell 320 3],false⟩,⟨1004001,52,ty72,[.cell 448 1],false⟩,⟨1004002,56,ty42,[.cell 448 2],false⟩],[]⟩)]
 keepX:=[(0,.exit 0,⟨[4,5],[0,256,320],[⟨1500100,45,ty77,[.cell 320 3],false⟩],[]⟩),
  (2,.exit 2,⟨[0,4,5,6,7],[0,256,320,448],[⟨1502300,45,ty77,[.cell 320 3],false⟩,⟨1502301,52,ty72,[.cell 448 1],false⟩],[]⟩),
  (4,.exit 4,⟨[0,4,5,6,7],[0,256,320,448],[⟨1504500,45,ty77,[.cell 320 3],false⟩,⟨1504501,52,ty72,[.cell 448 1],false⟩,⟨1504502,56,ty42,[.cell 448 2],false⟩],[]⟩)]
 ro:=[false]
 dw:=[(9,[[],[],[],[],[2432],[],[],[],[],[],[0,1002000],[2880],[2944,1002000,1002001],[],[448]]),(13,[[],[],[],[],[0,1004000],[3776],[3840,1004001,1004002],[],[448]])]
theorem jfH:Con.OK Tryz.prog j7f:=
 cOf j0n j04 jgE j7f Tryz.func21 (j9 j2t (j9 jgB (j9 jgC (j9 jgD (j9 jhq trivial))))) (j9 (fun h=>by kernel_rfl) (j9 (fun h=>by kernel_rfl) (j9 (fun h=>by kernel_rfl) trivial)))
def j8q:Con:=⟨4,[.v (.list iT)],[(.list iT)],⟨[.v .bool],[]⟩,[.bool],fun h=>Pw.j7J h⟩
def jef:FnD where
 N:=126
 np:=1
 cs:=[jbT,j6h,j8m,j9i,jc7,jdd,j4S,j7f]
 ds:=[⟨0,[.s (.one (.bp 256 0)),sI,.s (.one (.ol 1000000)),sI,sI,sI,.b (.cell [.d ty66,.d ty56,.d ty29,.d ty78] false),.b (.lst 63 ty21 false)],[iT,iT,iT,iT,ty66,ty56,ty29,ty78,ty26],[⟨.ret,[.s (.one (.d .bool))],[.bool]⟩,⟨.exit 0,[.s (.one (.bp 256 0)),sI,sI,.b (.cell [.d ty66,.d ty56,.d ty29,.d ty78] false)],[iT,iT,ty66,ty56,ty29,ty78]⟩],Pw.unc9 (Pw.j2k)⟩]
 modes:=[(17,[false]),(18,[]),(19,[false]),(21,[false,false]),(22,[false]),(27,[false,false,false]),(28,[false,false,false,false]),(29,[false,false,false])]
 keep:=[(0,⟨[4,6,7,9,38,39],[256],[⟨1000000,63,ty21,[.slot 7],false⟩],[]⟩)]
 keepX:=[(0,.ret,⟨[2],[],[],[]⟩),
  (0,.exit 0,⟨[4,6,9],[256],[],[]⟩)]
 ro:=[false]
theorem law14_RosterChanges_ok:Con.OK Tryz.prog j8q:=
 cOf j0n j04 jef j8q Tryz.func4 (j9 jlN (j9 jcA (j9 jf2 (j9 jgA (j9 jmb (j9 jnK (j9 jag (j9 jfH trivial)))))))) (j9 (fun h=>by kernel_rfl) trivial)
end Go.Proofs.Pk
