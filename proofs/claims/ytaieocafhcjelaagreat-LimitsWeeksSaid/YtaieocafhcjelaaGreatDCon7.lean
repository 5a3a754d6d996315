/- cI: each given function is its plain function, printed by a program. -/
import Derived.Test.YtaieocafhcjelaaGreatDCon6
noncomputable section
open Go Go.Lft
set_option linter.unusedVariables false
set_option maxRecDepth 100000
namespace Go.Proofs.Pk
def Mh:Con:=⟨149,[.ref [(.list iT),iT],.v .str],[(.list iT),iT,.str],⟨[.v cd],[.ref [(.list iT),iT]]⟩,[cd,(.list iT),iT],Pw.unc3 Pw.j5z⟩
def jkA:FnD where
 N:=98
 np:=2
 cs:=[oW,vL]
 ds:=[]
 modes:=[(40,[false,false]),(45,[false,false])]
 ro:=[false]
 dw:=[(7,[[],[],[0],[],[],[0],[],[0],[],[],[],[],[0],[],[],[],[],[],[],[0],[],[],[3968],[0,3968],[],[0],[],[0],[],[],[],[],[4608],[],[320]]),(9,[[],[],[],[5056],[0,5056],[],[]])]
theorem jjU:Con.OK Tryz.prog Mh:=
 cOf aJ aL jkA Mh Tryz.func149 (j9 rS (j9 AS trivial)) trivial
def GB:Con:=⟨73,[],[],⟨[.own 9 (.list .str)],[]⟩,[(.list .str)],λh=>Pw.jh3⟩
def jqm:FnD where
 N:=2
 np:=0
 cs:=[]
 ds:=[]
 ro:=[true]
theorem TJ:Con.OK Tryz.prog GB:=
 cOf aJ aL jqm GB Tryz.func73 trivial trivial
def AU:Con:=⟨74,[.ref [(.list iT),iT],.v iT],[(.list iT),iT,iT],⟨[.v .bool],[.ref [(.list iT),iT]]⟩,[.bool,(.list iT),iT],Pw.unc3 Pw.j1R⟩
def jkB:FnD where
 N:=11
 np:=2
 cs:=[oW]
 ds:=[]
 modes:=[(40,[false,false])]
 ro:=[false]
theorem GC:Con.OK Tryz.prog AU:=
 cOf aJ aL jkB AU Tryz.func74 (j9 rS trivial) trivial
def GD:Con:=⟨143,[.ref [(.list iT),iT]],[(.list iT),iT],⟨[.own 200 aa],[.ref [(.list iT),iT]]⟩,[aa,(.list iT),iT],Pw.unc2 Pw.j5F⟩
def ji6:FnD where
 N:=38
 np:=1
 cs:=[oW,vL]
 ds:=[⟨0,[.s (.one (.bp 0 0)),.s (.one (.ol 1000000)),sI,sI,.b (.cell [.d (.list iT),.d iT] false),.b (.lst 200 aQ false)],[iT,iT,(.list iT),iT,aa],[⟨.exit 0,[.s (.one (.ol 1500100)),.b (.cell [.d (.list iT),.d iT] false),.b (.lst 200 aQ false)],[(.list iT),iT,aa]⟩],Pw.unc5 (Pw.j3r)⟩]
 modes:=[(40,[false,false]),(45,[false,false])]
 keep:=[(0,⟨[0,3,4,5],[0],[⟨1000000,200,aQ,[.slot 3],false⟩],[]⟩)]
 keepX:=[(0,.exit 0,⟨[3],[0],[⟨1500100,200,aQ,[.slot 3],false⟩],[]⟩)]
 ro:=[true]
theorem TK:Con.OK Tryz.prog GD:=
 cOf aJ aL ji6 GD Tryz.func143 (j9 rS (j9 AS trivial)) (j9 (λh=>by kernel_rfl) trivial)
def Mi:Con:=⟨71,[.ref [(.list iT),iT]],[(.list iT),iT],⟨[.vn bS [3]],[.ref [(.list iT),iT]]⟩,[bS,(.list iT),iT],Pw.unc2 Pw.ja7⟩
def jjV:FnD where
 N:=109
 np:=1
 cs:=[oW,vL,Mh,GB,AU,GD]
 ds:=[⟨0,[.s (.one (.bp 0 0)),.s (.one (.bp 128 0)),.s (.one (.bp 192 0)),sI,.b (.cell [.d (.list iT),.d iT] false),.b (.cell [.nil,.nil,.nil,.nil] false),.b (.cell [.ol 1000000,.nil,.nil,.nil] false),.b (.lst 91 cd false)],[iT,(.list iT),iT,aG],[⟨.exit 0,[.s (.one (.bp 0 0)),.s (.one (.bp 128 0)),.s (.one (.bp 192 0)),.b (.cell [.d (.list iT),.d iT] false),.b (.cell [.nil,.nil,.nil,.nil] false),.b (.cell [.ol 1500100,.nil,.nil,.nil] false),.b (.lst 91 cd false)],[(.list iT),iT,aG]⟩],Pw.unc4 (Pw.j47)⟩,
  ⟨2,[.s (.one (.bp 0 0)),.s (.one (.bp 128 0)),.s (.one (.bp 192 0)),sI,.b (.cell [.d (.list iT),.d iT] false),.b (.cell [.nil,.nil,.nil,.nil] false),.b (.cell [.ol 1002000,.ol 1002001,.nil,.nil] false),.b (.lst 91 cd false),.b (.lst 93 fa false)],[iT,(.list iT),iT,aG,aP],[⟨.exit 2,[.s (.one (.bp 0 0)),.s (.one (.bp 128 0)),.s (.one (.bp 192 0)),.b (.cell [.d (.list iT),.d iT] false),.b (.cell [.nil,.nil,.nil,.nil] false),.b (.cell [.ol 1502300,.ol 1502301,.nil,.nil] false),.b (.lst 91 cd false),.b (.lst 93 fa false)],[(.list iT),iT,aG,aP]⟩],Pw.unc5 (Pw.j48)⟩,
  ⟨4,[.s (.one (.bp 0 0)),.s (.one (.bp 128 0)),.s (.one (.bp 192 0)),sI,.b (.cell [.d (.list iT),.d iT] false),.b (.cell [.nil,.nil,.nil,.nil] false),.b (.cell [.ol 1004000,.ol 1004001,.ol 1004002,.nil] false),.b (.lst 91 cd false),.b (.lst 93 fa false),.b (.lst 152 dZ false)],[iT,(.list iT),iT,aG,aP,aO],[⟨.exit 4,[.s (.one (.bp 128 0)),.s (.one (.bp 192 0)),.b (.cell [.d (.list iT),.d iT] false),.b (.cell [.nil,.nil,.nil,.nil] false),.b (.cell [.ol 1504500,.ol 1504501,.ol 1504502,.nil] false),.b (.lst 91 cd false),.b (.lst 93 fa false),.b (.lst 152 dZ false)],[(.list iT),iT,aG,aP,aO]⟩],Pw.unc6 (Pw.j3c)⟩,
  ⟨6,[.s (.one (.bp 0 0)),.s (.one (.bp 128 0)),.s (.one (.bp 192 0)),sI,.s (.one (.bp 512 0)),sI,sI,.b (.cell [.d (.list iT),.d iT] false),.b (.cell [.nil,.nil,.nil,.nil] false),.b (.cell [.ol 1006000,.ol 1006001,.ol 1006002,.nil] false),.b (.cell [.d .str,.d iT,.ol 1006003] false),.b (.lst 91 cd false),.b (.lst 93 fa false),.b (.lst 152 dZ false),.b (.lst 3 iT false)],[iT,iT,iT,(.list iT),iT,.str,iT,aG,aP,aO,(.list iT)],[⟨.exit 6,[.s (.one (.bp 0 0)),.s (.one (.bp 128 0)),.s (.one (.bp 192 0)),sI,.s (.one (.bp 512 0)),.b (.cell [.d (.list iT),.d iT] false),.b (.cell [.nil,.nil,.nil,.nil] false),.b (.cell [.ol 1506700,.ol 1506701,.ol 1506702,.nil] false),.b (.cell [.d .str,.d iT,.ol 1506703] false),.b (.lst 91 cd false),.b (.lst 93 fa false),.b (.lst 152 dZ false),.b (.lst 3 iT false)],[iT,(.list iT),iT,.str,iT,aG,aP,aO,(.list iT)]⟩],Pw.jtw (Pw.j49)⟩]
 modes:=[(40,[false,false]),(45,[false,false]),(73,[]),(74,[false,false]),(143,[false]),(149,[false,false])]
 keep:=[(0,⟨[0,2,3,4],[0,128,192],[⟨1000000,91,cd,[.cell 192 0],false⟩],[]⟩),
  (2,⟨[0,2,3,5],[0,128,192],[⟨1002000,91,cd,[.cell 192 0],false⟩,⟨1002001,93,fa,[.cell 192 1],false⟩],[]⟩),
  (4,⟨[0,2,3,7],[0,128,192],[⟨1004000,91,cd,[.cell 192 0],false⟩,⟨1004001,93,fa,[.cell 192 1],false⟩,⟨1004002,152,dZ,[.cell 192 2],false⟩],[]⟩),
  (6,⟨[0,2,3,7,8,9,10],[0,128,192,512],[⟨1006000,91,cd,[.cell 192 0],false⟩,⟨1006001,93,fa,[.cell 192 1],false⟩,⟨1006002,152,dZ,[.cell 192 2],false⟩,⟨1006003,3,iT,[.cell 512 2],false⟩],[]⟩)]
 keepX:=[(0,.exit 0,⟨[0,2,3],[0,128,192],[⟨1500100,91,cd,[.cell 192 0],false⟩],[]⟩),
  (2,.exit 2,⟨[0,2,3],[0,128,192],[⟨1502300,91,cd,[.cell 192 0],false⟩,⟨1502301,93,fa,[.cell 192 1],false⟩],[]⟩),
  (4,.exit 4,⟨[2,3],[0,128,192],[⟨1504500,91,cd,[.cell 192 0],false⟩,⟨1504501,93,fa,[.cell 192 1],false⟩,⟨1504502,152,dZ,[.cell 192 2],false⟩],[]⟩),
  (6,.exit 6,⟨[0,2,3,7,8],[0,128,192,512],[⟨1506700,91,cd,[.cell 192 0],false⟩,⟨1506701,93,fa,[.cell 192 1],false⟩,⟨1506702,152,dZ,[.cell 192 2],false⟩,⟨1506703,3,iT,[.cell 512 2],false⟩],[]⟩)]
 ro:=[false]
 dw:=[(5,[[],[],[],[1344],[],[],[],[],[],[0],[1792],[1856,1000000],[],[192]]),(9,[[2432],[],[],[],[],[],[],[],[],[],[0],[],[0],[],[384],[384]])]
 ns:=[3]
theorem jj8:Con.OK Tryz.prog Mi:=
 cOf aJ aL jjV Mi Tryz.func71 (j9 rS (j9 AS (j9 jjU (j9 TJ (j9 GC (j9 TK trivial)))))) (j9 (λh=>by kernel_rfl) (j9 (λh=>by kernel_rfl) (j9 (λh=>by kernel_rfl) (j9 (λh=>by kernel_rfl) trivial))))
def Mj:Con:=⟨72,[.ref [(.list iT),iT],.v bS,.v .str],[(.list iT),iT,bS,.str],⟨[.v cu],[.ref [(.list iT),iT]]⟩,[cu,(.list iT),iT],Pw.unc4 Pw.ja8⟩
def jjW:FnD where
 N:=77
 np:=3
 cs:=[oW,vL,AU,GD]
 ds:=[⟨0,[.s (.one (.bp 0 0)),.s (.one (.bp 256 0)),.s (.one (.bp 384 0)),.s (.one (.bp 448 0)),sI,.b (.cell [.d (.list iT),.d iT] false),.b (.cell [.d aG,.d aP,.d aO,.d aV] false),.b (.cell [.d .str,.d iT,.d iT,.d iT,.d iT,.d iT,.nil,.nil,.d iT,.d iT] false),.b (.cell [.d .str,.d iT,.d iT,.d iT,.d iT,.d iT,.ol 1000000,.nil,.d iT,.d iT] false),.b (.lst 3 iT false)],[iT,(.list iT),iT,aG,aP,aO,aV,.str,iT,iT,iT,iT,iT,iT,iT,.str,iT,iT,iT,iT,iT,iT,iT,(.list iT)],[⟨.exit 0,[.s (.one (.bp 0 0)),.s (.one (.bp 256 0)),.s (.one (.bp 384 0)),.s (.one (.bp 448 0)),.b (.cell [.d (.list iT),.d iT] false),.b (.cell [.d aG,.d aP,.d aO,.d aV] false),.b (.cell [.d .str,.d iT,.d iT,.d iT,.d iT,.d iT,.nil,.nil,.d iT,.d iT] false),.b (.cell [.d .str,.d iT,.d iT,.d iT,.d iT,.d iT,.ol 1500100,.nil,.d iT,.d iT] false),.b (.lst 3 iT false)],[(.list iT),iT,aG,aP,aO,aV,.str,iT,iT,iT,iT,iT,iT,iT,.str,iT,iT,iT,iT,iT,iT,iT,(.list iT)]⟩],Pw.jzW (Pw.j4a)⟩]
 modes:=[(40,[false,false]),(45,[false,false]),(74,[false,false]),(143,[false])]
 keep:=[(0,⟨[0,4,6,7,8],[0,256,384,448],[⟨1000000,3,iT,[.cell 448 6],false⟩],[]⟩)]
 keepX:=[(0,.exit 0,⟨[0,4,6,7],[0,256,384,448],[⟨1500100,3,iT,[.cell 448 6],false⟩],[]⟩)]
 ro:=[false]
 dw:=[(7,[[],[],[],[],[],[],[0],[3200],[3264,1000000],[],[448]])]
theorem jj9:Con.OK Tryz.prog Mj:=
 cOf aJ aL jjW Mj Tryz.func72 (j9 rS (j9 AS (j9 GC (j9 TK trivial)))) (j9 (λh=>by kernel_rfl) trivial)
def GF:Con:=⟨22,[.ref [(.list iT),iT]],[(.list iT),iT],⟨[.v iT],[.ref [(.list iT),iT]]⟩,[iT,(.list iT),iT],Pw.unc2 Pw.j6V⟩
def ji7:FnD where
 N:=16
 np:=1
 cs:=[oW,vL,AU]
 ds:=[]
 modes:=[(40,[false,false]),(45,[false,false]),(74,[false,false])]
 ro:=[false]
theorem TL:Con.OK Tryz.prog GF:=
 cOf aJ aL ji7 GF Tryz.func22 (j9 rS (j9 AS (j9 GC trivial))) trivial
def Mk:Con:=⟨37,[.ref [(.list iT),iT],.v bS],[(.list iT),iT,bS],⟨[.v bd],[.ref [(.list iT),iT]]⟩,[bd,(.list iT),iT],Pw.unc3 Pw.jbf⟩
def jkC:FnD where
 N:=52
 np:=2
 cs:=[oW,vL,AU,GF]
 ds:=[]
 modes:=[(22,[false]),(40,[false,false]),(45,[false,false]),(74,[false,false])]
 ro:=[false]
 dw:=[(3,[[],[],[],[1344],[0,1344],[],[],[384]]),(8,[[],[],[],[],[],[],[0],[],[],[],[],[384]])]
theorem jjX:Con.OK Tryz.prog Mk:=
 cOf aJ aL jkC Mk Tryz.func37 (j9 rS (j9 AS (j9 GC (j9 TL trivial)))) trivial
def Ml:Con:=⟨21,[.ref [(.list iT),iT],.v iT],[(.list iT),iT,iT],⟨[.v bS],[.ref [(.list iT),iT]]⟩,[bS,(.list iT),iT],Pw.unc3 Pw.j9s⟩
def jja:FnD where
 N:=69
 np:=2
 cs:=[oW,GB,Mi,Mj,Mk]
 ds:=[⟨0,[.s (.one (.bp 0 0)),.s (.one (.bp 256 0)),.s (.one (.bp 320 0)),sI,.b (.cell [.d (.list iT),.d iT] false),.b (.cell [.nil,.nil,.nil,.nil] false),.b (.cell [.d aG,.d aP,.d aO,.ol 1000000] false),.b (.lst 45 cF true)],[iT,(.list iT),iT,aG,aP,aO,aV],[⟨.exit 0,[.s (.one (.bp 256 0)),.s (.one (.bp 320 0)),.b (.cell [.d (.list iT),.d iT] false),.b (.cell [.nil,.nil,.nil,.nil] false),.b (.cell [.d aG,.d aP,.d aO,.ol 1500100] false),.b (.lst 45 cF true)],[(.list iT),iT,aG,aP,aO,aV]⟩],Pw.unc7 (Pw.j3S)⟩,
  ⟨2,[.s (.one (.bp 0 0)),.s (.one (.bp 256 0)),.s (.one (.bp 320 0)),sI,.s (.one (.bp 448 0)),sI,.b (.cell [.d (.list iT),.d iT] false),.b (.cell [.nil,.nil,.nil,.nil] false),.b (.cell [.d aG,.d aP,.d aO,.ol 1002000] false),.b (.cell [.d .str,.ol 1002001,.nil] false),.b (.lst 45 cF true),.b (.lst 52 cu false)],[iT,iT,(.list iT),iT,aG,aP,aO,.str,aV,ca],[⟨.exit 2,[.s (.one (.bp 0 0)),.s (.one (.bp 256 0)),.s (.one (.bp 320 0)),sI,.s (.one (.bp 448 0)),.b (.cell [.d (.list iT),.d iT] false),.b (.cell [.nil,.nil,.nil,.nil] false),.b (.cell [.d aG,.d aP,.d aO,.ol 1502300] false),.b (.cell [.d .str,.ol 1502301,.nil] false),.b (.lst 45 cF true),.b (.lst 52 cu false)],[iT,(.list iT),iT,aG,aP,aO,.str,aV,ca]⟩],Pw.jtv (Pw.j3Q)⟩,
  ⟨4,[.s (.one (.bp 0 0)),.s (.one (.bp 256 0)),.s (.one (.bp 320 0)),sI,.s (.one (.bp 448 0)),sI,.b (.cell [.d (.list iT),.d iT] false),.b (.cell [.nil,.nil,.nil,.nil] false),.b (.cell [.d aG,.d aP,.d aO,.ol 1004000] false),.b (.cell [.d .str,.ol 1004001,.ol 1004002] false),.b (.lst 45 cF true),.b (.lst 52 cu false),.b (.lst 56 bd false)],[iT,iT,(.list iT),iT,aG,aP,aO,.str,aV,ca,au],[⟨.exit 4,[.s (.one (.bp 0 0)),.s (.one (.bp 256 0)),.s (.one (.bp 320 0)),sI,.s (.one (.bp 448 0)),.b (.cell [.d (.list iT),.d iT] false),.b (.cell [.nil,.nil,.nil,.nil] false),.b (.cell [.d aG,.d aP,.d aO,.ol 1504500] false),.b (.cell [.d .str,.ol 1504501,.ol 1504502] false),.b (.lst 45 cF true),.b (.lst 52 cu false),.b (.lst 56 bd false)],[iT,(.list iT),iT,aG,aP,aO,.str,aV,ca,au]⟩],Pw.jtw (Pw.j3R)⟩]
 modes:=[(37,[false,false]),(40,[false,false]),(71,[false]),(72,[false,false,false]),(73,[])]
 keep:=[(0,⟨[0,4,5,6],[0,256,320],[⟨1000000,45,cF,[.cell 320 3],true⟩],[]⟩),
  (2,⟨[0,4,5,6,7,8],[0,256,320,448],[⟨1002000,45,cF,[.cell 320 3],false⟩,⟨1002001,52,cu,[.cell 448 1],false⟩],[]⟩),
  (4,⟨[0,4,5,6,7,9],[0,256,320,448],[⟨1004000,45,cF,[.cell 320 3],false⟩,⟨1004001,52,cu,[.cell 448 1],false⟩,⟨1004002,56,bd,[.cell 448 2],false⟩],[]⟩)]
 keepX:=[(0,.exit 0,⟨[4,5],[0,256,320],[⟨1500100,45,cF,[.cell 320 3],false⟩],[]⟩),
  (2,.exit 2,⟨[0,4,5,6,7],[0,256,320,448],[⟨1502300,45,cF,[.cell 320 3],false⟩,⟨1502301,52,cu,[.cell 448 1],false⟩],[]⟩),
  (4,.exit 4,⟨[0,4,5,6,7],[0,256,320,448],[⟨1504500,45,cF,[.cell 320 3],false⟩,⟨1504501,52,cu,[.cell 448 1],false⟩,⟨1504502,56,bd,[.cell 448 2],false⟩],[]⟩)]
 ro:=[false]
 dw:=[(9,[[],[],[],[],[2432],[],[],[],[],[],[0,1002000],[2880],[2944,1002000,1002001],[],[448]]),(13,[[],[],[],[],[0,1004000],[3776],[3840,1004001,1004002],[],[448]])]
theorem ji8:Con.OK Tryz.prog Ml:=
 cOf aJ aL jja Ml Tryz.func21 (j9 rS (j9 TJ (j9 jj8 (j9 jj9 (j9 jjX trivial))))) (j9 (λh=>by kernel_rfl) (j9 (λh=>by kernel_rfl) (j9 (λh=>by kernel_rfl) trivial)))
def Mm:Con:=⟨133,[.v aa],[aa],⟨[.v .bool],[]⟩,[.bool],λh=>Pw.jh4 h⟩
def jqn:FnD where
 N:=46
 np:=1
 cs:=[]
 ds:=[⟨0,[.s (.one (.d aa)),.s (.one (.d aa)),sI,sI],[aa,aa,iT,iT],[⟨.ret,[.s (.one (.d .bool))],[.bool]⟩,⟨.exit 0,[],[]⟩],Pw.unc4 (Pw.j6g)⟩]
 keep:=[(0,⟨[0,8,9,10],[],[],[]⟩)]
 keepX:=[(0,.ret,⟨[2],[],[],[]⟩),
  (0,.exit 0,⟨[],[],[],[]⟩)]
 ro:=[false]
theorem joN:Con.OK Tryz.prog Mm:=
 cOf aJ aL jqn Mm Tryz.func133 trivial (j9 (λh=>by kernel_rfl) trivial)
def Mn:Con:=⟨54,[.v aa,.v iT],[aa,iT],⟨[.v iT],[]⟩,[iT],Pw.unc2 Pw.j3x⟩
def jme:FnD where
 N:=13
 np:=2
 cs:=[Gx,Mm]
 ds:=[]
 modes:=[(133,[false]),(134,[false,false])]
 ro:=[false]
theorem jkD:Con.OK Tryz.prog Mn:=
 cOf aJ aL jme Mn Tryz.func54 (j9 TE (j9 joN trivial)) trivial
def Mo:Con:=⟨24,[.v iT,.v iT],[iT,iT],⟨[.v iT],[]⟩,[iT],Pw.unc2 Pw.jl1⟩
def jtA:FnD where
 N:=12
 np:=2
 cs:=[]
 ds:=[]
 ro:=[false]
theorem jrv:Con.OK Tryz.prog Mo:=
 cOf aJ aL jtA Mo Tryz.func24 trivial trivial
def TM:Con:=⟨12,[.v (.list iT),.v iT],[(.list iT),iT],⟨[.v .bool],[]⟩,[.bool],Pw.unc2 Pw.jb2⟩
def ji9:FnD where
 N:=186
 np:=2
 cs:=[Kr,Gz,GA,Mf,Mg,oW,GF,Ml,Mn,Mo]
 ds:=[⟨0,[sI,sI,sI,sI,.s (.one (.ol 1000000)),.s (.one (.ol 1000001)),sI,sI,sI,sI,.b (.lst 96 ay false),.b (.lst 99 aQ false)],[iT,iT,iT,iT,iT,iT,iT,iT,aq,aa],[⟨.ret,[.s (.one (.d .bool))],[.bool]⟩,⟨.exit 0,[sI,sI,sI,.s (.one (.ol 1500100)),sI,sI,.b (.lst 99 aQ false)],[iT,iT,iT,iT,iT,aa]⟩],Pw.jtv (Pw.j3s)⟩]
 modes:=[(17,[false]),(19,[false]),(21,[false,false]),(22,[false]),(24,[false,false]),(40,[false,false]),(47,[]),(48,[false,false,false,false]),(49,[false,false,false,false]),(54,[false,false])]
 keep:=[(0,⟨[1,7,8,9,10,12,14,15,64,65],[],[⟨1000000,96,ay,[.slot 10],false⟩,⟨1000001,99,aQ,[.slot 12],false⟩],[]⟩)]
 keepX:=[(0,.ret,⟨[4],[],[],[]⟩),
  (0,.exit 0,⟨[1,8,9,12,14,15],[],[⟨1500100,99,aQ,[.slot 12],false⟩],[]⟩)]
 ro:=[false]
theorem law18_LimitsWeeks_ok:Con.OK Tryz.prog TM:=
 cOf aJ aL ji9 TM Tryz.func12 (j9 jot (j9 TH (j9 TI (j9 joM (j9 jql (j9 rS (j9 TL (j9 ji8 (j9 jkD (j9 jrv trivial)))))))))) (j9 (λh=>by kernel_rfl) trivial)
end Go.Proofs.Pk
