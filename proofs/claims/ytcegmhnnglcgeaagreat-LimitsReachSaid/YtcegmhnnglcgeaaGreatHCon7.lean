/- Contracts: each given function is its plain function, printed by a program. -/
import Derived.Test.YtcegmhnnglcgeaaGreatHCon6
noncomputable section
open Go Go.Lft
set_option linter.unusedVariables false
set_option maxRecDepth 100000
namespace Go.Proofs.Pk
def j26:Con:=⟨44,[.ref [(.list iT),iT],.v (.list iT)],[(.list iT),iT,(.list iT)],⟨[.v iT],[.ref [(.list iT),iT]]⟩,[iT,(.list iT),iT],fun h=>Pw.j1b h.1 h.2.1 h.2.2⟩
def jjH:FnD where
 N:=12
 np:=2
 cs:=[j0Q]
 ds:=[]
 modes:=[(22,[false,false])]
 ro:=[false]
theorem j3Z:Con.OK Tryz.prog j26:=
 cOf j0c j00 jjH j26 Tryz.func44 (j9 j1y trivial) trivial
def j8y:Con:=⟨85,[.ref [(.list iT),iT],.v .str],[(.list iT),iT,.str],⟨[.v ty61],[.ref [(.list iT),iT]]⟩,[ty61,(.list iT),iT],fun h=>Pw.j3U h.1 h.2.1 h.2.2⟩
def jjI:FnD where
 N:=98
 np:=2
 cs:=[j0Q,j26]
 ds:=[]
 modes:=[(22,[false,false]),(44,[false,false])]
 ro:=[false]
 dw:=[(7,[[],[],[0],[],[],[0],[],[0],[],[],[],[],[0],[],[],[],[],[],[],[0],[],[],[3968],[0,3968],[],[0],[],[0],[],[],[],[],[4608],[],[320]]),(9,[[],[],[],[5056],[0,5056],[],[]])]
theorem jiY:Con.OK Tryz.prog j8y:=
 cOf j0c j00 jjI j8y Tryz.func85 (j9 j1y (j9 j3Z trivial)) trivial
def j9A:Con:=⟨42,[],[],⟨[.own 9 (.list .str)],[]⟩,[(.list .str)],fun h=>Pw.jg1⟩
def joS:FnD where
 N:=2
 np:=0
 cs:=[]
 ds:=[]
 ro:=[true]
theorem jib:Con.OK Tryz.prog j9A:=
 cOf j0c j00 joS j9A Tryz.func42 trivial trivial
def j3s:Con:=⟨43,[.ref [(.list iT),iT],.v iT],[(.list iT),iT,iT],⟨[.v .bool],[.ref [(.list iT),iT]]⟩,[.bool,(.list iT),iT],fun h=>Pw.j11 h.1 h.2.1 h.2.2⟩
def jjJ:FnD where
 N:=11
 np:=2
 cs:=[j0Q]
 ds:=[]
 modes:=[(22,[false,false])]
 ro:=[false]
theorem j6L:Con.OK Tryz.prog j3s:=
 cOf j0c j00 jjJ j3s Tryz.func43 (j9 j1y trivial) trivial
def j4D:Con:=⟨86,[.ref [(.list iT),iT]],[(.list iT),iT],⟨[.own 95 ty12],[.ref [(.list iT),iT]]⟩,[ty12,(.list iT),iT],fun h=>Pw.j3Y h.1 h.2⟩
def jh2:FnD where
 N:=38
 np:=1
 cs:=[j0Q,j26]
 ds:=[⟨0,[.s (.one (.bp 0 0)),.s (.one (.ol 1000000)),sI,sI,.b (.cell [.d (.list iT),.d iT] false),.b (.lst 95 ty7 false)],[iT,iT,(.list iT),iT,ty12],[⟨.exit 0,[.s (.one (.ol 1500100)),.b (.cell [.d (.list iT),.d iT] false),.b (.lst 95 ty7 false)],[(.list iT),iT,ty12]⟩],fun h=>Pw.j2c h.1 h.2.1 h.2.2.1 h.2.2.2.1 h.2.2.2.2⟩]
 modes:=[(22,[false,false]),(44,[false,false])]
 keep:=[(0,⟨[0,3,4,5],[0],[⟨1000000,95,ty7,[.slot 3],false⟩],[]⟩)]
 keepX:=[(0,.exit 0,⟨[3],[0],[⟨1500100,95,ty7,[.slot 3],false⟩],[]⟩)]
 ro:=[true]
theorem jaR:Con.OK Tryz.prog j4D:=
 cOf j0c j00 jh2 j4D Tryz.func86 (j9 j1y (j9 j3Z trivial)) (j9 (fun h=>by kernel_rfl) trivial)
def j7O:Con:=⟨40,[.ref [(.list iT),iT]],[(.list iT),iT],⟨[.vn ty80 [3]],[.ref [(.list iT),iT]]⟩,[ty80,(.list iT),iT],fun h=>Pw.j8l h.1 h.2⟩
def jiZ:FnD where
 N:=109
 np:=1
 cs:=[j0Q,j26,j8y,j9A,j3s,j4D]
 ds:=[⟨0,[.s (.one (.bp 0 0)),.s (.one (.bp 128 0)),.s (.one (.bp 192 0)),sI,.b (.cell [.d (.list iT),.d iT] false),.b (.cell [.nil,.nil,.nil,.nil] false),.b (.cell [.ol 1000000,.nil,.nil,.nil] false),.b (.lst 91 ty61 false)],[iT,(.list iT),iT,ty62],[⟨.exit 0,[.s (.one (.bp 0 0)),.s (.one (.bp 128 0)),.s (.one (.bp 192 0)),.b (.cell [.d (.list iT),.d iT] false),.b (.cell [.nil,.nil,.nil,.nil] false),.b (.cell [.ol 1500100,.nil,.nil,.nil] false),.b (.lst 91 ty61 false)],[(.list iT),iT,ty62]⟩],fun h=>Pw.j2M h.1 h.2.1 h.2.2.1 h.2.2.2⟩,
  ⟨2,[.s (.one (.bp 0 0)),.s (.one (.bp 128 0)),.s (.one (.bp 192 0)),sI,.b (.cell [.d (.list iT),.d iT] false),.b (.cell [.nil,.nil,.nil,.nil] false),.b (.cell [.ol 1002000,.ol 1002001,.nil,.nil] false),.b (.lst 91 ty61 false),.b (.lst 93 ty49 false)],[iT,(.list iT),iT,ty62,ty52],[⟨.exit 2,[.s (.one (.bp 0 0)),.s (.one (.bp 128 0)),.s (.one (.bp 192 0)),.b (.cell [.d (.list iT),.d iT] false),.b (.cell [.nil,.nil,.nil,.nil] false),.b (.cell [.ol 1502300,.ol 1502301,.nil,.nil] false),.b (.lst 91 ty61 false),.b (.lst 93 ty49 false)],[(.list iT),iT,ty62,ty52]⟩],fun h=>Pw.j2N h.1 h.2.1 h.2.2.1 h.2.2.2.1 h.2.2.2.2⟩,
  ⟨4,[.s (.one (.bp 0 0)),.s (.one (.bp 128 0)),.s (.one (.bp 192 0)),sI,.b (.cell [.d (.list iT),.d iT] false),.b (.cell [.nil,.nil,.nil,.nil] false),.b (.cell [.ol 1004000,.ol 1004001,.ol 1004002,.nil] false),.b (.lst 91 ty61 false),.b (.lst 93 ty49 false),.b (.lst 156 ty22 false)],[iT,(.list iT),iT,ty62,ty52,ty26],[⟨.exit 4,[.s (.one (.bp 128 0)),.s (.one (.bp 192 0)),.b (.cell [.d (.list iT),.d iT] false),.b (.cell [.nil,.nil,.nil,.nil] false),.b (.cell [.ol 1504500,.ol 1504501,.ol 1504502,.nil] false),.b (.lst 91 ty61 false),.b (.lst 93 ty49 false),.b (.lst 156 ty22 false)],[(.list iT),iT,ty62,ty52,ty26]⟩],fun h=>Pw.j1X h.1 h.2.1 h.2.2.1 h.2.2.2.1 h.2.2.2.2.1 h.2.2.2.2.2⟩,
  ⟨6,[.s (.one (.bp 0 0)),.s (.one (.bp 128 0)),.s (.one (.bp 192 0)),sI,.s (.one (.bp 512 0)),sI,sI,.b (.cell [.d (.list iT),.d iT] false),.b (.cell [.nil,.nil,.nil,.nil] false),.b (.cell [.ol 1006000,.ol 1006001,.ol 1006002,.nil] false),.b (.cell [.d .str,.d iT,.ol 1006003] false),.b (.lst 91 ty61 false),.b (.lst 93 ty49 false),.b (.lst 156 ty22 false),.b (.lst 3 iT false)],[iT,iT,iT,(.list iT),iT,.str,iT,ty62,ty52,ty26,(.list iT)],[⟨.exit 6,[.s (.one (.bp 0 0)),.s (.one (.bp 128 0)),.s (.one (.bp 192 0)),sI,.s (.one (.bp 512 0)),.b (.cell [.d (.list iT),.d iT] false),.b (.cell [.nil,.nil,.nil,.nil] false),.b (.cell [.ol 1506700,.ol 1506701,.ol 1506702,.nil] false),.b (.cell [.d .str,.d iT,.ol 1506703] false),.b (.lst 91 ty61 false),.b (.lst 93 ty49 false),.b (.lst 156 ty22 false),.b (.lst 3 iT false)],[iT,(.list iT),iT,.str,iT,ty62,ty52,ty26,(.list iT)]⟩],fun h=>Pw.j2O h.1 h.2.1 h.2.2.1 h.2.2.2.1 h.2.2.2.2.1 h.2.2.2.2.2.1 h.2.2.2.2.2.2.1 h.2.2.2.2.2.2.2.1 h.2.2.2.2.2.2.2.2.1 h.2.2.2.2.2.2.2.2.2.1 h.2.2.2.2.2.2.2.2.2.2⟩]
 modes:=[(22,[false,false]),(42,[]),(43,[false,false]),(44,[false,false]),(85,[false,false]),(86,[false])]
 keep:=[(0,⟨[0,2,3,4],[0,128,192],[⟨1000000,91,ty61,[.cell 192 0],false⟩],[]⟩),
  (2,⟨[0,2,3,5],[0,128,192],[⟨1002000,91,ty61,[.cell 192 0],false⟩,⟨1002001,93,ty49,[.cell 192 1],false⟩],[]⟩),
  (4,⟨[0,2,3,7],[0,128,192],[⟨1004000,91,ty61,[.cell 192 0],false⟩,⟨1004001,93,ty49,[.cell 192 1],false⟩,⟨1004002,156,ty22,[.cell 192 2],false⟩],[]⟩),
  (6,⟨[0,2,3,7,8,9,10],[0,128,192,512],[⟨1006000,91,ty61,[.cell 192 0],false⟩,⟨1006001,93,ty49,[.cell 192 1],false⟩,⟨1006002,156,ty22,[.cell 192 2],false⟩,⟨1006003,3,iT,[.cell 512 2],false⟩],[]⟩)]
 keepX:=[(0,.exit 0,⟨[0,2,3],[0,128,192],[⟨1500100,91,ty61,[.cell 192 0],false⟩],[]⟩),
  (2,.exit 2,⟨[0,2,3],[0,128,192],[⟨1502300,91,ty61,[.cell 192 0],false⟩,⟨1502301,93,ty49,[.cell 192 1],false⟩],[]⟩),
  (4,.exit 4,⟨[2,3],[0,128,192],[⟨1504500,91,ty61,[.cell 192 0],false⟩,⟨1504501,93,ty49,[.cell 192 1],false⟩,⟨1504502,156,ty22,[.cell 192 2],false⟩],[]⟩),
  (6,.exit 6,⟨[0,2,3,7,8],[0,128,192,512],[⟨1506700,91,ty61,[.cell 192 0],false⟩,⟨1506701,93,ty49,[.cell 192 1],false⟩,⟨1506702,156,ty22,[.cell 192 2],false⟩,⟨1506703,3,iT,[.cell 512 2],false⟩],[]⟩)]
 ro:=[false]
 dw:=[(5,[[],[],[],[1344],[],[],[],[],[],[0],[1792],[1856,1000000],[],[192]]),(9,[[2432],[],[],[],[],[],[],[],[],[],[0],[],[0],[],[384],[384]])]
 ns:=[3]
theorem jic:Con.OK Tryz.prog j7O:=
 cOf j0c j00 jiZ j7O Tryz.func40 (j9 j1y (j9 j3Z (j9 jiY (j9 jib (j9 j6L (j9 jaR trivial)))))) (j9 (fun h=>by kernel_rfl) (j9 (fun h=>by kernel_rfl) (j9 (fun h=>by kernel_rfl) (j9 (fun h=>by kernel_rfl) trivial))))
def j7P:Con:=⟨41,[.ref [(.list iT),iT],.v ty80,.v .str],[(.list iT),iT,ty80,.str],⟨[.v ty68],[.ref [(.list iT),iT]]⟩,[ty68,(.list iT),iT],fun h=>Pw.j8m h.1 h.2.1 h.2.2.1 h.2.2.2⟩
def jj0:FnD where
 N:=77
 np:=3
 cs:=[j0Q,j26,j3s,j4D]
 ds:=[⟨0,[.s (.one (.bp 0 0)),.s (.one (.bp 256 0)),.s (.one (.bp 384 0)),.s (.one (.bp 448 0)),sI,.b (.cell [.d (.list iT),.d iT] false),.b (.cell [.d ty62,.d ty52,.d ty26,.d ty74] false),.b (.cell [.d .str,.d iT,.d iT,.d iT,.d iT,.d iT,.nil,.nil,.d iT,.d iT] false),.b (.cell [.d .str,.d iT,.d iT,.d iT,.d iT,.d iT,.ol 1000000,.nil,.d iT,.d iT] false),.b (.lst 3 iT false)],[iT,(.list iT),iT,ty62,ty52,ty26,ty74,.str,iT,iT,iT,iT,iT,iT,iT,.str,iT,iT,iT,iT,iT,iT,iT,(.list iT)],[⟨.exit 0,[.s (.one (.bp 0 0)),.s (.one (.bp 256 0)),.s (.one (.bp 384 0)),.s (.one (.bp 448 0)),.b (.cell [.d (.list iT),.d iT] false),.b (.cell [.d ty62,.d ty52,.d ty26,.d ty74] false),.b (.cell [.d .str,.d iT,.d iT,.d iT,.d iT,.d iT,.nil,.nil,.d iT,.d iT] false),.b (.cell [.d .str,.d iT,.d iT,.d iT,.d iT,.d iT,.ol 1500100,.nil,.d iT,.d iT] false),.b (.lst 3 iT false)],[(.list iT),iT,ty62,ty52,ty26,ty74,.str,iT,iT,iT,iT,iT,iT,iT,.str,iT,iT,iT,iT,iT,iT,iT,(.list iT)]⟩],fun h=>Pw.j2P h.1 h.2.1 h.2.2.1 h.2.2.2.1 h.2.2.2.2.1 h.2.2.2.2.2.1 h.2.2.2.2.2.2.1 h.2.2.2.2.2.2.2.1 h.2.2.2.2.2.2.2.2.1 h.2.2.2.2.2.2.2.2.2.1 h.2.2.2.2.2.2.2.2.2.2.1 h.2.2.2.2.2.2.2.2.2.2.2.1 h.2.2.2.2.2.2.2.2.2.2.2.2.1 h.2.2.2.2.2.2.2.2.2.2.2.2.2.1 h.2.2.2.2.2.2.2.2.2.2.2.2.2.2.1 h.2.2.2.2.2.2.2.2.2.2.2.2.2.2.2.1 h.2.2.2.2.2.2.2.2.2.2.2.2.2.2.2.2.1 h.2.2.2.2.2.2.2.2.2.2.2.2.2.2.2.2.2.1 h.2.2.2.2.2.2.2.2.2.2.2.2.2.2.2.2.2.2.1 h.2.2.2.2.2.2.2.2.2.2.2.2.2.2.2.2.2.2.2.1 h.2.2.2.2.2.2.2.2.2.2.2.2.2.2.2.2.2.2.2.2.1 h.2.2.2.2.2.2.2.2.2.2.2.2.2.2.2.2.2.2.2.2.2.1 h.2.2.2.2.2.2.2.2.2.2.2.2.2.2.2.2.2.2.2.2.2.2.1 h.2.2.2.2.2.2.2.2.2.2.2.2.2.2.2.2.2.2.2.2.2.2.2⟩]
 modes:=[(22,[false,false]),(43,[false,false]),(44,[false,false]),(86,[false])]
 keep:=[(0,⟨[0,4,6,7,8],[0,256,384,448],[⟨1000000,3,iT,[.cell 448 6],false⟩],[]⟩)]
 keepX:=[(0,.exit 0,⟨[0,4,6,7],[0,256,384,448],[⟨1500100,3,iT,[.cell 448 6],false⟩],[]⟩)]
 ro:=[false]
 dw:=[(7,[[],[],[],[],[],[],[0],[3200],[3264,1000000],[],[448]])]
theorem jid:Con.OK Tryz.prog j7P:=
 cOf j0c j00 jj0 j7P Tryz.func41 (j9 j1y (j9 j3Z (j9 j6L (j9 jaR trivial)))) (j9 (fun h=>by kernel_rfl) trivial)
def j4E:Con:=⟨14,[.ref [(.list iT),iT]],[(.list iT),iT],⟨[.v iT],[.ref [(.list iT),iT]]⟩,[iT,(.list iT),iT],fun h=>Pw.j56 h.1 h.2⟩
def jh3:FnD where
 N:=16
 np:=1
 cs:=[j0Q,j26,j3s]
 ds:=[]
 modes:=[(22,[false,false]),(43,[false,false]),(44,[false,false])]
 ro:=[false]
theorem jaS:Con.OK Tryz.prog j4E:=
 cOf j0c j00 jh3 j4E Tryz.func14 (j9 j1y (j9 j3Z (j9 j6L trivial))) trivial
def j8z:Con:=⟨39,[.ref [(.list iT),iT],.v ty80],[(.list iT),iT,ty80],⟨[.v ty38],[.ref [(.list iT),iT]]⟩,[ty38,(.list iT),iT],fun h=>Pw.j9w h.1 h.2.1 h.2.2⟩
def jjK:FnD where
 N:=52
 np:=2
 cs:=[j0Q,j26,j3s,j4E]
 ds:=[]
 modes:=[(14,[false]),(22,[false,false]),(43,[false,false]),(44,[false,false])]
 ro:=[false]
 dw:=[(3,[[],[],[],[1344],[0,1344],[],[],[384]]),(8,[[],[],[],[],[],[],[0],[],[],[],[],[384]])]
theorem jj1:Con.OK Tryz.prog j8z:=
 cOf j0c j00 jjK j8z Tryz.func39 (j9 j1y (j9 j3Z (j9 j6L (j9 jaS trivial)))) trivial
def j7a:Con:=⟨13,[.ref [(.list iT),iT],.v iT],[(.list iT),iT,iT],⟨[.v ty80],[.ref [(.list iT),iT]]⟩,[ty80,(.list iT),iT],fun h=>Pw.j7w h.1 h.2.1 h.2.2⟩
def jie:FnD where
 N:=69
 np:=2
 cs:=[j0Q,j9A,j7O,j7P,j8z]
 ds:=[⟨0,[.s (.one (.bp 0 0)),.s (.one (.bp 256 0)),.s (.one (.bp 320 0)),sI,.b (.cell [.d (.list iT),.d iT] false),.b (.cell [.nil,.nil,.nil,.nil] false),.b (.cell [.d ty62,.d ty52,.d ty26,.ol 1000000] false),.b (.lst 45 ty73 true)],[iT,(.list iT),iT,ty62,ty52,ty26,ty74],[⟨.exit 0,[.s (.one (.bp 256 0)),.s (.one (.bp 320 0)),.b (.cell [.d (.list iT),.d iT] false),.b (.cell [.nil,.nil,.nil,.nil] false),.b (.cell [.d ty62,.d ty52,.d ty26,.ol 1500100] false),.b (.lst 45 ty73 true)],[(.list iT),iT,ty62,ty52,ty26,ty74]⟩],fun h=>Pw.j2x h.1 h.2.1 h.2.2.1 h.2.2.2.1 h.2.2.2.2.1 h.2.2.2.2.2.1 h.2.2.2.2.2.2⟩,
  ⟨2,[.s (.one (.bp 0 0)),.s (.one (.bp 256 0)),.s (.one (.bp 320 0)),sI,.s (.one (.bp 448 0)),sI,.b (.cell [.d (.list iT),.d iT] false),.b (.cell [.nil,.nil,.nil,.nil] false),.b (.cell [.d ty62,.d ty52,.d ty26,.ol 1002000] false),.b (.cell [.d .str,.ol 1002001,.nil] false),.b (.lst 45 ty73 true),.b (.lst 52 ty68 false)],[iT,iT,(.list iT),iT,ty62,ty52,ty26,.str,ty74,ty69],[⟨.exit 2,[.s (.one (.bp 0 0)),.s (.one (.bp 256 0)),.s (.one (.bp 320 0)),sI,.s (.one (.bp 448 0)),.b (.cell [.d (.list iT),.d iT] false),.b (.cell [.nil,.nil,.nil,.nil] false),.b (.cell [.d ty62,.d ty52,.d ty26,.ol 1502300] false),.b (.cell [.d .str,.ol 1502301,.nil] false),.b (.lst 45 ty73 true),.b (.lst 52 ty68 false)],[iT,(.list iT),iT,ty62,ty52,ty26,.str,ty74,ty69]⟩],fun h=>Pw.j2v h.1 h.2.1 h.2.2.1 h.2.2.2.1 h.2.2.2.2.1 h.2.2.2.2.2.1 h.2.2.2.2.2.2.1 h.2.2.2.2.2.2.2.1 h.2.2.2.2.2.2.2.2.1 h.2.2.2.2.2.2.2.2.2⟩,
  ⟨4,[.s (.one (.bp 0 0)),.s (.one (.bp 256 0)),.s (.one (.bp 320 0)),sI,.s (.one (.bp 448 0)),sI,.b (.cell [.d (.list iT),.d iT] false),.b (.cell [.nil,.nil,.nil,.nil] false),.b (.cell [.d ty62,.d ty52,.d ty26,.ol 1004000] false),.b (.cell [.d .str,.ol 1004001,.ol 1004002] false),.b (.lst 45 ty73 true),.b (.lst 52 ty68 false),.b (.lst 56 ty38 false)],[iT,iT,(.list iT),iT,ty62,ty52,ty26,.str,ty74,ty69,ty40],[⟨.exit 4,[.s (.one (.bp 0 0)),.s (.one (.bp 256 0)),.s (.one (.bp 320 0)),sI,.s (.one (.bp 448 0)),.b (.cell [.d (.list iT),.d iT] false),.b (.cell [.nil,.nil,.nil,.nil] false),.b (.cell [.d ty62,.d ty52,.d ty26,.ol 1504500] false),.b (.cell [.d .str,.ol 1504501,.ol 1504502] false),.b (.lst 45 ty73 true),.b (.lst 52 ty68 false),.b (.lst 56 ty38 false)],[iT,(.list iT),iT,ty62,ty52,ty26,.str,ty74,ty69,ty40]⟩],fun h=>Pw.j2w h.1 h.2.1 h.2.2.1 h.2.2.2.1 h.2.2.2.2.1 h.2.2.2.2.2.1 h.2.2.2.2.2.2.1 h.2.2.2.2.2.2.2.1 h.2.2.2.2.2.2.2.2.1 h.2.2.2.2.2.2.2.2.2.1 h.2.2.2.2.2.2.2.2.2.2⟩]
 modes:=[(22,[false,false]),(39,[false,false]),(40,[false]),(41,[false,false,false]),(42,[])]
 keep:=[(0,⟨[0,4,5,6],[0,256,320],[⟨1000000,45,ty73,[.cell 320 3],true⟩],[]⟩),
  (2,⟨[0,4,5,6,7,8],[0,256,320,448],[⟨1002000,45,ty73,[.cell 320 3],false⟩,⟨1002001,52,ty68,[.cell 448 1],false⟩],[]⟩),
  (4,⟨[0,4,5,6,7,9],[0,256,320,448],[⟨1004000,45,ty73,[.cell 320 3],false⟩,⟨1004001,52,ty68,[.cell 448 1],false⟩,⟨1004002,56,ty38,[.cell 448 2],false⟩],[]⟩)]
 keepX:=[(0,.exit 0,⟨[4,5],[0,256,320],[⟨1500100,45,ty73,[.cell 320 3],false⟩],[]⟩),
  (2,.exit 2,⟨[0,4,5,6,7],[0,256,320,448],[⟨1502300,45,ty73,[.cell 320 3],false⟩,⟨1502301,52,ty68,[.cell 448 1],false⟩],[]⟩),
  (4,.exit 4,⟨[0,4,5,6,7],[0,256,320,448],[⟨1504500,45,ty73,[.cell 320 3],false⟩,⟨1504501,52,ty68,[.cell 448 1],false⟩,⟨1504502,56,ty38,[.cell 448 2],false⟩],[]⟩)]
 ro:=[false]
 dw:=[(9,[[],[],[],[],[2432],[],[],[],[],[],[0,1002000],[2880],[2944,1002000,1002001],[],[448]]),(13,[[],[],[],[],[0,1004000],[3776],[3840,1004001,1004002],[],[448]])]
theorem jh4:Con.OK Tryz.prog j7a:=
 cOf j0c j00 jie j7a Tryz.func13 (j9 j1y (j9 jib (j9 jic (j9 jid (j9 jj1 trivial))))) (j9 (fun h=>by kernel_rfl) (j9 (fun h=>by kernel_rfl) (j9 (fun h=>by kernel_rfl) trivial)))
def jfz:Con:=⟨16,[.v iT,.v iT],[iT,iT],⟨[.v iT],[]⟩,[iT],fun h=>Pw.jk7 h.1 h.2⟩
def jrv:FnD where
 N:=12
 np:=2
 cs:=[]
 ds:=[]
 ro:=[false]
theorem jpR:Con.OK Tryz.prog jfz:=
 cOf j0c j00 jrv jfz Tryz.func16 trivial trivial
def jdv:Con:=⟨181,[.v iT,.v iT,.v iT],[iT,iT,iT],⟨[.v .bool],[]⟩,[.bool],fun h=>Pw.jcz h.1 h.2.1 h.2.2⟩
def jtZ:FnD where
 N:=15
 np:=3
 cs:=[]
 ds:=[]
 ro:=[false]
theorem jlb:Con.OK Tryz.prog jdv:=
 cOf j0c j00 jtZ jdv Tryz.func181 trivial trivial
def jef:Con:=⟨234,[.v ty51],[ty51],⟨[.v .bool],[]⟩,[.bool],fun h=>Pw.jfm h⟩
def jpS:FnD where
 N:=38
 np:=1
 cs:=[jdv]
 ds:=[]
 modes:=[(181,[false,false,false])]
 ro:=[false]
theorem joT:Con.OK Tryz.prog jef:=
 cOf j0c j00 jpS jef Tryz.func234 (j9 jlb trivial) trivial
def jfA:Con:=⟨304,[.v iT],[iT],⟨[.v .bool],[]⟩,[.bool],fun h=>Pw.j1w h⟩
def jrw:FnD where
 N:=16
 np:=1
 cs:=[]
 ds:=[]
 ro:=[false]
theorem jpT:Con.OK Tryz.prog jfA:=
 cOf j0c j00 jrw jfA Tryz.func304 trivial trivial
def ja1:Con:=⟨293,[.v iT,.v iT],[iT,iT],⟨[.v iT],[]⟩,[iT],fun h=>Pw.je0 h.1 h.2⟩
def jrx:FnD where
 N:=23
 np:=2
 cs:=[jfA]
 ds:=[]
 modes:=[(304,[false])]
 ro:=[false]
theorem jh5:Con.OK Tryz.prog ja1:=
 cOf j0c j00 jrx ja1 Tryz.func293 (j9 jpT trivial) trivial
def jeg:Con:=⟨303,[.v ty20],[ty20],⟨[.v .bool],[]⟩,[.bool],fun h=>Pw.jhL h⟩
def jpU:FnD where
 N:=36
 np:=1
 cs:=[ja1]
 ds:=[]
 modes:=[(293,[false,false])]
 ro:=[false]
theorem joU:Con.OK Tryz.prog jeg:=
 cOf j0c j00 jpU jeg Tryz.func303 (j9 jh5 trivial) trivial
def jfB:Con:=⟨237,[.v iT],[iT],⟨[.v iT],[]⟩,[iT],fun h=>Pw.jk8 h⟩
def jry:FnD where
 N:=18
 np:=1
 cs:=[]
 ds:=[]
 ro:=[false]
theorem jpV:Con.OK Tryz.prog jfB:=
 cOf j0c j00 jry jfB Tryz.func237 trivial trivial
def jh6:Con:=⟨292,[.v ty20],[ty20],⟨[.v iT,.v iT],[]⟩,[iT,iT],fun h=>Pw.jn9 h⟩
def jsX:FnD where
 N:=29
 np:=1
 cs:=[ja1,jeg,jfB]
 ds:=[⟨0,[.s (.one (.bp 64 0)),sI,sI,.b (.cell [.d iT,.d iT,.d iT] false)],[iT,iT,iT,iT,iT],[⟨.exit 0,[.s (.one (.bp 64 0)),sI,.b (.cell [.d iT,.d iT,.d iT] false)],[iT,iT,iT,iT]⟩],fun h=>Pw.j6j h.1 h.2.1 h.2.2.1 h.2.2.2.1 h.2.2.2.2⟩]
 modes:=[(237,[false]),(293,[false,false]),(303,[false])]
 keep:=[(0,⟨[1,4,5],[64],[],[]⟩)]
 keepX:=[(0,.exit 0,⟨[1,4],[64],[],[]⟩)]
 ro:=[false,false]
theorem r01_Day_ok:Con.OK Tryz.prog jh6:=
 cOf j0c j00 jsX jh6 Tryz.func292 (j9 jh5 (j9 joU (j9 jpV trivial))) (j9 (fun h=>by kernel_rfl) trivial)
def j8A:Con:=⟨112,[.v iT],[iT],⟨[.v iT],[]⟩,[iT],fun h=>Pw.je1 h⟩
def jnv:FnD where
 N:=7
 np:=1
 cs:=[]
 ds:=[]
 ro:=[false]
theorem jgr:Con.OK Tryz.prog j8A:=
 cOf j0c j00 jnv j8A Tryz.func112 trivial trivial
def jh7:Con:=⟨275,[.v iT,.v iT,.v iT,.v iT],[iT,iT,iT,iT],⟨[.v iT,.v iT],[]⟩,[iT,iT],fun h=>Pw.jna h.1 h.2.1 h.2.2.1 h.2.2.2⟩
def jsY:FnD where
 N:=63
 np:=4
 cs:=[ja1,jh6,j8A]
 ds:=[⟨0,[sI,sI,sI,sI,sI,sI],[iT,iT,iT,iT,iT,iT],[⟨.exit 0,[sI,sI,sI,sI,sI],[iT,iT,iT,iT,iT]⟩],fun h=>Pw.j6k h.1 h.2.1 h.2.2.1 h.2.2.2.1 h.2.2.2.2.1 h.2.2.2.2.2⟩,
  ⟨2,[sI,sI,sI,sI],[iT,iT,iT,iT],[⟨.exit 2,[sI],[iT]⟩],fun h=>Pw.j6l h.1 h.2.1 h.2.2.1 h.2.2.2⟩]
 modes:=[(112,[false]),(292,[false]),(293,[false,false])]
 keep:=[(0,⟨[0,1,2,3,10,12],[],[],[]⟩),
  (2,⟨[0,1,10,12],[],[],[]⟩)]
 keepX:=[(0,.exit 0,⟨[0,1,2,10,12],[],[],[]⟩),
  (2,.exit 2,⟨[12],[],[],[]⟩)]
 ro:=[false,false]
theorem r01_Nth_ok:Con.OK Tryz.prog jh7:=
 cOf j0c j00 jsY jh7 Tryz.func275 (j9 jh5 (j9 r01_Day_ok (j9 jgr trivial))) (j9 (fun h=>by kernel_rfl) (j9 (fun h=>by kernel_rfl) trivial))
end Go.Proofs.Pk
