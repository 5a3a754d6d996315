/- Contracts: each given function is its plain function, printed by a program. -/
import Derived.Test.YtcegmhnnglcgeaaGreatICon6
noncomputable section
open Go Go.Lft
set_option linter.unusedVariables false
set_option maxRecDepth 100000
namespace Go.Proofs.Pk
def j2J:Con:=⟨44,[.ref [(.list iT),iT],.v (.list iT)],[(.list iT),iT,(.list iT)],⟨[.v iT],[.ref [(.list iT),iT]]⟩,[iT,(.list iT),iT],fun h=>Pw.j1A h.1 h.2.1 h.2.2⟩
def jiV:FnD where
 N:=12
 np:=2
 cs:=[j17]
 ds:=[]
 modes:=[(22,[false,false])]
 ro:=[false]
theorem j4t:Con.OK Tryz.prog j2J:=
 cOf j0i j03 jiV j2J Tryz.func44 (j9 j25 trivial) trivial
def j8H:Con:=⟨85,[.ref [(.list iT),iT],.v .str],[(.list iT),iT,.str],⟨[.v ty61],[.ref [(.list iT),iT]]⟩,[ty61,(.list iT),iT],fun h=>Pw.j4q h.1 h.2.1 h.2.2⟩
def jiW:FnD where
 N:=98
 np:=2
 cs:=[j17,j2J]
 ds:=[]
 modes:=[(22,[false,false]),(44,[false,false])]
 ro:=[false]
 dw:=[(7,[[],[],[0],[],[],[0],[],[0],[],[],[],[],[0],[],[],[],[],[],[],[0],[],[],[3968],[0,3968],[],[0],[],[0],[],[],[],[],[4608],[],[320]]),(9,[[],[],[],[5056],[0,5056],[],[]])]
theorem ji8:Con.OK Tryz.prog j8H:=
 cOf j0i j03 jiW j8H Tryz.func85 (j9 j25 (j9 j4t trivial)) trivial
def j9L:Con:=⟨42,[],[],⟨[.own 9 (.list .str)],[]⟩,[(.list .str)],fun h=>Pw.jfj⟩
def joy:FnD where
 N:=2
 np:=0
 cs:=[]
 ds:=[]
 ro:=[true]
theorem jhk:Con.OK Tryz.prog j9L:=
 cOf j0i j03 joy j9L Tryz.func42 trivial trivial
def j3Z:Con:=⟨43,[.ref [(.list iT),iT],.v iT],[(.list iT),iT,iT],⟨[.v .bool],[.ref [(.list iT),iT]]⟩,[.bool,(.list iT),iT],fun h=>Pw.j1k h.1 h.2.1 h.2.2⟩
def jiX:FnD where
 N:=11
 np:=2
 cs:=[j17]
 ds:=[]
 modes:=[(22,[false,false])]
 ro:=[false]
theorem j79:Con.OK Tryz.prog j3Z:=
 cOf j0i j03 jiX j3Z Tryz.func43 (j9 j25 trivial) trivial
def j55:Con:=⟨86,[.ref [(.list iT),iT]],[(.list iT),iT],⟨[.own 95 ty12],[.ref [(.list iT),iT]]⟩,[ty12,(.list iT),iT],fun h=>Pw.j4s h.1 h.2⟩
def jgk:FnD where
 N:=38
 np:=1
 cs:=[j17,j2J]
 ds:=[⟨0,[.s (.one (.bp 0 0)),.s (.one (.ol 1000000)),sI,sI,.b (.cell [.d (.list iT),.d iT] false),.b (.lst 95 ty7 false)],[iT,iT,(.list iT),iT,ty12],[⟨.exit 0,[.s (.one (.ol 1500100)),.b (.cell [.d (.list iT),.d iT] false),.b (.lst 95 ty7 false)],[(.list iT),iT,ty12]⟩],fun h=>Pw.j2M h.1 h.2.1 h.2.2.1 h.2.2.2.1 h.2.2.2.2⟩]
 modes:=[(22,[false,false]),(44,[false,false])]
 keep:=[(0,⟨[0,3,4,5],[0],[⟨1000000,95,ty7,[.slot 3],false⟩],[]⟩)]
 keepX:=[(0,.exit 0,⟨[3],[0],[⟨1500100,95,ty7,[.slot 3],false⟩],[]⟩)]
 ro:=[true]
theorem jaC:Con.OK Tryz.prog j55:=
 cOf j0i j03 jgk j55 Tryz.func86 (j9 j25 (j9 j4t trivial)) (j9 (fun h=>by kernel_rfl) trivial)
def j86:Con:=⟨40,[.ref [(.list iT),iT]],[(.list iT),iT],⟨[.vn ty80 [3]],[.ref [(.list iT),iT]]⟩,[ty80,(.list iT),iT],fun h=>Pw.j8u h.1 h.2⟩
def ji9:FnD where
 N:=109
 np:=1
 cs:=[j17,j2J,j8H,j9L,j3Z,j55]
 ds:=[⟨0,[.s (.one (.bp 0 0)),.s (.one (.bp 128 0)),.s (.one (.bp 192 0)),sI,.b (.cell [.d (.list iT),.d iT] false),.b (.cell [.nil,.nil,.nil,.nil] false),.b (.cell [.ol 1000000,.nil,.nil,.nil] false),.b (.lst 91 ty61 false)],[iT,(.list iT),iT,ty62],[⟨.exit 0,[.s (.one (.bp 0 0)),.s (.one (.bp 128 0)),.s (.one (.bp 192 0)),.b (.cell [.d (.list iT),.d iT] false),.b (.cell [.nil,.nil,.nil,.nil] false),.b (.cell [.ol 1500100,.nil,.nil,.nil] false),.b (.lst 91 ty61 false)],[(.list iT),iT,ty62]⟩],fun h=>Pw.j3i h.1 h.2.1 h.2.2.1 h.2.2.2⟩,
  ⟨2,[.s (.one (.bp 0 0)),.s (.one (.bp 128 0)),.s (.one (.bp 192 0)),sI,.b (.cell [.d (.list iT),.d iT] false),.b (.cell [.nil,.nil,.nil,.nil] false),.b (.cell [.ol 1002000,.ol 1002001,.nil,.nil] false),.b (.lst 91 ty61 false),.b (.lst 93 ty49 false)],[iT,(.list iT),iT,ty62,ty52],[⟨.exit 2,[.s (.one (.bp 0 0)),.s (.one (.bp 128 0)),.s (.one (.bp 192 0)),.b (.cell [.d (.list iT),.d iT] false),.b (.cell [.nil,.nil,.nil,.nil] false),.b (.cell [.ol 1502300,.ol 1502301,.nil,.nil] false),.b (.lst 91 ty61 false),.b (.lst 93 ty49 false)],[(.list iT),iT,ty62,ty52]⟩],fun h=>Pw.j3j h.1 h.2.1 h.2.2.1 h.2.2.2.1 h.2.2.2.2⟩,
  ⟨4,[.s (.one (.bp 0 0)),.s (.one (.bp 128 0)),.s (.one (.bp 192 0)),sI,.b (.cell [.d (.list iT),.d iT] false),.b (.cell [.nil,.nil,.nil,.nil] false),.b (.cell [.ol 1004000,.ol 1004001,.ol 1004002,.nil] false),.b (.lst 91 ty61 false),.b (.lst 93 ty49 false),.b (.lst 156 ty22 false)],[iT,(.list iT),iT,ty62,ty52,ty26],[⟨.exit 4,[.s (.one (.bp 128 0)),.s (.one (.bp 192 0)),.b (.cell [.d (.list iT),.d iT] false),.b (.cell [.nil,.nil,.nil,.nil] false),.b (.cell [.ol 1504500,.ol 1504501,.ol 1504502,.nil] false),.b (.lst 91 ty61 false),.b (.lst 93 ty49 false),.b (.lst 156 ty22 false)],[(.list iT),iT,ty62,ty52,ty26]⟩],fun h=>Pw.j2y h.1 h.2.1 h.2.2.1 h.2.2.2.1 h.2.2.2.2.1 h.2.2.2.2.2⟩,
  ⟨6,[.s (.one (.bp 0 0)),.s (.one (.bp 128 0)),.s (.one (.bp 192 0)),sI,.s (.one (.bp 512 0)),sI,sI,.b (.cell [.d (.list iT),.d iT] false),.b (.cell [.nil,.nil,.nil,.nil] false),.b (.cell [.ol 1006000,.ol 1006001,.ol 1006002,.nil] false),.b (.cell [.d .str,.d iT,.ol 1006003] false),.b (.lst 91 ty61 false),.b (.lst 93 ty49 false),.b (.lst 156 ty22 false),.b (.lst 3 iT false)],[iT,iT,iT,(.list iT),iT,.str,iT,ty62,ty52,ty26,(.list iT)],[⟨.exit 6,[.s (.one (.bp 0 0)),.s (.one (.bp 128 0)),.s (.one (.bp 192 0)),sI,.s (.one (.bp 512 0)),.b (.cell [.d (.list iT),.d iT] false),.b (.cell [.nil,.nil,.nil,.nil] false),.b (.cell [.ol 1506700,.ol 1506701,.ol 1506702,.nil] false),.b (.cell [.d .str,.d iT,.ol 1506703] false),.b (.lst 91 ty61 false),.b (.lst 93 ty49 false),.b (.lst 156 ty22 false),.b (.lst 3 iT false)],[iT,(.list iT),iT,.str,iT,ty62,ty52,ty26,(.list iT)]⟩],fun h=>Pw.j3k h.1 h.2.1 h.2.2.1 h.2.2.2.1 h.2.2.2.2.1 h.2.2.2.2.2.1 h.2.2.2.2.2.2.1 h.2.2.2.2.2.2.2.1 h.2.2.2.2.2.2.2.2.1 h.2.2.2.2.2.2.2.2.2.1 h.2.2.2.2.2.2.2.2.2.2⟩]
 modes:=[(22,[false,false]),(42,[]),(43,[false,false]),(44,[false,false]),(85,[false,false]),(86,[false])]
 keep:=[(0,⟨[0,2,3,4],[0,128,192],[⟨1000000,91,ty61,[.cell 192 0],false⟩],[]⟩),
  (2,⟨[0,2,3,5],[0,128,192],[⟨1002000,91,ty61,[.cell 192 0],false⟩,⟨1002001,93,ty49,[.cell 192 1],false⟩],[]⟩),
  (4,⟨[0,2,3,7],[0,128,192],[⟨1004000,91,ty61,[.cell 192 0],false⟩,⟨1004001,93,ty49,[.cell 192 1],false⟩,⟨1004002,156,ty22,[.cell 192 2],false⟩],[]⟩),
  (6,⟨[0,2,3,7,8,9,10],[0,128,192,512],[⟨1006000,91,ty61,[.cell 192 0],false⟩,⟨1006001,93,ty49,[.cell 192 1],false⟩,⟨1006002,156,ty22,[.cell 192 2],false⟩,⟨1006003,3,iT,[.cell 512 2],false⟩],[]⟩)]
 keepX:=[(0,.exit 0,⟨[0,2,3],[0,128,192],[⟨1500100,91,ty61,[.cell 192 0],false⟩],[]⟩),
  (2,.exit 2,⟨[0,2,3],[0,128,192],[⟨1502300,91,ty61,[.cell 192 0],false⟩,⟨1502301,93,ty49,[.cell 192 1],false⟩],[]⟩),
  (4,.exit 4,⟨[2,3],[0,128,192],[⟨1504500,91,ty61,[.cell 192 0],false⟩,⟨1504501,93,ty49,[.cell 192 1],false⟩,⟨1504502,156,ty22,[.cell 192 2],false⟩],[]⟩),
  (6,.exit 6,⟨[0,2,3,7,8],[0,128,192,512],[⟨1506700,91,ty61,[.cell 192 0],false⟩,⟨1506701,93,ty49,[.cell 192 1],false⟩,⟨1506702,156,ty22,[.cell 192 2],false⟩,⟨1506703,3,iT,[.cell 512 2],false⟩],[]⟩)]
 ro:=[false]
 dw:=[(5,[[],[],[],[1344],[],[],[],[],[],[0],[1792],[1856,1000000],[],[192]]),(9,[[2432],[],[],[],[],[],[],[],[],[],[0],[],[0],[],[384],[384]])]
 ns:=[3]
theorem jhl:Con.OK Tryz.prog j86:=
 cOf j0i j03 ji9 j86 Tryz.func40 (j9 j25 (j9 j4t (j9 ji8 (j9 jhk (j9 j79 (j9 jaC trivial)))))) (j9 (fun h=>by kernel_rfl) (j9 (fun h=>by kernel_rfl) (j9 (fun h=>by kernel_rfl) (j9 (fun h=>by kernel_rfl) trivial))))
def j87:Con:=⟨41,[.ref [(.list iT),iT],.v ty80,.v .str],[(.list iT),iT,ty80,.str],⟨[.v ty68],[.ref [(.list iT),iT]]⟩,[ty68,(.list iT),iT],fun h=>Pw.j8v h.1 h.2.1 h.2.2.1 h.2.2.2⟩
def jia:FnD where
 N:=77
 np:=3
 cs:=[j17,j2J,j3Z,j55]
 ds:=[⟨0,[.s (.one (.bp 0 0)),.s (.one (.bp 256 0)),.s (.one (.bp 384 0)),.s (.one (.bp 448 0)),sI,.b (.cell [.d (.list iT),.d iT] false),.b (.cell [.d ty62,.d ty52,.d ty26,.d ty74] false),.b (.cell [.d .str,.d iT,.d iT,.d iT,.d iT,.d iT,.nil,.nil,.d iT,.d iT] false),.b (.cell [.d .str,.d iT,.d iT,.d iT,.d iT,.d iT,.ol 1000000,.nil,.d iT,.d iT] false),.b (.lst 3 iT false)],[iT,(.list iT),iT,ty62,ty52,ty26,ty74,.str,iT,iT,iT,iT,iT,iT,iT,.str,iT,iT,iT,iT,iT,iT,iT,(.list iT)],[⟨.exit 0,[.s (.one (.bp 0 0)),.s (.one (.bp 256 0)),.s (.one (.bp 384 0)),.s (.one (.bp 448 0)),.b (.cell [.d (.list iT),.d iT] false),.b (.cell [.d ty62,.d ty52,.d ty26,.d ty74] false),.b (.cell [.d .str,.d iT,.d iT,.d iT,.d iT,.d iT,.nil,.nil,.d iT,.d iT] false),.b (.cell [.d .str,.d iT,.d iT,.d iT,.d iT,.d iT,.ol 1500100,.nil,.d iT,.d iT] false),.b (.lst 3 iT false)],[(.list iT),iT,ty62,ty52,ty26,ty74,.str,iT,iT,iT,iT,iT,iT,iT,.str,iT,iT,iT,iT,iT,iT,iT,(.list iT)]⟩],fun h=>Pw.j3l h.1 h.2.1 h.2.2.1 h.2.2.2.1 h.2.2.2.2.1 h.2.2.2.2.2.1 h.2.2.2.2.2.2.1 h.2.2.2.2.2.2.2.1 h.2.2.2.2.2.2.2.2.1 h.2.2.2.2.2.2.2.2.2.1 h.2.2.2.2.2.2.2.2.2.2.1 h.2.2.2.2.2.2.2.2.2.2.2.1 h.2.2.2.2.2.2.2.2.2.2.2.2.1 h.2.2.2.2.2.2.2.2.2.2.2.2.2.1 h.2.2.2.2.2.2.2.2.2.2.2.2.2.2.1 h.2.2.2.2.2.2.2.2.2.2.2.2.2.2.2.1 h.2.2.2.2.2.2.2.2.2.2.2.2.2.2.2.2.1 h.2.2.2.2.2.2.2.2.2.2.2.2.2.2.2.2.2.1 h.2.2.2.2.2.2.2.2.2.2.2.2.2.2.2.2.2.2.1 h.2.2.2.2.2.2.2.2.2.2.2.2.2.2.2.2.2.2.2.1 h.2.2.2.2.2.2.2.2.2.2.2.2.2.2.2.2.2.2.2.2.1 h.2.2.2.2.2.2.2.2.2.2.2.2.2.2.2.2.2.2.2.2.2.1 h.2.2.2.2.2.2.2.2.2.2.2.2.2.2.2.2.2.2.2.2.2.2.1 h.2.2.2.2.2.2.2.2.2.2.2.2.2.2.2.2.2.2.2.2.2.2.2⟩]
 modes:=[(22,[false,false]),(43,[false,false]),(44,[false,false]),(86,[false])]
 keep:=[(0,⟨[0,4,6,7,8],[0,256,384,448],[⟨1000000,3,iT,[.cell 448 6],false⟩],[]⟩)]
 keepX:=[(0,.exit 0,⟨[0,4,6,7],[0,256,384,448],[⟨1500100,3,iT,[.cell 448 6],false⟩],[]⟩)]
 ro:=[false]
 dw:=[(7,[[],[],[],[],[],[],[0],[3200],[3264,1000000],[],[448]])]
theorem jhm:Con.OK Tryz.prog j87:=
 cOf j0i j03 jia j87 Tryz.func41 (j9 j25 (j9 j4t (j9 j79 (j9 jaC trivial)))) (j9 (fun h=>by kernel_rfl) trivial)
def j56:Con:=⟨14,[.ref [(.list iT),iT]],[(.list iT),iT],⟨[.v iT],[.ref [(.list iT),iT]]⟩,[iT,(.list iT),iT],fun h=>Pw.j5D h.1 h.2⟩
def jgl:FnD where
 N:=16
 np:=1
 cs:=[j17,j2J,j3Z]
 ds:=[]
 modes:=[(22,[false,false]),(43,[false,false]),(44,[false,false])]
 ro:=[false]
theorem jaD:Con.OK Tryz.prog j56:=
 cOf j0i j03 jgl j56 Tryz.func14 (j9 j25 (j9 j4t (j9 j79 trivial))) trivial
def j8I:Con:=⟨39,[.ref [(.list iT),iT],.v ty80],[(.list iT),iT,ty80],⟨[.v ty38],[.ref [(.list iT),iT]]⟩,[ty38,(.list iT),iT],fun h=>Pw.j9G h.1 h.2.1 h.2.2⟩
def jiY:FnD where
 N:=52
 np:=2
 cs:=[j17,j2J,j3Z,j56]
 ds:=[]
 modes:=[(14,[false]),(22,[false,false]),(43,[false,false]),(44,[false,false])]
 ro:=[false]
 dw:=[(3,[[],[],[],[1344],[0,1344],[],[],[384]]),(8,[[],[],[],[],[],[],[0],[],[],[],[],[384]])]
theorem jib:Con.OK Tryz.prog j8I:=
 cOf j0i j03 jiY j8I Tryz.func39 (j9 j25 (j9 j4t (j9 j79 (j9 jaD trivial)))) trivial
def j7x:Con:=⟨13,[.ref [(.list iT),iT],.v iT],[(.list iT),iT,iT],⟨[.v ty80],[.ref [(.list iT),iT]]⟩,[ty80,(.list iT),iT],fun h=>Pw.j7U h.1 h.2.1 h.2.2⟩
def jhn:FnD where
 N:=69
 np:=2
 cs:=[j17,j9L,j86,j87,j8I]
 ds:=[⟨0,[.s (.one (.bp 0 0)),.s (.one (.bp 256 0)),.s (.one (.bp 320 0)),sI,.b (.cell [.d (.list iT),.d iT] false),.b (.cell [.nil,.nil,.nil,.nil] false),.b (.cell [.d ty62,.d ty52,.d ty26,.ol 1000000] false),.b (.lst 45 ty73 true)],[iT,(.list iT),iT,ty62,ty52,ty26,ty74],[⟨.exit 0,[.s (.one (.bp 256 0)),.s (.one (.bp 320 0)),.b (.cell [.d (.list iT),.d iT] false),.b (.cell [.nil,.nil,.nil,.nil] false),.b (.cell [.d ty62,.d ty52,.d ty26,.ol 1500100] false),.b (.lst 45 ty73 true)],[(.list iT),iT,ty62,ty52,ty26,ty74]⟩],fun h=>Pw.j36 h.1 h.2.1 h.2.2.1 h.2.2.2.1 h.2.2.2.2.1 h.2.2.2.2.2.1 h.2.2.2.2.2.2⟩,
  ⟨2,[.s (.one (.bp 0 0)),.s (.one (.bp 256 0)),.s (.one (.bp 320 0)),sI,.s (.one (.bp 448 0)),sI,.b (.cell [.d (.list iT),.d iT] false),.b (.cell [.nil,.nil,.nil,.nil] false),.b (.cell [.d ty62,.d ty52,.d ty26,.ol 1002000] false),.b (.cell [.d .str,.ol 1002001,.nil] false),.b (.lst 45 ty73 true),.b (.lst 52 ty68 false)],[iT,iT,(.list iT),iT,ty62,ty52,ty26,.str,ty74,ty69],[⟨.exit 2,[.s (.one (.bp 0 0)),.s (.one (.bp 256 0)),.s (.one (.bp 320 0)),sI,.s (.one (.bp 448 0)),.b (.cell [.d (.list iT),.d iT] false),.b (.cell [.nil,.nil,.nil,.nil] false),.b (.cell [.d ty62,.d ty52,.d ty26,.ol 1502300] false),.b (.cell [.d .str,.ol 1502301,.nil] false),.b (.lst 45 ty73 true),.b (.lst 52 ty68 false)],[iT,(.list iT),iT,ty62,ty52,ty26,.str,ty74,ty69]⟩],fun h=>Pw.j34 h.1 h.2.1 h.2.2.1 h.2.2.2.1 h.2.2.2.2.1 h.2.2.2.2.2.1 h.2.2.2.2.2.2.1 h.2.2.2.2.2.2.2.1 h.2.2.2.2.2.2.2.2.1 h.2.2.2.2.2.2.2.2.2⟩,
  ⟨4,[.s (.one (.bp 0 0)),.s (.one (.bp 256 0)),.s (.one (.bp 320 0)),sI,.s (.one (.bp 448 0)),sI,.b (.cell [.d (.list iT),.d iT] false),.b (.cell [.nil,.nil,.nil,.nil] false),.b (.cell [.d ty62,.d ty52,.d ty26,.ol 1004000] false),.b (.cell [.d .str,.ol 1004001,.ol 1004002] false),.b (.lst 45 ty73 true),.b (.lst 52 ty68 false),.b (.lst 56 ty38 false)],[iT,iT,(.list iT),iT,ty62,ty52,ty26,.str,ty74,ty69,ty40],[⟨.exit 4,[.s (.one (.bp 0 0)),.s (.one (.bp 256 0)),.s (.one (.bp 320 0)),sI,.s (.one (.bp 448 0)),.b (.cell [.d (.list iT),.d iT] false),.b (.cell [.nil,.nil,.nil,.nil] false),.b (.cell [.d ty62,.d ty52,.d ty26,.ol 1504500] false),.b (.cell [.d .str,.ol 1504501,.ol 1504502] false),.b (.lst 45 ty73 true),.b (.lst 52 ty68 false),.b (.lst 56 ty38 false)],[iT,(.list iT),iT,ty62,ty52,ty26,.str,ty74,ty69,ty40]⟩],fun h=>Pw.j35 h.1 h.2.1 h.2.2.1 h.2.2.2.1 h.2.2.2.2.1 h.2.2.2.2.2.1 h.2.2.2.2.2.2.1 h.2.2.2.2.2.2.2.1 h.2.2.2.2.2.2.2.2.1 h.2.2.2.2.2.2.2.2.2.1 h.2.2.2.2.2.2.2.2.2.2⟩]
 modes:=[(22,[false,false]),(39,[false,false]),(40,[false]),(41,[false,false,false]),(42,[])]
 keep:=[(0,⟨[0,4,5,6],[0,256,320],[⟨1000000,45,ty73,[.cell 320 3],true⟩],[]⟩),
  (2,⟨[0,4,5,6,7,8],[0,256,320,448],[⟨1002000,45,ty73,[.cell 320 3],false⟩,⟨1002001,52,ty68,[.cell 448 1],false⟩],[]⟩),
  (4,⟨[0,4,5,6,7,9],[0,256,320,448],[⟨1004000,45,ty73,[.cell 320 3],false⟩,⟨1004001,52,ty68,[.cell 448 1],false⟩,⟨1004002,56,ty38,[.cell 448 2],false⟩],[]⟩)]
 keepX:=[(0,.exit 0,⟨[4,5],[0,256,320],[⟨1500100,45,ty73,[.cell 320 3],false⟩],[]⟩),
  (2,.exit 2,⟨[0,4,5,6,7],[0,256,320,448],[⟨1502300,45,ty73,[.cell 320 3],false⟩,⟨1502301,52,ty68,[.cell 448 1],false⟩],[]⟩),
  (4,.exit 4,⟨[0,4,5,6,7],[0,256,320,448],[⟨1504500,45,ty73,[.cell 320 3],false⟩,⟨1504501,52,ty68,[.cell 448 1],false⟩,⟨1504502,56,ty38,[.cell 448 2],false⟩],[]⟩)]
 ro:=[false]
 dw:=[(9,[[],[],[],[],[2432],[],[],[],[],[],[0,1002000],[2880],[2944,1002000,1002001],[],[448]]),(13,[[],[],[],[],[0,1004000],[3776],[3840,1004001,1004002],[],[448]])]
theorem jgm:Con.OK Tryz.prog j7x:=
 cOf j0i j03 jhn j7x Tryz.func13 (j9 j25 (j9 jhk (j9 jhl (j9 jhm (j9 jib trivial))))) (j9 (fun h=>by kernel_rfl) (j9 (fun h=>by kernel_rfl) (j9 (fun h=>by kernel_rfl) trivial)))
def jeU:Con:=⟨16,[.v iT,.v iT],[iT,iT],⟨[.v iT],[]⟩,[iT],fun h=>Pw.jjk h.1 h.2⟩
def jrE:FnD where
 N:=12
 np:=2
 cs:=[]
 ds:=[]
 ro:=[false]
theorem jpD:Con.OK Tryz.prog jeU:=
 cOf j0i j03 jrE jeU Tryz.func16 trivial trivial
def j8J:Con:=⟨24,[.v ty12],[ty12],⟨[.v .bool],[]⟩,[.bool],fun h=>Pw.jd1 h⟩
def jpE:FnD where
 N:=58
 np:=1
 cs:=[]
 ds:=[⟨0,[.s (.one (.d ty12)),sI],[ty12,iT],[⟨.ret,[.s (.one (.d .bool))],[.bool]⟩,⟨.exit 0,[],[]⟩],fun h=>Pw.j5E h.1 h.2⟩]
 keep:=[(0,⟨[0,3],[],[],[]⟩)]
 keepX:=[(0,.ret,⟨[2],[],[],[]⟩),
  (0,.exit 0,⟨[],[],[],[]⟩)]
 ro:=[false]
theorem jeV:Con.OK Tryz.prog j8J:=
 cOf j0i j03 jpE j8J Tryz.func24 trivial (j9 (fun h=>by kernel_rfl) trivial)
def jcD:Con:=⟨25,[.v ty12],[ty12],⟨[.v iT],[]⟩,[iT],fun h=>Pw.jfk h⟩
def joz:FnD where
 N:=29
 np:=1
 cs:=[j8J]
 ds:=[⟨0,[.s (.one (.d ty12)),sI,sI],[ty12,iT,iT],[⟨.exit 0,[sI],[iT]⟩],fun h=>Pw.j52 h.1 h.2.1 h.2.2⟩]
 modes:=[(24,[false])]
 keep:=[(0,⟨[0,3,4],[],[],[]⟩)]
 keepX:=[(0,.exit 0,⟨[3],[],[],[]⟩)]
 ro:=[false]
theorem jn1:Con.OK Tryz.prog jcD:=
 cOf j0i j03 joz jcD Tryz.func25 (j9 jeV trivial) (j9 (fun h=>by kernel_rfl) trivial)
def jgn:Con:=⟨53,[.v ty12,.v iT],[ty12,iT],⟨[.v .bool],[]⟩,[.bool],fun h=>Pw.jpq h.1 h.2⟩
def jtb:FnD where
 N:=40
 np:=2
 cs:=[]
 ds:=[⟨0,[.s (.one (.d ty12)),sI,sI,sI],[ty12,iT,iT,iT],[⟨.exit 0,[.s (.one (.d ty12)),sI,sI],[ty12,iT,iT]⟩],fun h=>Pw.j6N h.1 h.2.1 h.2.2.1 h.2.2.2⟩]
 keep:=[(0,⟨[0,1,5,6],[],[],[]⟩)]
 keepX:=[(0,.exit 0,⟨[0,1,5],[],[],[]⟩)]
 ro:=[false]
theorem jrF:Con.OK Tryz.prog jgn:=
 cOf j0i j03 jtb jgn Tryz.func53 trivial (j9 (fun h=>by kernel_rfl) trivial)
def jgo:Con:=⟨26,[.v ty12,.v iT],[ty12,iT],⟨[.v .bool],[]⟩,[.bool],fun h=>Pw.jmC h.1 h.2⟩
def jtc:FnD where
 N:=12
 np:=2
 cs:=[j8J,jgn]
 ds:=[]
 modes:=[(24,[false]),(53,[false,false])]
 ro:=[false]
theorem jrG:Con.OK Tryz.prog jgo:=
 cOf j0i j03 jtc jgo Tryz.func26 (j9 jeV (j9 jrF trivial)) trivial
def j8K:Con:=⟨5,[.v (.list iT),.v iT],[(.list iT),iT],⟨[.v .bool],[]⟩,[.bool],fun h=>Pw.j82 h.1 h.2⟩
def jeW:FnD where
 N:=105
 np:=2
 cs:=[jcp,j7X,j9J,j9K,jcC,jdK,j17,j56,j7x,jeU,j8J,jcD,jgo]
 ds:=[⟨0,[.s (.one (.bp 384 0)),sI,sI,sI,sI,sI,sI,.b (.cell [.d ty62,.d ty52,.d ty26,.d ty74] false)],[iT,iT,iT,iT,iT,iT,ty62,ty52,ty26,ty74],[⟨.ret,[.s (.one (.d .bool))],[.bool]⟩,⟨.exit 0,[.s (.one (.bp 384 0)),sI,sI,sI,sI,.b (.cell [.d ty62,.d ty52,.d ty26,.d ty74] false)],[iT,iT,iT,iT,ty62,ty52,ty26,ty74]⟩],fun h=>Pw.j2t h.1 h.2.1 h.2.2.1 h.2.2.2.1 h.2.2.2.2.1 h.2.2.2.2.2.1 h.2.2.2.2.2.2.1 h.2.2.2.2.2.2.2.1 h.2.2.2.2.2.2.2.2.1 h.2.2.2.2.2.2.2.2.2⟩]
 modes:=[(9,[false]),(10,[]),(11,[false]),(13,[false,false]),(14,[false]),(16,[false,false]),(19,[false,false,false]),(22,[false,false]),(23,[false,false,false,false,false]),(24,[false]),(25,[false]),(26,[false,false]),(27,[false,false])]
 keep:=[(0,⟨[6,7,8,9,10,11,12],[384],[],[]⟩)]
 keepX:=[(0,.ret,⟨[4],[],[],[]⟩),
  (0,.exit 0,⟨[6,7,9,10,11],[384],[],[]⟩)]
 ro:=[false]
theorem law14_RosterDivides_ok:Con.OK Tryz.prog j8K:=
 cOf j0i j03 jeW j8K Tryz.func5 (j9 jmD (j9 jeS (j9 jhi (j9 jhj (j9 jn0 (j9 jox (j9 j25 (j9 jaD (j9 jgm (j9 jpD (j9 jeV (j9 jn1 (j9 jrG trivial))))))))))))) (j9 (fun h=>by kernel_rfl) trivial)
end Go.Proofs.Pk
