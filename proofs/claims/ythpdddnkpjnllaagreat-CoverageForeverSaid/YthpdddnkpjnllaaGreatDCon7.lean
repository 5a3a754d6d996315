/- Contracts: each given function is its plain function, printed by a program. -/
import Derived.Test.YthpdddnkpjnllaaGreatDCon6
noncomputable section
open Go Go.Lft
set_option linter.unusedVariables false
set_option maxRecDepth 100000
namespace Go.Proofs.Pk
def j5F:Con:=⟨22,[.ref [(.list iT),iT]],[(.list iT),iT],⟨[.v iT],[.ref [(.list iT),iT]]⟩,[iT,(.list iT),iT],fun h=>Pw.j6e h.1 h.2⟩
def jj7:FnD where
 N:=16
 np:=1
 cs:=[j1w,j2O,j4k]
 ds:=[]
 modes:=[(21,[false,false]),(52,[false,false]),(53,[false,false])]
 ro:=[false]
theorem jc5:Con.OK Tryz.prog j5F:=
 cOf j0a j03 jj7 j5F Tryz.func22 (j9 j2I (j9 j4U (j9 j8f trivial))) trivial
def j9Q:Con:=⟨39,[.ref [(.list iT),iT],.v ty79],[(.list iT),iT,ty79],⟨[.v ty37],[.ref [(.list iT),iT]]⟩,[ty37,(.list iT),iT],fun h=>Pw.jaR h.1 h.2.1 h.2.2⟩
def jma:FnD where
 N:=52
 np:=2
 cs:=[j1w,j2O,j4k,j5F]
 ds:=[]
 modes:=[(21,[false,false]),(22,[false]),(52,[false,false]),(53,[false,false])]
 ro:=[false]
 dw:=[(3,[[],[],[],[1344],[0,1344],[],[],[384]]),(8,[[],[],[],[],[],[],[0],[],[],[],[],[384]])]
theorem jln:Con.OK Tryz.prog j9Q:=
 cOf j0a j03 jma j9Q Tryz.func39 (j9 j2I (j9 j4U (j9 j8f (j9 jc5 trivial)))) trivial
def j8B:Con:=⟨13,[.ref [(.list iT),iT],.v iT],[(.list iT),iT,iT],⟨[.v ty79],[.ref [(.list iT),iT]]⟩,[ty79,(.list iT),iT],fun h=>Pw.j8Y h.1 h.2.1 h.2.2⟩
def jkw:FnD where
 N:=69
 np:=2
 cs:=[j1w,jaU,j9b,j9c,j9Q]
 ds:=[⟨0,[.s (.one (.bp 0 0)),.s (.one (.bp 256 0)),.s (.one (.bp 320 0)),sI,.b (.cell [.d (.list iT),.d iT] false),.b (.cell [.nil,.nil,.nil,.nil] false),.b (.cell [.d ty61,.d ty51,.d ty26,.ol 1000000] false),.b (.lst 48 ty72 true)],[iT,(.list iT),iT,ty61,ty51,ty26,ty73],[⟨.exit 0,[.s (.one (.bp 256 0)),.s (.one (.bp 320 0)),.b (.cell [.d (.list iT),.d iT] false),.b (.cell [.nil,.nil,.nil,.nil] false),.b (.cell [.d ty61,.d ty51,.d ty26,.ol 1500100] false),.b (.lst 48 ty72 true)],[(.list iT),iT,ty61,ty51,ty26,ty73]⟩],fun h=>Pw.j3d h.1 h.2.1 h.2.2.1 h.2.2.2.1 h.2.2.2.2.1 h.2.2.2.2.2.1 h.2.2.2.2.2.2⟩,
  ⟨2,[.s (.one (.bp 0 0)),.s (.one (.bp 256 0)),.s (.one (.bp 320 0)),sI,.s (.one (.bp 448 0)),sI,.b (.cell [.d (.list iT),.d iT] false),.b (.cell [.nil,.nil,.nil,.nil] false),.b (.cell [.d ty61,.d ty51,.d ty26,.ol 1002000] false),.b (.cell [.d .str,.ol 1002001,.nil] false),.b (.lst 48 ty72 true),.b (.lst 53 ty67 false)],[iT,iT,(.list iT),iT,ty61,ty51,ty26,.str,ty73,ty68],[⟨.exit 2,[.s (.one (.bp 0 0)),.s (.one (.bp 256 0)),.s (.one (.bp 320 0)),sI,.s (.one (.bp 448 0)),.b (.cell [.d (.list iT),.d iT] false),.b (.cell [.nil,.nil,.nil,.nil] false),.b (.cell [.d ty61,.d ty51,.d ty26,.ol 1502300] false),.b (.cell [.d .str,.ol 1502301,.nil] false),.b (.lst 48 ty72 true),.b (.lst 53 ty67 false)],[iT,(.list iT),iT,ty61,ty51,ty26,.str,ty73,ty68]⟩],fun h=>Pw.j3b h.1 h.2.1 h.2.2.1 h.2.2.2.1 h.2.2.2.2.1 h.2.2.2.2.2.1 h.2.2.2.2.2.2.1 h.2.2.2.2.2.2.2.1 h.2.2.2.2.2.2.2.2.1 h.2.2.2.2.2.2.2.2.2⟩,
  ⟨4,[.s (.one (.bp 0 0)),.s (.one (.bp 256 0)),.s (.one (.bp 320 0)),sI,.s (.one (.bp 448 0)),sI,.b (.cell [.d (.list iT),.d iT] false),.b (.cell [.nil,.nil,.nil,.nil] false),.b (.cell [.d ty61,.d ty51,.d ty26,.ol 1004000] false),.b (.cell [.d .str,.ol 1004001,.ol 1004002] false),.b (.lst 48 ty72 true),.b (.lst 53 ty67 false),.b (.lst 73 ty37 false)],[iT,iT,(.list iT),iT,ty61,ty51,ty26,.str,ty73,ty68,ty39],[⟨.exit 4,[.s (.one (.bp 0 0)),.s (.one (.bp 256 0)),.s (.one (.bp 320 0)),sI,.s (.one (.bp 448 0)),.b (.cell [.d (.list iT),.d iT] false),.b (.cell [.nil,.nil,.nil,.nil] false),.b (.cell [.d ty61,.d ty51,.d ty26,.ol 1504500] false),.b (.cell [.d .str,.ol 1504501,.ol 1504502] false),.b (.lst 48 ty72 true),.b (.lst 53 ty67 false),.b (.lst 73 ty37 false)],[iT,(.list iT),iT,ty61,ty51,ty26,.str,ty73,ty68,ty39]⟩],fun h=>Pw.j3c h.1 h.2.1 h.2.2.1 h.2.2.2.1 h.2.2.2.2.1 h.2.2.2.2.2.1 h.2.2.2.2.2.2.1 h.2.2.2.2.2.2.2.1 h.2.2.2.2.2.2.2.2.1 h.2.2.2.2.2.2.2.2.2.1 h.2.2.2.2.2.2.2.2.2.2⟩]
 modes:=[(21,[false,false]),(36,[false]),(37,[false,false,false]),(38,[]),(39,[false,false])]
 keep:=[(0,⟨[0,4,5,6],[0,256,320],[⟨1000000,48,ty72,[.cell 320 3],true⟩],[]⟩),
  (2,⟨[0,4,5,6,7,8],[0,256,320,448],[⟨1002000,48,ty72,[.cell 320 3],false⟩,⟨1002001,53,ty67,[.cell 448 1],false⟩],[]⟩),
  (4,⟨[0,4,5,6,7,9],[0,256,320,448],[⟨1004000,48,ty72,[.cell 320 3],false⟩,⟨1004001,53,ty67,[.cell 448 1],false⟩,⟨1004002,73,ty37,[.cell 448 2],false⟩],[]⟩)]
 keepX:=[(0,.exit 0,⟨[4,5],[0,256,320],[⟨1500100,48,ty72,[.cell 320 3],false⟩],[]⟩),
  (2,.exit 2,⟨[0,4,5,6,7],[0,256,320,448],[⟨1502300,48,ty72,[.cell 320 3],false⟩,⟨1502301,53,ty67,[.cell 448 1],false⟩],[]⟩),
  (4,.exit 4,⟨[0,4,5,6,7],[0,256,320,448],[⟨1504500,48,ty72,[.cell 320 3],false⟩,⟨1504501,53,ty67,[.cell 448 1],false⟩,⟨1504502,73,ty37,[.cell 448 2],false⟩],[]⟩)]
 ro:=[false]
 dw:=[(9,[[],[],[],[],[2432],[],[],[],[],[],[0,1002000],[2880],[2944,1002000,1002001],[],[448]]),(13,[[],[],[],[],[0,1004000],[3776],[3840,1004001,1004002],[],[448]])]
theorem jj8:Con.OK Tryz.prog j8B:=
 cOf j0a j03 jkw j8B Tryz.func13 (j9 j2I (j9 jkt (j9 jku (j9 jkv (j9 jln trivial))))) (j9 (fun h=>by kernel_rfl) (j9 (fun h=>by kernel_rfl) (j9 (fun h=>by kernel_rfl) trivial)))
def jhl:Con:=⟨16,[.v iT,.v iT],[iT,iT],⟨[.v iT],[]⟩,[iT],fun h=>Pw.jc9 h.1 h.2⟩
def jvO:FnD where
 N:=12
 np:=2
 cs:=[]
 ds:=[]
 ro:=[false]
theorem jtr:Con.OK Tryz.prog jhl:=
 cOf j0a j03 jvO jhl Tryz.func16 trivial trivial
def jfI:Con:=⟨224,[.v (.int .u8)],[(.int .u8)],⟨[.v .bool],[]⟩,[.bool],fun h=>Pw.jnf h⟩
def jts:FnD where
 N:=9
 np:=1
 cs:=[]
 ds:=[]
 ro:=[false]
theorem js5:Con.OK Tryz.prog jfI:=
 cOf j0a j03 jts jfI Tryz.func224 trivial trivial
def jhm:Con:=⟨178,[.v .str],[.str],⟨[.v .bool],[]⟩,[.bool],fun h=>Pw.jmy h⟩
def jvP:FnD where
 N:=57
 np:=1
 cs:=[jfI]
 ds:=[⟨0,[.s (.one (.d .str)),sI],[.str,iT],[⟨.ret,[.s (.one (.d .bool))],[.bool]⟩,⟨.exit 0,[],[]⟩],fun h=>Pw.j6R h.1 h.2⟩]
 modes:=[(224,[false])]
 keep:=[(0,⟨[0,3],[],[],[]⟩)]
 keepX:=[(0,.ret,⟨[2],[],[],[]⟩),
  (0,.exit 0,⟨[],[],[],[]⟩)]
 ro:=[false]
theorem jtt:Con.OK Tryz.prog jhm:=
 cOf j0a j03 jvP jhm Tryz.func178 (j9 js5 trivial) (j9 (fun h=>by kernel_rfl) trivial)
def j9n:Con:=⟨138,[.v (.list .str),.v iT],[(.list .str),iT],⟨[.v iT],[]⟩,[iT],fun h=>Pw.jca h.1 h.2⟩
def jvQ:FnD where
 N:=26
 np:=2
 cs:=[jhm]
 ds:=[⟨0,[.s (.one (.d (.list .str))),sI,sI],[(.list .str),iT,iT],[⟨.ret,[sI],[iT]⟩,⟨.exit 0,[],[]⟩],fun h=>Pw.j6S h.1 h.2.1 h.2.2⟩]
 modes:=[(178,[false])]
 keep:=[(0,⟨[0,1,5],[],[],[]⟩)]
 keepX:=[(0,.ret,⟨[4],[],[],[]⟩),
  (0,.exit 0,⟨[],[],[],[]⟩)]
 ro:=[false]
theorem jfJ:Con.OK Tryz.prog j9n:=
 cOf j0a j03 jvQ j9n Tryz.func138 (j9 jtt trivial) (j9 (fun h=>by kernel_rfl) trivial)
def jaH:Con:=⟨93,[.v iT,.v iT,.v iT],[iT,iT,iT],⟨[.v .bool],[]⟩,[.bool],fun h=>Pw.jal h.1 h.2.1 h.2.2⟩
def jzw:FnD where
 N:=15
 np:=3
 cs:=[]
 ds:=[]
 ro:=[false]
theorem jhn:Con.OK Tryz.prog jaH:=
 cOf j0a j03 jzw jaH Tryz.func93 trivial trivial
def jfK:Con:=⟨147,[.v ty50],[ty50],⟨[.v .bool],[]⟩,[.bool],fun h=>Pw.jgZ h⟩
def jtu:FnD where
 N:=38
 np:=1
 cs:=[jaH]
 ds:=[]
 modes:=[(93,[false,false,false])]
 ro:=[false]
theorem js6:Con.OK Tryz.prog jfK:=
 cOf j0a j03 jtu jfK Tryz.func147 (j9 jhn trivial) trivial
def jho:Con:=⟨251,[.v iT],[iT],⟨[.v .bool],[]⟩,[.bool],fun h=>Pw.j25 h⟩
def jvR:FnD where
 N:=16
 np:=1
 cs:=[]
 ds:=[]
 ro:=[false]
theorem jtv:Con.OK Tryz.prog jho:=
 cOf j0a j03 jvR jho Tryz.func251 trivial trivial
def jbo:Con:=⟨227,[.v iT,.v iT],[iT,iT],⟨[.v iT],[]⟩,[iT],fun h=>Pw.jfp h.1 h.2⟩
def jvS:FnD where
 N:=23
 np:=2
 cs:=[jho]
 ds:=[]
 modes:=[(251,[false])]
 ro:=[false]
theorem jj9:Con.OK Tryz.prog jbo:=
 cOf j0a j03 jvS jbo Tryz.func227 (j9 jtv trivial) trivial
def jfL:Con:=⟨250,[.v ty20],[ty20],⟨[.v .bool],[]⟩,[.bool],fun h=>Pw.jjU h⟩
def jtw:FnD where
 N:=36
 np:=1
 cs:=[jbo]
 ds:=[]
 modes:=[(227,[false,false])]
 ro:=[false]
theorem js7:Con.OK Tryz.prog jfL:=
 cOf j0a j03 jtw jfL Tryz.func250 (j9 jj9 trivial) trivial
def je0:Con:=⟨179,[.v iT],[iT],⟨[.v iT],[]⟩,[iT],fun h=>Pw.jjV h⟩
def jvT:FnD where
 N:=18
 np:=1
 cs:=[]
 ds:=[]
 ro:=[false]
theorem jnC:Con.OK Tryz.prog je0:=
 cOf j0a j03 jvT je0 Tryz.func179 trivial trivial
def jja:Con:=⟨225,[.v ty20],[ty20],⟨[.v iT,.v iT],[]⟩,[iT,iT],fun h=>Pw.jpX h⟩
def jxC:FnD where
 N:=29
 np:=1
 cs:=[jbo,jfL,je0]
 ds:=[⟨0,[.s (.one (.bp 64 0)),sI,sI,.b (.cell [.d iT,.d iT,.d iT] false)],[iT,iT,iT,iT,iT],[⟨.exit 0,[.s (.one (.bp 64 0)),sI,.b (.cell [.d iT,.d iT,.d iT] false)],[iT,iT,iT,iT]⟩],fun h=>Pw.j7F h.1 h.2.1 h.2.2.1 h.2.2.2.1 h.2.2.2.2⟩]
 modes:=[(179,[false]),(227,[false,false]),(250,[false])]
 keep:=[(0,⟨[1,4,5],[64],[],[]⟩)]
 keepX:=[(0,.exit 0,⟨[1,4],[64],[],[]⟩)]
 ro:=[false,false]
theorem r01_Day_ok:Con.OK Tryz.prog jja:=
 cOf j0a j03 jxC jja Tryz.func225 (j9 jj9 (j9 js7 (j9 jnC trivial))) (j9 (fun h=>by kernel_rfl) trivial)
def j9R:Con:=⟨226,[.v iT],[iT],⟨[.v iT],[]⟩,[iT],fun h=>Pw.jfq h⟩
def jqp:FnD where
 N:=7
 np:=1
 cs:=[]
 ds:=[]
 ro:=[false]
theorem jiu:Con.OK Tryz.prog j9R:=
 cOf j0a j03 jqp j9R Tryz.func226 trivial trivial
def jjb:Con:=⟨180,[.v iT,.v iT,.v iT,.v iT],[iT,iT,iT,iT],⟨[.v iT,.v iT],[]⟩,[iT,iT],fun h=>Pw.jpY h.1 h.2.1 h.2.2.1 h.2.2.2⟩
def jxD:FnD where
 N:=63
 np:=4
 cs:=[jbo,jja,j9R]
 ds:=[⟨0,[sI,sI,sI,sI,sI,sI],[iT,iT,iT,iT,iT,iT],[⟨.exit 0,[sI,sI,sI,sI,sI],[iT,iT,iT,iT,iT]⟩],fun h=>Pw.j7G h.1 h.2.1 h.2.2.1 h.2.2.2.1 h.2.2.2.2.1 h.2.2.2.2.2⟩,
  ⟨2,[sI,sI,sI,sI],[iT,iT,iT,iT],[⟨.exit 2,[sI],[iT]⟩],fun h=>Pw.j7H h.1 h.2.1 h.2.2.1 h.2.2.2⟩]
 modes:=[(225,[false]),(226,[false]),(227,[false,false])]
 keep:=[(0,⟨[0,1,2,3,10,12],[],[],[]⟩),
  (2,⟨[0,1,10,12],[],[],[]⟩)]
 keepX:=[(0,.exit 0,⟨[0,1,2,10,12],[],[],[]⟩),
  (2,.exit 2,⟨[12],[],[],[]⟩)]
 ro:=[false,false]
theorem r01_Nth_ok:Con.OK Tryz.prog jjb:=
 cOf j0a j03 jxD jjb Tryz.func180 (j9 jj9 (j9 r01_Day_ok (j9 jiu trivial))) (j9 (fun h=>by kernel_rfl) (j9 (fun h=>by kernel_rfl) trivial))
def j9d:Con:=⟨148,[.v ty53],[ty53],⟨[.own 189 ty12],[]⟩,[ty12],fun h=>Pw.j9D h⟩
def jlo:FnD where
 N:=98
 np:=1
 cs:=[jjb]
 ds:=[⟨0,[.s (.one (.d ty53)),.s (.one (.ol 1000000)),sI,.b (.lst 189 ty8 false)],[ty53,iT,ty12],[⟨.exit 0,[.s (.one (.ol 1500100)),.b (.lst 189 ty8 false)],[ty12]⟩],fun h=>Pw.j3x h.1 h.2.1 h.2.2⟩,
  ⟨2,[.s (.one (.d ty53)),.s (.one (.ol 1002000)),sI,sI,.b (.lst 189 ty8 false)],[ty53,iT,iT,ty12],[⟨.exit 2,[.s (.one (.d ty53)),.s (.one (.ol 1502300)),sI,.b (.lst 189 ty8 false)],[ty53,iT,ty12]⟩],fun h=>Pw.j3w h.1 h.2.1 h.2.2.1 h.2.2.2⟩,
  ⟨4,[.s (.one (.d ty53)),.s (.one (.ol 1004000)),sI,sI,.s (.one (.bp 512 0)),sI,.b (.cell [.d iT,.d iT] false),.b (.lst 189 ty8 false)],[ty53,iT,iT,iT,iT,iT,ty12],[⟨.exit 4,[.s (.one (.d ty53)),.s (.one (.ol 1504500)),sI,sI,.s (.one (.bp 512 0)),sI,.b (.cell [.d iT,.d iT] false),.b (.lst 189 ty8 false)],[ty53,iT,iT,iT,iT,iT,ty12]⟩],fun h=>Pw.j3v h.1 h.2.1 h.2.2.1 h.2.2.2.1 h.2.2.2.2.1 h.2.2.2.2.2.1 h.2.2.2.2.2.2⟩]
 modes:=[(180,[false,false,false,false])]
 keep:=[(0,⟨[0,3,4],[],[⟨1000000,189,ty8,[.slot 3],false⟩],[]⟩),
  (2,⟨[0,3,4,5],[],[⟨1002000,189,ty8,[.slot 3],false⟩],[]⟩),
  (4,⟨[0,3,4,5,8,9],[512],[⟨1004000,189,ty8,[.slot 3],false⟩],[]⟩)]
 keepX:=[(0,.exit 0,⟨[3],[],[⟨1500100,189,ty8,[.slot 3],false⟩],[]⟩),
  (2,.exit 2,⟨[0,3,4],[],[⟨1502300,189,ty8,[.slot 3],false⟩],[]⟩),
  (4,.exit 4,⟨[0,3,4,5,8,9],[512],[⟨1504500,189,ty8,[.slot 3],false⟩],[]⟩)]
 ro:=[true]
 dw:=[(9,[[],[],[],[],[],[],[],[],[],[],[],[],[],[],[512],[512]]),(14,[[],[],[],[],[],[],[],[5376]])]
theorem jkx:Con.OK Tryz.prog j9d:=
 cOf j0a j03 jlo j9d Tryz.func148 (j9 r01_Nth_ok trivial) (j9 (fun h=>by kernel_rfl) (j9 (fun h=>by kernel_rfl) (j9 (fun h=>by kernel_rfl) trivial)))
def j55:Con:=⟨89,[.v ty60],[ty60],⟨[.own 146 ty12,.v iT],[]⟩,[ty12,iT],fun h=>Pw.j1P h⟩
def jlp:FnD where
 N:=119
 np:=1
 cs:=[jaH,jfK,j9d]
 ds:=[⟨0,[.s (.one (.bp 64 0)),sI,sI,.b (.cell [.d .str,.d iT,.d ty53] false)],[iT,iT,.str,iT,ty53],[⟨.ret,[.s (.one (.nil)),sI],[iT]⟩,⟨.exit 0,[.s (.one (.bp 64 0)),sI,.b (.cell [.d .str,.d iT,.d ty53] false)],[iT,.str,iT,ty53]⟩],fun h=>Pw.j3y h.1 h.2.1 h.2.2.1 h.2.2.2.1 h.2.2.2.2⟩,
  ⟨2,[.s (.one (.ol 1002000)),.s (.one (.ol 1002001)),sI,sI,.b (.lst 146 ty8 false),.b (.lst 189 ty8 false)],[iT,iT,ty12,ty12],[⟨.ret,[.s (.one (.nil)),sI],[iT]⟩,⟨.exit 2,[.s (.one (.ol 1502300)),.b (.lst 146 ty8 false)],[ty12]⟩],fun h=>Pw.j3z h.1 h.2.1 h.2.2.1 h.2.2.2⟩]
 modes:=[(93,[false,false,false]),(147,[false]),(148,[false])]
 keep:=[(0,⟨[1,4,5],[64],[],[]⟩),
  (2,⟨[6,7,8,9],[],[⟨1002000,146,ty8,[.slot 6],false⟩,⟨1002001,189,ty8,[.slot 7],false⟩],[]⟩)]
 keepX:=[(0,.ret,⟨[2,3],[],[],[]⟩),
  (0,.exit 0,⟨[1,4],[64],[],[]⟩),
  (2,.ret,⟨[2,3],[],[],[]⟩),
  (2,.exit 2,⟨[6],[],[⟨1502300,146,ty8,[.slot 6],false⟩],[]⟩)]
 ro:=[true,false]
 dw:=[(21,[[],[],[],[],[],[],[],[],[],[],[],[],[],[640],[640]]),(24,[[],[],[7296],[7360,1002000],[],[],[],[]])]
theorem j9S:Con.OK Tryz.prog j55:=
 cOf j0a j03 jlp j55 Tryz.func89 (j9 jhn (j9 js6 (j9 jkx trivial))) (j9 (fun h=>by kernel_rfl) (j9 (fun h=>by kernel_rfl) trivial))
def jch:Con:=⟨139,[.v ty60],[ty60],⟨[.v iT],[]⟩,[iT],fun h=>Pw.j7I h⟩
def jtx:FnD where
 N:=11
 np:=1
 cs:=[j55]
 ds:=[]
 modes:=[(89,[false])]
 ro:=[false]
theorem jlQ:Con.OK Tryz.prog jch:=
 cOf j0a j03 jtx jch Tryz.func139 (j9 j9S trivial) trivial
def jdi:Con:=⟨140,[.v ty60],[ty60],⟨[.v .bool],[]⟩,[.bool],fun h=>Pw.jcK h⟩
def jqq:FnD where
 N:=28
 np:=1
 cs:=[]
 ds:=[⟨0,[.s (.one (.bp 64 0)),.s (.one (.d .bool)),sI,.b (.cell [.d .str,.d iT,.d ty53] false)],[.bool,iT,.str,iT,ty53],[⟨.exit 0,[.s (.one (.d .bool))],[.bool]⟩],fun h=>Pw.j53 h.1 h.2.1 h.2.2.1 h.2.2.2.1 h.2.2.2.2⟩]
 keep:=[(0,⟨[1,3,4],[64],[],[]⟩)]
 keepX:=[(0,.exit 0,⟨[3],[],[],[]⟩)]
 ro:=[false]
theorem joy:Con.OK Tryz.prog jdi:=
 cOf j0a j03 jqq jdi Tryz.func140 trivial (j9 (fun h=>by kernel_rfl) trivial)
end Go.Proofs.Pk
