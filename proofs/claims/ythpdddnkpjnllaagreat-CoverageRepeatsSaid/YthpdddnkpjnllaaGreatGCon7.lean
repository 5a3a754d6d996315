/- Contracts: each given function is its plain function, printed by a program. -/
import Derived.Test.YthpdddnkpjnllaaGreatGCon6
noncomputable section
open Go Go.Lft
set_option linter.unusedVariables false
set_option maxRecDepth 100000
namespace Go.Proofs.Pk
def j6L:Con:=⟨22,[.ref [(.list iT),iT]],[(.list iT),iT],⟨[.v iT],[.ref [(.list iT),iT]]⟩,[iT,(.list iT),iT],fun h=>Pw.j6V h.1 h.2⟩
def jig:FnD where
 N:=16
 np:=1
 cs:=[j18,j28,j3s]
 ds:=[]
 modes:=[(21,[false,false]),(52,[false,false]),(53,[false,false])]
 ro:=[false]
theorem jhh:Con.OK Tryz.prog j6L:=
 cOf j07 j02 jig j6L Tryz.func22 (j9 j1Z (j9 j40 (j9 j72 trivial))) trivial
def j8N:Con:=⟨39,[.ref [(.list iT),iT],.v ty79],[(.list iT),iT,ty79],⟨[.v ty37],[.ref [(.list iT),iT]]⟩,[ty37,(.list iT),iT],fun h=>Pw.j9Q h.1 h.2.1 h.2.2⟩
def jle:FnD where
 N:=52
 np:=2
 cs:=[j18,j28,j3s,j6L]
 ds:=[]
 modes:=[(21,[false,false]),(22,[false]),(52,[false,false]),(53,[false,false])]
 ro:=[false]
 dw:=[(3,[[],[],[],[1344],[0,1344],[],[],[384]]),(8,[[],[],[],[],[],[],[0],[],[],[],[],[384]])]
theorem jkv:Con.OK Tryz.prog j8N:=
 cOf j07 j02 jle j8N Tryz.func39 (j9 j1Z (j9 j40 (j9 j72 (j9 jhh trivial)))) trivial
def j7o:Con:=⟨13,[.ref [(.list iT),iT],.v iT],[(.list iT),iT,iT],⟨[.v ty79],[.ref [(.list iT),iT]]⟩,[ty79,(.list iT),iT],fun h=>Pw.j7N h.1 h.2.1 h.2.2⟩
def jjH:FnD where
 N:=69
 np:=2
 cs:=[j18,j9T,j82,j83,j8N]
 ds:=[⟨0,[.s (.one (.bp 0 0)),.s (.one (.bp 256 0)),.s (.one (.bp 320 0)),sI,.b (.cell [.d (.list iT),.d iT] false),.b (.cell [.nil,.nil,.nil,.nil] false),.b (.cell [.d ty61,.d ty51,.d ty26,.ol 1000000] false),.b (.lst 48 ty72 true)],[iT,(.list iT),iT,ty61,ty51,ty26,ty73],[⟨.exit 0,[.s (.one (.bp 256 0)),.s (.one (.bp 320 0)),.b (.cell [.d (.list iT),.d iT] false),.b (.cell [.nil,.nil,.nil,.nil] false),.b (.cell [.d ty61,.d ty51,.d ty26,.ol 1500100] false),.b (.lst 48 ty72 true)],[(.list iT),iT,ty61,ty51,ty26,ty73]⟩],fun h=>Pw.j2y h.1 h.2.1 h.2.2.1 h.2.2.2.1 h.2.2.2.2.1 h.2.2.2.2.2.1 h.2.2.2.2.2.2⟩,
  ⟨2,[.s (.one (.bp 0 0)),.s (.one (.bp 256 0)),.s (.one (.bp 320 0)),sI,.s (.one (.bp 448 0)),sI,.b (.cell [.d (.list iT),.d iT] false),.b (.cell [.nil,.nil,.nil,.nil] false),.b (.cell [.d ty61,.d ty51,.d ty26,.ol 1002000] false),.b (.cell [.d .str,.ol 1002001,.nil] false),.b (.lst 48 ty72 true),.b (.lst 53 ty67 false)],[iT,iT,(.list iT),iT,ty61,ty51,ty26,.str,ty73,ty68],[⟨.exit 2,[.s (.one (.bp 0 0)),.s (.one (.bp 256 0)),.s (.one (.bp 320 0)),sI,.s (.one (.bp 448 0)),.b (.cell [.d (.list iT),.d iT] false),.b (.cell [.nil,.nil,.nil,.nil] false),.b (.cell [.d ty61,.d ty51,.d ty26,.ol 1502300] false),.b (.cell [.d .str,.ol 1502301,.nil] false),.b (.lst 48 ty72 true),.b (.lst 53 ty67 false)],[iT,(.list iT),iT,ty61,ty51,ty26,.str,ty73,ty68]⟩],fun h=>Pw.j2w h.1 h.2.1 h.2.2.1 h.2.2.2.1 h.2.2.2.2.1 h.2.2.2.2.2.1 h.2.2.2.2.2.2.1 h.2.2.2.2.2.2.2.1 h.2.2.2.2.2.2.2.2.1 h.2.2.2.2.2.2.2.2.2⟩,
  ⟨4,[.s (.one (.bp 0 0)),.s (.one (.bp 256 0)),.s (.one (.bp 320 0)),sI,.s (.one (.bp 448 0)),sI,.b (.cell [.d (.list iT),.d iT] false),.b (.cell [.nil,.nil,.nil,.nil] false),.b (.cell [.d ty61,.d ty51,.d ty26,.ol 1004000] false),.b (.cell [.d .str,.ol 1004001,.ol 1004002] false),.b (.lst 48 ty72 true),.b (.lst 53 ty67 false),.b (.lst 73 ty37 false)],[iT,iT,(.list iT),iT,ty61,ty51,ty26,.str,ty73,ty68,ty39],[⟨.exit 4,[.s (.one (.bp 0 0)),.s (.one (.bp 256 0)),.s (.one (.bp 320 0)),sI,.s (.one (.bp 448 0)),.b (.cell [.d (.list iT),.d iT] false),.b (.cell [.nil,.nil,.nil,.nil] false),.b (.cell [.d ty61,.d ty51,.d ty26,.ol 1504500] false),.b (.cell [.d .str,.ol 1504501,.ol 1504502] false),.b (.lst 48 ty72 true),.b (.lst 53 ty67 false),.b (.lst 73 ty37 false)],[iT,(.list iT),iT,ty61,ty51,ty26,.str,ty73,ty68,ty39]⟩],fun h=>Pw.j2x h.1 h.2.1 h.2.2.1 h.2.2.2.1 h.2.2.2.2.1 h.2.2.2.2.2.1 h.2.2.2.2.2.2.1 h.2.2.2.2.2.2.2.1 h.2.2.2.2.2.2.2.2.1 h.2.2.2.2.2.2.2.2.2.1 h.2.2.2.2.2.2.2.2.2.2⟩]
 modes:=[(21,[false,false]),(36,[false]),(37,[false,false,false]),(38,[]),(39,[false,false])]
 keep:=[(0,⟨[0,4,5,6],[0,256,320],[⟨1000000,48,ty72,[.cell 320 3],true⟩],[]⟩),
  (2,⟨[0,4,5,6,7,8],[0,256,320,448],[⟨1002000,48,ty72,[.cell 320 3],false⟩,⟨1002001,53,ty67,[.cell 448 1],false⟩],[]⟩),
  (4,⟨[0,4,5,6,7,9],[0,256,320,448],[⟨1004000,48,ty72,[.cell 320 3],false⟩,⟨1004001,53,ty67,[.cell 448 1],false⟩,⟨1004002,73,ty37,[.cell 448 2],false⟩],[]⟩)]
 keepX:=[(0,.exit 0,⟨[4,5],[0,256,320],[⟨1500100,48,ty72,[.cell 320 3],false⟩],[]⟩),
  (2,.exit 2,⟨[0,4,5,6,7],[0,256,320,448],[⟨1502300,48,ty72,[.cell 320 3],false⟩,⟨1502301,53,ty67,[.cell 448 1],false⟩],[]⟩),
  (4,.exit 4,⟨[0,4,5,6,7],[0,256,320,448],[⟨1504500,48,ty72,[.cell 320 3],false⟩,⟨1504501,53,ty67,[.cell 448 1],false⟩,⟨1504502,73,ty37,[.cell 448 2],false⟩],[]⟩)]
 ro:=[false]
 dw:=[(9,[[],[],[],[],[2432],[],[],[],[],[],[0,1002000],[2880],[2944,1002000,1002001],[],[448]]),(13,[[],[],[],[],[0,1004000],[3776],[3840,1004001,1004002],[],[448]])]
theorem jih:Con.OK Tryz.prog j7o:=
 cOf j07 j02 jjH j7o Tryz.func13 (j9 j1Z (j9 jjE (j9 jjF (j9 jjG (j9 jkv trivial))))) (j9 (fun h=>by kernel_rfl) (j9 (fun h=>by kernel_rfl) (j9 (fun h=>by kernel_rfl) trivial)))
def jgv:Con:=⟨16,[.v iT,.v iT],[iT,iT],⟨[.v iT],[]⟩,[iT],fun h=>Pw.jj4 h.1 h.2⟩
def juo:FnD where
 N:=12
 np:=2
 cs:=[]
 ds:=[]
 ro:=[false]
theorem jsf:Con.OK Tryz.prog jgv:=
 cOf j07 j02 juo jgv Tryz.func16 trivial trivial
def jeT:Con:=⟨224,[.v (.int .u8)],[(.int .u8)],⟨[.v .bool],[]⟩,[.bool],fun h=>Pw.jmk h⟩
def jsg:FnD where
 N:=9
 np:=1
 cs:=[]
 ds:=[]
 ro:=[false]
theorem jqU:Con.OK Tryz.prog jeT:=
 cOf j07 j02 jsg jeT Tryz.func224 trivial trivial
def jgw:Con:=⟨178,[.v .str],[.str],⟨[.v .bool],[]⟩,[.bool],fun h=>Pw.jlB h⟩
def jup:FnD where
 N:=57
 np:=1
 cs:=[jeT]
 ds:=[⟨0,[.s (.one (.d .str)),sI],[.str,iT],[⟨.ret,[.s (.one (.d .bool))],[.bool]⟩,⟨.exit 0,[],[]⟩],fun h=>Pw.j5K h.1 h.2⟩]
 modes:=[(224,[false])]
 keep:=[(0,⟨[0,3],[],[],[]⟩)]
 keepX:=[(0,.ret,⟨[2],[],[],[]⟩),
  (0,.exit 0,⟨[],[],[],[]⟩)]
 ro:=[false]
theorem jsh:Con.OK Tryz.prog jgw:=
 cOf j07 j02 jup jgw Tryz.func178 (j9 jqU trivial) (j9 (fun h=>by kernel_rfl) trivial)
def j8f:Con:=⟨138,[.v (.list .str),.v iT],[(.list .str),iT],⟨[.v iT],[]⟩,[iT],fun h=>Pw.jbc h.1 h.2⟩
def juq:FnD where
 N:=26
 np:=2
 cs:=[jgw]
 ds:=[⟨0,[.s (.one (.d (.list .str))),sI,sI],[(.list .str),iT,iT],[⟨.ret,[sI],[iT]⟩,⟨.exit 0,[],[]⟩],fun h=>Pw.j5L h.1 h.2.1 h.2.2⟩]
 modes:=[(178,[false])]
 keep:=[(0,⟨[0,1,5],[],[],[]⟩)]
 keepX:=[(0,.ret,⟨[4],[],[],[]⟩),
  (0,.exit 0,⟨[],[],[],[]⟩)]
 ro:=[false]
theorem jeU:Con.OK Tryz.prog j8f:=
 cOf j07 j02 juq j8f Tryz.func138 (j9 jsh trivial) (j9 (fun h=>by kernel_rfl) trivial)
def j9G:Con:=⟨93,[.v iT,.v iT,.v iT],[iT,iT,iT],⟨[.v .bool],[]⟩,[.bool],fun h=>Pw.j9h h.1 h.2.1 h.2.2⟩
def jxv:FnD where
 N:=15
 np:=3
 cs:=[]
 ds:=[]
 ro:=[false]
theorem jgx:Con.OK Tryz.prog j9G:=
 cOf j07 j02 jxv j9G Tryz.func93 trivial trivial
def jeV:Con:=⟨147,[.v ty50],[ty50],⟨[.v .bool],[]⟩,[.bool],fun h=>Pw.jg9 h⟩
def jsi:FnD where
 N:=38
 np:=1
 cs:=[j9G]
 ds:=[]
 modes:=[(93,[false,false,false])]
 ro:=[false]
theorem jqV:Con.OK Tryz.prog jeV:=
 cOf j07 j02 jsi jeV Tryz.func147 (j9 jgx trivial) trivial
def jgy:Con:=⟨251,[.v iT],[iT],⟨[.v .bool],[]⟩,[.bool],fun h=>Pw.j1v h⟩
def jur:FnD where
 N:=16
 np:=1
 cs:=[]
 ds:=[]
 ro:=[false]
theorem jsj:Con.OK Tryz.prog jgy:=
 cOf j07 j02 jur jgy Tryz.func251 trivial trivial
def jan:Con:=⟨227,[.v iT,.v iT],[iT,iT],⟨[.v iT],[]⟩,[iT],fun h=>Pw.jeB h.1 h.2⟩
def jus:FnD where
 N:=23
 np:=2
 cs:=[jgy]
 ds:=[]
 modes:=[(251,[false])]
 ro:=[false]
theorem jii:Con.OK Tryz.prog jan:=
 cOf j07 j02 jus jan Tryz.func227 (j9 jsj trivial) trivial
def jeW:Con:=⟨250,[.v ty20],[ty20],⟨[.v .bool],[]⟩,[.bool],fun h=>Pw.jj5 h⟩
def jsk:FnD where
 N:=36
 np:=1
 cs:=[jan]
 ds:=[]
 modes:=[(227,[false,false])]
 ro:=[false]
theorem jqW:Con.OK Tryz.prog jeW:=
 cOf j07 j02 jsk jeW Tryz.func250 (j9 jii trivial) trivial
def jd7:Con:=⟨179,[.v iT],[iT],⟨[.v iT],[]⟩,[iT],fun h=>Pw.jj6 h⟩
def jut:FnD where
 N:=18
 np:=1
 cs:=[]
 ds:=[]
 ro:=[false]
theorem jmH:Con.OK Tryz.prog jd7:=
 cOf j07 j02 jut jd7 Tryz.func179 trivial trivial
def jij:Con:=⟨225,[.v ty20],[ty20],⟨[.v iT,.v iT],[]⟩,[iT,iT],fun h=>Pw.joU h⟩
def jw7:FnD where
 N:=29
 np:=1
 cs:=[jan,jeW,jd7]
 ds:=[⟨0,[.s (.one (.bp 64 0)),sI,sI,.b (.cell [.d iT,.d iT,.d iT] false)],[iT,iT,iT,iT,iT],[⟨.exit 0,[.s (.one (.bp 64 0)),sI,.b (.cell [.d iT,.d iT,.d iT] false)],[iT,iT,iT,iT]⟩],fun h=>Pw.j6u h.1 h.2.1 h.2.2.1 h.2.2.2.1 h.2.2.2.2⟩]
 modes:=[(179,[false]),(227,[false,false]),(250,[false])]
 keep:=[(0,⟨[1,4,5],[64],[],[]⟩)]
 keepX:=[(0,.exit 0,⟨[1,4],[64],[],[]⟩)]
 ro:=[false,false]
theorem r01_Day_ok:Con.OK Tryz.prog jij:=
 cOf j07 j02 jw7 jij Tryz.func225 (j9 jii (j9 jqW (j9 jmH trivial))) (j9 (fun h=>by kernel_rfl) trivial)
def j8O:Con:=⟨226,[.v iT],[iT],⟨[.v iT],[]⟩,[iT],fun h=>Pw.jeC h⟩
def jpm:FnD where
 N:=7
 np:=1
 cs:=[]
 ds:=[]
 ro:=[false]
theorem jhC:Con.OK Tryz.prog j8O:=
 cOf j07 j02 jpm j8O Tryz.func226 trivial trivial
def jik:Con:=⟨180,[.v iT,.v iT,.v iT,.v iT],[iT,iT,iT,iT],⟨[.v iT,.v iT],[]⟩,[iT,iT],fun h=>Pw.joV h.1 h.2.1 h.2.2.1 h.2.2.2⟩
def jw8:FnD where
 N:=63
 np:=4
 cs:=[jan,jij,j8O]
 ds:=[⟨0,[sI,sI,sI,sI,sI,sI],[iT,iT,iT,iT,iT,iT],[⟨.exit 0,[sI,sI,sI,sI,sI],[iT,iT,iT,iT,iT]⟩],fun h=>Pw.j6v h.1 h.2.1 h.2.2.1 h.2.2.2.1 h.2.2.2.2.1 h.2.2.2.2.2⟩,
  ⟨2,[sI,sI,sI,sI],[iT,iT,iT,iT],[⟨.exit 2,[sI],[iT]⟩],fun h=>Pw.j6w h.1 h.2.1 h.2.2.1 h.2.2.2⟩]
 modes:=[(225,[false]),(226,[false]),(227,[false,false])]
 keep:=[(0,⟨[0,1,2,3,10,12],[],[],[]⟩),
  (2,⟨[0,1,10,12],[],[],[]⟩)]
 keepX:=[(0,.exit 0,⟨[0,1,2,10,12],[],[],[]⟩),
  (2,.exit 2,⟨[12],[],[],[]⟩)]
 ro:=[false,false]
theorem r01_Nth_ok:Con.OK Tryz.prog jik:=
 cOf j07 j02 jw8 jik Tryz.func180 (j9 jii (j9 r01_Day_ok (j9 jhC trivial))) (j9 (fun h=>by kernel_rfl) (j9 (fun h=>by kernel_rfl) trivial))
def j84:Con:=⟨148,[.v ty53],[ty53],⟨[.own 189 ty12],[]⟩,[ty12],fun h=>Pw.j8A h⟩
def jkw:FnD where
 N:=98
 np:=1
 cs:=[jik]
 ds:=[⟨0,[.s (.one (.d ty53)),.s (.one (.ol 1000000)),sI,.b (.lst 189 ty8 false)],[ty53,iT,ty12],[⟨.exit 0,[.s (.one (.ol 1500100)),.b (.lst 189 ty8 false)],[ty12]⟩],fun h=>Pw.j2P h.1 h.2.1 h.2.2⟩,
  ⟨2,[.s (.one (.d ty53)),.s (.one (.ol 1002000)),sI,sI,.b (.lst 189 ty8 false)],[ty53,iT,iT,ty12],[⟨.exit 2,[.s (.one (.d ty53)),.s (.one (.ol 1502300)),sI,.b (.lst 189 ty8 false)],[ty53,iT,ty12]⟩],fun h=>Pw.j2O h.1 h.2.1 h.2.2.1 h.2.2.2⟩,
  ⟨4,[.s (.one (.d ty53)),.s (.one (.ol 1004000)),sI,sI,.s (.one (.bp 512 0)),sI,.b (.cell [.d iT,.d iT] false),.b (.lst 189 ty8 false)],[ty53,iT,iT,iT,iT,iT,ty12],[⟨.exit 4,[.s (.one (.d ty53)),.s (.one (.ol 1504500)),sI,sI,.s (.one (.bp 512 0)),sI,.b (.cell [.d iT,.d iT] false),.b (.lst 189 ty8 false)],[ty53,iT,iT,iT,iT,iT,ty12]⟩],fun h=>Pw.j2N h.1 h.2.1 h.2.2.1 h.2.2.2.1 h.2.2.2.2.1 h.2.2.2.2.2.1 h.2.2.2.2.2.2⟩]
 modes:=[(180,[false,false,false,false])]
 keep:=[(0,⟨[0,3,4],[],[⟨1000000,189,ty8,[.slot 3],false⟩],[]⟩),
  (2,⟨[0,3,4,5],[],[⟨1002000,189,ty8,[.slot 3],false⟩],[]⟩),
  (4,⟨[0,3,4,5,8,9],[512],[⟨1004000,189,ty8,[.slot 3],false⟩],[]⟩)]
 keepX:=[(0,.exit 0,⟨[3],[],[⟨1500100,189,ty8,[.slot 3],false⟩],[]⟩),
  (2,.exit 2,⟨[0,3,4],[],[⟨1502300,189,ty8,[.slot 3],false⟩],[]⟩),
  (4,.exit 4,⟨[0,3,4,5,8,9],[512],[⟨1504500,189,ty8,[.slot 3],false⟩],[]⟩)]
 ro:=[true]
 dw:=[(9,[[],[],[],[],[],[],[],[],[],[],[],[],[],[],[512],[512]]),(14,[[],[],[],[],[],[],[],[5376]])]
theorem jjI:Con.OK Tryz.prog j84:=
 cOf j07 j02 jkw j84 Tryz.func148 (j9 r01_Nth_ok trivial) (j9 (fun h=>by kernel_rfl) (j9 (fun h=>by kernel_rfl) (j9 (fun h=>by kernel_rfl) trivial)))
def j49:Con:=⟨89,[.v ty60],[ty60],⟨[.own 146 ty12,.v iT],[]⟩,[ty12,iT],fun h=>Pw.j1k h⟩
def jkx:FnD where
 N:=119
 np:=1
 cs:=[j9G,jeV,j84]
 ds:=[⟨0,[.s (.one (.bp 64 0)),sI,sI,.b (.cell [.d .str,.d iT,.d ty53] false)],[iT,iT,.str,iT,ty53],[⟨.ret,[.s (.one (.nil)),sI],[iT]⟩,⟨.exit 0,[.s (.one (.bp 64 0)),sI,.b (.cell [.d .str,.d iT,.d ty53] false)],[iT,.str,iT,ty53]⟩],fun h=>Pw.j2Q h.1 h.2.1 h.2.2.1 h.2.2.2.1 h.2.2.2.2⟩,
  ⟨2,[.s (.one (.ol 1002000)),.s (.one (.ol 1002001)),sI,sI,.b (.lst 146 ty8 false),.b (.lst 189 ty8 false)],[iT,iT,ty12,ty12],[⟨.ret,[.s (.one (.nil)),sI],[iT]⟩,⟨.exit 2,[.s (.one (.ol 1502300)),.b (.lst 146 ty8 false)],[ty12]⟩],fun h=>Pw.j2R h.1 h.2.1 h.2.2.1 h.2.2.2⟩]
 modes:=[(93,[false,false,false]),(147,[false]),(148,[false])]
 keep:=[(0,⟨[1,4,5],[64],[],[]⟩),
  (2,⟨[6,7,8,9],[],[⟨1002000,146,ty8,[.slot 6],false⟩,⟨1002001,189,ty8,[.slot 7],false⟩],[]⟩)]
 keepX:=[(0,.ret,⟨[2,3],[],[],[]⟩),
  (0,.exit 0,⟨[1,4],[64],[],[]⟩),
  (2,.ret,⟨[2,3],[],[],[]⟩),
  (2,.exit 2,⟨[6],[],[⟨1502300,146,ty8,[.slot 6],false⟩],[]⟩)]
 ro:=[true,false]
 dw:=[(21,[[],[],[],[],[],[],[],[],[],[],[],[],[],[640],[640]]),(24,[[],[],[7296],[7360,1002000],[],[],[],[]])]
theorem j8P:Con.OK Tryz.prog j49:=
 cOf j07 j02 jkx j49 Tryz.func89 (j9 jgx (j9 jqV (j9 jjI trivial))) (j9 (fun h=>by kernel_rfl) (j9 (fun h=>by kernel_rfl) trivial))
def jbj:Con:=⟨139,[.v ty60],[ty60],⟨[.v iT],[]⟩,[iT],fun h=>Pw.j6x h⟩
def jsl:FnD where
 N:=11
 np:=1
 cs:=[j49]
 ds:=[]
 modes:=[(89,[false])]
 ro:=[false]
theorem jkU:Con.OK Tryz.prog jbj:=
 cOf j07 j02 jsl jbj Tryz.func139 (j9 j8P trivial) trivial
def jcv:Con:=⟨140,[.v ty60],[ty60],⟨[.v .bool],[]⟩,[.bool],fun h=>Pw.jbY h⟩
def jpn:FnD where
 N:=28
 np:=1
 cs:=[]
 ds:=[⟨0,[.s (.one (.bp 64 0)),.s (.one (.d .bool)),sI,.b (.cell [.d .str,.d iT,.d ty53] false)],[.bool,iT,.str,iT,ty53],[⟨.exit 0,[.s (.one (.d .bool))],[.bool]⟩],fun h=>Pw.j47 h.1 h.2.1 h.2.2.1 h.2.2.2.1 h.2.2.2.2⟩]
 keep:=[(0,⟨[1,3,4],[64],[],[]⟩)]
 keepX:=[(0,.exit 0,⟨[3],[],[],[]⟩)]
 ro:=[false]
theorem jnB:Con.OK Tryz.prog jcv:=
 cOf j07 j02 jpn jcv Tryz.func140 trivial (j9 (fun h=>by kernel_rfl) trivial)
end Go.Proofs.Pk
