/- Contracts: each given function is its plain function, printed by a program. -/
import Derived.Test.YthpdddnkpjnllaaGreatDCon7
noncomputable section
open Go Go.Lft
set_option linter.unusedVariables false
set_option maxRecDepth 100000
namespace Go.Proofs.Pk
def j4S:Con:=⟨89,[.v ty60],[ty60],⟨[.own 146 ty12,.v iT],[]⟩,[ty12,iT],fun h=>Pw.j1L h⟩
def jlq:FnD where
 N:=119
 np:=1
 cs:=[jav,jfE,j93]
 ds:=[⟨0,[.s (.one (.bp 64 0)),sI,sI,.b (.cell [.d .str,.d iT,.d ty53] false)],[iT,iT,.str,iT,ty53],[⟨.ret,[.s (.one (.nil)),sI],[iT]⟩,⟨.exit 0,[.s (.one (.bp 64 0)),sI,.b (.cell [.d .str,.d iT,.d ty53] false)],[iT,.str,iT,ty53]⟩],fun h=>Pw.j3o h.1 h.2.1 h.2.2.1 h.2.2.2.1 h.2.2.2.2⟩,
  ⟨2,[.s (.one (.ol 1002000)),.s (.one (.ol 1002001)),sI,sI,.b (.lst 146 ty8 false),.b (.lst 189 ty8 false)],[iT,iT,ty12,ty12],[⟨.ret,[.s (.one (.nil)),sI],[iT]⟩,⟨.exit 2,[.s (.one (.ol 1502300)),.b (.lst 146 ty8 false)],[ty12]⟩],fun h=>Pw.j3p h.1 h.2.1 h.2.2.1 h.2.2.2⟩]
 modes:=[(93,[false,false,false]),(147,[false]),(148,[false])]
 keep:=[(0,⟨[1,4,5],[64],[],[]⟩),
  (2,⟨[6,7,8,9],[],[⟨1002000,146,ty8,[.slot 6],false⟩,⟨1002001,189,ty8,[.slot 7],false⟩],[]⟩)]
 keepX:=[(0,.ret,⟨[2,3],[],[],[]⟩),
  (0,.exit 0,⟨[1,4],[64],[],[]⟩),
  (2,.ret,⟨[2,3],[],[],[]⟩),
  (2,.exit 2,⟨[6],[],[⟨1502300,146,ty8,[.slot 6],false⟩],[]⟩)]
 ro:=[true,false]
 dw:=[(21,[[],[],[],[],[],[],[],[],[],[],[],[],[],[640],[640]]),(24,[[],[],[7296],[7360,1002000],[],[],[],[]])]
theorem j9I:Con.OK Tryz.prog j4S:=
 cOf j0a j03 jlq j4S Tryz.func89 (j9 jhi (j9 jsa (j9 jkv trivial))) (j9 (fun h=>by kernel_rfl) (j9 (fun h=>by kernel_rfl) trivial))
def jc8:Con:=⟨139,[.v ty60],[ty60],⟨[.v iT],[]⟩,[iT],fun h=>Pw.j7D h⟩
def jtF:FnD where
 N:=11
 np:=1
 cs:=[j4S]
 ds:=[]
 modes:=[(89,[false])]
 ro:=[false]
theorem jlT:Con.OK Tryz.prog jc8:=
 cOf j0a j03 jtF jc8 Tryz.func139 (j9 j9I trivial) trivial
def jdb:Con:=⟨140,[.v ty60],[ty60],⟨[.v .bool],[]⟩,[.bool],fun h=>Pw.jcE h⟩
def jqu:FnD where
 N:=28
 np:=1
 cs:=[]
 ds:=[⟨0,[.s (.one (.bp 64 0)),.s (.one (.d .bool)),sI,.b (.cell [.d .str,.d iT,.d ty53] false)],[.bool,iT,.str,iT,ty53],[⟨.exit 0,[.s (.one (.d .bool))],[.bool]⟩],fun h=>Pw.j4Q h.1 h.2.1 h.2.2.1 h.2.2.2.1 h.2.2.2.2⟩]
 keep:=[(0,⟨[1,3,4],[64],[],[]⟩)]
 keepX:=[(0,.exit 0,⟨[3],[],[],[]⟩)]
 ro:=[false]
theorem joE:Con.OK Tryz.prog jdb:=
 cOf j0a j03 jqu jdb Tryz.func140 trivial (j9 (fun h=>by kernel_rfl) trivial)
def jfG:Con:=⟨85,[.v ty79],[ty79],⟨[.v iT],[]⟩,[iT],fun h=>Pw.jnl h⟩
def jtG:FnD where
 N:=44
 np:=1
 cs:=[j9e,jc8,jdb]
 ds:=[⟨0,[.s (.one (.bp 64 0)),.s (.one (.ol 1000000)),sI,.b (.cell [.d ty61,.d ty51,.d ty26,.d ty73] false),.b (.lst 9 .str false)],[iT,ty61,ty51,ty26,ty73,(.list .str)],[⟨.ret,[sI],[iT]⟩,⟨.exit 0,[],[]⟩],fun h=>Pw.j67 h.1 h.2.1 h.2.2.1 h.2.2.2.1 h.2.2.2.2.1 h.2.2.2.2.2⟩]
 modes:=[(138,[false,false]),(139,[false]),(140,[false])]
 keep:=[(0,⟨[1,3,4],[64],[⟨1000000,9,.str,[.slot 3],false⟩],[]⟩)]
 keepX:=[(0,.ret,⟨[2],[],[],[]⟩),
  (0,.exit 0,⟨[],[],[],[]⟩)]
 ro:=[false]
theorem jsc:Con.OK Tryz.prog jfG:=
 cOf j0a j03 jtG jfG Tryz.func85 (j9 jfD (j9 jlT (j9 joE trivial))) (j9 (fun h=>by kernel_rfl) trivial)
def jaw:Con:=⟨141,[.v iT,.v iT,.v iT],[iT,iT,iT],⟨[.v .bool],[]⟩,[.bool],fun h=>Pw.j8C h.1 h.2.1 h.2.2⟩
def jzF:FnD where
 N:=15
 np:=3
 cs:=[]
 ds:=[]
 ro:=[false]
theorem jhk:Con.OK Tryz.prog jaw:=
 cOf j0a j03 jzF jaw Tryz.func141 trivial trivial
def j9J:Con:=⟨142,[.v ty12],[ty12],⟨[.v iT],[]⟩,[iT],fun h=>Pw.jeO h⟩
def jtH:FnD where
 N:=56
 np:=1
 cs:=[]
 ds:=[⟨0,[.s (.one (.d ty12)),sI],[ty12,iT],[⟨.ret,[sI],[iT]⟩,⟨.exit 0,[],[]⟩],fun h=>Pw.j68 h.1 h.2⟩]
 keep:=[(0,⟨[0,3],[],[],[]⟩)]
 keepX:=[(0,.ret,⟨[2],[],[],[]⟩),
  (0,.exit 0,⟨[],[],[],[]⟩)]
 ro:=[false]
theorem jhl:Con.OK Tryz.prog j9J:=
 cOf j0a j03 jtH j9J Tryz.func142 trivial (j9 (fun h=>by kernel_rfl) trivial)
def jfH:Con:=⟨143,[.v iT],[iT],⟨[.v .bool],[]⟩,[.bool],fun h=>Pw.jjX h⟩
def jtI:FnD where
 N:=10
 np:=1
 cs:=[jaw]
 ds:=[]
 modes:=[(141,[false,false,false])]
 ro:=[false]
theorem jsd:Con.OK Tryz.prog jfH:=
 cOf j0a j03 jtI jfH Tryz.func143 (j9 jhk trivial) trivial
def jei:Con:=⟨86,[.v ty79],[ty79],⟨[.v iT],[]⟩,[iT],fun h=>Pw.jla h⟩
def jse:FnD where
 N:=58
 np:=1
 cs:=[j9e,jaw,j9J,jfH]
 ds:=[⟨0,[.s (.one (.bp 64 0)),.s (.one (.ol 1000000)),sI,.b (.cell [.d ty61,.d ty51,.d ty26,.d ty73] false),.b (.lst 9 .str false)],[iT,ty61,ty51,ty26,ty73,(.list .str)],[⟨.ret,[sI],[iT]⟩,⟨.exit 0,[],[]⟩],fun h=>Pw.j5m h.1 h.2.1 h.2.2.1 h.2.2.2.1 h.2.2.2.2.1 h.2.2.2.2.2⟩]
 modes:=[(138,[false,false]),(141,[false,false,false]),(142,[false]),(143,[false])]
 keep:=[(0,⟨[1,3,4],[64],[⟨1000000,9,.str,[.slot 3],false⟩],[]⟩)]
 keepX:=[(0,.ret,⟨[2],[],[],[]⟩),
  (0,.exit 0,⟨[],[],[],[]⟩)]
 ro:=[false]
theorem jqv:Con.OK Tryz.prog jei:=
 cOf j0a j03 jse jei Tryz.func86 (j9 jfD (j9 jhk (j9 jhl (j9 jsd trivial)))) (j9 (fun h=>by kernel_rfl) trivial)
def j8H:Con:=⟨144,[],[],⟨[.v iT],[]⟩,[iT],fun h=>Pw.jck⟩
def jsf:FnD where
 N:=3
 np:=0
 cs:=[jdV]
 ds:=[]
 modes:=[(179,[false])]
 ro:=[false]
theorem jfI:Con.OK Tryz.prog j8H:=
 cOf j0a j03 jsf j8H Tryz.func144 (j9 jnL trivial) trivial
def jax:Con:=⟨87,[.v ty79],[ty79],⟨[.v iT],[]⟩,[iT],fun h=>Pw.jfl h⟩
def jnM:FnD where
 N:=78
 np:=1
 cs:=[j9e,jaw,j8H]
 ds:=[⟨0,[.s (.one (.bp 64 0)),.s (.one (.ol 1000000)),sI,.b (.cell [.d ty61,.d ty51,.d ty26,.d ty73] false),.b (.lst 9 .str false)],[iT,ty61,ty51,ty26,ty73,(.list .str)],[⟨.ret,[sI],[iT]⟩,⟨.exit 0,[],[]⟩],fun h=>Pw.j3X h.1 h.2.1 h.2.2.1 h.2.2.2.1 h.2.2.2.2.1 h.2.2.2.2.2⟩,
  ⟨2,[.s (.one (.bp 64 0)),.s (.one (.ol 1002000)),sI,.s (.one (.bp 320 0)),sI,.b (.cell [.d ty61,.d ty51,.d ty26,.d ty73] false),.b (.cell [.d .str,.d iT,.d (.list iT)] false),.b (.lst 9 .str false)],[iT,iT,ty61,ty51,ty26,ty73,.str,iT,(.list iT),(.list .str)],[⟨.ret,[sI],[iT]⟩,⟨.exit 2,[.s (.one (.bp 64 0)),.s (.one (.ol 1502300)),sI,.s (.one (.bp 320 0)),.b (.cell [.d ty61,.d ty51,.d ty26,.d ty73] false),.b (.cell [.d .str,.d iT,.d (.list iT)] false),.b (.lst 9 .str false)],[iT,ty61,ty51,ty26,ty73,.str,iT,(.list iT),(.list .str)]⟩],fun h=>Pw.j3W h.1 h.2.1 h.2.2.1 h.2.2.2.1 h.2.2.2.2.1 h.2.2.2.2.2.1 h.2.2.2.2.2.2.1 h.2.2.2.2.2.2.2.1 h.2.2.2.2.2.2.2.2.1 h.2.2.2.2.2.2.2.2.2⟩,
  ⟨4,[.s (.one (.bp 64 0)),.s (.one (.ol 1004000)),sI,.s (.one (.bp 320 0)),sI,.b (.cell [.d ty61,.d ty51,.d ty26,.d ty73] false),.b (.cell [.d .str,.d iT,.d (.list iT)] false),.b (.lst 9 .str false)],[iT,iT,ty61,ty51,ty26,ty73,.str,iT,(.list iT),(.list .str)],[⟨.ret,[sI],[iT]⟩,⟨.exit 4,[.s (.one (.bp 64 0)),.s (.one (.ol 1504500)),sI,.b (.cell [.d ty61,.d ty51,.d ty26,.d ty73] false),.b (.lst 9 .str false)],[iT,ty61,ty51,ty26,ty73,(.list .str)]⟩],fun h=>Pw.j5n h.1 h.2.1 h.2.2.1 h.2.2.2.1 h.2.2.2.2.1 h.2.2.2.2.2.1 h.2.2.2.2.2.2.1 h.2.2.2.2.2.2.2.1 h.2.2.2.2.2.2.2.2.1 h.2.2.2.2.2.2.2.2.2⟩]
 modes:=[(138,[false,false]),(141,[false,false,false]),(144,[])]
 keep:=[(0,⟨[1,3,4],[64],[⟨1000000,9,.str,[.slot 3],false⟩],[]⟩),
  (2,⟨[1,3,4,5,7],[64,320],[⟨1002000,9,.str,[.slot 3],false⟩],[]⟩),
  (4,⟨[1,3,4,5,8],[64,320],[⟨1004000,9,.str,[.slot 3],false⟩],[]⟩)]
 keepX:=[(0,.ret,⟨[2],[],[],[]⟩),
  (0,.exit 0,⟨[],[],[],[]⟩),
  (2,.ret,⟨[2],[],[],[]⟩),
  (2,.exit 2,⟨[1,3,4,5],[64,320],[⟨1502300,9,.str,[.slot 3],false⟩],[]⟩),
  (4,.ret,⟨[2],[],[],[]⟩),
  (4,.exit 4,⟨[1,3,4],[64],[⟨1504500,9,.str,[.slot 3],false⟩],[]⟩)]
 ro:=[false]
theorem jmh:Con.OK Tryz.prog jax:=
 cOf j0a j03 jnM jax Tryz.func87 (j9 jfD (j9 jhk (j9 jfI trivial))) (j9 (fun h=>by kernel_rfl) (j9 (fun h=>by kernel_rfl) (j9 (fun h=>by kernel_rfl) trivial)))
def jfJ:Con:=⟨145,[.v ty79,.v ty67],[ty79,ty67],⟨[.v iT],[]⟩,[iT],fun h=>Pw.jgW h.1 h.2⟩
def jtJ:FnD where
 N:=102
 np:=2
 cs:=[jaw,j9J,j8H]
 ds:=[⟨1,[.s (.one (.bp 128 0)),.s (.one (.bp 192 0)),sI,.b (.cell [.d ty61,.d ty51,.d ty26,.d ty73] false),.b (.cell [.d .str,.d iT,.d iT,.d iT,.d iT,.d iT,.d (.list iT),.d ty12,.d iT,.d iT] false)],[iT,ty61,ty51,ty26,ty73,.str,iT,iT,iT,iT,iT,(.list iT),ty12,iT,iT],[⟨.ret,[sI],[iT]⟩,⟨.exit 1,[.s (.one (.bp 128 0)),.s (.one (.bp 192 0)),.b (.cell [.d ty61,.d ty51,.d ty26,.d ty73] false),.b (.cell [.d .str,.d iT,.d iT,.d iT,.d iT,.d iT,.d (.list iT),.d ty12,.d iT,.d iT] false)],[ty61,ty51,ty26,ty73,.str,iT,iT,iT,iT,iT,(.list iT),ty12,iT,iT]⟩],fun h=>Pw.j69 h.1 h.2.1 h.2.2.1 h.2.2.2.1 h.2.2.2.2.1 h.2.2.2.2.2.1 h.2.2.2.2.2.2.1 h.2.2.2.2.2.2.2.1 h.2.2.2.2.2.2.2.2.1 h.2.2.2.2.2.2.2.2.2.1 h.2.2.2.2.2.2.2.2.2.2.1 h.2.2.2.2.2.2.2.2.2.2.2.1 h.2.2.2.2.2.2.2.2.2.2.2.2.1 h.2.2.2.2.2.2.2.2.2.2.2.2.2.1 h.2.2.2.2.2.2.2.2.2.2.2.2.2.2⟩]
 modes:=[(141,[false,false,false]),(142,[false]),(144,[])]
 keep:=[(1,⟨[2,3,5],[128,192],[],[]⟩)]
 keepX:=[(1,.ret,⟨[4],[],[],[]⟩),
  (1,.exit 1,⟨[2,3],[128,192],[],[]⟩)]
 ro:=[false]
theorem jsg:Con.OK Tryz.prog jfJ:=
 cOf j0a j03 jtJ jfJ Tryz.func145 (j9 jhk (j9 jhl (j9 jfI trivial))) (j9 (fun h=>by kernel_rfl) trivial)
def jhm:Con:=⟨146,[.v ty79,.v ty37],[ty79,ty37],⟨[.v iT],[]⟩,[iT],fun h=>Pw.jjY h.1 h.2⟩
def jw3:FnD where
 N:=86
 np:=2
 cs:=[jaw,j8H]
 ds:=[]
 modes:=[(141,[false,false,false]),(144,[])]
 ro:=[false]
theorem jtK:Con.OK Tryz.prog jhm:=
 cOf j0a j03 jw3 jhm Tryz.func146 (j9 jhk (j9 jfI trivial)) trivial
def jay:Con:=⟨88,[.v ty79],[ty79],⟨[.v iT],[]⟩,[iT],fun h=>Pw.jfm h⟩
def jnN:FnD where
 N:=95
 np:=1
 cs:=[j9e,jfJ,jhm]
 ds:=[⟨0,[.s (.one (.bp 64 0)),.s (.one (.ol 1000000)),sI,.b (.cell [.d ty61,.d ty51,.d ty26,.d ty73] false),.b (.lst 9 .str false)],[iT,ty61,ty51,ty26,ty73,(.list .str)],[⟨.ret,[sI],[iT]⟩,⟨.exit 0,[],[]⟩],fun h=>Pw.j40 h.1 h.2.1 h.2.2.1 h.2.2.2.1 h.2.2.2.2.1 h.2.2.2.2.2⟩,
  ⟨2,[.s (.one (.bp 64 0)),.s (.one (.ol 1002000)),sI,.s (.one (.bp 320 0)),.s (.one (.ol 1002001)),sI,.b (.cell [.d ty61,.d ty51,.d ty26,.d ty73] false),.b (.cell [.d .str,.d ty68,.d ty39] false),.b (.lst 9 .str false),.b (.lst 9 .str false)],[iT,iT,ty61,ty51,ty26,ty73,.str,ty68,ty39,(.list .str),(.list .str)],[⟨.ret,[sI],[iT]⟩,⟨.exit 2,[.s (.one (.bp 64 0)),.s (.one (.ol 1502300)),sI,.s (.one (.bp 320 0)),.b (.cell [.d ty61,.d ty51,.d ty26,.d ty73] false),.b (.cell [.d .str,.d ty68,.d ty39] false),.b (.lst 9 .str false)],[iT,ty61,ty51,ty26,ty73,.str,ty68,ty39,(.list .str)]⟩],fun h=>Pw.j3Y h.1 h.2.1 h.2.2.1 h.2.2.2.1 h.2.2.2.2.1 h.2.2.2.2.2.1 h.2.2.2.2.2.2.1 h.2.2.2.2.2.2.2.1 h.2.2.2.2.2.2.2.2.1 h.2.2.2.2.2.2.2.2.2.1 h.2.2.2.2.2.2.2.2.2.2⟩,
  ⟨4,[.s (.one (.bp 64 0)),.s (.one (.ol 1004000)),sI,.s (.one (.bp 320 0)),sI,.b (.cell [.d ty61,.d ty51,.d ty26,.d ty73] false),.b (.cell [.d .str,.d ty68,.d ty39] false),.b (.lst 9 .str false)],[iT,iT,ty61,ty51,ty26,ty73,.str,ty68,ty39,(.list .str)],[⟨.ret,[sI],[iT]⟩,⟨.exit 4,[.s (.one (.bp 64 0)),.s (.one (.ol 1504500)),sI,.b (.cell [.d ty61,.d ty51,.d ty26,.d ty73] false),.b (.lst 9 .str false)],[iT,ty61,ty51,ty26,ty73,(.list .str)]⟩],fun h=>Pw.j3Z h.1 h.2.1 h.2.2.1 h.2.2.2.1 h.2.2.2.2.1 h.2.2.2.2.2.1 h.2.2.2.2.2.2.1 h.2.2.2.2.2.2.2.1 h.2.2.2.2.2.2.2.2.1 h.2.2.2.2.2.2.2.2.2⟩]
 modes:=[(138,[false,false]),(145,[false,false]),(146,[false,false])]
 keep:=[(0,⟨[1,3,4],[64],[⟨1000000,9,.str,[.slot 3],false⟩],[]⟩),
  (2,⟨[1,3,4,5,7,8],[64,320],[⟨1002000,9,.str,[.slot 3],false⟩,⟨1002001,9,.str,[.slot 7],false⟩],[]⟩),
  (4,⟨[1,3,4,5,11],[64,320],[⟨1004000,9,.str,[.slot 3],false⟩],[]⟩)]
 keepX:=[(0,.ret,⟨[2],[],[],[]⟩),
  (0,.exit 0,⟨[],[],[],[]⟩),
  (2,.ret,⟨[2],[],[],[]⟩),
  (2,.exit 2,⟨[1,3,4,5],[64,320],[⟨1502300,9,.str,[.slot 3],false⟩],[]⟩),
  (4,.ret,⟨[2],[],[],[]⟩),
  (4,.exit 4,⟨[1,3,4],[64],[⟨1504500,9,.str,[.slot 3],false⟩],[]⟩)]
 ro:=[false]
theorem jmi:Con.OK Tryz.prog jay:=
 cOf j0a j03 jnN jay Tryz.func88 (j9 jfD (j9 jsg (j9 jtK trivial))) (j9 (fun h=>by kernel_rfl) (j9 (fun h=>by kernel_rfl) (j9 (fun h=>by kernel_rfl) trivial)))
def jc9:Con:=⟨45,[.v ty79],[ty79],⟨[.v iT],[]⟩,[iT],fun h=>Pw.jb7 h⟩
def jtL:FnD where
 N:=45
 np:=1
 cs:=[jfG,jei,jax,jay]
 ds:=[]
 modes:=[(85,[false]),(86,[false]),(87,[false]),(88,[false])]
 ro:=[false]
theorem jlU:Con.OK Tryz.prog jc9:=
 cOf j0a j03 jtL jc9 Tryz.func45 (j9 jsc (j9 jqv (j9 jmh (j9 jmi trivial)))) trivial
def jlr:Con:=⟨95,[.v ty79,.v iT,.v iT],[ty79,iT,iT],⟨[.v .bool],[]⟩,[.bool],fun h=>Pw.jxH h.1 h.2.1 h.2.2⟩
def jzG:FnD where
 N:=29
 np:=3
 cs:=[jc9]
 ds:=[]
 modes:=[(45,[false])]
 ro:=[false]
theorem jxP:Con.OK Tryz.prog jlr:=
 cOf j0a j03 jzG jlr Tryz.func95 (j9 jlU trivial) trivial
def jfK:Con:=⟨91,[.v ty60,.v ty67],[ty60,ty67],⟨[.v iT],[]⟩,[iT],fun h=>Pw.jgX h.1 h.2⟩
def jtM:FnD where
 N:=58
 np:=2
 cs:=[jc8]
 ds:=[]
 modes:=[(139,[false])]
 ro:=[false]
theorem jsh:Con.OK Tryz.prog jfK:=
 cOf j0a j03 jtM jfK Tryz.func91 (j9 jlT trivial) trivial
def jfL:Con:=⟨94,[.v iT],[iT],⟨[.v .bool],[]⟩,[.bool],fun h=>Pw.jgY h⟩
def jtN:FnD where
 N:=5
 np:=1
 cs:=[jav]
 ds:=[]
 modes:=[(93,[false,false,false])]
 ro:=[false]
theorem jsi:Con.OK Tryz.prog jfL:=
 cOf j0a j03 jtN jfL Tryz.func94 (j9 jhi trivial) trivial
def jca:Con:=⟨48,[.v ty60,.v ty8],[ty60,ty8],⟨[.v iT,.v iT],[]⟩,[iT,iT],fun h=>Pw.j5p h.1 h.2⟩
def jtO:FnD where
 N:=76
 np:=2
 cs:=[jav,j4S,jfL]
 ds:=[⟨0,[.s (.one (.bp 128 0)),.s (.one (.bp 192 0)),.s (.one (.ol 1000000)),sI,.b (.cell [.d .str,.d iT,.d ty53] false),.b (.cell [.d iT,.d iT] false),.b (.lst 146 ty8 false)],[iT,.str,iT,ty53,iT,iT,ty12],[⟨.ret,[sI,sI],[iT,iT]⟩,⟨.exit 0,[],[]⟩],fun h=>Pw.j4H h.1 h.2.1 h.2.2.1 h.2.2.2.1 h.2.2.2.2.1 h.2.2.2.2.2.1 h.2.2.2.2.2.2⟩]
 modes:=[(89,[false]),(93,[false,false,false]),(94,[false])]
 keep:=[(0,⟨[2,3,6,8],[128,192],[⟨1000000,146,ty8,[.slot 6],false⟩],[]⟩)]
 keepX:=[(0,.ret,⟨[4,5],[],[],[]⟩),
  (0,.exit 0,⟨[],[],[],[]⟩)]
 ro:=[false,false]
theorem jlV:Con.OK Tryz.prog jca:=
 cOf j0a j03 jtO jca Tryz.func48 (j9 jhi (j9 j9I (j9 jsi trivial))) (j9 (fun h=>by kernel_rfl) trivial)
def jej:Con:=⟨229,[.v ty60,.v ty12,.v iT],[ty60,ty12,iT],⟨[.v iT],[]⟩,[iT],fun h=>Pw.jhR h.1 h.2.1 h.2.2⟩
def jsj:FnD where
 N:=32
 np:=3
 cs:=[]
 ds:=[⟨0,[.s (.one (.d ty12)),sI,sI,sI],[ty12,iT,iT,iT],[⟨.exit 0,[sI],[iT]⟩],fun h=>Pw.j5q h.1 h.2.1 h.2.2.1 h.2.2.2⟩]
 keep:=[(0,⟨[1,2,7,8],[],[],[]⟩)]
 keepX:=[(0,.exit 0,⟨[7],[],[],[]⟩)]
 ro:=[false]
theorem jqw:Con.OK Tryz.prog jej:=
 cOf j0a j03 jsj jej Tryz.func229 trivial (j9 (fun h=>by kernel_rfl) trivial)
def jbI:Con:=⟨185,[.v ty60,.v iT],[ty60,iT],⟨[.v iT,.v iT],[]⟩,[iT,iT],fun h=>Pw.jb8 h.1 h.2⟩
def joF:FnD where
 N:=22
 np:=2
 cs:=[jav,j4S,jej]
 ds:=[]
 modes:=[(89,[false]),(93,[false,false,false]),(229,[false,false,false])]
 ro:=[false,false]
theorem jnO:Con.OK Tryz.prog jbI:=
 cOf j0a j03 joF jbI Tryz.func185 (j9 jhi (j9 j9I (j9 jqw trivial))) trivial
end Go.Proofs.Pk
