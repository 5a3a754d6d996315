/- Contracts: each given function is its plain function, printed by a program. -/
import Derived.Test.YthpdddnkpjnllaaGreatDCon7
noncomputable section
open Go Go.Lft
set_option linter.unusedVariables false
set_option maxRecDepth 100000
namespace Go.Proofs.Pk
def jfM:Con:=⟨85,[.v ty79],[ty79],⟨[.v iT],[]⟩,[iT],fun h=>Pw.jng h⟩
def jty:FnD where
 N:=44
 np:=1
 cs:=[j9n,jch,jdi]
 ds:=[⟨0,[.s (.one (.bp 64 0)),.s (.one (.ol 1000000)),sI,.b (.cell [.d ty61,.d ty51,.d ty26,.d ty73] false),.b (.lst 9 .str false)],[iT,ty61,ty51,ty26,ty73,(.list .str)],[⟨.ret,[sI],[iT]⟩,⟨.exit 0,[],[]⟩],fun h=>Pw.j6f h.1 h.2.1 h.2.2.1 h.2.2.2.1 h.2.2.2.2.1 h.2.2.2.2.2⟩]
 modes:=[(138,[false,false]),(139,[false]),(140,[false])]
 keep:=[(0,⟨[1,3,4],[64],[⟨1000000,9,.str,[.slot 3],false⟩],[]⟩)]
 keepX:=[(0,.ret,⟨[2],[],[],[]⟩),
  (0,.exit 0,⟨[],[],[],[]⟩)]
 ro:=[false]
theorem js8:Con.OK Tryz.prog jfM:=
 cOf j0a j03 jty jfM Tryz.func85 (j9 jfJ (j9 jlQ (j9 joy trivial))) (j9 (fun h=>by kernel_rfl) trivial)
def jaI:Con:=⟨141,[.v iT,.v iT,.v iT],[iT,iT,iT],⟨[.v .bool],[]⟩,[.bool],fun h=>Pw.j8N h.1 h.2.1 h.2.2⟩
def jzx:FnD where
 N:=15
 np:=3
 cs:=[]
 ds:=[]
 ro:=[false]
theorem jhp:Con.OK Tryz.prog jaI:=
 cOf j0a j03 jzx jaI Tryz.func141 trivial trivial
def j9T:Con:=⟨142,[.v ty12],[ty12],⟨[.v iT],[]⟩,[iT],fun h=>Pw.jeT h⟩
def jtz:FnD where
 N:=56
 np:=1
 cs:=[]
 ds:=[⟨0,[.s (.one (.d ty12)),sI],[ty12,iT],[⟨.ret,[sI],[iT]⟩,⟨.exit 0,[],[]⟩],fun h=>Pw.j6g h.1 h.2⟩]
 keep:=[(0,⟨[0,3],[],[],[]⟩)]
 keepX:=[(0,.ret,⟨[2],[],[],[]⟩),
  (0,.exit 0,⟨[],[],[],[]⟩)]
 ro:=[false]
theorem jhq:Con.OK Tryz.prog j9T:=
 cOf j0a j03 jtz j9T Tryz.func142 trivial (j9 (fun h=>by kernel_rfl) trivial)
def jfN:Con:=⟨143,[.v iT],[iT],⟨[.v .bool],[]⟩,[.bool],fun h=>Pw.jjZ h⟩
def jtA:FnD where
 N:=10
 np:=1
 cs:=[jaI]
 ds:=[]
 modes:=[(141,[false,false,false])]
 ro:=[false]
theorem js9:Con.OK Tryz.prog jfN:=
 cOf j0a j03 jtA jfN Tryz.func143 (j9 jhp trivial) trivial
def jen:Con:=⟨86,[.v ty79],[ty79],⟨[.v iT],[]⟩,[iT],fun h=>Pw.jl9 h⟩
def jsa:FnD where
 N:=58
 np:=1
 cs:=[j9n,jaI,j9T,jfN]
 ds:=[⟨0,[.s (.one (.bp 64 0)),.s (.one (.ol 1000000)),sI,.b (.cell [.d ty61,.d ty51,.d ty26,.d ty73] false),.b (.lst 9 .str false)],[iT,ty61,ty51,ty26,ty73,(.list .str)],[⟨.ret,[sI],[iT]⟩,⟨.exit 0,[],[]⟩],fun h=>Pw.j5w h.1 h.2.1 h.2.2.1 h.2.2.2.1 h.2.2.2.2.1 h.2.2.2.2.2⟩]
 modes:=[(138,[false,false]),(141,[false,false,false]),(142,[false]),(143,[false])]
 keep:=[(0,⟨[1,3,4],[64],[⟨1000000,9,.str,[.slot 3],false⟩],[]⟩)]
 keepX:=[(0,.ret,⟨[2],[],[],[]⟩),
  (0,.exit 0,⟨[],[],[],[]⟩)]
 ro:=[false]
theorem jqr:Con.OK Tryz.prog jen:=
 cOf j0a j03 jsa jen Tryz.func86 (j9 jfJ (j9 jhp (j9 jhq (j9 js9 trivial)))) (j9 (fun h=>by kernel_rfl) trivial)
def j8S:Con:=⟨144,[],[],⟨[.v iT],[]⟩,[iT],fun h=>Pw.jcs⟩
def jsb:FnD where
 N:=3
 np:=0
 cs:=[je0]
 ds:=[]
 modes:=[(179,[false])]
 ro:=[false]
theorem jfO:Con.OK Tryz.prog j8S:=
 cOf j0a j03 jsb j8S Tryz.func144 (j9 jnC trivial) trivial
def jaJ:Con:=⟨87,[.v ty79],[ty79],⟨[.v iT],[]⟩,[iT],fun h=>Pw.jfr h⟩
def jnD:FnD where
 N:=78
 np:=1
 cs:=[j9n,jaI,j8S]
 ds:=[⟨0,[.s (.one (.bp 64 0)),.s (.one (.ol 1000000)),sI,.b (.cell [.d ty61,.d ty51,.d ty26,.d ty73] false),.b (.lst 9 .str false)],[iT,ty61,ty51,ty26,ty73,(.list .str)],[⟨.ret,[sI],[iT]⟩,⟨.exit 0,[],[]⟩],fun h=>Pw.j47 h.1 h.2.1 h.2.2.1 h.2.2.2.1 h.2.2.2.2.1 h.2.2.2.2.2⟩,
  ⟨2,[.s (.one (.bp 64 0)),.s (.one (.ol 1002000)),sI,.s (.one (.bp 320 0)),sI,.b (.cell [.d ty61,.d ty51,.d ty26,.d ty73] false),.b (.cell [.d .str,.d iT,.d (.list iT)] false),.b (.lst 9 .str false)],[iT,iT,ty61,ty51,ty26,ty73,.str,iT,(.list iT),(.list .str)],[⟨.ret,[sI],[iT]⟩,⟨.exit 2,[.s (.one (.bp 64 0)),.s (.one (.ol 1502300)),sI,.s (.one (.bp 320 0)),.b (.cell [.d ty61,.d ty51,.d ty26,.d ty73] false),.b (.cell [.d .str,.d iT,.d (.list iT)] false),.b (.lst 9 .str false)],[iT,ty61,ty51,ty26,ty73,.str,iT,(.list iT),(.list .str)]⟩],fun h=>Pw.j46 h.1 h.2.1 h.2.2.1 h.2.2.2.1 h.2.2.2.2.1 h.2.2.2.2.2.1 h.2.2.2.2.2.2.1 h.2.2.2.2.2.2.2.1 h.2.2.2.2.2.2.2.2.1 h.2.2.2.2.2.2.2.2.2⟩,
  ⟨4,[.s (.one (.bp 64 0)),.s (.one (.ol 1004000)),sI,.s (.one (.bp 320 0)),sI,.b (.cell [.d ty61,.d ty51,.d ty26,.d ty73] false),.b (.cell [.d .str,.d iT,.d (.list iT)] false),.b (.lst 9 .str false)],[iT,iT,ty61,ty51,ty26,ty73,.str,iT,(.list iT),(.list .str)],[⟨.ret,[sI],[iT]⟩,⟨.exit 4,[.s (.one (.bp 64 0)),.s (.one (.ol 1504500)),sI,.b (.cell [.d ty61,.d ty51,.d ty26,.d ty73] false),.b (.lst 9 .str false)],[iT,ty61,ty51,ty26,ty73,(.list .str)]⟩],fun h=>Pw.j5x h.1 h.2.1 h.2.2.1 h.2.2.2.1 h.2.2.2.2.1 h.2.2.2.2.2.1 h.2.2.2.2.2.2.1 h.2.2.2.2.2.2.2.1 h.2.2.2.2.2.2.2.2.1 h.2.2.2.2.2.2.2.2.2⟩]
 modes:=[(138,[false,false]),(141,[false,false,false]),(144,[])]
 keep:=[(0,⟨[1,3,4],[64],[⟨1000000,9,.str,[.slot 3],false⟩],[]⟩),
  (2,⟨[1,3,4,5,7],[64,320],[⟨1002000,9,.str,[.slot 3],false⟩],[]⟩),
  (4,⟨[1,3,4,5,8],[64,320],[⟨1004000,9,.str,[.slot 3],false⟩],[]⟩)]
 keepX:=[(0,.ret,⟨[2],[],[],[]⟩),
  (0,.exit 0,⟨[],[],[],[]⟩),
  (2,.ret,⟨[2],[],[],[]⟩),
  (2,.exit 2,⟨[1,3,4,5],[64,320],[⟨1502300,9,.str,[.slot 3],false⟩],[]⟩),
  (4,.ret,⟨[2],[],[],[]⟩),
  (4,.exit 4,⟨[1,3,4],[64],[⟨1504500,9,.str,[.slot 3],false⟩],[]⟩)]
 ro:=[false]
theorem jmb:Con.OK Tryz.prog jaJ:=
 cOf j0a j03 jnD jaJ Tryz.func87 (j9 jfJ (j9 jhp (j9 jfO trivial))) (j9 (fun h=>by kernel_rfl) (j9 (fun h=>by kernel_rfl) (j9 (fun h=>by kernel_rfl) trivial)))
def jfP:Con:=⟨145,[.v ty79,.v ty67],[ty79,ty67],⟨[.v iT],[]⟩,[iT],fun h=>Pw.jh3 h.1 h.2⟩
def jtB:FnD where
 N:=102
 np:=2
 cs:=[jaI,j9T,j8S]
 ds:=[⟨1,[.s (.one (.bp 128 0)),.s (.one (.bp 192 0)),sI,.b (.cell [.d ty61,.d ty51,.d ty26,.d ty73] false),.b (.cell [.d .str,.d iT,.d iT,.d iT,.d iT,.d iT,.d (.list iT),.d ty12,.d iT,.d iT] false)],[iT,ty61,ty51,ty26,ty73,.str,iT,iT,iT,iT,iT,(.list iT),ty12,iT,iT],[⟨.ret,[sI],[iT]⟩,⟨.exit 1,[.s (.one (.bp 128 0)),.s (.one (.bp 192 0)),.b (.cell [.d ty61,.d ty51,.d ty26,.d ty73] false),.b (.cell [.d .str,.d iT,.d iT,.d iT,.d iT,.d iT,.d (.list iT),.d ty12,.d iT,.d iT] false)],[ty61,ty51,ty26,ty73,.str,iT,iT,iT,iT,iT,(.list iT),ty12,iT,iT]⟩],fun h=>Pw.j6h h.1 h.2.1 h.2.2.1 h.2.2.2.1 h.2.2.2.2.1 h.2.2.2.2.2.1 h.2.2.2.2.2.2.1 h.2.2.2.2.2.2.2.1 h.2.2.2.2.2.2.2.2.1 h.2.2.2.2.2.2.2.2.2.1 h.2.2.2.2.2.2.2.2.2.2.1 h.2.2.2.2.2.2.2.2.2.2.2.1 h.2.2.2.2.2.2.2.2.2.2.2.2.1 h.2.2.2.2.2.2.2.2.2.2.2.2.2.1 h.2.2.2.2.2.2.2.2.2.2.2.2.2.2⟩]
 modes:=[(141,[false,false,false]),(142,[false]),(144,[])]
 keep:=[(1,⟨[2,3,5],[128,192],[],[]⟩)]
 keepX:=[(1,.ret,⟨[4],[],[],[]⟩),
  (1,.exit 1,⟨[2,3],[128,192],[],[]⟩)]
 ro:=[false]
theorem jsc:Con.OK Tryz.prog jfP:=
 cOf j0a j03 jtB jfP Tryz.func145 (j9 jhp (j9 jhq (j9 jfO trivial))) (j9 (fun h=>by kernel_rfl) trivial)
def jhr:Con:=⟨146,[.v ty79,.v ty37],[ty79,ty37],⟨[.v iT],[]⟩,[iT],fun h=>Pw.jk0 h.1 h.2⟩
def jvU:FnD where
 N:=86
 np:=2
 cs:=[jaI,j8S]
 ds:=[]
 modes:=[(141,[false,false,false]),(144,[])]
 ro:=[false]
theorem jtC:Con.OK Tryz.prog jhr:=
 cOf j0a j03 jvU jhr Tryz.func146 (j9 jhp (j9 jfO trivial)) trivial
def jaK:Con:=⟨88,[.v ty79],[ty79],⟨[.v iT],[]⟩,[iT],fun h=>Pw.jfs h⟩
def jnE:FnD where
 N:=95
 np:=1
 cs:=[j9n,jfP,jhr]
 ds:=[⟨0,[.s (.one (.bp 64 0)),.s (.one (.ol 1000000)),sI,.b (.cell [.d ty61,.d ty51,.d ty26,.d ty73] false),.b (.lst 9 .str false)],[iT,ty61,ty51,ty26,ty73,(.list .str)],[⟨.ret,[sI],[iT]⟩,⟨.exit 0,[],[]⟩],fun h=>Pw.j4a h.1 h.2.1 h.2.2.1 h.2.2.2.1 h.2.2.2.2.1 h.2.2.2.2.2⟩,
  ⟨2,[.s (.one (.bp 64 0)),.s (.one (.ol 1002000)),sI,.s (.one (.bp 320 0)),.s (.one (.ol 1002001)),sI,.b (.cell [.d ty61,.d ty51,.d ty26,.d ty73] false),.b (.cell [.d .str,.d ty68,.d ty39] false),.b (.lst 9 .str false),.b (.lst 9 .str false)],[iT,iT,ty61,ty51,ty26,ty73,.str,ty68,ty39,(.list .str),(.list .str)],[⟨.ret,[sI],[iT]⟩,⟨.exit 2,[.s (.one (.bp 64 0)),.s (.one (.ol 1502300)),sI,.s (.one (.bp 320 0)),.b (.cell [.d ty61,.d ty51,.d ty26,.d ty73] false),.b (.cell [.d .str,.d ty68,.d ty39] false),.b (.lst 9 .str false)],[iT,ty61,ty51,ty26,ty73,.str,ty68,ty39,(.list .str)]⟩],fun h=>Pw.j48 h.1 h.2.1 h.2.2.1 h.2.2.2.1 h.2.2.2.2.1 h.2.2.2.2.2.1 h.2.2.2.2.2.2.1 h.2.2.2.2.2.2.2.1 h.2.2.2.2.2.2.2.2.1 h.2.2.2.2.2.2.2.2.2.1 h.2.2.2.2.2.2.2.2.2.2⟩,
  ⟨4,[.s (.one (.bp 64 0)),.s (.one (.ol 1004000)),sI,.s (.one (.bp 320 0)),sI,.b (.cell [.d ty61,.d ty51,.d ty26,.d ty73] false),.b (.cell [.d .str,.d ty68,.d ty39] false),.b (.lst 9 .str false)],[iT,iT,ty61,ty51,ty26,ty73,.str,ty68,ty39,(.list .str)],[⟨.ret,[sI],[iT]⟩,⟨.exit 4,[.s (.one (.bp 64 0)),.s (.one (.ol 1504500)),sI,.b (.cell [.d ty61,.d ty51,.d ty26,.d ty73] false),.b (.lst 9 .str false)],[iT,ty61,ty51,ty26,ty73,(.list .str)]⟩],fun h=>Pw.j49 h.1 h.2.1 h.2.2.1 h.2.2.2.1 h.2.2.2.2.1 h.2.2.2.2.2.1 h.2.2.2.2.2.2.1 h.2.2.2.2.2.2.2.1 h.2.2.2.2.2.2.2.2.1 h.2.2.2.2.2.2.2.2.2⟩]
 modes:=[(138,[false,false]),(145,[false,false]),(146,[false,false])]
 keep:=[(0,⟨[1,3,4],[64],[⟨1000000,9,.str,[.slot 3],false⟩],[]⟩),
  (2,⟨[1,3,4,5,7,8],[64,320],[⟨1002000,9,.str,[.slot 3],false⟩,⟨1002001,9,.str,[.slot 7],false⟩],[]⟩),
  (4,⟨[1,3,4,5,11],[64,320],[⟨1004000,9,.str,[.slot 3],false⟩],[]⟩)]
 keepX:=[(0,.ret,⟨[2],[],[],[]⟩),
  (0,.exit 0,⟨[],[],[],[]⟩),
  (2,.ret,⟨[2],[],[],[]⟩),
  (2,.exit 2,⟨[1,3,4,5],[64,320],[⟨1502300,9,.str,[.slot 3],false⟩],[]⟩),
  (4,.ret,⟨[2],[],[],[]⟩),
  (4,.exit 4,⟨[1,3,4],[64],[⟨1504500,9,.str,[.slot 3],false⟩],[]⟩)]
 ro:=[false]
theorem jmc:Con.OK Tryz.prog jaK:=
 cOf j0a j03 jnE jaK Tryz.func88 (j9 jfJ (j9 jsc (j9 jtC trivial))) (j9 (fun h=>by kernel_rfl) (j9 (fun h=>by kernel_rfl) (j9 (fun h=>by kernel_rfl) trivial)))
def jfQ:Con:=⟨45,[.v ty79],[ty79],⟨[.v iT],[]⟩,[iT],fun h=>Pw.jk1 h⟩
def jtD:FnD where
 N:=45
 np:=1
 cs:=[jfM,jen,jaJ,jaK]
 ds:=[]
 modes:=[(85,[false]),(86,[false]),(87,[false]),(88,[false])]
 ro:=[false]
theorem jsd:Con.OK Tryz.prog jfQ:=
 cOf j0a j03 jtD jfQ Tryz.func45 (j9 js8 (j9 jqr (j9 jmb (j9 jmc trivial)))) trivial
def jlq:Con:=⟨95,[.v ty79,.v iT,.v iT],[ty79,iT,iT],⟨[.v .bool],[]⟩,[.bool],fun h=>Pw.jxy h.1 h.2.1 h.2.2⟩
def jzy:FnD where
 N:=29
 np:=3
 cs:=[jfQ]
 ds:=[]
 modes:=[(45,[false])]
 ro:=[false]
theorem jxE:Con.OK Tryz.prog jlq:=
 cOf j0a j03 jzy jlq Tryz.func95 (j9 jsd trivial) trivial
def jfR:Con:=⟨91,[.v ty60,.v ty67],[ty60,ty67],⟨[.v iT],[]⟩,[iT],fun h=>Pw.jh4 h.1 h.2⟩
def jtE:FnD where
 N:=58
 np:=2
 cs:=[jch]
 ds:=[]
 modes:=[(139,[false])]
 ro:=[false]
theorem jse:Con.OK Tryz.prog jfR:=
 cOf j0a j03 jtE jfR Tryz.func91 (j9 jlQ trivial) trivial
def jfS:Con:=⟨94,[.v iT],[iT],⟨[.v .bool],[]⟩,[.bool],fun h=>Pw.jh5 h⟩
def jtF:FnD where
 N:=5
 np:=1
 cs:=[jaH]
 ds:=[]
 modes:=[(93,[false,false,false])]
 ro:=[false]
theorem jsf:Con.OK Tryz.prog jfS:=
 cOf j0a j03 jtF jfS Tryz.func94 (j9 jhn trivial) trivial
def jci:Con:=⟨48,[.v ty60,.v ty8],[ty60,ty8],⟨[.v iT,.v iT],[]⟩,[iT,iT],fun h=>Pw.j5z h.1 h.2⟩
def jtG:FnD where
 N:=76
 np:=2
 cs:=[jaH,j55,jfS]
 ds:=[⟨0,[.s (.one (.bp 128 0)),.s (.one (.bp 192 0)),.s (.one (.ol 1000000)),sI,.b (.cell [.d .str,.d iT,.d ty53] false),.b (.cell [.d iT,.d iT] false),.b (.lst 146 ty8 false)],[iT,.str,iT,ty53,iT,iT,ty12],[⟨.ret,[sI,sI],[iT,iT]⟩,⟨.exit 0,[],[]⟩],fun h=>Pw.j4T h.1 h.2.1 h.2.2.1 h.2.2.2.1 h.2.2.2.2.1 h.2.2.2.2.2.1 h.2.2.2.2.2.2⟩]
 modes:=[(89,[false]),(93,[false,false,false]),(94,[false])]
 keep:=[(0,⟨[2,3,6,8],[128,192],[⟨1000000,146,ty8,[.slot 6],false⟩],[]⟩)]
 keepX:=[(0,.ret,⟨[4,5],[],[],[]⟩),
  (0,.exit 0,⟨[],[],[],[]⟩)]
 ro:=[false,false]
theorem jlR:Con.OK Tryz.prog jci:=
 cOf j0a j03 jtG jci Tryz.func48 (j9 jhn (j9 j9S (j9 jsf trivial))) (j9 (fun h=>by kernel_rfl) trivial)
def jeo:Con:=⟨229,[.v ty60,.v ty12,.v iT],[ty60,ty12,iT],⟨[.v iT],[]⟩,[iT],fun h=>Pw.jhX h.1 h.2.1 h.2.2⟩
def jsg:FnD where
 N:=32
 np:=3
 cs:=[]
 ds:=[⟨0,[.s (.one (.d ty12)),sI,sI,sI],[ty12,iT,iT,iT],[⟨.exit 0,[sI],[iT]⟩],fun h=>Pw.j5A h.1 h.2.1 h.2.2.1 h.2.2.2⟩]
 keep:=[(0,⟨[1,2,7,8],[],[],[]⟩)]
 keepX:=[(0,.exit 0,⟨[7],[],[],[]⟩)]
 ro:=[false]
theorem jqs:Con.OK Tryz.prog jeo:=
 cOf j0a j03 jsg jeo Tryz.func229 trivial (j9 (fun h=>by kernel_rfl) trivial)
def jbR:Con:=⟨185,[.v ty60,.v iT],[ty60,iT],⟨[.v iT,.v iT],[]⟩,[iT,iT],fun h=>Pw.jbj h.1 h.2⟩
def joz:FnD where
 N:=22
 np:=2
 cs:=[jaH,j55,jeo]
 ds:=[]
 modes:=[(89,[false]),(93,[false,false,false]),(229,[false,false,false])]
 ro:=[false,false]
theorem jnF:Con.OK Tryz.prog jbR:=
 cOf j0a j03 joz jbR Tryz.func185 (j9 jhn (j9 j9S (j9 jqs trivial))) trivial
def jfT:Con:=⟨186,[.v iT,.v iT],[iT,iT],⟨[.v ty8],[]⟩,[ty8],fun h=>Pw.jk2 h.1 h.2⟩
def jtH:FnD where
 N:=16
 np:=2
 cs:=[]
 ds:=[]
 ro:=[false]
theorem jsh:Con.OK Tryz.prog jfT:=
 cOf j0a j03 jtH jfT Tryz.func186 trivial trivial
def j7Y:Con:=⟨154,[.v ty60,.v iT],[ty60,iT],⟨[.v ty8,.v iT],[]⟩,[ty8,iT],fun h=>Pw.j4p h.1 h.2⟩
def jqt:FnD where
 N:=21
 np:=2
 cs:=[jbR,jfT]
 ds:=[]
 modes:=[(185,[false,false]),(186,[false,false])]
 ro:=[false,false]
theorem jep:Con.OK Tryz.prog j7Y:=
 cOf j0a j03 jqt j7Y Tryz.func154 (j9 jnF (j9 jsh trivial)) trivial
def jbS:Con:=⟨92,[.v ty60,.v ty67,.v iT],[ty60,ty67,iT],⟨[.v iT,.v .bool],[]⟩,[iT,.bool],fun h=>Pw.jbk h.1 h.2.1 h.2.2⟩
def joA:FnD where
 N:=66
 np:=3
 cs:=[jci]
 ds:=[]
 modes:=[(48,[false,false])]
 ro:=[false,false]
theorem jnG:Con.OK Tryz.prog jbS:=
 cOf j0a j03 joA jbS Tryz.func92 (j9 jlR trivial) trivial
end Go.Proofs.Pk
