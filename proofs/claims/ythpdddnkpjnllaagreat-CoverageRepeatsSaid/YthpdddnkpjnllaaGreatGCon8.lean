/- Contracts: each given function is its plain function, printed by a program. -/
import Derived.Test.YthpdddnkpjnllaaGreatGCon7
noncomputable section
open Go Go.Lft
set_option linter.unusedVariables false
set_option maxRecDepth 100000
namespace Go.Proofs.Pk
def jeX:Con:=⟨85,[.v ty79],[ty79],⟨[.v iT],[]⟩,[iT],fun h=>Pw.jml h⟩
def jsm:FnD where
 N:=44
 np:=1
 cs:=[j8f,jbj,jcv]
 ds:=[⟨0,[.s (.one (.bp 64 0)),.s (.one (.ol 1000000)),sI,.b (.cell [.d ty61,.d ty51,.d ty26,.d ty73] false),.b (.lst 9 .str false)],[iT,ty61,ty51,ty26,ty73,(.list .str)],[⟨.ret,[sI],[iT]⟩,⟨.exit 0,[],[]⟩],fun h=>Pw.j5b h.1 h.2.1 h.2.2.1 h.2.2.2.1 h.2.2.2.2.1 h.2.2.2.2.2⟩]
 modes:=[(138,[false,false]),(139,[false]),(140,[false])]
 keep:=[(0,⟨[1,3,4],[64],[⟨1000000,9,.str,[.slot 3],false⟩],[]⟩)]
 keepX:=[(0,.ret,⟨[2],[],[],[]⟩),
  (0,.exit 0,⟨[],[],[],[]⟩)]
 ro:=[false]
theorem jqX:Con.OK Tryz.prog jeX:=
 cOf j07 j02 jsm jeX Tryz.func85 (j9 jeU (j9 jkU (j9 jnB trivial))) (j9 (fun h=>by kernel_rfl) trivial)
def j9H:Con:=⟨141,[.v iT,.v iT,.v iT],[iT,iT,iT],⟨[.v .bool],[]⟩,[.bool],fun h=>Pw.j7A h.1 h.2.1 h.2.2⟩
def jxw:FnD where
 N:=15
 np:=3
 cs:=[]
 ds:=[]
 ro:=[false]
theorem jgz:Con.OK Tryz.prog j9H:=
 cOf j07 j02 jxw j9H Tryz.func141 trivial trivial
def j8Q:Con:=⟨142,[.v ty12],[ty12],⟨[.v iT],[]⟩,[iT],fun h=>Pw.je4 h⟩
def jsn:FnD where
 N:=56
 np:=1
 cs:=[]
 ds:=[⟨0,[.s (.one (.d ty12)),sI],[ty12,iT],[⟨.ret,[sI],[iT]⟩,⟨.exit 0,[],[]⟩],fun h=>Pw.j5c h.1 h.2⟩]
 keep:=[(0,⟨[0,3],[],[],[]⟩)]
 keepX:=[(0,.ret,⟨[2],[],[],[]⟩),
  (0,.exit 0,⟨[],[],[],[]⟩)]
 ro:=[false]
theorem jgA:Con.OK Tryz.prog j8Q:=
 cOf j07 j02 jsn j8Q Tryz.func142 trivial (j9 (fun h=>by kernel_rfl) trivial)
def jeY:Con:=⟨143,[.v iT],[iT],⟨[.v .bool],[]⟩,[.bool],fun h=>Pw.jja h⟩
def jso:FnD where
 N:=10
 np:=1
 cs:=[j9H]
 ds:=[]
 modes:=[(141,[false,false,false])]
 ro:=[false]
theorem jqY:Con.OK Tryz.prog jeY:=
 cOf j07 j02 jso jeY Tryz.func143 (j9 jgz trivial) trivial
def jdx:Con:=⟨86,[.v ty79],[ty79],⟨[.v iT],[]⟩,[iT],fun h=>Pw.jkh h⟩
def jqZ:FnD where
 N:=58
 np:=1
 cs:=[j8f,j9H,j8Q,jeY]
 ds:=[⟨0,[.s (.one (.bp 64 0)),.s (.one (.ol 1000000)),sI,.b (.cell [.d ty61,.d ty51,.d ty26,.d ty73] false),.b (.lst 9 .str false)],[iT,ty61,ty51,ty26,ty73,(.list .str)],[⟨.ret,[sI],[iT]⟩,⟨.exit 0,[],[]⟩],fun h=>Pw.j4B h.1 h.2.1 h.2.2.1 h.2.2.2.1 h.2.2.2.2.1 h.2.2.2.2.2⟩]
 modes:=[(138,[false,false]),(141,[false,false,false]),(142,[false]),(143,[false])]
 keep:=[(0,⟨[1,3,4],[64],[⟨1000000,9,.str,[.slot 3],false⟩],[]⟩)]
 keepX:=[(0,.ret,⟨[2],[],[],[]⟩),
  (0,.exit 0,⟨[],[],[],[]⟩)]
 ro:=[false]
theorem jpo:Con.OK Tryz.prog jdx:=
 cOf j07 j02 jqZ jdx Tryz.func86 (j9 jeU (j9 jgz (j9 jgA (j9 jqY trivial)))) (j9 (fun h=>by kernel_rfl) trivial)
def j7F:Con:=⟨144,[],[],⟨[.v iT],[]⟩,[iT],fun h=>Pw.jbu⟩
def jr0:FnD where
 N:=3
 np:=0
 cs:=[jd7]
 ds:=[]
 modes:=[(179,[false])]
 ro:=[false]
theorem jeZ:Con.OK Tryz.prog j7F:=
 cOf j07 j02 jr0 j7F Tryz.func144 (j9 jmH trivial) trivial
def j9I:Con:=⟨87,[.v ty79],[ty79],⟨[.v iT],[]⟩,[iT],fun h=>Pw.jeD h⟩
def jmI:FnD where
 N:=78
 np:=1
 cs:=[j8f,j9H,j7F]
 ds:=[⟨0,[.s (.one (.bp 64 0)),.s (.one (.ol 1000000)),sI,.b (.cell [.d ty61,.d ty51,.d ty26,.d ty73] false),.b (.lst 9 .str false)],[iT,ty61,ty51,ty26,ty73,(.list .str)],[⟨.ret,[sI],[iT]⟩,⟨.exit 0,[],[]⟩],fun h=>Pw.j3h h.1 h.2.1 h.2.2.1 h.2.2.2.1 h.2.2.2.2.1 h.2.2.2.2.2⟩,
  ⟨2,[.s (.one (.bp 64 0)),.s (.one (.ol 1002000)),sI,.s (.one (.bp 320 0)),sI,.b (.cell [.d ty61,.d ty51,.d ty26,.d ty73] false),.b (.cell [.d .str,.d iT,.d (.list iT)] false),.b (.lst 9 .str false)],[iT,iT,ty61,ty51,ty26,ty73,.str,iT,(.list iT),(.list .str)],[⟨.ret,[sI],[iT]⟩,⟨.exit 2,[.s (.one (.bp 64 0)),.s (.one (.ol 1502300)),sI,.s (.one (.bp 320 0)),.b (.cell [.d ty61,.d ty51,.d ty26,.d ty73] false),.b (.cell [.d .str,.d iT,.d (.list iT)] false),.b (.lst 9 .str false)],[iT,ty61,ty51,ty26,ty73,.str,iT,(.list iT),(.list .str)]⟩],fun h=>Pw.j3g h.1 h.2.1 h.2.2.1 h.2.2.2.1 h.2.2.2.2.1 h.2.2.2.2.2.1 h.2.2.2.2.2.2.1 h.2.2.2.2.2.2.2.1 h.2.2.2.2.2.2.2.2.1 h.2.2.2.2.2.2.2.2.2⟩,
  ⟨4,[.s (.one (.bp 64 0)),.s (.one (.ol 1004000)),sI,.s (.one (.bp 320 0)),sI,.b (.cell [.d ty61,.d ty51,.d ty26,.d ty73] false),.b (.cell [.d .str,.d iT,.d (.list iT)] false),.b (.lst 9 .str false)],[iT,iT,ty61,ty51,ty26,ty73,.str,iT,(.list iT),(.list .str)],[⟨.ret,[sI],[iT]⟩,⟨.exit 4,[.s (.one (.bp 64 0)),.s (.one (.ol 1504500)),sI,.b (.cell [.d ty61,.d ty51,.d ty26,.d ty73] false),.b (.lst 9 .str false)],[iT,ty61,ty51,ty26,ty73,(.list .str)]⟩],fun h=>Pw.j4C h.1 h.2.1 h.2.2.1 h.2.2.2.1 h.2.2.2.2.1 h.2.2.2.2.2.1 h.2.2.2.2.2.2.1 h.2.2.2.2.2.2.2.1 h.2.2.2.2.2.2.2.2.1 h.2.2.2.2.2.2.2.2.2⟩]
 modes:=[(138,[false,false]),(141,[false,false,false]),(144,[])]
 keep:=[(0,⟨[1,3,4],[64],[⟨1000000,9,.str,[.slot 3],false⟩],[]⟩),
  (2,⟨[1,3,4,5,7],[64,320],[⟨1002000,9,.str,[.slot 3],false⟩],[]⟩),
  (4,⟨[1,3,4,5,8],[64,320],[⟨1004000,9,.str,[.slot 3],false⟩],[]⟩)]
 keepX:=[(0,.ret,⟨[2],[],[],[]⟩),
  (0,.exit 0,⟨[],[],[],[]⟩),
  (2,.ret,⟨[2],[],[],[]⟩),
  (2,.exit 2,⟨[1,3,4,5],[64,320],[⟨1502300,9,.str,[.slot 3],false⟩],[]⟩),
  (4,.ret,⟨[2],[],[],[]⟩),
  (4,.exit 4,⟨[1,3,4],[64],[⟨1504500,9,.str,[.slot 3],false⟩],[]⟩)]
 ro:=[false]
theorem jlf:Con.OK Tryz.prog j9I:=
 cOf j07 j02 jmI j9I Tryz.func87 (j9 jeU (j9 jgz (j9 jeZ trivial))) (j9 (fun h=>by kernel_rfl) (j9 (fun h=>by kernel_rfl) (j9 (fun h=>by kernel_rfl) trivial)))
def jf0:Con:=⟨145,[.v ty79,.v ty67],[ty79,ty67],⟨[.v iT],[]⟩,[iT],fun h=>Pw.jgd h.1 h.2⟩
def jsp:FnD where
 N:=102
 np:=2
 cs:=[j9H,j8Q,j7F]
 ds:=[⟨1,[.s (.one (.bp 128 0)),.s (.one (.bp 192 0)),sI,.b (.cell [.d ty61,.d ty51,.d ty26,.d ty73] false),.b (.cell [.d .str,.d iT,.d iT,.d iT,.d iT,.d iT,.d (.list iT),.d ty12,.d iT,.d iT] false)],[iT,ty61,ty51,ty26,ty73,.str,iT,iT,iT,iT,iT,(.list iT),ty12,iT,iT],[⟨.ret,[sI],[iT]⟩,⟨.exit 1,[.s (.one (.bp 128 0)),.s (.one (.bp 192 0)),.b (.cell [.d ty61,.d ty51,.d ty26,.d ty73] false),.b (.cell [.d .str,.d iT,.d iT,.d iT,.d iT,.d iT,.d (.list iT),.d ty12,.d iT,.d iT] false)],[ty61,ty51,ty26,ty73,.str,iT,iT,iT,iT,iT,(.list iT),ty12,iT,iT]⟩],fun h=>Pw.j5d h.1 h.2.1 h.2.2.1 h.2.2.2.1 h.2.2.2.2.1 h.2.2.2.2.2.1 h.2.2.2.2.2.2.1 h.2.2.2.2.2.2.2.1 h.2.2.2.2.2.2.2.2.1 h.2.2.2.2.2.2.2.2.2.1 h.2.2.2.2.2.2.2.2.2.2.1 h.2.2.2.2.2.2.2.2.2.2.2.1 h.2.2.2.2.2.2.2.2.2.2.2.2.1 h.2.2.2.2.2.2.2.2.2.2.2.2.2.1 h.2.2.2.2.2.2.2.2.2.2.2.2.2.2⟩]
 modes:=[(141,[false,false,false]),(142,[false]),(144,[])]
 keep:=[(1,⟨[2,3,5],[128,192],[],[]⟩)]
 keepX:=[(1,.ret,⟨[4],[],[],[]⟩),
  (1,.exit 1,⟨[2,3],[128,192],[],[]⟩)]
 ro:=[false]
theorem jr1:Con.OK Tryz.prog jf0:=
 cOf j07 j02 jsp jf0 Tryz.func145 (j9 jgz (j9 jgA (j9 jeZ trivial))) (j9 (fun h=>by kernel_rfl) trivial)
def jgB:Con:=⟨146,[.v ty79,.v ty37],[ty79,ty37],⟨[.v iT],[]⟩,[iT],fun h=>Pw.jjb h.1 h.2⟩
def juu:FnD where
 N:=86
 np:=2
 cs:=[j9H,j7F]
 ds:=[]
 modes:=[(141,[false,false,false]),(144,[])]
 ro:=[false]
theorem jsq:Con.OK Tryz.prog jgB:=
 cOf j07 j02 juu jgB Tryz.func146 (j9 jgz (j9 jeZ trivial)) trivial
def j9J:Con:=⟨88,[.v ty79],[ty79],⟨[.v iT],[]⟩,[iT],fun h=>Pw.jeE h⟩
def jmJ:FnD where
 N:=95
 np:=1
 cs:=[j8f,jf0,jgB]
 ds:=[⟨0,[.s (.one (.bp 64 0)),.s (.one (.ol 1000000)),sI,.b (.cell [.d ty61,.d ty51,.d ty26,.d ty73] false),.b (.lst 9 .str false)],[iT,ty61,ty51,ty26,ty73,(.list .str)],[⟨.ret,[sI],[iT]⟩,⟨.exit 0,[],[]⟩],fun h=>Pw.j3k h.1 h.2.1 h.2.2.1 h.2.2.2.1 h.2.2.2.2.1 h.2.2.2.2.2⟩,
  ⟨2,[.s (.one (.bp 64 0)),.s (.one (.ol 1002000)),sI,.s (.one (.bp 320 0)),.s (.one (.ol 1002001)),sI,.b (.cell [.d ty61,.d ty51,.d ty26,.d ty73] false),.b (.cell [.d .str,.d ty68,.d ty39] false),.b (.lst 9 .str false),.b (.lst 9 .str false)],[iT,iT,ty61,ty51,ty26,ty73,.str,ty68,ty39,(.list .str),(.list .str)],[⟨.ret,[sI],[iT]⟩,⟨.exit 2,[.s (.one (.bp 64 0)),.s (.one (.ol 1502300)),sI,.s (.one (.bp 320 0)),.b (.cell [.d ty61,.d ty51,.d ty26,.d ty73] false),.b (.cell [.d .str,.d ty68,.d ty39] false),.b (.lst 9 .str false)],[iT,ty61,ty51,ty26,ty73,.str,ty68,ty39,(.list .str)]⟩],fun h=>Pw.j3i h.1 h.2.1 h.2.2.1 h.2.2.2.1 h.2.2.2.2.1 h.2.2.2.2.2.1 h.2.2.2.2.2.2.1 h.2.2.2.2.2.2.2.1 h.2.2.2.2.2.2.2.2.1 h.2.2.2.2.2.2.2.2.2.1 h.2.2.2.2.2.2.2.2.2.2⟩,
  ⟨4,[.s (.one (.bp 64 0)),.s (.one (.ol 1004000)),sI,.s (.one (.bp 320 0)),sI,.b (.cell [.d ty61,.d ty51,.d ty26,.d ty73] false),.b (.cell [.d .str,.d ty68,.d ty39] false),.b (.lst 9 .str false)],[iT,iT,ty61,ty51,ty26,ty73,.str,ty68,ty39,(.list .str)],[⟨.ret,[sI],[iT]⟩,⟨.exit 4,[.s (.one (.bp 64 0)),.s (.one (.ol 1504500)),sI,.b (.cell [.d ty61,.d ty51,.d ty26,.d ty73] false),.b (.lst 9 .str false)],[iT,ty61,ty51,ty26,ty73,(.list .str)]⟩],fun h=>Pw.j3j h.1 h.2.1 h.2.2.1 h.2.2.2.1 h.2.2.2.2.1 h.2.2.2.2.2.1 h.2.2.2.2.2.2.1 h.2.2.2.2.2.2.2.1 h.2.2.2.2.2.2.2.2.1 h.2.2.2.2.2.2.2.2.2⟩]
 modes:=[(138,[false,false]),(145,[false,false]),(146,[false,false])]
 keep:=[(0,⟨[1,3,4],[64],[⟨1000000,9,.str,[.slot 3],false⟩],[]⟩),
  (2,⟨[1,3,4,5,7,8],[64,320],[⟨1002000,9,.str,[.slot 3],false⟩,⟨1002001,9,.str,[.slot 7],false⟩],[]⟩),
  (4,⟨[1,3,4,5,11],[64,320],[⟨1004000,9,.str,[.slot 3],false⟩],[]⟩)]
 keepX:=[(0,.ret,⟨[2],[],[],[]⟩),
  (0,.exit 0,⟨[],[],[],[]⟩),
  (2,.ret,⟨[2],[],[],[]⟩),
  (2,.exit 2,⟨[1,3,4,5],[64,320],[⟨1502300,9,.str,[.slot 3],false⟩],[]⟩),
  (4,.ret,⟨[2],[],[],[]⟩),
  (4,.exit 4,⟨[1,3,4],[64],[⟨1504500,9,.str,[.slot 3],false⟩],[]⟩)]
 ro:=[false]
theorem jlg:Con.OK Tryz.prog j9J:=
 cOf j07 j02 jmJ j9J Tryz.func88 (j9 jeU (j9 jr1 (j9 jsq trivial))) (j9 (fun h=>by kernel_rfl) (j9 (fun h=>by kernel_rfl) (j9 (fun h=>by kernel_rfl) trivial)))
def jf1:Con:=⟨45,[.v ty79],[ty79],⟨[.v iT],[]⟩,[iT],fun h=>Pw.jjc h⟩
def jsr:FnD where
 N:=45
 np:=1
 cs:=[jeX,jdx,j9I,j9J]
 ds:=[]
 modes:=[(85,[false]),(86,[false]),(87,[false]),(88,[false])]
 ro:=[false]
theorem jr2:Con.OK Tryz.prog jf1:=
 cOf j07 j02 jsr jf1 Tryz.func45 (j9 jqX (j9 jpo (j9 jlf (j9 jlg trivial)))) trivial
def jky:Con:=⟨95,[.v ty79,.v iT,.v iT],[ty79,iT,iT],⟨[.v .bool],[]⟩,[.bool],fun h=>Pw.jw3 h.1 h.2.1 h.2.2⟩
def jxx:FnD where
 N:=29
 np:=3
 cs:=[jf1]
 ds:=[]
 modes:=[(45,[false])]
 ro:=[false]
theorem jw9:Con.OK Tryz.prog jky:=
 cOf j07 j02 jxx jky Tryz.func95 (j9 jr2 trivial) trivial
def jf2:Con:=⟨91,[.v ty60,.v ty67],[ty60,ty67],⟨[.v iT],[]⟩,[iT],fun h=>Pw.jge h.1 h.2⟩
def jss:FnD where
 N:=58
 np:=2
 cs:=[jbj]
 ds:=[]
 modes:=[(139,[false])]
 ro:=[false]
theorem jr3:Con.OK Tryz.prog jf2:=
 cOf j07 j02 jss jf2 Tryz.func91 (j9 jkU trivial) trivial
def jf3:Con:=⟨94,[.v iT],[iT],⟨[.v .bool],[]⟩,[.bool],fun h=>Pw.jgf h⟩
def jst:FnD where
 N:=5
 np:=1
 cs:=[j9G]
 ds:=[]
 modes:=[(93,[false,false,false])]
 ro:=[false]
theorem jr4:Con.OK Tryz.prog jf3:=
 cOf j07 j02 jst jf3 Tryz.func94 (j9 jgx trivial) trivial
def jbk:Con:=⟨48,[.v ty60,.v ty8],[ty60,ty8],⟨[.v iT,.v iT],[]⟩,[iT,iT],fun h=>Pw.j4E h.1 h.2⟩
def jsu:FnD where
 N:=76
 np:=2
 cs:=[j9G,j49,jf3]
 ds:=[⟨0,[.s (.one (.bp 128 0)),.s (.one (.bp 192 0)),.s (.one (.ol 1000000)),sI,.b (.cell [.d .str,.d iT,.d ty53] false),.b (.cell [.d iT,.d iT] false),.b (.lst 146 ty8 false)],[iT,.str,iT,ty53,iT,iT,ty12],[⟨.ret,[sI,sI],[iT,iT]⟩,⟨.exit 0,[],[]⟩],fun h=>Pw.j3Z h.1 h.2.1 h.2.2.1 h.2.2.2.1 h.2.2.2.2.1 h.2.2.2.2.2.1 h.2.2.2.2.2.2⟩]
 modes:=[(89,[false]),(93,[false,false,false]),(94,[false])]
 keep:=[(0,⟨[2,3,6,8],[128,192],[⟨1000000,146,ty8,[.slot 6],false⟩],[]⟩)]
 keepX:=[(0,.ret,⟨[4,5],[],[],[]⟩),
  (0,.exit 0,⟨[],[],[],[]⟩)]
 ro:=[false,false]
theorem jkV:Con.OK Tryz.prog jbk:=
 cOf j07 j02 jsu jbk Tryz.func48 (j9 jgx (j9 j8P (j9 jr4 trivial))) (j9 (fun h=>by kernel_rfl) trivial)
def jdy:Con:=⟨229,[.v ty60,.v ty12,.v iT],[ty60,ty12,iT],⟨[.v iT],[]⟩,[iT],fun h=>Pw.jh7 h.1 h.2.1 h.2.2⟩
def jr5:FnD where
 N:=32
 np:=3
 cs:=[]
 ds:=[⟨0,[.s (.one (.d ty12)),sI,sI,sI],[ty12,iT,iT,iT],[⟨.exit 0,[sI],[iT]⟩],fun h=>Pw.j4F h.1 h.2.1 h.2.2.1 h.2.2.2⟩]
 keep:=[(0,⟨[1,2,7,8],[],[],[]⟩)]
 keepX:=[(0,.exit 0,⟨[7],[],[],[]⟩)]
 ro:=[false]
theorem jpp:Con.OK Tryz.prog jdy:=
 cOf j07 j02 jr5 jdy Tryz.func229 trivial (j9 (fun h=>by kernel_rfl) trivial)
def jaP:Con:=⟨185,[.v ty60,.v iT],[ty60,iT],⟨[.v iT,.v iT],[]⟩,[iT,iT],fun h=>Pw.jai h.1 h.2⟩
def jnC:FnD where
 N:=22
 np:=2
 cs:=[j9G,j49,jdy]
 ds:=[]
 modes:=[(89,[false]),(93,[false,false,false]),(229,[false,false,false])]
 ro:=[false,false]
theorem jmK:Con.OK Tryz.prog jaP:=
 cOf j07 j02 jnC jaP Tryz.func185 (j9 jgx (j9 j8P (j9 jpp trivial))) trivial
def jf4:Con:=⟨186,[.v iT,.v iT],[iT,iT],⟨[.v ty8],[]⟩,[ty8],fun h=>Pw.jjd h.1 h.2⟩
def jsv:FnD where
 N:=16
 np:=2
 cs:=[]
 ds:=[]
 ro:=[false]
theorem jr6:Con.OK Tryz.prog jf4:=
 cOf j07 j02 jsv jf4 Tryz.func186 trivial trivial
def j6M:Con:=⟨154,[.v ty60,.v iT],[ty60,iT],⟨[.v ty8,.v iT],[]⟩,[ty8,iT],fun h=>Pw.j3y h.1 h.2⟩
def jpq:FnD where
 N:=21
 np:=2
 cs:=[jaP,jf4]
 ds:=[]
 modes:=[(185,[false,false]),(186,[false,false])]
 ro:=[false,false]
theorem jdz:Con.OK Tryz.prog j6M:=
 cOf j07 j02 jpq j6M Tryz.func154 (j9 jmK (j9 jr6 trivial)) trivial
def jaQ:Con:=⟨92,[.v ty60,.v ty67,.v iT],[ty60,ty67,iT],⟨[.v iT,.v .bool],[]⟩,[iT,.bool],fun h=>Pw.jaj h.1 h.2.1 h.2.2⟩
def jnD:FnD where
 N:=66
 np:=3
 cs:=[jbk]
 ds:=[]
 modes:=[(48,[false,false])]
 ro:=[false,false]
theorem jmL:Con.OK Tryz.prog jaQ:=
 cOf j07 j02 jnD jaQ Tryz.func92 (j9 jkV trivial) trivial
end Go.Proofs.Pk
