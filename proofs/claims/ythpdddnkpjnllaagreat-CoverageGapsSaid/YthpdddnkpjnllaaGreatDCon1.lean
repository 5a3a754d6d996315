/- Contracts: each given function is its plain function, printed by a program. -/
import Derived.Test.YthpdddnkpjnllaaGreatDCon0
noncomputable section
open Go Go.Lft
set_option linter.unusedVariables false
set_option maxRecDepth 100000
namespace Go.Proofs.Pk
def j0Z:Con:=⟨246,[.rl 256 ty12,.clo 247 []],[ty12],⟨[],[.rl ty12]⟩,[ty12],fun h=>Pw.j0c h⟩
def j4j:FnD where
 N:=9
 np:=2
 cs:=[j2e]
 ds:=[]
 modes:=[(271,[true,false,false])]
theorem j46:Con.OK Tryz.prog j0Z:=
 cOf j0a j03 j4j j0Z Tryz.func246 (j9 j7J trivial) trivial
def j8d:Con:=⟨219,[.v ty60],[ty60],⟨[.own 256 ty12,.v iT],[]⟩,[ty12,iT],fun h=>Pw.j4e h⟩
def jk4:FnD where
 N:=86
 np:=1
 cs:=[jcQ,jfp,jfq,j0Z]
 ds:=[⟨0,[.s (.one (.bp 64 0)),sI,.s (.one (.d ty53)),sI,sI,.b (.cell [.d .str,.d iT,.d ty53] false)],[iT,ty53,iT,iT,.str,iT,ty53],[⟨.ret,[.s (.one (.nil)),sI],[iT]⟩,⟨.exit 0,[.s (.one (.bp 64 0)),sI,.b (.cell [.d .str,.d iT,.d ty53] false)],[iT,.str,iT,ty53]⟩],fun h=>Pw.j2Y h.1 h.2.1 h.2.2.1 h.2.2.2.1 h.2.2.2.2.1 h.2.2.2.2.2.1 h.2.2.2.2.2.2⟩,
  ⟨2,[.s (.one (.ol 1002000)),.s (.one (.d ty53)),sI,sI,.b (.lst 256 ty8 false)],[ty53,iT,iT,ty12],[⟨.exit 2,[.s (.one (.ol 1502300)),.b (.lst 256 ty8 false)],[ty12]⟩],fun h=>Pw.j19 h.1 h.2.1 h.2.2.1 h.2.2.2⟩,
  ⟨4,[.s (.one (.ol 1004000)),.s (.one (.bp 640 0)),sI,.s (.one (.d ty53)),sI,sI,.b (.cell [.d iT,.d iT,.d iT,.d iT,.d iT,.d iT,.d iT] false),.b (.lst 256 ty8 false)],[iT,ty53,iT,iT,iT,iT,iT,iT,iT,iT,iT,ty12],[⟨.exit 4,[.s (.one (.ol 1504500)),.s (.one (.d ty53)),sI,sI,.b (.lst 256 ty8 false)],[ty53,iT,iT,ty12]⟩],fun h=>Pw.j18 h.1 h.2.1 h.2.2.1 h.2.2.2.1 h.2.2.2.2.1 h.2.2.2.2.2.1 h.2.2.2.2.2.2.1 h.2.2.2.2.2.2.2.1 h.2.2.2.2.2.2.2.2.1 h.2.2.2.2.2.2.2.2.2.1 h.2.2.2.2.2.2.2.2.2.2.1 h.2.2.2.2.2.2.2.2.2.2.2⟩]
 modes:=[(220,[false,false,false]),(244,[false]),(245,[false,false,false,false]),(246,[true,false])]
 keep:=[(0,⟨[1,4,23,24,25],[64],[],[]⟩),
  (2,⟨[8,46,47,48],[],[⟨1002000,256,ty8,[.slot 8],false⟩],[]⟩),
  (4,⟨[8,10,11,46,47,48],[640],[⟨1004000,256,ty8,[.slot 8],false⟩],[]⟩)]
 keepX:=[(0,.ret,⟨[2,3],[],[],[]⟩),
  (0,.exit 0,⟨[1,4],[64],[],[]⟩),
  (2,.exit 2,⟨[8],[],[⟨1502300,256,ty8,[.slot 8],false⟩],[]⟩),
  (4,.exit 4,⟨[8,46,47,48],[],[⟨1504500,256,ty8,[.slot 8],false⟩],[]⟩)]
 ro:=[true,false]
theorem jiL:Con.OK Tryz.prog j8d:=
 cOf j0a j03 jk4 j8d Tryz.func219 (j9 jlb (j9 jrN (j9 jrQ (j9 j46 trivial)))) (j9 (fun h=>by kernel_rfl) (j9 (fun h=>by kernel_rfl) (j9 (fun h=>by kernel_rfl) trivial)))
def j5O:Con:=⟨170,[.v ty60],[ty60],⟨[.own 146 ty12,.v iT],[]⟩,[ty12,iT],fun h=>Pw.j2u h⟩
def jk5:FnD where
 N:=79
 np:=1
 cs:=[jcQ,j8d]
 ds:=[⟨0,[.s (.one (.ol 1000000)),sI,.s (.one (.ol 1000001)),sI,sI,.b (.lst 146 ty8 false),.b (.lst 256 ty8 false)],[iT,iT,iT,ty12,ty12],[⟨.ret,[.s (.one (.nil)),sI],[iT]⟩,⟨.exit 0,[.s (.one (.ol 1500100)),.b (.lst 146 ty8 false)],[ty12]⟩],fun h=>Pw.j2Z h.1 h.2.1 h.2.2.1 h.2.2.2.1 h.2.2.2.2⟩]
 modes:=[(219,[false]),(220,[false,false,false])]
 keep:=[(0,⟨[6,7,22,23,24],[],[⟨1000000,146,ty8,[.slot 6],false⟩,⟨1000001,256,ty8,[.slot 22],false⟩],[]⟩)]
 keepX:=[(0,.ret,⟨[2,3],[],[],[]⟩),
  (0,.exit 0,⟨[6],[],[⟨1500100,146,ty8,[.slot 6],false⟩],[]⟩)]
 ro:=[true,false]
theorem jcS:Con.OK Tryz.prog j5O:=
 cOf j0a j03 jk5 j5O Tryz.func170 (j9 jlb (j9 jiL trivial)) (j9 (fun h=>by kernel_rfl) trivial)
def je6:Con:=⟨123,[.v ty60],[ty60],⟨[.v iT],[]⟩,[iT],fun h=>Pw.j98 h⟩
def jrR:FnD where
 N:=11
 np:=1
 cs:=[j5O]
 ds:=[]
 modes:=[(170,[false])]
 ro:=[false]
theorem jqe:Con.OK Tryz.prog je6:=
 cOf j0a j03 jrR je6 Tryz.func123 (j9 jcS trivial) trivial
def j6c:Con:=⟨125,[.v ty50],[ty50],⟨[.v .bool],[]⟩,[.bool],fun h=>Pw.j8a h⟩
def jgf:FnD where
 N:=7
 np:=1
 cs:=[]
 ds:=[]
 ro:=[false]
theorem jfr:Con.OK Tryz.prog j6c:=
 cOf j0a j03 jgf j6c Tryz.func125 trivial trivial
def j1C:Con:=⟨171,[.v ty53,.clo 125 []],[ty53],⟨[.v iT],[]⟩,[iT],fun h=>Pw.j0w h⟩
def j6g:FnD where
 N:=19
 np:=2
 cs:=[j6c]
 ds:=[⟨0,[.s (.one (.d ty53)),.s (.one (.clo 125 [])),sI,sI],[ty53,iT,iT],[⟨.ret,[sI],[iT]⟩,⟨.exit 0,[],[]⟩],fun h=>Pw.j0t h.1 h.2.1 h.2.2⟩]
 modes:=[(125,[false])]
 keep:=[(0,⟨[0,1,7,8],[],[],[]⟩)]
 keepX:=[(0,.ret,⟨[4],[],[],[]⟩),
  (0,.exit 0,⟨[],[],[],[]⟩)]
 ro:=[false]
theorem j6d:Con.OK Tryz.prog j1C:=
 cOf j0a j03 j6g j1C Tryz.func171 (j9 jfr trivial) (j9 (fun h=>by kernel_rfl) trivial)
def j1l:Con:=⟨124,[.v ty53,.clo 125 []],[ty53],⟨[.v .bool],[]⟩,[.bool],fun h=>Pw.j0o h⟩
def j5B:FnD where
 N:=9
 np:=2
 cs:=[j1C]
 ds:=[]
 modes:=[(171,[false,false])]
 ro:=[false]
theorem j5s:Con.OK Tryz.prog j1l:=
 cOf j0a j03 j5B j1l Tryz.func124 (j9 j6d trivial) trivial
def j7K:Con:=⟨74,[.v ty60],[ty60],⟨[.v iT],[]⟩,[iT],fun h=>Pw.j30 h⟩
def jiM:FnD where
 N:=17
 np:=1
 cs:=[je6,j1l]
 ds:=[]
 modes:=[(123,[false]),(124,[false,false])]
 ro:=[false]
theorem jhX:Con.OK Tryz.prog j7K:=
 cOf j0a j03 jiM j7K Tryz.func74 (j9 jqe (j9 j5s trivial)) trivial
def j4X:Con:=⟨72,[.v ty61,.clo 73 [],.clo 74 []],[ty61],⟨[.v iT],[]⟩,[iT],fun h=>Pw.j2a h⟩
def jeQ:FnD where
 N:=34
 np:=3
 cs:=[j8c,j4i,j7K]
 ds:=[⟨0,[.s (.one (.clo 73 [])),.s (.one (.clo 74 [])),.s (.one (.ol 1000000)),.s (.one (.d ty61)),sI,sI,.b (.lst 4294967424 (.pair .str .bool) false)],[ty61,iT,iT,(.list (.pair .str .bool))],[⟨.ret,[sI],[iT]⟩,⟨.exit 0,[],[]⟩],fun h=>Pw.j0G h.1 h.2.1 h.2.2.1 h.2.2.2⟩]
 modes:=[(73,[false]),(74,[false]),(75,[false,true])]
 keep:=[(0,⟨[1,2,7,13,14,15],[],[⟨1000000,4294967424,(.pair .str .bool),[.slot 7],false⟩],[]⟩)]
 keepX:=[(0,.ret,⟨[6],[],[],[]⟩),
  (0,.exit 0,⟨[],[],[],[]⟩)]
 ro:=[false]
theorem je7:Con.OK Tryz.prog j4X:=
 cOf j0a j03 jeQ j4X Tryz.func72 (j9 jiK (j9 j7H (j9 jhX trivial))) (j9 (fun h=>by kernel_rfl) trivial)
def j3F:Con:=⟨127,[.v iT,.v iT],[iT,iT],⟨[.v .bool],[]⟩,[.bool],fun h=>Pw.j2v h.1 h.2⟩
def jnq:FnD where
 N:=12
 np:=2
 cs:=[]
 ds:=[]
 ro:=[false]
theorem j6W:Con.OK Tryz.prog j3F:=
 cOf j0a j03 jnq j3F Tryz.func127 trivial trivial
def jaG:Con:=⟨128,[.v ty12],[ty12],⟨[.v iT],[]⟩,[iT],fun h=>Pw.j99 h⟩
def jrS:FnD where
 N:=46
 np:=1
 cs:=[]
 ds:=[⟨0,[.s (.one (.d ty12)),.s (.one (.d ty12)),sI,sI],[ty12,ty12,iT,iT],[⟨.ret,[sI],[iT]⟩,⟨.exit 0,[],[]⟩],fun h=>Pw.j58 h.1 h.2.1 h.2.2.1 h.2.2.2⟩]
 keep:=[(0,⟨[0,8,9,10],[],[],[]⟩)]
 keepX:=[(0,.ret,⟨[2],[],[],[]⟩),
  (0,.exit 0,⟨[],[],[],[]⟩)]
 ro:=[false]
theorem jk6:Con.OK Tryz.prog jaG:=
 cOf j0a j03 jrS jaG Tryz.func128 trivial (j9 (fun h=>by kernel_rfl) trivial)
def j8D:Con:=⟨174,[.v iT,.v iT,.v iT],[iT,iT,iT],⟨[.v .bool],[]⟩,[.bool],fun h=>Pw.j7W h.1 h.2.1 h.2.2⟩
def jrT:FnD where
 N:=15
 np:=3
 cs:=[]
 ds:=[]
 ro:=[false]
theorem jfs:Con.OK Tryz.prog j8D:=
 cOf j0a j03 jrT j8D Tryz.func174 trivial trivial
def jam:Con:=⟨129,[.v iT],[iT],⟨[.v .bool],[]⟩,[.bool],fun h=>Pw.j59 h⟩
def jnr:FnD where
 N:=10
 np:=1
 cs:=[j8D]
 ds:=[]
 modes:=[(174,[false,false,false])]
 ro:=[false]
theorem jm2:Con.OK Tryz.prog jam:=
 cOf j0a j03 jnr jam Tryz.func129 (j9 jfs trivial) trivial
def j6v:Con:=⟨76,[.v ty79,.v ty48],[ty79,ty48],⟨[.v iT],[]⟩,[iT],fun h=>Pw.j1W h.1 h.2⟩
def jh4:FnD where
 N:=29
 np:=2
 cs:=[j3F,jaG,jam]
 ds:=[]
 modes:=[(127,[false,false]),(128,[false]),(129,[false])]
 ro:=[false]
theorem jgg:Con.OK Tryz.prog j6v:=
 cOf j0a j03 jh4 j6v Tryz.func76 (j9 j6W (j9 jk6 (j9 jm2 trivial))) trivial
def j8e:Con:=⟨78,[.v ty22],[ty22],⟨[.v .str],[]⟩,[.str],fun h=>Pw.jbp h⟩
def jk7:FnD where
 N:=5
 np:=1
 cs:=[]
 ds:=[]
 ro:=[false]
theorem jiN:Con.OK Tryz.prog j8e:=
 cOf j0a j03 jk7 j8e Tryz.func78 trivial trivial
def je8:Con:=⟨222,[.v iT],[iT],⟨[.v iT],[]⟩,[iT],fun h=>Pw.jeI h⟩
def jrU:FnD where
 N:=15
 np:=1
 cs:=[j9x,j7I]
 ds:=[⟨0,[sI,sI],[iT,iT],[⟨.exit 0,[sI],[iT]⟩],fun h=>Pw.jdJ h.1 h.2⟩]
 modes:=[(221,[false]),(248,[false,false])]
 keep:=[(0,⟨[0,3],[],[],[]⟩)]
 keepX:=[(0,.exit 0,⟨[3],[],[],[]⟩)]
 ro:=[false]
theorem jqf:Con.OK Tryz.prog je8:=
 cOf j0a j03 jrU je8 Tryz.func222 (j9 jik (j9 je5 trivial)) (j9 (fun h=>by kernel_rfl) trivial)
def jbt:Con:=⟨176,[.v iT],[iT],⟨[.v ty20,.v iT],[]⟩,[ty20,iT],fun h=>Pw.j5a h⟩
def joo:FnD where
 N:=45
 np:=1
 cs:=[j77,j7I,je8]
 ds:=[⟨0,[.s (.one (.bp 128 0)),.s (.one (.bp 256 0)),sI,.b (.cell [.d iT,.d iT,.d iT] false),.b (.cell [.d iT,.d iT,.d iT] false)],[iT,iT,iT,iT,iT,iT,iT],[⟨.exit 0,[.s (.one (.bp 128 0)),.s (.one (.bp 256 0)),sI,.b (.cell [.d iT,.d iT,.d iT] false),.b (.cell [.d iT,.d iT,.d iT] false)],[iT,iT,iT,iT,iT,iT,iT]⟩],fun h=>Pw.jbQ h.1 h.2.1 h.2.2.1 h.2.2.2.1 h.2.2.2.2.1 h.2.2.2.2.2.1 h.2.2.2.2.2.2⟩]
 modes:=[(221,[false]),(222,[false]),(223,[false,false])]
 keep:=[(0,⟨[2,4,5],[128,256],[],[]⟩)]
 keepX:=[(0,.exit 0,⟨[2,4,5],[128,256],[],[]⟩)]
 ro:=[false,false]
theorem jns:Con.OK Tryz.prog jbt:=
 cOf j0a j03 joo jbt Tryz.func176 (j9 jc2 (j9 je5 (j9 jqf trivial))) (j9 (fun h=>by kernel_rfl) trivial)
def j7L:Con:=⟨132,[.v iT],[iT],⟨[.v .bool],[]⟩,[.bool],fun h=>Pw.j0W h⟩
def jqg:FnD where
 N:=12
 np:=1
 cs:=[jbt]
 ds:=[]
 modes:=[(176,[false])]
 ro:=[false]
theorem je9:Con.OK Tryz.prog j7L:=
 cOf j0a j03 jqg j7L Tryz.func132 (j9 jns trivial) trivial
def j4w:Con:=⟨131,[.v iT],[iT],⟨[.v .bool],[]⟩,[.bool],fun h=>Pw.j2f h⟩
def jdu:FnD where
 N:=6
 np:=1
 cs:=[j7L]
 ds:=[]
 modes:=[(132,[false])]
 ro:=[false]
theorem jcT:Con.OK Tryz.prog j4w:=
 cOf j0a j03 jdu j4w Tryz.func131 (j9 je9 trivial) trivial
def j4x:Con:=⟨175,[.v (.list iT),.clo 131 []],[(.list iT)],⟨[.v iT],[]⟩,[iT],fun h=>Pw.j2g h⟩
def jdv:FnD where
 N:=19
 np:=2
 cs:=[j4w]
 ds:=[⟨0,[.s (.one (.d (.list iT))),.s (.one (.clo 131 [])),sI,sI],[(.list iT),iT,iT],[⟨.ret,[sI],[iT]⟩,⟨.exit 0,[],[]⟩],fun h=>Pw.j0y h.1 h.2.1 h.2.2⟩]
 modes:=[(131,[false])]
 keep:=[(0,⟨[0,1,7,8],[],[],[]⟩)]
 keepX:=[(0,.ret,⟨[4],[],[],[]⟩),
  (0,.exit 0,⟨[],[],[],[]⟩)]
 ro:=[false]
theorem jcU:Con.OK Tryz.prog j4x:=
 cOf j0a j03 jdv j4x Tryz.func175 (j9 jcT trivial) (j9 (fun h=>by kernel_rfl) trivial)
end Go.Proofs.Pk
