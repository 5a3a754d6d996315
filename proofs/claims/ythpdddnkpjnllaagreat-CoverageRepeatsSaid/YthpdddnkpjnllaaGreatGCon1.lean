/- Contracts: each given function is its plain function, printed by a program. -/
import Derived.Test.YthpdddnkpjnllaaGreatGCon0
noncomputable section
open Go Go.Lft
set_option linter.unusedVariables false
set_option maxRecDepth 100000
namespace Go.Proofs.Pk
def j0H:Con:=⟨246,[.rl 256 ty12,.clo 247 []],[ty12],⟨[],[.rl ty12]⟩,[ty12],fun h=>Pw.j09 h⟩
def j3B:FnD where
 N:=9
 np:=2
 cs:=[j1B]
 ds:=[]
 modes:=[(271,[true,false,false])]
theorem j3p:Con.OK Tryz.prog j0H:=
 cOf j07 j02 j3B j0H Tryz.func246 (j9 j6E trivial) trivial
def j7a:Con:=⟨219,[.v ty60],[ty60],⟨[.own 256 ty12,.v iT],[]⟩,[ty12,iT],fun h=>Pw.j3v h⟩
def jji:FnD where
 N:=86
 np:=1
 cs:=[jca,jeH,jeI,j0H]
 ds:=[⟨0,[.s (.one (.bp 64 0)),sI,.s (.one (.d ty53)),sI,sI,.b (.cell [.d .str,.d iT,.d ty53] false)],[iT,ty53,iT,iT,.str,iT,ty53],[⟨.ret,[.s (.one (.nil)),sI],[iT]⟩,⟨.exit 0,[.s (.one (.bp 64 0)),sI,.b (.cell [.d .str,.d iT,.d ty53] false)],[iT,.str,iT,ty53]⟩],fun h=>Pw.j2q h.1 h.2.1 h.2.2.1 h.2.2.2.1 h.2.2.2.2.1 h.2.2.2.2.2.1 h.2.2.2.2.2.2⟩,
  ⟨2,[.s (.one (.ol 1002000)),.s (.one (.d ty53)),sI,sI,.b (.lst 256 ty8 false)],[ty53,iT,iT,ty12],[⟨.exit 2,[.s (.one (.ol 1502300)),.b (.lst 256 ty8 false)],[ty12]⟩],fun h=>Pw.j0U h.1 h.2.1 h.2.2.1 h.2.2.2⟩,
  ⟨4,[.s (.one (.ol 1004000)),.s (.one (.bp 640 0)),sI,.s (.one (.d ty53)),sI,sI,.b (.cell [.d iT,.d iT,.d iT,.d iT,.d iT,.d iT,.d iT] false),.b (.lst 256 ty8 false)],[iT,ty53,iT,iT,iT,iT,iT,iT,iT,iT,iT,ty12],[⟨.exit 4,[.s (.one (.ol 1504500)),.s (.one (.d ty53)),sI,sI,.b (.lst 256 ty8 false)],[ty53,iT,iT,ty12]⟩],fun h=>Pw.j0T h.1 h.2.1 h.2.2.1 h.2.2.2.1 h.2.2.2.2.1 h.2.2.2.2.2.1 h.2.2.2.2.2.2.1 h.2.2.2.2.2.2.2.1 h.2.2.2.2.2.2.2.2.1 h.2.2.2.2.2.2.2.2.2.1 h.2.2.2.2.2.2.2.2.2.2.1 h.2.2.2.2.2.2.2.2.2.2.2⟩]
 modes:=[(220,[false,false,false]),(244,[false]),(245,[false,false,false,false]),(246,[true,false])]
 keep:=[(0,⟨[1,4,23,24,25],[64],[],[]⟩),
  (2,⟨[8,46,47,48],[],[⟨1002000,256,ty8,[.slot 8],false⟩],[]⟩),
  (4,⟨[8,10,11,46,47,48],[640],[⟨1004000,256,ty8,[.slot 8],false⟩],[]⟩)]
 keepX:=[(0,.ret,⟨[2,3],[],[],[]⟩),
  (0,.exit 0,⟨[1,4],[64],[],[]⟩),
  (2,.exit 2,⟨[8],[],[⟨1502300,256,ty8,[.slot 8],false⟩],[]⟩),
  (4,.exit 4,⟨[8,46,47,48],[],[⟨1504500,256,ty8,[.slot 8],false⟩],[]⟩)]
 ro:=[true,false]
theorem ji0:Con.OK Tryz.prog j7a:=
 cOf j07 j02 jji j7a Tryz.func219 (j9 jki (j9 jqz (j9 jqC (j9 j3p trivial)))) (j9 (fun h=>by kernel_rfl) (j9 (fun h=>by kernel_rfl) (j9 (fun h=>by kernel_rfl) trivial)))
def j51:Con:=⟨170,[.v ty60],[ty60],⟨[.own 146 ty12,.v iT],[]⟩,[ty12,iT],fun h=>Pw.j1P h⟩
def jjj:FnD where
 N:=79
 np:=1
 cs:=[jca,j7a]
 ds:=[⟨0,[.s (.one (.ol 1000000)),sI,.s (.one (.ol 1000001)),sI,sI,.b (.lst 146 ty8 false),.b (.lst 256 ty8 false)],[iT,iT,iT,ty12,ty12],[⟨.ret,[.s (.one (.nil)),sI],[iT]⟩,⟨.exit 0,[.s (.one (.ol 1500100)),.b (.lst 146 ty8 false)],[ty12]⟩],fun h=>Pw.j2r h.1 h.2.1 h.2.2.1 h.2.2.2.1 h.2.2.2.2⟩]
 modes:=[(219,[false]),(220,[false,false,false])]
 keep:=[(0,⟨[6,7,22,23,24],[],[⟨1000000,146,ty8,[.slot 6],false⟩,⟨1000001,256,ty8,[.slot 22],false⟩],[]⟩)]
 keepX:=[(0,.ret,⟨[2,3],[],[],[]⟩),
  (0,.exit 0,⟨[6],[],[⟨1500100,146,ty8,[.slot 6],false⟩],[]⟩)]
 ro:=[true,false]
theorem jcc:Con.OK Tryz.prog j51:=
 cOf j07 j02 jjj j51 Tryz.func170 (j9 jki (j9 ji0 trivial)) (j9 (fun h=>by kernel_rfl) trivial)
def jdl:Con:=⟨123,[.v ty60],[ty60],⟨[.v iT],[]⟩,[iT],fun h=>Pw.j8a h⟩
def jqD:FnD where
 N:=11
 np:=1
 cs:=[j51]
 ds:=[]
 modes:=[(170,[false])]
 ro:=[false]
theorem jp7:Con.OK Tryz.prog jdl:=
 cOf j07 j02 jqD jdl Tryz.func123 (j9 jcc trivial) trivial
def j5g:Con:=⟨125,[.v ty50],[ty50],⟨[.v .bool],[]⟩,[.bool],fun h=>Pw.j78 h⟩
def jfw:FnD where
 N:=7
 np:=1
 cs:=[]
 ds:=[]
 ro:=[false]
theorem jeJ:Con.OK Tryz.prog j5g:=
 cOf j07 j02 jfw j5g Tryz.func125 trivial trivial
def j1d:Con:=⟨171,[.v ty53,.clo 125 []],[ty53],⟨[.v iT],[]⟩,[iT],fun h=>Pw.j0r h⟩
def j5j:FnD where
 N:=19
 np:=2
 cs:=[j5g]
 ds:=[⟨0,[.s (.one (.d ty53)),.s (.one (.clo 125 [])),sI,sI],[ty53,iT,iT],[⟨.ret,[sI],[iT]⟩,⟨.exit 0,[],[]⟩],fun h=>Pw.j0o h.1 h.2.1 h.2.2⟩]
 modes:=[(125,[false])]
 keep:=[(0,⟨[0,1,7,8],[],[],[]⟩)]
 keepX:=[(0,.ret,⟨[4],[],[],[]⟩),
  (0,.exit 0,⟨[],[],[],[]⟩)]
 ro:=[false]
theorem j5h:Con.OK Tryz.prog j1d:=
 cOf j07 j02 j5j j1d Tryz.func171 (j9 jeJ trivial) (j9 (fun h=>by kernel_rfl) trivial)
def j15:Con:=⟨124,[.v ty53,.clo 125 []],[ty53],⟨[.v .bool],[]⟩,[.bool],fun h=>Pw.j0m h⟩
def j4Q:FnD where
 N:=9
 np:=2
 cs:=[j1d]
 ds:=[]
 modes:=[(171,[false,false])]
 ro:=[false]
theorem j4H:Con.OK Tryz.prog j15:=
 cOf j07 j02 j4Q j15 Tryz.func124 (j9 j5h trivial) trivial
def j6F:Con:=⟨74,[.v ty60],[ty60],⟨[.v iT],[]⟩,[iT],fun h=>Pw.j2s h⟩
def ji1:FnD where
 N:=17
 np:=1
 cs:=[jdl,j15]
 ds:=[]
 modes:=[(123,[false]),(124,[false,false])]
 ro:=[false]
theorem jhb:Con.OK Tryz.prog j6F:=
 cOf j07 j02 ji1 j6F Tryz.func74 (j9 jp7 (j9 j4H trivial)) trivial
def j4f:Con:=⟨72,[.v ty61,.clo 73 [],.clo 74 []],[ty61],⟨[.v iT],[]⟩,[iT],fun h=>Pw.j1z h⟩
def je6:FnD where
 N:=34
 np:=3
 cs:=[j79,j3A,j6F]
 ds:=[⟨0,[.s (.one (.clo 73 [])),.s (.one (.clo 74 [])),.s (.one (.ol 1000000)),.s (.one (.d ty61)),sI,sI,.b (.lst 4294967424 (.pair .str .bool) false)],[ty61,iT,iT,(.list (.pair .str .bool))],[⟨.ret,[sI],[iT]⟩,⟨.exit 0,[],[]⟩],fun h=>Pw.j0y h.1 h.2.1 h.2.2.1 h.2.2.2⟩]
 modes:=[(73,[false]),(74,[false]),(75,[false,true])]
 keep:=[(0,⟨[1,2,7,13,14,15],[],[⟨1000000,4294967424,(.pair .str .bool),[.slot 7],false⟩],[]⟩)]
 keepX:=[(0,.ret,⟨[6],[],[],[]⟩),
  (0,.exit 0,⟨[],[],[],[]⟩)]
 ro:=[false]
theorem jdm:Con.OK Tryz.prog j4f:=
 cOf j07 j02 je6 j4f Tryz.func72 (j9 jhZ (j9 j6C (j9 jhb trivial))) (j9 (fun h=>by kernel_rfl) trivial)
def j33:Con:=⟨127,[.v iT,.v iT],[iT,iT],⟨[.v .bool],[]⟩,[.bool],fun h=>Pw.j1R h.1 h.2⟩
def jmp:FnD where
 N:=12
 np:=2
 cs:=[]
 ds:=[]
 ro:=[false]
theorem j5W:Con.OK Tryz.prog j33:=
 cOf j07 j02 jmp j33 Tryz.func127 trivial trivial
def j9R:Con:=⟨128,[.v ty12],[ty12],⟨[.v iT],[]⟩,[iT],fun h=>Pw.j8b h⟩
def jqE:FnD where
 N:=46
 np:=1
 cs:=[]
 ds:=[⟨0,[.s (.one (.d ty12)),.s (.one (.d ty12)),sI,sI],[ty12,ty12,iT,iT],[⟨.ret,[sI],[iT]⟩,⟨.exit 0,[],[]⟩],fun h=>Pw.j4p h.1 h.2.1 h.2.2.1 h.2.2.2⟩]
 keep:=[(0,⟨[0,8,9,10],[],[],[]⟩)]
 keepX:=[(0,.ret,⟨[2],[],[],[]⟩),
  (0,.exit 0,⟨[],[],[],[]⟩)]
 ro:=[false]
theorem jjk:Con.OK Tryz.prog j9R:=
 cOf j07 j02 jqE j9R Tryz.func128 trivial (j9 (fun h=>by kernel_rfl) trivial)
def j7B:Con:=⟨174,[.v iT,.v iT,.v iT],[iT,iT,iT],⟨[.v .bool],[]⟩,[.bool],fun h=>Pw.j6S h.1 h.2.1 h.2.2⟩
def jqF:FnD where
 N:=15
 np:=3
 cs:=[]
 ds:=[]
 ro:=[false]
theorem jeK:Con.OK Tryz.prog j7B:=
 cOf j07 j02 jqF j7B Tryz.func174 trivial trivial
def j9z:Con:=⟨129,[.v iT],[iT],⟨[.v .bool],[]⟩,[.bool],fun h=>Pw.j4q h⟩
def jmq:FnD where
 N:=10
 np:=1
 cs:=[j7B]
 ds:=[]
 modes:=[(174,[false,false,false])]
 ro:=[false]
theorem jl2:Con.OK Tryz.prog j9z:=
 cOf j07 j02 jmq j9z Tryz.func129 (j9 jeK trivial) trivial
def j5x:Con:=⟨76,[.v ty79,.v ty48],[ty79,ty48],⟨[.v iT],[]⟩,[iT],fun h=>Pw.j1s h.1 h.2⟩
def jgk:FnD where
 N:=29
 np:=2
 cs:=[j33,j9R,j9z]
 ds:=[]
 modes:=[(127,[false,false]),(128,[false]),(129,[false])]
 ro:=[false]
theorem jfx:Con.OK Tryz.prog j5x:=
 cOf j07 j02 jgk j5x Tryz.func76 (j9 j5W (j9 jjk (j9 jl2 trivial))) trivial
def j7b:Con:=⟨78,[.v ty22],[ty22],⟨[.v .str],[]⟩,[.str],fun h=>Pw.jay h⟩
def jjl:FnD where
 N:=5
 np:=1
 cs:=[]
 ds:=[]
 ro:=[false]
theorem ji2:Con.OK Tryz.prog j7b:=
 cOf j07 j02 jjl j7b Tryz.func78 trivial trivial
def jdn:Con:=⟨222,[.v iT],[iT],⟨[.v iT],[]⟩,[iT],fun h=>Pw.jdY h⟩
def jqG:FnD where
 N:=15
 np:=1
 cs:=[j8E,j6D]
 ds:=[⟨0,[sI,sI],[iT,iT],[⟨.exit 0,[sI],[iT]⟩],fun h=>Pw.jd2 h.1 h.2⟩]
 modes:=[(221,[false]),(248,[false,false])]
 keep:=[(0,⟨[0,3],[],[],[]⟩)]
 keepX:=[(0,.exit 0,⟨[3],[],[],[]⟩)]
 ro:=[false]
theorem jp8:Con.OK Tryz.prog jdn:=
 cOf j07 j02 jqG jdn Tryz.func222 (j9 jhz (j9 jdk trivial)) (j9 (fun h=>by kernel_rfl) trivial)
def jaC:Con:=⟨176,[.v iT],[iT],⟨[.v ty20,.v iT],[]⟩,[ty20,iT],fun h=>Pw.j3T h⟩
def jnm:FnD where
 N:=45
 np:=1
 cs:=[j64,j6D,jdn]
 ds:=[⟨0,[.s (.one (.bp 128 0)),.s (.one (.bp 256 0)),sI,.b (.cell [.d iT,.d iT,.d iT] false),.b (.cell [.d iT,.d iT,.d iT] false)],[iT,iT,iT,iT,iT,iT,iT],[⟨.exit 0,[.s (.one (.bp 128 0)),.s (.one (.bp 256 0)),sI,.b (.cell [.d iT,.d iT,.d iT] false),.b (.cell [.d iT,.d iT,.d iT] false)],[iT,iT,iT,iT,iT,iT,iT]⟩],fun h=>Pw.jaY h.1 h.2.1 h.2.2.1 h.2.2.2.1 h.2.2.2.2.1 h.2.2.2.2.2.1 h.2.2.2.2.2.2⟩]
 modes:=[(221,[false]),(222,[false]),(223,[false,false])]
 keep:=[(0,⟨[2,4,5],[128,256],[],[]⟩)]
 keepX:=[(0,.exit 0,⟨[2,4,5],[128,256],[],[]⟩)]
 ro:=[false,false]
theorem jmr:Con.OK Tryz.prog jaC:=
 cOf j07 j02 jnm jaC Tryz.func176 (j9 jbd (j9 jdk (j9 jp8 trivial))) (j9 (fun h=>by kernel_rfl) trivial)
def j6G:Con:=⟨132,[.v iT],[iT],⟨[.v .bool],[]⟩,[.bool],fun h=>Pw.j0D h⟩
def jp9:FnD where
 N:=12
 np:=1
 cs:=[jaC]
 ds:=[]
 modes:=[(176,[false])]
 ro:=[false]
theorem jdo:Con.OK Tryz.prog j6G:=
 cOf j07 j02 jp9 j6G Tryz.func132 (j9 jmr trivial) trivial
def j3N:Con:=⟨131,[.v iT],[iT],⟨[.v .bool],[]⟩,[.bool],fun h=>Pw.j1D h⟩
def jcN:FnD where
 N:=6
 np:=1
 cs:=[j6G]
 ds:=[]
 modes:=[(132,[false])]
 ro:=[false]
theorem jcd:Con.OK Tryz.prog j3N:=
 cOf j07 j02 jcN j3N Tryz.func131 (j9 jdo trivial) trivial
def j3O:Con:=⟨175,[.v (.list iT),.clo 131 []],[(.list iT)],⟨[.v iT],[]⟩,[iT],fun h=>Pw.j1E h⟩
def jcO:FnD where
 N:=19
 np:=2
 cs:=[j3N]
 ds:=[⟨0,[.s (.one (.d (.list iT))),.s (.one (.clo 131 [])),sI,sI],[(.list iT),iT,iT],[⟨.ret,[sI],[iT]⟩,⟨.exit 0,[],[]⟩],fun h=>Pw.j0u h.1 h.2.1 h.2.2⟩]
 modes:=[(131,[false])]
 keep:=[(0,⟨[0,1,7,8],[],[],[]⟩)]
 keepX:=[(0,.ret,⟨[4],[],[],[]⟩),
  (0,.exit 0,⟨[],[],[],[]⟩)]
 ro:=[false]
theorem jce:Con.OK Tryz.prog j3O:=
 cOf j07 j02 jcO j3O Tryz.func175 (j9 jcd trivial) (j9 (fun h=>by kernel_rfl) trivial)
end Go.Proofs.Pk
