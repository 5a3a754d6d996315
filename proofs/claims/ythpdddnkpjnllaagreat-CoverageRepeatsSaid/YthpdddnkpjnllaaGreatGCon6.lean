/- Contracts: each given function is its plain function, printed by a program. -/
import Derived.Test.YthpdddnkpjnllaaGreatGCon5
noncomputable section
open Go Go.Lft
set_option linter.unusedVariables false
set_option maxRecDepth 100000
namespace Go.Proofs.Pk
def jbi:Con:=⟨169,[.v ty39,.v iT,.v iT],[ty39,iT,iT],⟨[.v iT],[]⟩,[iT],fun h=>Pw.je2 h.1 h.2.1 h.2.2⟩
def jsd:FnD where
 N:=51
 np:=3
 cs:=[jct]
 ds:=[⟨0,[sI,sI,.s (.one (.d ty39)),sI,sI],[iT,iT,ty39,iT,iT],[⟨.exit 0,[sI],[iT]⟩],fun h=>Pw.je1 h.1 h.2.1 h.2.2.1 h.2.2.2.1 h.2.2.2.2⟩]
 modes:=[(218,[false,false])]
 keep:=[(0,⟨[1,2,9,10,11],[],[],[]⟩)]
 keepX:=[(0,.exit 0,⟨[1],[],[],[]⟩)]
 ro:=[false]
theorem jkT:Con.OK Tryz.prog jbi:=
 cOf j07 j02 jsd jbi Tryz.func169 (j9 jny trivial) (j9 (fun h=>by kernel_rfl) trivial)
def j5E:Con:=⟨120,[.v ty81,.v ty72,.v iT,.v iT],[ty81,ty72,iT,iT],⟨[.own 60 ty24],[]⟩,[ty24],fun h=>Pw.j5a h.1 h.2.1 h.2.2.1 h.2.2.2⟩
def jkp:FnD where
 N:=88
 np:=4
 cs:=[jeQ,j7E,j7k,j1Y,jbi]
 ds:=[⟨0,[sI,sI,.s (.one (.bp 256 0)),.s (.one (.bp 320 0)),.s (.one (.ol 1000000)),.s (.one (.d ty39)),sI,sI,.b (.cell [.d ty61,.d ty51,.d ty26,.d ty73,.d ty29] false),.b (.cell [.d .str,.d ty68,.d ty39] false),.b (.lst 3 iT false)],[iT,iT,ty39,iT,iT,ty61,ty51,ty26,ty73,ty29,.str,ty68,ty39,(.list iT)],[⟨.exit 0,[sI,sI,.s (.one (.bp 256 0)),.s (.one (.bp 320 0)),.s (.one (.ol 1500100)),.b (.cell [.d ty61,.d ty51,.d ty26,.d ty73,.d ty29] false),.b (.cell [.d .str,.d ty68,.d ty39] false),.b (.lst 3 iT false)],[iT,iT,ty61,ty51,ty26,ty73,ty29,.str,ty68,ty39,(.list iT)]⟩],fun h=>Pw.j8t h.1 h.2.1 h.2.2.1 h.2.2.2.1 h.2.2.2.2.1 h.2.2.2.2.2.1 h.2.2.2.2.2.2.1 h.2.2.2.2.2.2.2.1 h.2.2.2.2.2.2.2.2.1 h.2.2.2.2.2.2.2.2.2.1 h.2.2.2.2.2.2.2.2.2.2.1 h.2.2.2.2.2.2.2.2.2.2.2.1 h.2.2.2.2.2.2.2.2.2.2.2.2.1 h.2.2.2.2.2.2.2.2.2.2.2.2.2⟩,
  ⟨2,[.s (.one (.bp 320 0)),.s (.one (.ol 1002000)),.s (.one (.ol 1002001)),.s (.one (.ol 1002002)),sI,sI,.b (.cell [.d .str,.d ty68,.d ty39] false),.b (.lst 3 iT false),.b (.lst 60 ty20 false),.b (.lst 60 ty20 false)],[iT,iT,.str,ty68,ty39,(.list iT),ty24,ty24],[⟨.exit 2,[.s (.one (.ol 1502300)),.b (.lst 60 ty20 false)],[ty24]⟩],fun h=>Pw.j2I h.1 h.2.1 h.2.2.1 h.2.2.2.1 h.2.2.2.2.1 h.2.2.2.2.2.1 h.2.2.2.2.2.2.1 h.2.2.2.2.2.2.2⟩,
  ⟨4,[.s (.one (.bp 320 0)),.s (.one (.ol 1004000)),.s (.one (.ol 1004001)),.s (.one (.bp 960 0)),sI,sI,.s (.one (.ol 1004002)),sI,sI,.b (.cell [.d .str,.d ty68,.d ty39] false),.b (.cell [.d iT,.d iT,.d iT] false),.b (.lst 3 iT false),.b (.lst 60 ty20 false),.b (.lst 60 ty20 false)],[iT,iT,iT,iT,.str,ty68,ty39,iT,iT,iT,(.list iT),ty24,ty24],[⟨.exit 4,[.s (.one (.bp 320 0)),.s (.one (.ol 1504500)),.s (.one (.ol 1504501)),.s (.one (.ol 1504502)),sI,sI,.b (.cell [.d .str,.d ty68,.d ty39] false),.b (.lst 3 iT false),.b (.lst 60 ty20 false),.b (.lst 60 ty20 false)],[iT,iT,.str,ty68,ty39,(.list iT),ty24,ty24]⟩],fun h=>Pw.j2H h.1 h.2.1 h.2.2.1 h.2.2.2.1 h.2.2.2.2.1 h.2.2.2.2.2.1 h.2.2.2.2.2.2.1 h.2.2.2.2.2.2.2.1 h.2.2.2.2.2.2.2.2.1 h.2.2.2.2.2.2.2.2.2.1 h.2.2.2.2.2.2.2.2.2.2.1 h.2.2.2.2.2.2.2.2.2.2.2.1 h.2.2.2.2.2.2.2.2.2.2.2.2⟩]
 modes:=[(61,[false,false,false,false]),(112,[false]),(167,[false,false,false]),(168,[false,false]),(169,[false,false,false])]
 keep:=[(0,⟨[2,3,4,5,9,21,22,23],[256,320],[⟨1000000,3,iT,[.slot 9],false⟩],[]⟩),
  (2,⟨[5,12,13,43,44,45],[320],[⟨1002000,3,iT,[.slot 12],false⟩,⟨1002001,60,ty20,[.slot 13],false⟩,⟨1002002,60,ty20,[.slot 43],false⟩],[]⟩),
  (4,⟨[5,12,13,15,16,18,43,44,45],[320,960],[⟨1004000,3,iT,[.slot 12],false⟩,⟨1004001,60,ty20,[.slot 13],false⟩,⟨1004002,60,ty20,[.slot 43],false⟩],[]⟩)]
 keepX:=[(0,.exit 0,⟨[2,3,4,5,9],[256,320],[⟨1500100,3,iT,[.slot 9],false⟩],[]⟩),
  (2,.exit 2,⟨[13],[],[⟨1502300,60,ty20,[.slot 13],false⟩],[]⟩),
  (4,.exit 4,⟨[5,12,13,43,44,45],[320],[⟨1504500,3,iT,[.slot 12],false⟩,⟨1504501,60,ty20,[.slot 13],false⟩,⟨1504502,60,ty20,[.slot 43],false⟩],[]⟩)]
 ro:=[true]
theorem jd6:Con.OK Tryz.prog j5E:=
 cOf j07 j02 jkp j5E Tryz.func120 (j9 jqN (j9 jeR (j9 jib (j9 j5n (j9 jkT trivial))))) (j9 (fun h=>by kernel_rfl) (j9 (fun h=>by kernel_rfl) (j9 (fun h=>by kernel_rfl) trivial)))
def jaN:Con:=⟨65,[.v ty81,.v ty72,.v iT,.v iT],[ty81,ty72,iT,iT],⟨[.v iT,.v .bool],[]⟩,[iT,.bool],fun h=>Pw.ja4 h.1 h.2.1 h.2.2.1 h.2.2.2⟩
def jnz:FnD where
 N:=37
 np:=4
 cs:=[j5E]
 ds:=[⟨0,[sI,sI,.s (.one (.bp 256 0)),.s (.one (.bp 320 0)),.b (.cell [.d ty61,.d ty51,.d ty26,.d ty73,.d ty29] false),.b (.cell [.d .str,.d ty68,.d ty39] false)],[iT,iT,ty61,ty51,ty26,ty73,ty29,.str,ty68,ty39],[⟨.ret,[sI,.s (.one (.d .bool))],[iT,.bool]⟩,⟨.exit 0,[],[]⟩],fun h=>Pw.j3I h.1 h.2.1 h.2.2.1 h.2.2.2.1 h.2.2.2.2.1 h.2.2.2.2.2.1 h.2.2.2.2.2.2.1 h.2.2.2.2.2.2.2.1 h.2.2.2.2.2.2.2.2.1 h.2.2.2.2.2.2.2.2.2⟩,
  ⟨2,[sI,.s (.one (.bp 256 0)),.s (.one (.bp 320 0)),sI,.s (.one (.ol 1002000)),sI,sI,.b (.cell [.d ty61,.d ty51,.d ty26,.d ty73,.d ty29] false),.b (.cell [.d .str,.d ty68,.d ty39] false),.b (.lst 60 ty20 false)],[iT,iT,iT,iT,ty61,ty51,ty26,ty73,ty29,.str,ty68,ty39,ty24],[⟨.ret,[sI,.s (.one (.d .bool))],[iT,.bool]⟩,⟨.exit 2,[sI,.s (.one (.bp 256 0)),.s (.one (.bp 320 0)),sI,.b (.cell [.d ty61,.d ty51,.d ty26,.d ty73,.d ty29] false),.b (.cell [.d .str,.d ty68,.d ty39] false)],[iT,iT,ty61,ty51,ty26,ty73,ty29,.str,ty68,ty39]⟩],fun h=>Pw.jb5 h.1 h.2.1 h.2.2.1 h.2.2.2.1 h.2.2.2.2.1 h.2.2.2.2.2.1 h.2.2.2.2.2.2.1 h.2.2.2.2.2.2.2.1 h.2.2.2.2.2.2.2.2.1 h.2.2.2.2.2.2.2.2.2.1 h.2.2.2.2.2.2.2.2.2.2.1 h.2.2.2.2.2.2.2.2.2.2.2.1 h.2.2.2.2.2.2.2.2.2.2.2.2⟩]
 modes:=[(120,[false,false,false,false])]
 keep:=[(0,⟨[2,3,4,5],[256,320],[],[]⟩),
  (2,⟨[3,4,5,10,24,25,26],[256,320],[⟨1002000,60,ty20,[.slot 24],false⟩],[]⟩)]
 keepX:=[(0,.ret,⟨[8,9],[],[],[]⟩),
  (0,.exit 0,⟨[],[],[],[]⟩),
  (2,.ret,⟨[8,9],[],[],[]⟩),
  (2,.exit 2,⟨[3,4,5,10],[256,320],[],[]⟩)]
 ro:=[false,false]
theorem jmE:Con.OK Tryz.prog jaN:=
 cOf j07 j02 jnz jaN Tryz.func65 (j9 jd6 trivial) (j9 (fun h=>by kernel_rfl) (j9 (fun h=>by kernel_rfl) trivial))
def j7m:Con:=⟨30,[.v ty79,.v iT,.v iT],[ty79,iT,iT],⟨[.v iT,.v .bool,.v iT],[]⟩,[iT,.bool,iT],fun h=>Pw.j4o h.1 h.2.1 h.2.2⟩
def jjA:FnD where
 N:=49
 np:=3
 cs:=[j8G,j54,jaN]
 ds:=[]
 modes:=[(60,[false,false,false,false]),(64,[false,false]),(65,[false,false,false,false])]
 ro:=[false,false,false]
theorem jid:Con.OK Tryz.prog j7m:=
 cOf j07 j02 jjA j7m Tryz.func30 (j9 jhB (j9 jcm (j9 jmE trivial))) trivial
def j81:Con:=⟨121,[.v ty79,.v iT,.v iT,.v iT],[ty79,iT,iT,iT],⟨[.own 60 ty24,.v iT],[]⟩,[ty24,iT],fun h=>Pw.j6s h.1 h.2.1 h.2.2.1 h.2.2.2⟩
def jkq:FnD where
 N:=37
 np:=4
 cs:=[j8G,j5E]
 ds:=[]
 modes:=[(60,[false,false,false,false]),(120,[false,false,false,false])]
 ro:=[true,false]
 dw:=[(4,[[],[],[],[],[],[],[],[],[2048],[]])]
theorem jjB:Con.OK Tryz.prog j81:=
 cOf j07 j02 jkq j81 Tryz.func121 (j9 jhB (j9 jd6 trivial)) trivial
def j8L:Con:=⟨122,[.v ty24,.v iT],[ty24,iT],⟨[.own 113 ty12],[]⟩,[ty12],fun h=>Pw.j7y h.1 h.2⟩
def jl9:FnD where
 N:=29
 np:=2
 cs:=[j4U]
 ds:=[⟨0,[sI,.s (.one (.ol 1000000)),.s (.one (.d ty24)),sI,sI,.b (.lst 113 ty8 false)],[iT,ty24,iT,iT,ty12],[⟨.exit 0,[.s (.one (.ol 1500100)),.b (.lst 113 ty8 false)],[ty12]⟩],fun h=>Pw.j9d h.1 h.2.1 h.2.2.1 h.2.2.2.1 h.2.2.2.2⟩]
 modes:=[(160,[false])]
 keep:=[(0,⟨[1,5,8,9,10],[],[⟨1000000,113,ty8,[.slot 5],false⟩],[]⟩)]
 keepX:=[(0,.exit 0,⟨[5],[],[⟨1500100,113,ty8,[.slot 5],false⟩],[]⟩)]
 ro:=[true]
theorem jkr:Con.OK Tryz.prog j8L:=
 cOf j07 j02 jl9 j8L Tryz.func122 (j9 j8J trivial) (j9 (fun h=>by kernel_rfl) trivial)
def jaO:Con:=⟨66,[.v ty79,.v iT,.v iT,.v iT,.v iT],[ty79,iT,iT,iT,iT],⟨[.own 113 ty12,.v iT],[]⟩,[ty12,iT],fun h=>Pw.ja5 h.1 h.2.1 h.2.2.1 h.2.2.2.1 h.2.2.2.2⟩
def jnA:FnD where
 N:=33
 np:=5
 cs:=[j81,j8L]
 ds:=[]
 modes:=[(121,[false,false,false,false]),(122,[false,false])]
 ro:=[true,false]
theorem jmF:Con.OK Tryz.prog jaO:=
 cOf j07 j02 jnA jaO Tryz.func66 (j9 jjB (j9 jkr trivial)) trivial
def j71:Con:=⟨31,[.v ty79,.v iT,.v iT,.v iT],[ty79,iT,iT,iT],⟨[.own 113 ty12,.v iT],[]⟩,[ty12,iT],fun h=>Pw.j6U h.1 h.2.1 h.2.2.1 h.2.2.2⟩
def jmG:FnD where
 N:=17
 np:=4
 cs:=[jaO]
 ds:=[]
 modes:=[(66,[false,false,false,false,false])]
 ro:=[true,false]
theorem jfs:Con.OK Tryz.prog j71:=
 cOf j07 j02 jmG j71 Tryz.func31 (j9 jmF trivial) trivial
def j7n:Con:=⟨33,[.v ty79,.v iT,.v iT,.v iT],[ty79,iT,iT,iT],⟨[.v .bool],[]⟩,[.bool],fun h=>Pw.j5J h.1 h.2.1 h.2.2.1 h.2.2.2⟩
def jjC:FnD where
 N:=26
 np:=4
 cs:=[j71]
 ds:=[]
 modes:=[(31,[false,false,false,false])]
 ro:=[false]
theorem jie:Con.OK Tryz.prog j7n:=
 cOf j07 j02 jjC j7n Tryz.func33 (j9 jfs trivial) trivial
def j56:Con:=⟨29,[.v ty79,.v iT],[ty79,iT],⟨[.v iT],[]⟩,[iT],fun h=>Pw.j2e h.1 h.2⟩
def jjD:FnD where
 N:=27
 np:=2
 cs:=[jci,j6J,j54]
 ds:=[]
 modes:=[(41,[false,false]),(63,[false]),(64,[false,false])]
 ro:=[false]
theorem jcu:Con.OK Tryz.prog j56:=
 cOf j07 j02 jjD j56 Tryz.func29 (j9 jkj (j9 jds (j9 jcm trivial))) trivial
def jdw:Con:=⟨28,[],[],⟨[.v .bool],[]⟩,[.bool],fun h=>Pw.j8d⟩
def jqR:FnD where
 N:=72
 np:=0
 cs:=[jdh,j7m,j71,j7n,j56]
 ds:=[]
 modes:=[(29,[false,false]),(30,[false,false,false]),(31,[false,false,false,false]),(33,[false,false,false,false]),(62,[false])]
 ro:=[false]
theorem jpl:Con.OK Tryz.prog jdw:=
 cOf j07 j02 jqR jdw Tryz.func28 (j9 joZ (j9 jid (j9 jfs (j9 jie (j9 jcu trivial))))) trivial
def jeS:Con:=⟨12,[.v (.list iT)],[(.list iT)],⟨[.box [(.list iT),iT]],[]⟩,[(.list iT),iT],fun h=>Pw.jmj h⟩
def jse:FnD where
 N:=6
 np:=1
 cs:=[]
 ds:=[]
 ro:=[false]
theorem jqS:Con.OK Tryz.prog jeS:=
 cOf j07 j02 jse jeS Tryz.func12 trivial trivial
def j18:Con:=⟨21,[.ref [(.list iT),iT],.v iT],[(.list iT),iT,iT],⟨[.v iT],[.ref [(.list iT),iT]]⟩,[iT,(.list iT),iT],fun h=>Pw.j04 h.1 h.2.1 h.2.2⟩
def jla:FnD where
 N:=45
 np:=2
 cs:=[]
 ds:=[]
 ro:=[false]
theorem j1Z:Con.OK Tryz.prog j18:=
 cOf j07 j02 jla j18 Tryz.func21 trivial trivial
def j28:Con:=⟨53,[.ref [(.list iT),iT],.v (.list iT)],[(.list iT),iT,(.list iT)],⟨[.v iT],[.ref [(.list iT),iT]]⟩,[iT,(.list iT),iT],fun h=>Pw.j1b h.1 h.2.1 h.2.2⟩
def jlb:FnD where
 N:=12
 np:=2
 cs:=[j18]
 ds:=[]
 modes:=[(21,[false,false])]
 ro:=[false]
theorem j40:Con.OK Tryz.prog j28:=
 cOf j07 j02 jlb j28 Tryz.func53 (j9 j1Z trivial) trivial
def j8M:Con:=⟨70,[.ref [(.list iT),iT],.v .str],[(.list iT),iT,.str],⟨[.v ty60],[.ref [(.list iT),iT]]⟩,[ty60,(.list iT),iT],fun h=>Pw.j3W h.1 h.2.1 h.2.2⟩
def jlc:FnD where
 N:=98
 np:=2
 cs:=[j18,j28]
 ds:=[]
 modes:=[(21,[false,false]),(53,[false,false])]
 ro:=[false]
 dw:=[(7,[[],[],[0],[],[],[0],[],[0],[],[],[],[],[0],[],[],[],[],[],[],[0],[],[],[3968],[0,3968],[],[0],[],[0],[],[],[],[],[4608],[],[320]]),(9,[[],[],[],[5056],[0,5056],[],[]])]
theorem jks:Con.OK Tryz.prog j8M:=
 cOf j07 j02 jlc j8M Tryz.func70 (j9 j1Z (j9 j40 trivial)) trivial
def j9T:Con:=⟨38,[],[],⟨[.own 9 (.list .str)],[]⟩,[(.list .str)],fun h=>Pw.jh3⟩
def jqT:FnD where
 N:=2
 np:=0
 cs:=[]
 ds:=[]
 ro:=[true]
theorem jjE:Con.OK Tryz.prog j9T:=
 cOf j07 j02 jqT j9T Tryz.func38 trivial trivial
def j3s:Con:=⟨52,[.ref [(.list iT),iT],.v iT],[(.list iT),iT,iT],⟨[.v .bool],[.ref [(.list iT),iT]]⟩,[.bool,(.list iT),iT],fun h=>Pw.j10 h.1 h.2.1 h.2.2⟩
def jld:FnD where
 N:=11
 np:=2
 cs:=[j18]
 ds:=[]
 modes:=[(21,[false,false])]
 ro:=[false]
theorem j72:Con.OK Tryz.prog j3s:=
 cOf j07 j02 jld j3s Tryz.func52 (j9 j1Z trivial) trivial
def j4J:Con:=⟨71,[.ref [(.list iT),iT]],[(.list iT),iT],⟨[.own 148 ty12],[.ref [(.list iT),iT]]⟩,[ty12,(.list iT),iT],fun h=>Pw.j3Y h.1 h.2⟩
def jif:FnD where
 N:=38
 np:=1
 cs:=[j18,j28]
 ds:=[⟨0,[.s (.one (.bp 0 0)),.s (.one (.ol 1000000)),sI,sI,.b (.cell [.d (.list iT),.d iT] false),.b (.lst 148 ty8 false)],[iT,iT,(.list iT),iT,ty12],[⟨.exit 0,[.s (.one (.ol 1500100)),.b (.cell [.d (.list iT),.d iT] false),.b (.lst 148 ty8 false)],[(.list iT),iT,ty12]⟩],fun h=>Pw.j2b h.1 h.2.1 h.2.2.1 h.2.2.2.1 h.2.2.2.2⟩]
 modes:=[(21,[false,false]),(53,[false,false])]
 keep:=[(0,⟨[0,3,4,5],[0],[⟨1000000,148,ty8,[.slot 3],false⟩],[]⟩)]
 keepX:=[(0,.exit 0,⟨[3],[0],[⟨1500100,148,ty8,[.slot 3],false⟩],[]⟩)]
 ro:=[true]
theorem jb7:Con.OK Tryz.prog j4J:=
 cOf j07 j02 jif j4J Tryz.func71 (j9 j1Z (j9 j40 trivial)) (j9 (fun h=>by kernel_rfl) trivial)
def j82:Con:=⟨36,[.ref [(.list iT),iT]],[(.list iT),iT],⟨[.vn ty79 [3]],[.ref [(.list iT),iT]]⟩,[ty79,(.list iT),iT],fun h=>Pw.j8y h.1 h.2⟩
def jkt:FnD where
 N:=109
 np:=1
 cs:=[j18,j28,j8M,j9T,j3s,j4J]
 ds:=[⟨0,[.s (.one (.bp 0 0)),.s (.one (.bp 128 0)),.s (.one (.bp 192 0)),sI,.b (.cell [.d (.list iT),.d iT] false),.b (.cell [.nil,.nil,.nil,.nil] false),.b (.cell [.ol 1000000,.nil,.nil,.nil] false),.b (.lst 77 ty60 false)],[iT,(.list iT),iT,ty61],[⟨.exit 0,[.s (.one (.bp 0 0)),.s (.one (.bp 128 0)),.s (.one (.bp 192 0)),.b (.cell [.d (.list iT),.d iT] false),.b (.cell [.nil,.nil,.nil,.nil] false),.b (.cell [.ol 1500100,.nil,.nil,.nil] false),.b (.lst 77 ty60 false)],[(.list iT),iT,ty61]⟩],fun h=>Pw.j2J h.1 h.2.1 h.2.2.1 h.2.2.2⟩,
  ⟨2,[.s (.one (.bp 0 0)),.s (.one (.bp 128 0)),.s (.one (.bp 192 0)),sI,.b (.cell [.d (.list iT),.d iT] false),.b (.cell [.nil,.nil,.nil,.nil] false),.b (.cell [.ol 1002000,.ol 1002001,.nil,.nil] false),.b (.lst 77 ty60 false),.b (.lst 79 ty48 false)],[iT,(.list iT),iT,ty61,ty51],[⟨.exit 2,[.s (.one (.bp 0 0)),.s (.one (.bp 128 0)),.s (.one (.bp 192 0)),.b (.cell [.d (.list iT),.d iT] false),.b (.cell [.nil,.nil,.nil,.nil] false),.b (.cell [.ol 1502300,.ol 1502301,.nil,.nil] false),.b (.lst 77 ty60 false),.b (.lst 79 ty48 false)],[(.list iT),iT,ty61,ty51]⟩],fun h=>Pw.j2K h.1 h.2.1 h.2.2.1 h.2.2.2.1 h.2.2.2.2⟩,
  ⟨4,[.s (.one (.bp 0 0)),.s (.one (.bp 128 0)),.s (.one (.bp 192 0)),sI,.b (.cell [.d (.list iT),.d iT] false),.b (.cell [.nil,.nil,.nil,.nil] false),.b (.cell [.ol 1004000,.ol 1004001,.ol 1004002,.nil] false),.b (.lst 77 ty60 false),.b (.lst 79 ty48 false),.b (.lst 94 ty22 false)],[iT,(.list iT),iT,ty61,ty51,ty26],[⟨.exit 4,[.s (.one (.bp 128 0)),.s (.one (.bp 192 0)),.b (.cell [.d (.list iT),.d iT] false),.b (.cell [.nil,.nil,.nil,.nil] false),.b (.cell [.ol 1504500,.ol 1504501,.ol 1504502,.nil] false),.b (.lst 77 ty60 false),.b (.lst 79 ty48 false),.b (.lst 94 ty22 false)],[(.list iT),iT,ty61,ty51,ty26]⟩],fun h=>Pw.j1V h.1 h.2.1 h.2.2.1 h.2.2.2.1 h.2.2.2.2.1 h.2.2.2.2.2⟩,
  ⟨6,[.s (.one (.bp 0 0)),.s (.one (.bp 128 0)),.s (.one (.bp 192 0)),sI,.s (.one (.bp 512 0)),sI,sI,.b (.cell [.d (.list iT),.d iT] false),.b (.cell [.nil,.nil,.nil,.nil] false),.b (.cell [.ol 1006000,.ol 1006001,.ol 1006002,.nil] false),.b (.cell [.d .str,.d iT,.ol 1006003] false),.b (.lst 77 ty60 false),.b (.lst 79 ty48 false),.b (.lst 94 ty22 false),.b (.lst 3 iT false)],[iT,iT,iT,(.list iT),iT,.str,iT,ty61,ty51,ty26,(.list iT)],[⟨.exit 6,[.s (.one (.bp 0 0)),.s (.one (.bp 128 0)),.s (.one (.bp 192 0)),sI,.s (.one (.bp 512 0)),.b (.cell [.d (.list iT),.d iT] false),.b (.cell [.nil,.nil,.nil,.nil] false),.b (.cell [.ol 1506700,.ol 1506701,.ol 1506702,.nil] false),.b (.cell [.d .str,.d iT,.ol 1506703] false),.b (.lst 77 ty60 false),.b (.lst 79 ty48 false),.b (.lst 94 ty22 false),.b (.lst 3 iT false)],[iT,(.list iT),iT,.str,iT,ty61,ty51,ty26,(.list iT)]⟩],fun h=>Pw.j2L h.1 h.2.1 h.2.2.1 h.2.2.2.1 h.2.2.2.2.1 h.2.2.2.2.2.1 h.2.2.2.2.2.2.1 h.2.2.2.2.2.2.2.1 h.2.2.2.2.2.2.2.2.1 h.2.2.2.2.2.2.2.2.2.1 h.2.2.2.2.2.2.2.2.2.2⟩]
 modes:=[(21,[false,false]),(38,[]),(52,[false,false]),(53,[false,false]),(70,[false,false]),(71,[false])]
 keep:=[(0,⟨[0,2,3,4],[0,128,192],[⟨1000000,77,ty60,[.cell 192 0],false⟩],[]⟩),
  (2,⟨[0,2,3,5],[0,128,192],[⟨1002000,77,ty60,[.cell 192 0],false⟩,⟨1002001,79,ty48,[.cell 192 1],false⟩],[]⟩),
  (4,⟨[0,2,3,7],[0,128,192],[⟨1004000,77,ty60,[.cell 192 0],false⟩,⟨1004001,79,ty48,[.cell 192 1],false⟩,⟨1004002,94,ty22,[.cell 192 2],false⟩],[]⟩),
  (6,⟨[0,2,3,7,8,9,10],[0,128,192,512],[⟨1006000,77,ty60,[.cell 192 0],false⟩,⟨1006001,79,ty48,[.cell 192 1],false⟩,⟨1006002,94,ty22,[.cell 192 2],false⟩,⟨1006003,3,iT,[.cell 512 2],false⟩],[]⟩)]
 keepX:=[(0,.exit 0,⟨[0,2,3],[0,128,192],[⟨1500100,77,ty60,[.cell 192 0],false⟩],[]⟩),
  (2,.exit 2,⟨[0,2,3],[0,128,192],[⟨1502300,77,ty60,[.cell 192 0],false⟩,⟨1502301,79,ty48,[.cell 192 1],false⟩],[]⟩),
  (4,.exit 4,⟨[2,3],[0,128,192],[⟨1504500,77,ty60,[.cell 192 0],false⟩,⟨1504501,79,ty48,[.cell 192 1],false⟩,⟨1504502,94,ty22,[.cell 192 2],false⟩],[]⟩),
  (6,.exit 6,⟨[0,2,3,7,8],[0,128,192,512],[⟨1506700,77,ty60,[.cell 192 0],false⟩,⟨1506701,79,ty48,[.cell 192 1],false⟩,⟨1506702,94,ty22,[.cell 192 2],false⟩,⟨1506703,3,iT,[.cell 512 2],false⟩],[]⟩)]
 ro:=[false]
 dw:=[(5,[[],[],[],[1344],[],[],[],[],[],[0],[1792],[1856,1000000],[],[192]]),(9,[[2432],[],[],[],[],[],[],[],[],[],[0],[],[0],[],[384],[384]])]
 ns:=[3]
theorem jjF:Con.OK Tryz.prog j82:=
 cOf j07 j02 jkt j82 Tryz.func36 (j9 j1Z (j9 j40 (j9 jks (j9 jjE (j9 j72 (j9 jb7 trivial)))))) (j9 (fun h=>by kernel_rfl) (j9 (fun h=>by kernel_rfl) (j9 (fun h=>by kernel_rfl) (j9 (fun h=>by kernel_rfl) trivial))))
def j83:Con:=⟨37,[.ref [(.list iT),iT],.v ty79,.v .str],[(.list iT),iT,ty79,.str],⟨[.v ty67],[.ref [(.list iT),iT]]⟩,[ty67,(.list iT),iT],fun h=>Pw.j8z h.1 h.2.1 h.2.2.1 h.2.2.2⟩
def jku:FnD where
 N:=77
 np:=3
 cs:=[j18,j28,j3s,j4J]
 ds:=[⟨0,[.s (.one (.bp 0 0)),.s (.one (.bp 256 0)),.s (.one (.bp 384 0)),.s (.one (.bp 448 0)),sI,.b (.cell [.d (.list iT),.d iT] false),.b (.cell [.d ty61,.d ty51,.d ty26,.d ty73] false),.b (.cell [.d .str,.d iT,.d iT,.d iT,.d iT,.d iT,.nil,.nil,.d iT,.d iT] false),.b (.cell [.d .str,.d iT,.d iT,.d iT,.d iT,.d iT,.ol 1000000,.nil,.d iT,.d iT] false),.b (.lst 3 iT false)],[iT,(.list iT),iT,ty61,ty51,ty26,ty73,.str,iT,iT,iT,iT,iT,iT,iT,.str,iT,iT,iT,iT,iT,iT,iT,(.list iT)],[⟨.exit 0,[.s (.one (.bp 0 0)),.s (.one (.bp 256 0)),.s (.one (.bp 384 0)),.s (.one (.bp 448 0)),.b (.cell [.d (.list iT),.d iT] false),.b (.cell [.d ty61,.d ty51,.d ty26,.d ty73] false),.b (.cell [.d .str,.d iT,.d iT,.d iT,.d iT,.d iT,.nil,.nil,.d iT,.d iT] false),.b (.cell [.d .str,.d iT,.d iT,.d iT,.d iT,.d iT,.ol 1500100,.nil,.d iT,.d iT] false),.b (.lst 3 iT false)],[(.list iT),iT,ty61,ty51,ty26,ty73,.str,iT,iT,iT,iT,iT,iT,iT,.str,iT,iT,iT,iT,iT,iT,iT,(.list iT)]⟩],fun h=>Pw.j2M h.1 h.2.1 h.2.2.1 h.2.2.2.1 h.2.2.2.2.1 h.2.2.2.2.2.1 h.2.2.2.2.2.2.1 h.2.2.2.2.2.2.2.1 h.2.2.2.2.2.2.2.2.1 h.2.2.2.2.2.2.2.2.2.1 h.2.2.2.2.2.2.2.2.2.2.1 h.2.2.2.2.2.2.2.2.2.2.2.1 h.2.2.2.2.2.2.2.2.2.2.2.2.1 h.2.2.2.2.2.2.2.2.2.2.2.2.2.1 h.2.2.2.2.2.2.2.2.2.2.2.2.2.2.1 h.2.2.2.2.2.2.2.2.2.2.2.2.2.2.2.1 h.2.2.2.2.2.2.2.2.2.2.2.2.2.2.2.2.1 h.2.2.2.2.2.2.2.2.2.2.2.2.2.2.2.2.2.1 h.2.2.2.2.2.2.2.2.2.2.2.2.2.2.2.2.2.2.1 h.2.2.2.2.2.2.2.2.2.2.2.2.2.2.2.2.2.2.2.1 h.2.2.2.2.2.2.2.2.2.2.2.2.2.2.2.2.2.2.2.2.1 h.2.2.2.2.2.2.2.2.2.2.2.2.2.2.2.2.2.2.2.2.2.1 h.2.2.2.2.2.2.2.2.2.2.2.2.2.2.2.2.2.2.2.2.2.2.1 h.2.2.2.2.2.2.2.2.2.2.2.2.2.2.2.2.2.2.2.2.2.2.2⟩]
 modes:=[(21,[false,false]),(52,[false,false]),(53,[false,false]),(71,[false])]
 keep:=[(0,⟨[0,4,6,7,8],[0,256,384,448],[⟨1000000,3,iT,[.cell 448 6],false⟩],[]⟩)]
 keepX:=[(0,.exit 0,⟨[0,4,6,7],[0,256,384,448],[⟨1500100,3,iT,[.cell 448 6],false⟩],[]⟩)]
 ro:=[false]
 dw:=[(7,[[],[],[],[],[],[],[0],[3200],[3264,1000000],[],[448]])]
theorem jjG:Con.OK Tryz.prog j83:=
 cOf j07 j02 jku j83 Tryz.func37 (j9 j1Z (j9 j40 (j9 j72 (j9 jb7 trivial)))) (j9 (fun h=>by kernel_rfl) trivial)
end Go.Proofs.Pk
