/- Contracts: each given function is its plain function, printed by a program. -/
import Derived.Test.YthpdddnkpjnllaaGreatDCon5
noncomputable section
open Go Go.Lft
set_option linter.unusedVariables false
set_option maxRecDepth 100000
namespace Go.Proofs.Pk
def jc7:Con:=⟨169,[.v ty39,.v iT,.v iT],[ty39,iT,iT],⟨[.v iT],[]⟩,[iT],fun h=>Pw.jaQ h.1 h.2.1 h.2.2⟩
def jtw:FnD where
 N:=51
 np:=3
 cs:=[jd9]
 ds:=[⟨0,[sI,sI,.s (.one (.d ty39)),sI,sI],[iT,iT,ty39,iT,iT],[⟨.exit 0,[sI],[iT]⟩],fun h=>Pw.j63 h.1 h.2.1 h.2.2.1 h.2.2.2.1 h.2.2.2.2⟩]
 modes:=[(218,[false,false])]
 keep:=[(0,⟨[1,2,9,10,11],[],[],[]⟩)]
 keepX:=[(0,.exit 0,⟨[1],[],[],[]⟩)]
 ro:=[false]
theorem jlS:Con.OK Tryz.prog jc7:=
 cOf j0a j03 jtw jc7 Tryz.func169 (j9 joB trivial) (j9 (fun h=>by kernel_rfl) trivial)
def j6C:Con:=⟨120,[.v ty81,.v ty72,.v iT,.v iT],[ty81,ty72,iT,iT],⟨[.own 60 ty24],[]⟩,[ty24],fun h=>Pw.j3g h.1 h.2.1 h.2.2.1 h.2.2.2⟩
def jli:FnD where
 N:=88
 np:=4
 cs:=[jfy,j8G,j8o,j2A,jc7]
 ds:=[⟨0,[sI,sI,.s (.one (.bp 256 0)),.s (.one (.bp 320 0)),.s (.one (.ol 1000000)),.s (.one (.d ty39)),sI,sI,.b (.cell [.d ty61,.d ty51,.d ty26,.d ty73,.d ty29] false),.b (.cell [.d .str,.d ty68,.d ty39] false),.b (.lst 3 iT false)],[iT,iT,ty39,iT,iT,ty61,ty51,ty26,ty73,ty29,.str,ty68,ty39,(.list iT)],[⟨.exit 0,[sI,sI,.s (.one (.bp 256 0)),.s (.one (.bp 320 0)),.s (.one (.ol 1500100)),.b (.cell [.d ty61,.d ty51,.d ty26,.d ty73,.d ty29] false),.b (.cell [.d .str,.d ty68,.d ty39] false),.b (.lst 3 iT false)],[iT,iT,ty61,ty51,ty26,ty73,ty29,.str,ty68,ty39,(.list iT)]⟩],fun h=>Pw.j3d h.1 h.2.1 h.2.2.1 h.2.2.2.1 h.2.2.2.2.1 h.2.2.2.2.2.1 h.2.2.2.2.2.2.1 h.2.2.2.2.2.2.2.1 h.2.2.2.2.2.2.2.2.1 h.2.2.2.2.2.2.2.2.2.1 h.2.2.2.2.2.2.2.2.2.2.1 h.2.2.2.2.2.2.2.2.2.2.2.1 h.2.2.2.2.2.2.2.2.2.2.2.2.1 h.2.2.2.2.2.2.2.2.2.2.2.2.2⟩,
  ⟨2,[.s (.one (.bp 320 0)),.s (.one (.ol 1002000)),.s (.one (.ol 1002001)),.s (.one (.ol 1002002)),sI,sI,.b (.cell [.d .str,.d ty68,.d ty39] false),.b (.lst 3 iT false),.b (.lst 60 ty20 false),.b (.lst 60 ty20 false)],[iT,iT,.str,ty68,ty39,(.list iT),ty24,ty24],[⟨.exit 2,[.s (.one (.ol 1502300)),.b (.lst 60 ty20 false)],[ty24]⟩],fun h=>Pw.j1r h.1 h.2.1 h.2.2.1 h.2.2.2.1 h.2.2.2.2.1 h.2.2.2.2.2.1 h.2.2.2.2.2.2.1 h.2.2.2.2.2.2.2⟩,
  ⟨4,[.s (.one (.bp 320 0)),.s (.one (.ol 1004000)),.s (.one (.ol 1004001)),.s (.one (.bp 960 0)),sI,sI,.s (.one (.ol 1004002)),sI,sI,.b (.cell [.d .str,.d ty68,.d ty39] false),.b (.cell [.d iT,.d iT,.d iT] false),.b (.lst 3 iT false),.b (.lst 60 ty20 false),.b (.lst 60 ty20 false)],[iT,iT,iT,iT,.str,ty68,ty39,iT,iT,iT,(.list iT),ty24,ty24],[⟨.exit 4,[.s (.one (.bp 320 0)),.s (.one (.ol 1504500)),.s (.one (.ol 1504501)),.s (.one (.ol 1504502)),sI,sI,.b (.cell [.d .str,.d ty68,.d ty39] false),.b (.lst 3 iT false),.b (.lst 60 ty20 false),.b (.lst 60 ty20 false)],[iT,iT,.str,ty68,ty39,(.list iT),ty24,ty24]⟩],fun h=>Pw.j1q h.1 h.2.1 h.2.2.1 h.2.2.2.1 h.2.2.2.2.1 h.2.2.2.2.2.1 h.2.2.2.2.2.2.1 h.2.2.2.2.2.2.2.1 h.2.2.2.2.2.2.2.2.1 h.2.2.2.2.2.2.2.2.2.1 h.2.2.2.2.2.2.2.2.2.2.1 h.2.2.2.2.2.2.2.2.2.2.2.1 h.2.2.2.2.2.2.2.2.2.2.2.2⟩]
 modes:=[(61,[false,false,false,false]),(112,[false]),(167,[false,false,false]),(168,[false,false]),(169,[false,false,false])]
 keep:=[(0,⟨[2,3,4,5,9,21,22,23],[256,320],[⟨1000000,3,iT,[.slot 9],false⟩],[]⟩),
  (2,⟨[5,12,13,43,44,45],[320],[⟨1002000,3,iT,[.slot 12],false⟩,⟨1002001,60,ty20,[.slot 13],false⟩,⟨1002002,60,ty20,[.slot 43],false⟩],[]⟩),
  (4,⟨[5,12,13,15,16,18,43,44,45],[320,960],[⟨1004000,3,iT,[.slot 12],false⟩,⟨1004001,60,ty20,[.slot 13],false⟩,⟨1004002,60,ty20,[.slot 43],false⟩],[]⟩)]
 keepX:=[(0,.exit 0,⟨[2,3,4,5,9],[256,320],[⟨1500100,3,iT,[.slot 9],false⟩],[]⟩),
  (2,.exit 2,⟨[13],[],[⟨1502300,60,ty20,[.slot 13],false⟩],[]⟩),
  (4,.exit 4,⟨[5,12,13,43,44,45],[320],[⟨1504500,3,iT,[.slot 12],false⟩,⟨1504501,60,ty20,[.slot 13],false⟩,⟨1504502,60,ty20,[.slot 43],false⟩],[]⟩)]
 ro:=[true]
theorem jdU:Con.OK Tryz.prog j6C:=
 cOf j0a j03 jli j6C Tryz.func120 (j9 js1 (j9 jfz (j9 jiX (j9 j6i (j9 jlS trivial))))) (j9 (fun h=>by kernel_rfl) (j9 (fun h=>by kernel_rfl) (j9 (fun h=>by kernel_rfl) trivial)))
def jbF:Con:=⟨65,[.v ty81,.v ty72,.v iT,.v iT],[ty81,ty72,iT,iT],⟨[.v iT,.v .bool],[]⟩,[iT,.bool],fun h=>Pw.jaU h.1 h.2.1 h.2.2.1 h.2.2.2⟩
def joC:FnD where
 N:=37
 np:=4
 cs:=[j6C]
 ds:=[⟨0,[sI,sI,.s (.one (.bp 256 0)),.s (.one (.bp 320 0)),.b (.cell [.d ty61,.d ty51,.d ty26,.d ty73,.d ty29] false),.b (.cell [.d .str,.d ty68,.d ty39] false)],[iT,iT,ty61,ty51,ty26,ty73,ty29,.str,ty68,ty39],[⟨.ret,[sI,.s (.one (.d .bool))],[iT,.bool]⟩,⟨.exit 0,[],[]⟩],fun h=>Pw.j4t h.1 h.2.1 h.2.2.1 h.2.2.2.1 h.2.2.2.2.1 h.2.2.2.2.2.1 h.2.2.2.2.2.2.1 h.2.2.2.2.2.2.2.1 h.2.2.2.2.2.2.2.2.1 h.2.2.2.2.2.2.2.2.2⟩,
  ⟨2,[sI,.s (.one (.bp 256 0)),.s (.one (.bp 320 0)),sI,.s (.one (.ol 1002000)),sI,sI,.b (.cell [.d ty61,.d ty51,.d ty26,.d ty73,.d ty29] false),.b (.cell [.d .str,.d ty68,.d ty39] false),.b (.lst 60 ty20 false)],[iT,iT,iT,iT,ty61,ty51,ty26,ty73,ty29,.str,ty68,ty39,ty24],[⟨.ret,[sI,.s (.one (.d .bool))],[iT,.bool]⟩,⟨.exit 2,[sI,.s (.one (.bp 256 0)),.s (.one (.bp 320 0)),sI,.b (.cell [.d ty61,.d ty51,.d ty26,.d ty73,.d ty29] false),.b (.cell [.d .str,.d ty68,.d ty39] false)],[iT,iT,ty61,ty51,ty26,ty73,ty29,.str,ty68,ty39]⟩],fun h=>Pw.jbT h.1 h.2.1 h.2.2.1 h.2.2.2.1 h.2.2.2.2.1 h.2.2.2.2.2.1 h.2.2.2.2.2.2.1 h.2.2.2.2.2.2.2.1 h.2.2.2.2.2.2.2.2.1 h.2.2.2.2.2.2.2.2.2.1 h.2.2.2.2.2.2.2.2.2.2.1 h.2.2.2.2.2.2.2.2.2.2.2.1 h.2.2.2.2.2.2.2.2.2.2.2.2⟩]
 modes:=[(120,[false,false,false,false])]
 keep:=[(0,⟨[2,3,4,5],[256,320],[],[]⟩),
  (2,⟨[3,4,5,10,24,25,26],[256,320],[⟨1002000,60,ty20,[.slot 24],false⟩],[]⟩)]
 keepX:=[(0,.ret,⟨[8,9],[],[],[]⟩),
  (0,.exit 0,⟨[],[],[],[]⟩),
  (2,.ret,⟨[8,9],[],[],[]⟩),
  (2,.exit 2,⟨[3,4,5,10],[256,320],[],[]⟩)]
 ro:=[false,false]
theorem jnI:Con.OK Tryz.prog jbF:=
 cOf j0a j03 joC jbF Tryz.func65 (j9 jdU trivial) (j9 (fun h=>by kernel_rfl) (j9 (fun h=>by kernel_rfl) trivial))
def j8q:Con:=⟨30,[.v ty79,.v iT,.v iT],[ty79,iT,iT],⟨[.v iT,.v .bool,.v iT],[]⟩,[iT,.bool,iT],fun h=>Pw.j57 h.1 h.2.1 h.2.2⟩
def jkn:FnD where
 N:=49
 np:=3
 cs:=[j9z,j5R,jbF]
 ds:=[]
 modes:=[(60,[false,false,false,false]),(64,[false,false]),(65,[false,false,false,false])]
 ro:=[false,false,false]
theorem jiZ:Con.OK Tryz.prog j8q:=
 cOf j0a j03 jkn j8q Tryz.func30 (j9 jim (j9 jd2 (j9 jnI trivial))) trivial
def j90:Con:=⟨121,[.v ty79,.v iT,.v iT,.v iT],[ty79,iT,iT,iT],⟨[.own 60 ty24,.v iT],[]⟩,[ty24,iT],fun h=>Pw.j64 h.1 h.2.1 h.2.2.1 h.2.2.2⟩
def jlj:FnD where
 N:=37
 np:=4
 cs:=[j9z,j6C]
 ds:=[]
 modes:=[(60,[false,false,false,false]),(120,[false,false,false,false])]
 ro:=[true,false]
 dw:=[(4,[[],[],[],[],[],[],[],[],[2048],[]])]
theorem jko:Con.OK Tryz.prog j90:=
 cOf j0a j03 jlj j90 Tryz.func121 (j9 jim (j9 jdU trivial)) trivial
def j9E:Con:=⟨122,[.v ty24,.v iT],[ty24,iT],⟨[.own 113 ty12],[]⟩,[ty12],fun h=>Pw.j76 h.1 h.2⟩
def jmb:FnD where
 N:=29
 np:=2
 cs:=[j5F]
 ds:=[⟨0,[sI,.s (.one (.ol 1000000)),.s (.one (.d ty24)),sI,sI,.b (.lst 113 ty8 false)],[iT,ty24,iT,iT,ty12],[⟨.exit 0,[.s (.one (.ol 1500100)),.b (.lst 113 ty8 false)],[ty12]⟩],fun h=>Pw.j3x h.1 h.2.1 h.2.2.1 h.2.2.2.1 h.2.2.2.2⟩]
 modes:=[(160,[false])]
 keep:=[(0,⟨[1,5,8,9,10],[],[⟨1000000,113,ty8,[.slot 5],false⟩],[]⟩)]
 keepX:=[(0,.exit 0,⟨[5],[],[⟨1500100,113,ty8,[.slot 5],false⟩],[]⟩)]
 ro:=[true]
theorem jlk:Con.OK Tryz.prog j9E:=
 cOf j0a j03 jmb j9E Tryz.func122 (j9 j9C trivial) (j9 (fun h=>by kernel_rfl) trivial)
def jbG:Con:=⟨66,[.v ty79,.v iT,.v iT,.v iT,.v iT],[ty79,iT,iT,iT,iT],⟨[.own 113 ty12,.v iT],[]⟩,[ty12,iT],fun h=>Pw.j9c h.1 h.2.1 h.2.2.1 h.2.2.2.1 h.2.2.2.2⟩
def joD:FnD where
 N:=33
 np:=5
 cs:=[j90,j9E]
 ds:=[]
 modes:=[(121,[false,false,false,false]),(122,[false,false])]
 ro:=[true,false]
theorem jnJ:Con.OK Tryz.prog jbG:=
 cOf j0a j03 joD jbG Tryz.func66 (j9 jko (j9 jlk trivial)) trivial
def j6e:Con:=⟨31,[.v ty79,.v iT,.v iT,.v iT],[ty79,iT,iT,iT],⟨[.own 113 ty12,.v iT],[]⟩,[ty12,iT],fun h=>Pw.j2M h.1 h.2.1 h.2.2.1 h.2.2.2⟩
def jnK:FnD where
 N:=17
 np:=4
 cs:=[jbG]
 ds:=[]
 modes:=[(66,[false,false,false,false,false])]
 ro:=[true,false]
theorem jbH:Con.OK Tryz.prog j6e:=
 cOf j0a j03 jnK j6e Tryz.func31 (j9 jnJ trivial) trivial
def j5T:Con:=⟨33,[.v ty79,.v iT,.v iT,.v iT],[ty79,iT,iT,iT],⟨[.v .bool],[]⟩,[.bool],fun h=>Pw.j24 h.1 h.2.1 h.2.2.1 h.2.2.2⟩
def jkp:FnD where
 N:=26
 np:=4
 cs:=[j6e]
 ds:=[]
 modes:=[(31,[false,false,false,false])]
 ro:=[false]
theorem jda:Con.OK Tryz.prog j5T:=
 cOf j0a j03 jkp j5T Tryz.func33 (j9 jbH trivial) trivial
def j8r:Con:=⟨29,[.v ty79,.v iT],[ty79,iT],⟨[.v iT],[]⟩,[iT],fun h=>Pw.j6J h.1 h.2⟩
def jkq:FnD where
 N:=27
 np:=2
 cs:=[jcY,j7O,j5R]
 ds:=[]
 modes:=[(41,[false,false]),(63,[false]),(64,[false,false])]
 ro:=[false]
theorem jj0:Con.OK Tryz.prog j8r:=
 cOf j0a j03 jkq j8r Tryz.func29 (j9 jlc (j9 jed (j9 jd2 trivial))) trivial
def jeh:Con:=⟨28,[],[],⟨[.v .bool],[]⟩,[.bool],fun h=>Pw.jak⟩
def js5:FnD where
 N:=72
 np:=0
 cs:=[je2,j8q,j6e,j5T,j8r]
 ds:=[]
 modes:=[(29,[false,false]),(30,[false,false,false]),(31,[false,false,false,false]),(33,[false,false,false,false]),(62,[false])]
 ro:=[false]
theorem jqs:Con.OK Tryz.prog jeh:=
 cOf j0a j03 js5 jeh Tryz.func28 (j9 jq6 (j9 jiZ (j9 jbH (j9 jda (j9 jj0 trivial))))) trivial
def jfA:Con:=⟨12,[.v (.list iT)],[(.list iT)],⟨[.box [(.list iT),iT]],[]⟩,[(.list iT),iT],fun h=>Pw.jnj h⟩
def jtx:FnD where
 N:=6
 np:=1
 cs:=[]
 ds:=[]
 ro:=[false]
theorem js6:Con.OK Tryz.prog jfA:=
 cOf j0a j03 jtx jfA Tryz.func12 trivial trivial
def j1t:Con:=⟨21,[.ref [(.list iT),iT],.v iT],[(.list iT),iT,iT],⟨[.v iT],[.ref [(.list iT),iT]]⟩,[iT,(.list iT),iT],fun h=>Pw.j06 h.1 h.2.1 h.2.2⟩
def jmc:FnD where
 N:=45
 np:=2
 cs:=[]
 ds:=[]
 ro:=[false]
theorem j2B:Con.OK Tryz.prog j1t:=
 cOf j0a j03 jmc j1t Tryz.func21 trivial trivial
def j2H:Con:=⟨53,[.ref [(.list iT),iT],.v (.list iT)],[(.list iT),iT,(.list iT)],⟨[.v iT],[.ref [(.list iT),iT]]⟩,[iT,(.list iT),iT],fun h=>Pw.j1z h.1 h.2.1 h.2.2⟩
def jmd:FnD where
 N:=12
 np:=2
 cs:=[j1t]
 ds:=[]
 modes:=[(21,[false,false])]
 ro:=[false]
theorem j4I:Con.OK Tryz.prog j2H:=
 cOf j0a j03 jmd j2H Tryz.func53 (j9 j2B trivial) trivial
def j9F:Con:=⟨70,[.ref [(.list iT),iT],.v .str],[(.list iT),iT,.str],⟨[.v ty60],[.ref [(.list iT),iT]]⟩,[ty60,(.list iT),iT],fun h=>Pw.j4E h.1 h.2.1 h.2.2⟩
def jme:FnD where
 N:=98
 np:=2
 cs:=[j1t,j2H]
 ds:=[]
 modes:=[(21,[false,false]),(53,[false,false])]
 ro:=[false]
 dw:=[(7,[[],[],[0],[],[],[0],[],[0],[],[],[],[],[0],[],[],[],[],[],[],[0],[],[],[3968],[0,3968],[],[0],[],[0],[],[],[],[],[4608],[],[320]]),(9,[[],[],[],[5056],[0,5056],[],[]])]
theorem jll:Con.OK Tryz.prog j9F:=
 cOf j0a j03 jme j9F Tryz.func70 (j9 j2B (j9 j4I trivial)) trivial
def jaI:Con:=⟨38,[],[],⟨[.own 9 (.list .str)],[]⟩,[(.list .str)],fun h=>Pw.jhM⟩
def js7:FnD where
 N:=2
 np:=0
 cs:=[]
 ds:=[]
 ro:=[true]
theorem jkr:Con.OK Tryz.prog jaI:=
 cOf j0a j03 js7 jaI Tryz.func38 trivial trivial
def j4b:Con:=⟨52,[.ref [(.list iT),iT],.v iT],[(.list iT),iT,iT],⟨[.v .bool],[.ref [(.list iT),iT]]⟩,[.bool,(.list iT),iT],fun h=>Pw.j1g h.1 h.2.1 h.2.2⟩
def jmf:FnD where
 N:=11
 np:=2
 cs:=[j1t]
 ds:=[]
 modes:=[(21,[false,false])]
 ro:=[false]
theorem j83:Con.OK Tryz.prog j4b:=
 cOf j0a j03 jmf j4b Tryz.func52 (j9 j2B trivial) trivial
def j5u:Con:=⟨71,[.ref [(.list iT),iT]],[(.list iT),iT],⟨[.own 148 ty12],[.ref [(.list iT),iT]]⟩,[ty12,(.list iT),iT],fun h=>Pw.j4G h.1 h.2⟩
def jj1:FnD where
 N:=38
 np:=1
 cs:=[j1t,j2H]
 ds:=[⟨0,[.s (.one (.bp 0 0)),.s (.one (.ol 1000000)),sI,sI,.b (.cell [.d (.list iT),.d iT] false),.b (.lst 148 ty8 false)],[iT,iT,(.list iT),iT,ty12],[⟨.exit 0,[.s (.one (.ol 1500100)),.b (.cell [.d (.list iT),.d iT] false),.b (.lst 148 ty8 false)],[(.list iT),iT,ty12]⟩],fun h=>Pw.j2I h.1 h.2.1 h.2.2.1 h.2.2.2.1 h.2.2.2.2⟩]
 modes:=[(21,[false,false]),(53,[false,false])]
 keep:=[(0,⟨[0,3,4,5],[0],[⟨1000000,148,ty8,[.slot 3],false⟩],[]⟩)]
 keepX:=[(0,.exit 0,⟨[3],[0],[⟨1500100,148,ty8,[.slot 3],false⟩],[]⟩)]
 ro:=[true]
theorem jbW:Con.OK Tryz.prog j5u:=
 cOf j0a j03 jj1 j5u Tryz.func71 (j9 j2B (j9 j4I trivial)) (j9 (fun h=>by kernel_rfl) trivial)
def j91:Con:=⟨36,[.ref [(.list iT),iT]],[(.list iT),iT],⟨[.vn ty79 [3]],[.ref [(.list iT),iT]]⟩,[ty79,(.list iT),iT],fun h=>Pw.j9q h.1 h.2⟩
def jlm:FnD where
 N:=109
 np:=1
 cs:=[j1t,j2H,j9F,jaI,j4b,j5u]
 ds:=[⟨0,[.s (.one (.bp 0 0)),.s (.one (.bp 128 0)),.s (.one (.bp 192 0)),sI,.b (.cell [.d (.list iT),.d iT] false),.b (.cell [.nil,.nil,.nil,.nil] false),.b (.cell [.ol 1000000,.nil,.nil,.nil] false),.b (.lst 77 ty60 false)],[iT,(.list iT),iT,ty61],[⟨.exit 0,[.s (.one (.bp 0 0)),.s (.one (.bp 128 0)),.s (.one (.bp 192 0)),.b (.cell [.d (.list iT),.d iT] false),.b (.cell [.nil,.nil,.nil,.nil] false),.b (.cell [.ol 1500100,.nil,.nil,.nil] false),.b (.lst 77 ty60 false)],[(.list iT),iT,ty61]⟩],fun h=>Pw.j3h h.1 h.2.1 h.2.2.1 h.2.2.2⟩,
  ⟨2,[.s (.one (.bp 0 0)),.s (.one (.bp 128 0)),.s (.one (.bp 192 0)),sI,.b (.cell [.d (.list iT),.d iT] false),.b (.cell [.nil,.nil,.nil,.nil] false),.b (.cell [.ol 1002000,.ol 1002001,.nil,.nil] false),.b (.lst 77 ty60 false),.b (.lst 79 ty48 false)],[iT,(.list iT),iT,ty61,ty51],[⟨.exit 2,[.s (.one (.bp 0 0)),.s (.one (.bp 128 0)),.s (.one (.bp 192 0)),.b (.cell [.d (.list iT),.d iT] false),.b (.cell [.nil,.nil,.nil,.nil] false),.b (.cell [.ol 1502300,.ol 1502301,.nil,.nil] false),.b (.lst 77 ty60 false),.b (.lst 79 ty48 false)],[(.list iT),iT,ty61,ty51]⟩],fun h=>Pw.j3i h.1 h.2.1 h.2.2.1 h.2.2.2.1 h.2.2.2.2⟩,
  ⟨4,[.s (.one (.bp 0 0)),.s (.one (.bp 128 0)),.s (.one (.bp 192 0)),sI,.b (.cell [.d (.list iT),.d iT] false),.b (.cell [.nil,.nil,.nil,.nil] false),.b (.cell [.ol 1004000,.ol 1004001,.ol 1004002,.nil] false),.b (.lst 77 ty60 false),.b (.lst 79 ty48 false),.b (.lst 94 ty22 false)],[iT,(.list iT),iT,ty61,ty51,ty26],[⟨.exit 4,[.s (.one (.bp 128 0)),.s (.one (.bp 192 0)),.b (.cell [.d (.list iT),.d iT] false),.b (.cell [.nil,.nil,.nil,.nil] false),.b (.cell [.ol 1504500,.ol 1504501,.ol 1504502,.nil] false),.b (.lst 77 ty60 false),.b (.lst 79 ty48 false),.b (.lst 94 ty22 false)],[(.list iT),iT,ty61,ty51,ty26]⟩],fun h=>Pw.j2x h.1 h.2.1 h.2.2.1 h.2.2.2.1 h.2.2.2.2.1 h.2.2.2.2.2⟩,
  ⟨6,[.s (.one (.bp 0 0)),.s (.one (.bp 128 0)),.s (.one (.bp 192 0)),sI,.s (.one (.bp 512 0)),sI,sI,.b (.cell [.d (.list iT),.d iT] false),.b (.cell [.nil,.nil,.nil,.nil] false),.b (.cell [.ol 1006000,.ol 1006001,.ol 1006002,.nil] false),.b (.cell [.d .str,.d iT,.ol 1006003] false),.b (.lst 77 ty60 false),.b (.lst 79 ty48 false),.b (.lst 94 ty22 false),.b (.lst 3 iT false)],[iT,iT,iT,(.list iT),iT,.str,iT,ty61,ty51,ty26,(.list iT)],[⟨.exit 6,[.s (.one (.bp 0 0)),.s (.one (.bp 128 0)),.s (.one (.bp 192 0)),sI,.s (.one (.bp 512 0)),.b (.cell [.d (.list iT),.d iT] false),.b (.cell [.nil,.nil,.nil,.nil] false),.b (.cell [.ol 1506700,.ol 1506701,.ol 1506702,.nil] false),.b (.cell [.d .str,.d iT,.ol 1506703] false),.b (.lst 77 ty60 false),.b (.lst 79 ty48 false),.b (.lst 94 ty22 false),.b (.lst 3 iT false)],[iT,(.list iT),iT,.str,iT,ty61,ty51,ty26,(.list iT)]⟩],fun h=>Pw.j3j h.1 h.2.1 h.2.2.1 h.2.2.2.1 h.2.2.2.2.1 h.2.2.2.2.2.1 h.2.2.2.2.2.2.1 h.2.2.2.2.2.2.2.1 h.2.2.2.2.2.2.2.2.1 h.2.2.2.2.2.2.2.2.2.1 h.2.2.2.2.2.2.2.2.2.2⟩]
 modes:=[(21,[false,false]),(38,[]),(52,[false,false]),(53,[false,false]),(70,[false,false]),(71,[false])]
 keep:=[(0,⟨[0,2,3,4],[0,128,192],[⟨1000000,77,ty60,[.cell 192 0],false⟩],[]⟩),
  (2,⟨[0,2,3,5],[0,128,192],[⟨1002000,77,ty60,[.cell 192 0],false⟩,⟨1002001,79,ty48,[.cell 192 1],false⟩],[]⟩),
  (4,⟨[0,2,3,7],[0,128,192],[⟨1004000,77,ty60,[.cell 192 0],false⟩,⟨1004001,79,ty48,[.cell 192 1],false⟩,⟨1004002,94,ty22,[.cell 192 2],false⟩],[]⟩),
  (6,⟨[0,2,3,7,8,9,10],[0,128,192,512],[⟨1006000,77,ty60,[.cell 192 0],false⟩,⟨1006001,79,ty48,[.cell 192 1],false⟩,⟨1006002,94,ty22,[.cell 192 2],false⟩,⟨1006003,3,iT,[.cell 512 2],false⟩],[]⟩)]
 keepX:=[(0,.exit 0,⟨[0,2,3],[0,128,192],[⟨1500100,77,ty60,[.cell 192 0],false⟩],[]⟩),
  (2,.exit 2,⟨[0,2,3],[0,128,192],[⟨1502300,77,ty60,[.cell 192 0],false⟩,⟨1502301,79,ty48,[.cell 192 1],false⟩],[]⟩),
  (4,.exit 4,⟨[2,3],[0,128,192],[⟨1504500,77,ty60,[.cell 192 0],false⟩,⟨1504501,79,ty48,[.cell 192 1],false⟩,⟨1504502,94,ty22,[.cell 192 2],false⟩],[]⟩),
  (6,.exit 6,⟨[0,2,3,7,8],[0,128,192,512],[⟨1506700,77,ty60,[.cell 192 0],false⟩,⟨1506701,79,ty48,[.cell 192 1],false⟩,⟨1506702,94,ty22,[.cell 192 2],false⟩,⟨1506703,3,iT,[.cell 512 2],false⟩],[]⟩)]
 ro:=[false]
 dw:=[(5,[[],[],[],[1344],[],[],[],[],[],[0],[1792],[1856,1000000],[],[192]]),(9,[[2432],[],[],[],[],[],[],[],[],[],[0],[],[0],[],[384],[384]])]
 ns:=[3]
theorem jks:Con.OK Tryz.prog j91:=
 cOf j0a j03 jlm j91 Tryz.func36 (j9 j2B (j9 j4I (j9 jll (j9 jkr (j9 j83 (j9 jbW trivial)))))) (j9 (fun h=>by kernel_rfl) (j9 (fun h=>by kernel_rfl) (j9 (fun h=>by kernel_rfl) (j9 (fun h=>by kernel_rfl) trivial))))
def j92:Con:=⟨37,[.ref [(.list iT),iT],.v ty79,.v .str],[(.list iT),iT,ty79,.str],⟨[.v ty67],[.ref [(.list iT),iT]]⟩,[ty67,(.list iT),iT],fun h=>Pw.j9r h.1 h.2.1 h.2.2.1 h.2.2.2⟩
def jln:FnD where
 N:=77
 np:=3
 cs:=[j1t,j2H,j4b,j5u]
 ds:=[⟨0,[.s (.one (.bp 0 0)),.s (.one (.bp 256 0)),.s (.one (.bp 384 0)),.s (.one (.bp 448 0)),sI,.b (.cell [.d (.list iT),.d iT] false),.b (.cell [.d ty61,.d ty51,.d ty26,.d ty73] false),.b (.cell [.d .str,.d iT,.d iT,.d iT,.d iT,.d iT,.nil,.nil,.d iT,.d iT] false),.b (.cell [.d .str,.d iT,.d iT,.d iT,.d iT,.d iT,.ol 1000000,.nil,.d iT,.d iT] false),.b (.lst 3 iT false)],[iT,(.list iT),iT,ty61,ty51,ty26,ty73,.str,iT,iT,iT,iT,iT,iT,iT,.str,iT,iT,iT,iT,iT,iT,iT,(.list iT)],[⟨.exit 0,[.s (.one (.bp 0 0)),.s (.one (.bp 256 0)),.s (.one (.bp 384 0)),.s (.one (.bp 448 0)),.b (.cell [.d (.list iT),.d iT] false),.b (.cell [.d ty61,.d ty51,.d ty26,.d ty73] false),.b (.cell [.d .str,.d iT,.d iT,.d iT,.d iT,.d iT,.nil,.nil,.d iT,.d iT] false),.b (.cell [.d .str,.d iT,.d iT,.d iT,.d iT,.d iT,.ol 1500100,.nil,.d iT,.d iT] false),.b (.lst 3 iT false)],[(.list iT),iT,ty61,ty51,ty26,ty73,.str,iT,iT,iT,iT,iT,iT,iT,.str,iT,iT,iT,iT,iT,iT,iT,(.list iT)]⟩],fun h=>Pw.j3k h.1 h.2.1 h.2.2.1 h.2.2.2.1 h.2.2.2.2.1 h.2.2.2.2.2.1 h.2.2.2.2.2.2.1 h.2.2.2.2.2.2.2.1 h.2.2.2.2.2.2.2.2.1 h.2.2.2.2.2.2.2.2.2.1 h.2.2.2.2.2.2.2.2.2.2.1 h.2.2.2.2.2.2.2.2.2.2.2.1 h.2.2.2.2.2.2.2.2.2.2.2.2.1 h.2.2.2.2.2.2.2.2.2.2.2.2.2.1 h.2.2.2.2.2.2.2.2.2.2.2.2.2.2.1 h.2.2.2.2.2.2.2.2.2.2.2.2.2.2.2.1 h.2.2.2.2.2.2.2.2.2.2.2.2.2.2.2.2.1 h.2.2.2.2.2.2.2.2.2.2.2.2.2.2.2.2.2.1 h.2.2.2.2.2.2.2.2.2.2.2.2.2.2.2.2.2.2.1 h.2.2.2.2.2.2.2.2.2.2.2.2.2.2.2.2.2.2.2.1 h.2.2.2.2.2.2.2.2.2.2.2.2.2.2.2.2.2.2.2.2.1 h.2.2.2.2.2.2.2.2.2.2.2.2.2.2.2.2.2.2.2.2.2.1 h.2.2.2.2.2.2.2.2.2.2.2.2.2.2.2.2.2.2.2.2.2.2.1 h.2.2.2.2.2.2.2.2.2.2.2.2.2.2.2.2.2.2.2.2.2.2.2⟩]
 modes:=[(21,[false,false]),(52,[false,false]),(53,[false,false]),(71,[false])]
 keep:=[(0,⟨[0,4,6,7,8],[0,256,384,448],[⟨1000000,3,iT,[.cell 448 6],false⟩],[]⟩)]
 keepX:=[(0,.exit 0,⟨[0,4,6,7],[0,256,384,448],[⟨1500100,3,iT,[.cell 448 6],false⟩],[]⟩)]
 ro:=[false]
 dw:=[(7,[[],[],[],[],[],[],[0],[3200],[3264,1000000],[],[448]])]
theorem jkt:Con.OK Tryz.prog j92:=
 cOf j0a j03 jln j92 Tryz.func37 (j9 j2B (j9 j4I (j9 j83 (j9 jbW trivial)))) (j9 (fun h=>by kernel_rfl) trivial)
end Go.Proofs.Pk
