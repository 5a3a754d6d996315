/- Contracts: each given function is its plain function, printed by a program. -/
import Derived.Test.YthpdddnkpjnllaaGreatGTab
import Derived.Test.YthpdddnkpjnllaaGreatGSrt
noncomputable section
open Go Go.Lft
set_option linter.unusedVariables false
set_option maxRecDepth 100000
namespace Go.Proofs.Pk
abbrev ty8:Ty:=(.pair iT iT)
abbrev ty12:Ty:=(.list ty8)
abbrev ty20:Ty:=(.pair iT ty8)
abbrev ty22:Ty:=(.pair .str (.pair iT (.list iT)))
abbrev ty25:Ty:=(.pair iT ty12)
abbrev ty24:Ty:=(.list ty20)
abbrev ty26:Ty:=(.list ty22)
abbrev ty29:Ty:=(.list ty25)
abbrev ty37:Ty:=(.pair iT (.pair iT ty20))
abbrev ty39:Ty:=(.list ty37)
abbrev ty48:Ty:=(.pair .str (.pair iT (.pair ty12 (.pair iT (.pair iT .bool)))))
abbrev ty50:Ty:=(.pair iT (.pair iT ty37))
abbrev ty51:Ty:=(.list ty48)
abbrev ty53:Ty:=(.list ty50)
abbrev ty60:Ty:=(.pair .str (.pair iT ty53))
abbrev ty61:Ty:=(.list ty60)
abbrev ty67:Ty:=(.pair .str (.pair iT (.pair ty8 (.pair iT (.pair iT (.pair (.list iT) (.pair ty12 ty8)))))))
abbrev ty68:Ty:=(.list ty67)
abbrev ty72:Ty:=(.pair .str (.pair ty68 ty39))
abbrev ty73:Ty:=(.list ty72)
abbrev ty79:Ty:=(.pair ty61 (.pair ty51 (.pair ty26 ty73)))
abbrev ty81:Ty:=(.pair ty79 ty29)
def jdg:Con:=⟨10,[.v (.list iT)],[(.list iT)],⟨[.v .bool],[]⟩,[.bool],fun h=>Pw.jke h⟩
def jqw:FnD where
 N:=6
 np:=1
 cs:=[]
 ds:=[]
 ro:=[false]
theorem joY:Con.OK Tryz.prog jdg:=
 cOf j07 j02 jqw jdg Tryz.func10 trivial trivial
def jdh:Con:=⟨62,[.v .bool],[.bool],⟨[.v ty79],[]⟩,[ty79],fun h=>Pw.jkf h⟩
def jqx:FnD where
 N:=35
 np:=1
 cs:=[]
 ds:=[]
 ro:=[false]
theorem joZ:Con.OK Tryz.prog jdh:=
 cOf j07 j02 jqx jdh Tryz.func62 trivial trivial
def j79:Con:=⟨73,[.v ty60],[ty60],⟨[.v .str],[]⟩,[.str],fun h=>Pw.jaw h⟩
def jjh:FnD where
 N:=5
 np:=1
 cs:=[]
 ds:=[]
 ro:=[false]
theorem jhZ:Con.OK Tryz.prog j79:=
 cOf j07 j02 jjh j79 Tryz.func73 trivial trivial
def jc8:Con:=⟨172,[.v (.int .u8)],[(.int .u8)],⟨[.v .bool],[]⟩,[.bool],fun h=>Pw.jbB h⟩
def jp0:FnD where
 N:=9
 np:=1
 cs:=[]
 ds:=[]
 ro:=[false]
theorem jnh:Con.OK Tryz.prog jc8:=
 cOf j07 j02 jp0 jc8 Tryz.func172 trivial trivial
def jc9:Con:=⟨173,[.v (.int .u8)],[(.int .u8)],⟨[.v .bool],[]⟩,[.bool],fun h=>Pw.jhV h⟩
def jp1:FnD where
 N:=9
 np:=1
 cs:=[]
 ds:=[]
 ro:=[false]
theorem jni:Con.OK Tryz.prog jc9:=
 cOf j07 j02 jp1 jc9 Tryz.func173 trivial trivial
def jdi:Con:=⟨126,[.v .str],[.str],⟨[.v .bool],[]⟩,[.bool],fun h=>Pw.j62 h⟩
def jqy:FnD where
 N:=43
 np:=1
 cs:=[jc8,jc9]
 ds:=[⟨0,[.s (.one (.d .str)),sI,sI],[.str,iT,iT],[⟨.ret,[.s (.one (.d .bool))],[.bool]⟩,⟨.exit 0,[],[]⟩],fun h=>Pw.j6a h.1 h.2.1 h.2.2⟩]
 modes:=[(172,[false]),(173,[false])]
 keep:=[(0,⟨[0,19,20],[],[],[]⟩)]
 keepX:=[(0,.ret,⟨[2],[],[],[]⟩),
  (0,.exit 0,⟨[],[],[],[]⟩)]
 ro:=[false]
theorem jp2:Con.OK Tryz.prog jdi:=
 cOf j07 j02 jqy jdi Tryz.func126 (j9 jnh (j9 jni trivial)) (j9 (fun h=>by kernel_rfl) trivial)
def j3A:Con:=⟨75,[.v .str,.rl 4294967424 (.list (.pair .str .bool))],[.str,(.list (.pair .str .bool))],⟨[.v iT],[.rl (.list (.pair .str .bool))]⟩,[iT,(.list (.pair .str .bool))],fun h=>Pw.j3c h.1 h.2⟩
def jnj:FnD where
 N:=13
 np:=2
 cs:=[jdi]
 ds:=[]
 modes:=[(126,[false])]
 ro:=[false]
theorem j6C:Con.OK Tryz.prog j3A:=
 cOf j07 j02 jnj j3A Tryz.func75 (j9 jp2 trivial) trivial
def jca:Con:=⟨220,[.v iT,.v iT,.v iT],[iT,iT,iT],⟨[.v .bool],[]⟩,[.bool],fun h=>Pw.jax h.1 h.2.1 h.2.2⟩
def jw4:FnD where
 N:=15
 np:=3
 cs:=[]
 ds:=[]
 ro:=[false]
theorem jki:Con.OK Tryz.prog jca:=
 cOf j07 j02 jw4 jca Tryz.func220 trivial trivial
def jeH:Con:=⟨244,[.v ty50],[ty50],⟨[.v iT],[]⟩,[iT],fun h=>Pw.jg3 h⟩
def js8:FnD where
 N:=45
 np:=1
 cs:=[jca]
 ds:=[]
 modes:=[(220,[false,false,false])]
 ro:=[false]
theorem jqz:Con.OK Tryz.prog jeH:=
 cOf j07 j02 js8 jeH Tryz.func244 (j9 jki trivial) trivial
def jdj:Con:=⟨249,[.v iT],[iT],⟨[.v .bool],[]⟩,[.bool],fun h=>Pw.jkg h⟩
def jqA:FnD where
 N:=16
 np:=1
 cs:=[]
 ds:=[]
 ro:=[false]
theorem jp3:Con.OK Tryz.prog jdj:=
 cOf j07 j02 jqA jdj Tryz.func249 trivial trivial
def j64:Con:=⟨223,[.v iT,.v iT],[iT,iT],⟨[.v iT],[]⟩,[iT],fun h=>Pw.j6Q h.1 h.2⟩
def jqB:FnD where
 N:=24
 np:=2
 cs:=[jdj]
 ds:=[]
 modes:=[(249,[false])]
 ro:=[false]
theorem jbd:Con.OK Tryz.prog j64:=
 cOf j07 j02 jqB j64 Tryz.func223 (j9 jp3 trivial) trivial
def jcb:Con:=⟨269,[.v ty20],[ty20],⟨[.v .bool],[]⟩,[.bool],fun h=>Pw.jbC h⟩
def jp4:FnD where
 N:=26
 np:=1
 cs:=[j64]
 ds:=[]
 modes:=[(223,[false,false])]
 ro:=[false]
theorem jnk:Con.OK Tryz.prog jcb:=
 cOf j07 j02 jp4 jcb Tryz.func269 (j9 jbd trivial) trivial
def j8E:Con:=⟨248,[.v iT,.v iT],[iT,iT],⟨[.v iT],[]⟩,[iT],fun h=>Pw.j7S h.1 h.2⟩
def jp5:FnD where
 N:=16
 np:=2
 cs:=[]
 ds:=[]
 ro:=[false]
theorem jhz:Con.OK Tryz.prog j8E:=
 cOf j07 j02 jp5 j8E Tryz.func248 trivial trivial
def j6D:Con:=⟨221,[.v iT],[iT],⟨[.v iT],[]⟩,[iT],fun h=>Pw.j4M h⟩
def jp6:FnD where
 N:=19
 np:=1
 cs:=[j8E]
 ds:=[]
 modes:=[(248,[false,false])]
 ro:=[false]
theorem jdk:Con.OK Tryz.prog j6D:=
 cOf j07 j02 jp6 j6D Tryz.func221 (j9 jhz trivial) trivial
def jaB:Con:=⟨270,[.v ty20],[ty20],⟨[.v iT],[]⟩,[iT],fun h=>Pw.j6l h⟩
def jnl:FnD where
 N:=25
 np:=1
 cs:=[j64,j6D]
 ds:=[⟨0,[.s (.one (.bp 64 0)),sI,sI,.b (.cell [.d iT,.d iT,.d iT] false)],[iT,iT,iT,iT,iT],[⟨.exit 0,[sI],[iT]⟩],fun h=>Pw.j3E h.1 h.2.1 h.2.2.1 h.2.2.2.1 h.2.2.2.2⟩]
 modes:=[(221,[false]),(223,[false,false])]
 keep:=[(0,⟨[1,3,4],[64],[],[]⟩)]
 keepX:=[(0,.exit 0,⟨[3],[],[],[]⟩)]
 ro:=[false]
theorem jmn:Con.OK Tryz.prog jaB:=
 cOf j07 j02 jnl jaB Tryz.func270 (j9 jbd (j9 jdk trivial)) (j9 (fun h=>by kernel_rfl) trivial)
def j6W:Con:=⟨230,[.v iT],[iT],⟨[.v iT],[]⟩,[iT],fun h=>Pw.j5s h⟩
def jmo:FnD where
 N:=7
 np:=1
 cs:=[]
 ds:=[]
 ro:=[false]
theorem jfp:Con.OK Tryz.prog j6W:=
 cOf j07 j02 jmo j6W Tryz.func230 trivial trivial
def jeI:Con:=⟨245,[.v iT,.v iT,.v iT,.v iT],[iT,iT,iT,iT],⟨[.v iT,.v iT],[]⟩,[iT,iT],fun h=>Pw.jbD h.1 h.2.1 h.2.2.1 h.2.2.2⟩
def js9:FnD where
 N:=59
 np:=4
 cs:=[j64,jcb,jaB,j6W]
 ds:=[]
 modes:=[(223,[false,false]),(230,[false]),(269,[false]),(270,[false])]
 ro:=[false,false]
theorem jqC:Con.OK Tryz.prog jeI:=
 cOf j07 j02 js9 jeI Tryz.func245 (j9 jbd (j9 jnk (j9 jmn (j9 jfp trivial)))) trivial
def j5w:Con:=⟨247,[.v ty8,.v ty8],[ty8,ty8],⟨[.v iT],[]⟩,[iT],fun h=>Pw.j7T h.1 h.2⟩
def jgj:FnD where
 N:=10
 np:=2
 cs:=[]
 ds:=[]
 ro:=[false]
theorem jfv:Con.OK Tryz.prog j5w:=
 cOf j07 j02 jgj j5w Tryz.func247 trivial trivial
def j1c:Con:=⟨278,[.rl 256 ty12,.v iT,.v iT,.clo 247 []],[ty12,iT,iT],⟨[],[.rl ty12]⟩,[ty12],fun h=>Pw.j0d h.1 h.2.1 h.2.2⟩
def j5f:FnD where
 N:=53
 np:=4
 cs:=[j5w]
 ds:=[⟨0,[.s (.one (.ol 0)),sI,sI,.s (.one (.clo 247 [])),sI,.b (.lst 256 ty8 false)],[iT,iT,iT,ty12],[⟨.exit 0,[.b (.lst 256 ty8 false)],[ty12]⟩],fun h=>Pw.j06 h.1 h.2.1 h.2.2.1 h.2.2.2⟩,
  ⟨2,[.s (.one (.ol 0)),sI,sI,.s (.one (.clo 247 [])),sI,sI,.b (.lst 256 ty8 false)],[iT,iT,iT,iT,ty12],[⟨.exit 2,[.s (.one (.ol 0)),sI,sI,.s (.one (.clo 247 [])),sI,.b (.lst 256 ty8 false)],[iT,iT,iT,ty12]⟩],fun h=>Pw.j0n h.1 h.2.1 h.2.2.1 h.2.2.2.1 h.2.2.2.2⟩]
 modes:=[(247,[false,false])]
 keep:=[(0,⟨[0,1,2,3,8],[0],[],[]⟩),
  (2,⟨[0,1,2,3,8,9],[0],[],[]⟩)]
 keepX:=[(0,.exit 0,⟨[],[0],[],[]⟩),
  (2,.exit 2,⟨[0,1,2,3,8],[0],[],[]⟩)]
 dw:=[(6,[[],[],[],[],[],[],[],[],[],[],[],[],[],[],[],[0],[],[0]])]
theorem j4Z:Con.OK Tryz.prog j1c:=
 cOf j07 j02 j5f j1c Tryz.func278 (j9 jfv trivial) (j9 (fun h=>by kernel_rfl) (j9 (fun h=>by kernel_rfl) trivial))
def j1B:Con:=⟨271,[.rl 256 ty12,.v iT,.clo 247 []],[ty12,iT],⟨[],[.rl ty12]⟩,[ty12],fun h=>Pw.j0C h.1 h.2⟩
def j6X:FnD where
 N:=63
 np:=3
 cs:=[j1c]
 ds:=[⟨0,[.s (.one (.ol 0)),sI,.s (.one (.clo 247 [])),sI,sI,sI,.b (.lst 256 ty8 false)],[iT,iT,iT,iT,ty12],[⟨.exit 0,[.s (.one (.ol 0)),sI,.s (.one (.clo 247 [])),sI,sI,.b (.lst 256 ty8 false)],[iT,iT,iT,ty12]⟩],fun h=>Pw.j0f h.1 h.2.1 h.2.2.1 h.2.2.2.1 h.2.2.2.2⟩,
  ⟨2,[.s (.one (.ol 0)),sI,.s (.one (.clo 247 [])),sI,.b (.lst 256 ty8 false)],[iT,iT,ty12],[⟨.exit 2,[.b (.lst 256 ty8 false)],[ty12]⟩],fun h=>Pw.j0g h.1 h.2.1 h.2.2⟩,
  ⟨4,[.s (.one (.ol 0)),sI,.s (.one (.clo 247 [])),sI,sI,sI,.b (.lst 256 ty8 false)],[iT,iT,iT,iT,ty12],[⟨.exit 4,[.s (.one (.ol 0)),sI,.s (.one (.clo 247 [])),sI,sI,.b (.lst 256 ty8 false)],[iT,iT,iT,ty12]⟩],fun h=>Pw.j2E h.1 h.2.1 h.2.2.1 h.2.2.2.1 h.2.2.2.2⟩]
 modes:=[(278,[true,false,false,false])]
 keep:=[(0,⟨[0,1,2,6,7,8],[0],[],[]⟩),
  (2,⟨[0,1,2,6],[0],[],[]⟩),
  (4,⟨[0,1,2,6,7,8],[0],[],[]⟩)]
 keepX:=[(0,.exit 0,⟨[0,1,2,6,7],[0],[],[]⟩),
  (2,.exit 2,⟨[],[0],[],[]⟩),
  (4,.exit 4,⟨[0,1,2,6,7],[0],[],[]⟩)]
theorem j6E:Con.OK Tryz.prog j1B:=
 cOf j07 j02 j6X j1B Tryz.func271 (j9 j4Z trivial) (j9 (fun h=>by kernel_rfl) (j9 (fun h=>by kernel_rfl) (j9 (fun h=>by kernel_rfl) trivial)))
end Go.Proofs.Pk
