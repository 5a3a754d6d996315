/- Contracts: each given function is its plain function, printed by a program. -/
import Derived.Test.YtpbnnhakjhalaaaGreatECCon6
noncomputable section
open Go Go.Lft
set_option linter.unusedVariables false
set_option maxRecDepth 100000
namespace Go.Proofs.Pk
def jaQ:Con:=⟨185,[.v ty84],[ty84],⟨[.v iT],[]⟩,[iT],fun h=>Pw.jgi h⟩
def jmu:FnD where
 N:=58
 np:=1
 cs:=[j6S,j7U,j9e,jc6]
 ds:=[⟨0,[.s (.one (.bp 64 0)),.s (.one (.ol 1000000)),sI,.b (.cell [.d ty66,.d ty56,.d ty29,.d ty78] false),.b (.lst 9 .str false)],[iT,ty66,ty56,ty29,ty78,(.list .str)],[⟨.ret,[sI],[iT]⟩,⟨.exit 0,[],[]⟩],Pw.unc6 (Pw.j3J)⟩]
 modes:=[(108,[false]),(276,[false,false]),(279,[false,false,false]),(280,[false])]
 keep:=[(0,⟨[1,3,4],[64],[⟨1000000,9,.str,[.slot 3],false⟩],[]⟩)]
 keepX:=[(0,.ret,⟨[2],[],[],[]⟩),
  (0,.exit 0,⟨[],[],[],[]⟩)]
 ro:=[false]
theorem jkY:Con.OK Tryz.prog jaQ:=
 cOf j0f j02 jmu jaQ Tryz.func185 (j8 jc1 (j8 jdj (j8 jgJ (j8 jmt trivial)))) (j8 (fun h=>by kernel_rfl) trivial)
def j6w:Con:=⟨281,[],[],⟨[.v iT],[]⟩,[iT],fun h=>Pw.j9l⟩
def jmv:FnD where
 N:=3
 np:=0
 cs:=[jau]
 ds:=[]
 modes:=[(335,[false])]
 ro:=[false]
theorem jc7:Con.OK Tryz.prog j6w:=
 cOf j0f j02 jmv j6w Tryz.func281 (j8 jiy trivial) trivial
def j7V:Con:=⟨186,[.v ty84],[ty84],⟨[.v iT],[]⟩,[iT],fun h=>Pw.jbL h⟩
def jiz:FnD where
 N:=78
 np:=1
 cs:=[j6S,j7U,j6w]
 ds:=[⟨0,[.s (.one (.bp 64 0)),.s (.one (.ol 1000000)),sI,.b (.cell [.d ty66,.d ty56,.d ty29,.d ty78] false),.b (.lst 9 .str false)],[iT,ty66,ty56,ty29,ty78,(.list .str)],[⟨.ret,[sI],[iT]⟩,⟨.exit 0,[],[]⟩],Pw.unc6 (Pw.j2G)⟩,
  ⟨2,[.s (.one (.bp 64 0)),.s (.one (.ol 1002000)),sI,.s (.one (.bp 320 0)),sI,.b (.cell [.d ty66,.d ty56,.d ty29,.d ty78] false),.b (.cell [.d .str,.d iT,.d (.list iT)] false),.b (.lst 9 .str false)],[iT,iT,ty66,ty56,ty29,ty78,.str,iT,(.list iT),(.list .str)],[⟨.ret,[sI],[iT]⟩,⟨.exit 2,[.s (.one (.bp 64 0)),.s (.one (.ol 1502300)),sI,.s (.one (.bp 320 0)),.b (.cell [.d ty66,.d ty56,.d ty29,.d ty78] false),.b (.cell [.d .str,.d iT,.d (.list iT)] false),.b (.lst 9 .str false)],[iT,ty66,ty56,ty29,ty78,.str,iT,(.list iT),(.list .str)]⟩],Pw.jiY (Pw.j2F)⟩,
  ⟨4,[.s (.one (.bp 64 0)),.s (.one (.ol 1004000)),sI,.s (.one (.bp 320 0)),sI,.b (.cell [.d ty66,.d ty56,.d ty29,.d ty78] false),.b (.cell [.d .str,.d iT,.d (.list iT)] false),.b (.lst 9 .str false)],[iT,iT,ty66,ty56,ty29,ty78,.str,iT,(.list iT),(.list .str)],[⟨.ret,[sI],[iT]⟩,⟨.exit 4,[.s (.one (.bp 64 0)),.s (.one (.ol 1504500)),sI,.b (.cell [.d ty66,.d ty56,.d ty29,.d ty78] false),.b (.lst 9 .str false)],[iT,ty66,ty56,ty29,ty78,(.list .str)]⟩],Pw.jiY (Pw.j3K)⟩]
 modes:=[(276,[false,false]),(279,[false,false,false]),(281,[])]
 keep:=[(0,⟨[1,3,4],[64],[⟨1000000,9,.str,[.slot 3],false⟩],[]⟩),
  (2,⟨[1,3,4,5,7],[64,320],[⟨1002000,9,.str,[.slot 3],false⟩],[]⟩),
  (4,⟨[1,3,4,5,8],[64,320],[⟨1004000,9,.str,[.slot 3],false⟩],[]⟩)]
 keepX:=[(0,.ret,⟨[2],[],[],[]⟩),
  (0,.exit 0,⟨[],[],[],[]⟩),
  (2,.ret,⟨[2],[],[],[]⟩),
  (2,.exit 2,⟨[1,3,4,5],[64,320],[⟨1502300,9,.str,[.slot 3],false⟩],[]⟩),
  (4,.ret,⟨[2],[],[],[]⟩),
  (4,.exit 4,⟨[1,3,4],[64],[⟨1504500,9,.str,[.slot 3],false⟩],[]⟩)]
 ro:=[false]
theorem jh1:Con.OK Tryz.prog j7V:=
 cOf j0f j02 jiz j7V Tryz.func186 (j8 jc1 (j8 jdj (j8 jc7 trivial))) (j8 (fun h=>by kernel_rfl) (j8 (fun h=>by kernel_rfl) (j8 (fun h=>by kernel_rfl) trivial)))
def jc8:Con:=⟨282,[.v ty84,.v ty72],[ty84,ty72],⟨[.v iT],[]⟩,[iT],Pw.unc2 Pw.jd9⟩
def jnE:FnD where
 N:=102
 np:=2
 cs:=[j7U,j9e,j6w]
 ds:=[⟨1,[.s (.one (.bp 128 0)),.s (.one (.bp 192 0)),sI,.b (.cell [.d ty66,.d ty56,.d ty29,.d ty78] false),.b (.cell [.d .str,.d iT,.d iT,.d iT,.d iT,.d iT,.d (.list iT),.d ty13,.d iT,.d iT] false)],[iT,ty66,ty56,ty29,ty78,.str,iT,iT,iT,iT,iT,(.list iT),ty13,iT,iT],[⟨.ret,[sI],[iT]⟩,⟨.exit 1,[.s (.one (.bp 128 0)),.s (.one (.bp 192 0)),.b (.cell [.d ty66,.d ty56,.d ty29,.d ty78] false),.b (.cell [.d .str,.d iT,.d iT,.d iT,.d iT,.d iT,.d (.list iT),.d ty13,.d iT,.d iT] false)],[ty66,ty56,ty29,ty78,.str,iT,iT,iT,iT,iT,(.list iT),ty13,iT,iT]⟩],Pw.juf (Pw.j4k)⟩]
 modes:=[(108,[false]),(279,[false,false,false]),(281,[])]
 keep:=[(1,⟨[2,3,5],[128,192],[],[]⟩)]
 keepX:=[(1,.ret,⟨[4],[],[],[]⟩),
  (1,.exit 1,⟨[2,3],[128,192],[],[]⟩)]
 ro:=[false]
theorem jmw:Con.OK Tryz.prog jc8:=
 cOf j0f j02 jnE jc8 Tryz.func282 (j8 jdj (j8 jgJ (j8 jc7 trivial))) (j8 (fun h=>by kernel_rfl) trivial)
def jdk:Con:=⟨283,[.v ty84,.v ty42],[ty84,ty42],⟨[.v iT],[]⟩,[iT],Pw.unc2 Pw.jfx⟩
def jpp:FnD where
 N:=86
 np:=2
 cs:=[j7U,j6w]
 ds:=[]
 modes:=[(279,[false,false,false]),(281,[])]
 ro:=[false]
theorem jnF:Con.OK Tryz.prog jdk:=
 cOf j0f j02 jpp jdk Tryz.func283 (j8 jdj (j8 jc7 trivial)) trivial
def j7W:Con:=⟨187,[.v ty84],[ty84],⟨[.v iT],[]⟩,[iT],fun h=>Pw.jbM h⟩
def jiA:FnD where
 N:=95
 np:=1
 cs:=[j6S,jc8,jdk]
 ds:=[⟨0,[.s (.one (.bp 64 0)),.s (.one (.ol 1000000)),sI,.b (.cell [.d ty66,.d ty56,.d ty29,.d ty78] false),.b (.lst 9 .str false)],[iT,ty66,ty56,ty29,ty78,(.list .str)],[⟨.ret,[sI],[iT]⟩,⟨.exit 0,[],[]⟩],Pw.unc6 (Pw.j2J)⟩,
  ⟨2,[.s (.one (.bp 64 0)),.s (.one (.ol 1002000)),sI,.s (.one (.bp 320 0)),.s (.one (.ol 1002001)),sI,.b (.cell [.d ty66,.d ty56,.d ty29,.d ty78] false),.b (.cell [.d .str,.d ty73,.d ty44] false),.b (.lst 9 .str false),.b (.lst 9 .str false)],[iT,iT,ty66,ty56,ty29,ty78,.str,ty73,ty44,(.list .str),(.list .str)],[⟨.ret,[sI],[iT]⟩,⟨.exit 2,[.s (.one (.bp 64 0)),.s (.one (.ol 1502300)),sI,.s (.one (.bp 320 0)),.b (.cell [.d ty66,.d ty56,.d ty29,.d ty78] false),.b (.cell [.d .str,.d ty73,.d ty44] false),.b (.lst 9 .str false)],[iT,ty66,ty56,ty29,ty78,.str,ty73,ty44,(.list .str)]⟩],Pw.jpf (Pw.j2H)⟩,
  ⟨4,[.s (.one (.bp 64 0)),.s (.one (.ol 1004000)),sI,.s (.one (.bp 320 0)),sI,.b (.cell [.d ty66,.d ty56,.d ty29,.d ty78] false),.b (.cell [.d .str,.d ty73,.d ty44] false),.b (.lst 9 .str false)],[iT,iT,ty66,ty56,ty29,ty78,.str,ty73,ty44,(.list .str)],[⟨.ret,[sI],[iT]⟩,⟨.exit 4,[.s (.one (.bp 64 0)),.s (.one (.ol 1504500)),sI,.b (.cell [.d ty66,.d ty56,.d ty29,.d ty78] false),.b (.lst 9 .str false)],[iT,ty66,ty56,ty29,ty78,(.list .str)]⟩],Pw.jiY (Pw.j2I)⟩]
 modes:=[(276,[false,false]),(282,[false,false]),(283,[false,false])]
 keep:=[(0,⟨[1,3,4],[64],[⟨1000000,9,.str,[.slot 3],false⟩],[]⟩),
  (2,⟨[1,3,4,5,7,8],[64,320],[⟨1002000,9,.str,[.slot 3],false⟩,⟨1002001,9,.str,[.slot 7],false⟩],[]⟩),
  (4,⟨[1,3,4,5,11],[64,320],[⟨1004000,9,.str,[.slot 3],false⟩],[]⟩)]
 keepX:=[(0,.ret,⟨[2],[],[],[]⟩),
  (0,.exit 0,⟨[],[],[],[]⟩),
  (2,.ret,⟨[2],[],[],[]⟩),
  (2,.exit 2,⟨[1,3,4,5],[64,320],[⟨1502300,9,.str,[.slot 3],false⟩],[]⟩),
  (4,.ret,⟨[2],[],[],[]⟩),
  (4,.exit 4,⟨[1,3,4],[64],[⟨1504500,9,.str,[.slot 3],false⟩],[]⟩)]
 ro:=[false]
theorem jh2:Con.OK Tryz.prog j7W:=
 cOf j0f j02 jiA j7W Tryz.func187 (j8 jc1 (j8 jmw (j8 jnF trivial))) (j8 (fun h=>by kernel_rfl) (j8 (fun h=>by kernel_rfl) (j8 (fun h=>by kernel_rfl) trivial)))
def jc9:Con:=⟨102,[.v ty84],[ty84],⟨[.v iT],[]⟩,[iT],fun h=>Pw.j9H h⟩
def jnG:FnD where
 N:=45
 np:=1
 cs:=[jc5,jaQ,j7V,j7W]
 ds:=[]
 modes:=[(184,[false]),(185,[false]),(186,[false]),(187,[false])]
 ro:=[false]
theorem jmx:Con.OK Tryz.prog jc9:=
 cOf j0f j02 jnG jc9 Tryz.func102 (j8 jms (j8 jkY (j8 jh1 (j8 jh2 trivial)))) trivial
def jdl:Con:=⟨125,[.v ty84,.v iT,.v ty44],[ty84,iT,ty44],⟨[.v ty84],[]⟩,[ty84],Pw.unc3 Pw.jkz⟩
def jpq:FnD where
 N:=19
 np:=3
 cs:=[]
 ds:=[]
 ro:=[false]
theorem jnH:Con.OK Tryz.prog jdl:=
 cOf j0f j02 jpq jdl Tryz.func125 trivial trivial
def jca:Con:=⟨50,[.v ty84,.v iT,.v ty42],[ty84,iT,ty42],⟨[.v ty84,.v iT],[]⟩,[ty84,iT],Pw.unc3 Pw.jda⟩
def jnI:FnD where
 N:=48
 np:=3
 cs:=[jc9,jdl]
 ds:=[]
 modes:=[(102,[false]),(125,[false,false,false])]
 ro:=[false,false]
 dw:=[(5,[[],[],[],[],[],[],[2112],[],[2240],[2112,2304],[]])]
theorem jmy:Con.OK Tryz.prog jca:=
 cOf j0f j02 jnI jca Tryz.func50 (j8 jmx (j8 jnH trivial)) trivial
def j6k:Con:=⟨18,[.ref [(.list iT),iT],.v ty84,.v iT,.v iT],[(.list iT),iT,ty84,iT,iT],⟨[.v ty84],[.ref [(.list iT),iT]]⟩,[ty84,(.list iT),iT],Pw.unc5 Pw.j8M⟩
def jfU:FnD where
 N:=28
 np:=4
 cs:=[j5c,jca]
 ds:=[⟨0,[.s (.one (.bp 0 0)),sI,sI,.s (.one (.bp 320 0)),.s (.one (.bp 512 0)),.b (.cell [.d (.list iT),.d iT] false),.b (.cell [.d ty66,.d ty56,.d ty29,.d ty78] false),.b (.cell [.nil,.nil,.nil,.nil] false)],[iT,iT,(.list iT),iT,ty66,ty56,ty29,ty78],[⟨.exit 0,[.s (.one (.bp 320 0)),.s (.one (.bp 512 0)),.b (.cell [.d (.list iT),.d iT] false),.b (.cell [.d ty66,.d ty56,.d ty29,.d ty78] false),.b (.cell [.nil,.nil,.nil,.nil] false)],[(.list iT),iT,ty66,ty56,ty29,ty78]⟩],Pw.unc8 (Pw.j22)⟩]
 modes:=[(23,[false,false]),(50,[false,false,false])]
 keep:=[(0,⟨[0,2,3,5,8],[0,320,512],[],[]⟩)]
 keepX:=[(0,.exit 0,⟨[5,8],[0,320,512],[],[]⟩)]
 ro:=[false]
 dw:=[(3,[[],[],[],[],[0],[],[],[],[],[576],[576],[]])]
theorem jeP:Con.OK Tryz.prog j6k:=
 cOf j0f j02 jfU j6k Tryz.func18 (j8 jbk (j8 jmy trivial)) (j8 (fun h=>by kernel_rfl) trivial)
def jdm:Con:=⟨20,[.v iT,.v iT],[iT,iT],⟨[.v iT],[]⟩,[iT],Pw.unc2 Pw.jhp⟩
def jpr:FnD where
 N:=12
 np:=2
 cs:=[]
 ds:=[]
 ro:=[false]
theorem jnJ:Con.OK Tryz.prog jdm:=
 cOf j0f j02 jpr jdm Tryz.func20 trivial trivial
def j8Y:Con:=⟨70,[.v ty65,.v ty65],[ty65,ty65],⟨[.v .bool],[]⟩,[.bool],Pw.unc2 Pw.j8n⟩
def jje:FnD where
 N:=45
 np:=2
 cs:=[]
 ds:=[⟨0,[.s (.one (.bp 128 0)),.s (.one (.bp 192 0)),sI,.b (.cell [.d .str,.d iT,.d ty58] false),.b (.cell [.d .str,.d iT,.d ty58] false)],[iT,.str,iT,ty58,.str,iT,ty58],[⟨.ret,[.s (.one (.d .bool))],[.bool]⟩,⟨.exit 0,[],[]⟩],Pw.unc7 (Pw.j33)⟩]
 keep:=[(0,⟨[2,3,5],[128,192],[],[]⟩)]
 keepX:=[(0,.ret,⟨[4],[],[],[]⟩),
  (0,.exit 0,⟨[],[],[],[]⟩)]
 ro:=[false]
theorem jiB:Con.OK Tryz.prog j8Y:=
 cOf j0f j02 jje j8Y Tryz.func70 trivial (j8 (fun h=>by kernel_rfl) trivial)
def j4D:Con:=⟨71,[.v ty13,.v ty13],[ty13,ty13],⟨[.v .bool],[]⟩,[.bool],Pw.unc2 Pw.j5A⟩
def jgp:FnD where
 N:=26
 np:=2
 cs:=[]
 ds:=[⟨0,[.s (.one (.d ty13)),.s (.one (.d ty13)),sI],[ty13,ty13,iT],[⟨.ret,[.s (.one (.d .bool))],[.bool]⟩,⟨.exit 0,[],[]⟩],Pw.unc3 (Pw.j2k)⟩]
 keep:=[(0,⟨[0,1,5],[],[],[]⟩)]
 keepX:=[(0,.ret,⟨[4],[],[],[]⟩),
  (0,.exit 0,⟨[],[],[],[]⟩)]
 ro:=[false]
theorem jav:Con.OK Tryz.prog j4D:=
 cOf j0f j02 jgp j4D Tryz.func71 trivial (j8 (fun h=>by kernel_rfl) trivial)
def j6z:Con:=⟨72,[.v (.list iT),.v (.list iT)],[(.list iT),(.list iT)],⟨[.v .bool],[]⟩,[.bool],Pw.unc2 Pw.j8p⟩
def jjf:FnD where
 N:=26
 np:=2
 cs:=[]
 ds:=[⟨0,[.s (.one (.d (.list iT))),.s (.one (.d (.list iT))),sI],[(.list iT),(.list iT),iT],[⟨.ret,[.s (.one (.d .bool))],[.bool]⟩,⟨.exit 0,[],[]⟩],Pw.unc3 (Pw.j34)⟩]
 keep:=[(0,⟨[0,1,5],[],[],[]⟩)]
 keepX:=[(0,.ret,⟨[4],[],[],[]⟩),
  (0,.exit 0,⟨[],[],[],[]⟩)]
 ro:=[false]
theorem jdn:Con.OK Tryz.prog j6z:=
 cOf j0f j02 jjf j6z Tryz.func72 trivial (j8 (fun h=>by kernel_rfl) trivial)
def j7X:Con:=⟨148,[.v ty72,.v ty72],[ty72,ty72],⟨[.v .bool],[]⟩,[.bool],Pw.unc2 Pw.j79⟩
def jiC:FnD where
 N:=66
 np:=2
 cs:=[j4D,j6z]
 ds:=[]
 modes:=[(71,[false,false]),(72,[false,false])]
 ro:=[false]
theorem jh3:Con.OK Tryz.prog j7X:=
 cOf j0f j02 jiC j7X Tryz.func148 (j8 jav (j8 jdn trivial)) trivial
def j6l:Con:=⟨73,[.v ty77,.v ty77],[ty77,ty77],⟨[.v .bool],[]⟩,[.bool],Pw.unc2 Pw.j3A⟩
def jfV:FnD where
 N:=67
 np:=2
 cs:=[j7X]
 ds:=[⟨0,[.s (.one (.bp 128 0)),.s (.one (.bp 192 0)),sI,.b (.cell [.d .str,.d ty73,.d ty44] false),.b (.cell [.d .str,.d ty73,.d ty44] false)],[iT,.str,ty73,ty44,.str,ty73,ty44],[⟨.ret,[.s (.one (.d .bool))],[.bool]⟩,⟨.exit 0,[.s (.one (.bp 128 0)),.s (.one (.bp 192 0)),.b (.cell [.d .str,.d ty73,.d ty44] false),.b (.cell [.d .str,.d ty73,.d ty44] false)],[.str,ty73,ty44,.str,ty73,ty44]⟩],Pw.unc7 (Pw.j23)⟩,
  ⟨2,[.s (.one (.bp 128 0)),.s (.one (.bp 192 0)),sI,.b (.cell [.d .str,.d ty73,.d ty44] false),.b (.cell [.d .str,.d ty73,.d ty44] false)],[iT,.str,ty73,ty44,.str,ty73,ty44],[⟨.ret,[.s (.one (.d .bool))],[.bool]⟩,⟨.exit 2,[],[]⟩],Pw.unc7 (Pw.j24)⟩]
 modes:=[(148,[false,false])]
 keep:=[(0,⟨[2,3,5],[128,192],[],[]⟩),
  (2,⟨[2,3,6],[128,192],[],[]⟩)]
 keepX:=[(0,.ret,⟨[4],[],[],[]⟩),
  (0,.exit 0,⟨[2,3],[128,192],[],[]⟩),
  (2,.ret,⟨[4],[],[],[]⟩),
  (2,.exit 2,⟨[],[],[],[]⟩)]
 ro:=[false]
theorem jeQ:Con.OK Tryz.prog j6l:=
 cOf j0f j02 jfV j6l Tryz.func73 (j8 jh3 trivial) (j8 (fun h=>by kernel_rfl) (j8 (fun h=>by kernel_rfl) trivial))
def jdo:Con:=⟨22,[.v ty84,.v ty84],[ty84,ty84],⟨[.v .bool],[]⟩,[.bool],Pw.unc2 Pw.jfy⟩
def jps:FnD where
 N:=180
 np:=2
 cs:=[j8Y,j4D,j6z,j6l]
 ds:=[⟨0,[.s (.one (.bp 128 0)),.s (.one (.bp 192 0)),sI,.b (.cell [.d ty66,.d ty56,.d ty29,.d ty78] false),.b (.cell [.d ty66,.d ty56,.d ty29,.d ty78] false)],[iT,ty66,ty56,ty29,ty78,ty66,ty56,ty29,ty78],[⟨.ret,[.s (.one (.d .bool))],[.bool]⟩,⟨.exit 0,[.s (.one (.bp 128 0)),.s (.one (.bp 192 0)),.b (.cell [.d ty66,.d ty56,.d ty29,.d ty78] false),.b (.cell [.d ty66,.d ty56,.d ty29,.d ty78] false)],[ty66,ty56,ty29,ty78,ty66,ty56,ty29,ty78]⟩],Pw.unc9 (Pw.j4R)⟩,
  ⟨2,[.s (.one (.bp 128 0)),.s (.one (.bp 192 0)),sI,.b (.cell [.d ty66,.d ty56,.d ty29,.d ty78] false),.b (.cell [.d ty66,.d ty56,.d ty29,.d ty78] false)],[iT,ty66,ty56,ty29,ty78,ty66,ty56,ty29,ty78],[⟨.ret,[.s (.one (.d .bool))],[.bool]⟩,⟨.exit 2,[.s (.one (.bp 128 0)),.s (.one (.bp 192 0)),.b (.cell [.d ty66,.d ty56,.d ty29,.d ty78] false),.b (.cell [.d ty66,.d ty56,.d ty29,.d ty78] false)],[ty66,ty56,ty29,ty78,ty66,ty56,ty29,ty78]⟩],Pw.unc9 (Pw.j4S)⟩,
  ⟨4,[.s (.one (.bp 128 0)),.s (.one (.bp 192 0)),sI,.b (.cell [.d ty66,.d ty56,.d ty29,.d ty78] false),.b (.cell [.d ty66,.d ty56,.d ty29,.d ty78] false)],[iT,ty66,ty56,ty29,ty78,ty66,ty56,ty29,ty78],[⟨.ret,[.s (.one (.d .bool))],[.bool]⟩,⟨.exit 4,[.s (.one (.bp 128 0)),.s (.one (.bp 192 0)),.b (.cell [.d ty66,.d ty56,.d ty29,.d ty78] false),.b (.cell [.d ty66,.d ty56,.d ty29,.d ty78] false)],[ty66,ty56,ty29,ty78,ty66,ty56,ty29,ty78]⟩],Pw.unc9 (Pw.j4T)⟩,
  ⟨6,[.s (.one (.bp 128 0)),.s (.one (.bp 192 0)),sI,.b (.cell [.d ty66,.d ty56,.d ty29,.d ty78] false),.b (.cell [.d ty66,.d ty56,.d ty29,.d ty78] false)],[iT,ty66,ty56,ty29,ty78,ty66,ty56,ty29,ty78],[⟨.ret,[.s (.one (.d .bool))],[.bool]⟩,⟨.exit 6,[],[]⟩],Pw.unc9 (Pw.j4U)⟩]
 modes:=[(70,[false,false]),(71,[false,false]),(72,[false,false]),(73,[false,false])]
 keep:=[(0,⟨[2,3,5],[128,192],[],[]⟩),
  (2,⟨[2,3,6],[128,192],[],[]⟩),
  (4,⟨[2,3,9],[128,192],[],[]⟩),
  (6,⟨[2,3,12],[128,192],[],[]⟩)]
 keepX:=[(0,.ret,⟨[4],[],[],[]⟩),
  (0,.exit 0,⟨[2,3],[128,192],[],[]⟩),
  (2,.ret,⟨[4],[],[],[]⟩),
  (2,.exit 2,⟨[2,3],[128,192],[],[]⟩),
  (4,.ret,⟨[4],[],[],[]⟩),
  (4,.exit 4,⟨[2,3],[128,192],[],[]⟩),
  (6,.ret,⟨[4],[],[],[]⟩),
  (6,.exit 6,⟨[],[],[],[]⟩)]
 ro:=[false]
 dw:=[(11,[[],[],[],[],[],[],[],[],[],[],[448],[512],[448],[512]]),(17,[[],[],[],[],[],[],[],[],[],[],[640],[704],[640],[704]])]
theorem jnK:Con.OK Tryz.prog jdo:=
 cOf j0f j02 jps jdo Tryz.func22 (j8 jiB (j8 jav (j8 jdn (j8 jeQ trivial)))) (j8 (fun h=>by kernel_rfl) (j8 (fun h=>by kernel_rfl) (j8 (fun h=>by kernel_rfl) (j8 (fun h=>by kernel_rfl) trivial))))
def j8u:Con:=⟨3,[.v (.list iT),.v iT],[(.list iT),iT],⟨[.v .bool],[]⟩,[.bool],Pw.unc2 Pw.j7N⟩
def jeR:FnD where
 N:=109
 np:=2
 cs:=[jaC,j7g,jaP,jbZ,j6j,j6k,jdm,jdo]
 ds:=[]
 modes:=[(15,[false]),(16,[]),(17,[false]),(18,[false,false,false,false]),(19,[false,false]),(20,[false,false]),(21,[false,false,false]),(22,[false,false])]
 ro:=[false]
theorem law13_EditCancels_ok:Con.OK Tryz.prog j8u:=
 cOf j0f j02 jeR j8u Tryz.func3 (j8 jkA (j8 je7 (j8 jkV (j8 jml (j8 jeL (j8 jeP (j8 jnJ (j8 jnK trivial)))))))) trivial
end Go.Proofs.Pk
