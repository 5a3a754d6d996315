/- Contracts: each given function is its plain function, printed by a program. -/
import Derived.Test.YtpbnnhakjhalaaaGreatEOCon6
noncomputable section
open Go Go.Lft
set_option linter.unusedVariables false
set_option maxRecDepth 100000
namespace Go.Proofs.Pk
def jbc:Con:=⟨185,[.v ty84],[ty84],⟨[.v iT],[]⟩,[iT],fun h=>Pw.jh0 h⟩
def jnv:FnD where
 N:=58
 np:=1
 cs:=[j76,j8h,j7y,jcC]
 ds:=[⟨0,[.s (.one (.bp 64 0)),.s (.one (.ol 1000000)),sI,.b (.cell [.d ty66,.d ty56,.d ty29,.d ty78] false),.b (.lst 9 .str false)],[iT,ty66,ty56,ty29,ty78,(.list .str)],[⟨.ret,[sI],[iT]⟩,⟨.exit 0,[],[]⟩],Pw.unc6 (Pw.j3X)⟩]
 modes:=[(108,[false]),(276,[false,false]),(279,[false,false,false]),(280,[false])]
 keep:=[(0,⟨[1,3,4],[64],[⟨1000000,9,.str,[.slot 3],false⟩],[]⟩)]
 keepX:=[(0,.ret,⟨[2],[],[],[]⟩),
  (0,.exit 0,⟨[],[],[],[]⟩)]
 ro:=[false]
theorem jlT:Con.OK Tryz.prog jbc:=
 cOf j0e j03 jnv jbc Tryz.func185 (j9 jcy (j9 je0 (j9 je1 (j9 jnu trivial)))) (j9 (fun h=>by kernel_rfl) trivial)
def j6K:Con:=⟨281,[],[],⟨[.v iT],[]⟩,[iT],fun h=>Pw.j9I⟩
def jnw:FnD where
 N:=3
 np:=0
 cs:=[jaT]
 ds:=[]
 modes:=[(335,[false])]
 ro:=[false]
theorem jcD:Con.OK Tryz.prog j6K:=
 cOf j0e j03 jnw j6K Tryz.func281 (j9 jji trivial) trivial
def j8i:Con:=⟨186,[.v ty84],[ty84],⟨[.v iT],[]⟩,[iT],fun h=>Pw.jck h⟩
def jjj:FnD where
 N:=78
 np:=1
 cs:=[j76,j8h,j6K]
 ds:=[⟨0,[.s (.one (.bp 64 0)),.s (.one (.ol 1000000)),sI,.b (.cell [.d ty66,.d ty56,.d ty29,.d ty78] false),.b (.lst 9 .str false)],[iT,ty66,ty56,ty29,ty78,(.list .str)],[⟨.ret,[sI],[iT]⟩,⟨.exit 0,[],[]⟩],Pw.unc6 (Pw.j2P)⟩,
  ⟨2,[.s (.one (.bp 64 0)),.s (.one (.ol 1002000)),sI,.s (.one (.bp 320 0)),sI,.b (.cell [.d ty66,.d ty56,.d ty29,.d ty78] false),.b (.cell [.d .str,.d iT,.d (.list iT)] false),.b (.lst 9 .str false)],[iT,iT,ty66,ty56,ty29,ty78,.str,iT,(.list iT),(.list .str)],[⟨.ret,[sI],[iT]⟩,⟨.exit 2,[.s (.one (.bp 64 0)),.s (.one (.ol 1502300)),sI,.s (.one (.bp 320 0)),.b (.cell [.d ty66,.d ty56,.d ty29,.d ty78] false),.b (.cell [.d .str,.d iT,.d (.list iT)] false),.b (.lst 9 .str false)],[iT,ty66,ty56,ty29,ty78,.str,iT,(.list iT),(.list .str)]⟩],Pw.jjO (Pw.j2O)⟩,
  ⟨4,[.s (.one (.bp 64 0)),.s (.one (.ol 1004000)),sI,.s (.one (.bp 320 0)),sI,.b (.cell [.d ty66,.d ty56,.d ty29,.d ty78] false),.b (.cell [.d .str,.d iT,.d (.list iT)] false),.b (.lst 9 .str false)],[iT,iT,ty66,ty56,ty29,ty78,.str,iT,(.list iT),(.list .str)],[⟨.ret,[sI],[iT]⟩,⟨.exit 4,[.s (.one (.bp 64 0)),.s (.one (.ol 1504500)),sI,.b (.cell [.d ty66,.d ty56,.d ty29,.d ty78] false),.b (.lst 9 .str false)],[iT,ty66,ty56,ty29,ty78,(.list .str)]⟩],Pw.jjO (Pw.j3Y)⟩]
 modes:=[(276,[false,false]),(279,[false,false,false]),(281,[])]
 keep:=[(0,⟨[1,3,4],[64],[⟨1000000,9,.str,[.slot 3],false⟩],[]⟩),
  (2,⟨[1,3,4,5,7],[64,320],[⟨1002000,9,.str,[.slot 3],false⟩],[]⟩),
  (4,⟨[1,3,4,5,8],[64,320],[⟨1004000,9,.str,[.slot 3],false⟩],[]⟩)]
 keepX:=[(0,.ret,⟨[2],[],[],[]⟩),
  (0,.exit 0,⟨[],[],[],[]⟩),
  (2,.ret,⟨[2],[],[],[]⟩),
  (2,.exit 2,⟨[1,3,4,5],[64,320],[⟨1502300,9,.str,[.slot 3],false⟩],[]⟩),
  (4,.ret,⟨[2],[],[],[]⟩),
  (4,.exit 4,⟨[1,3,4],[64],[⟨1504500,9,.str,[.slot 3],false⟩],[]⟩)]
 ro:=[false]
theorem jhO:Con.OK Tryz.prog j8i:=
 cOf j0e j03 jjj j8i Tryz.func186 (j9 jcy (j9 je0 (j9 jcD trivial))) (j9 (fun h=>by kernel_rfl) (j9 (fun h=>by kernel_rfl) (j9 (fun h=>by kernel_rfl) trivial)))
def jcE:Con:=⟨282,[.v ty84,.v ty72],[ty84,ty72],⟨[.v iT],[]⟩,[iT],Pw.unc2 Pw.jdK⟩
def joS:FnD where
 N:=102
 np:=2
 cs:=[j8h,j7y,j6K]
 ds:=[⟨1,[.s (.one (.bp 128 0)),.s (.one (.bp 192 0)),sI,.b (.cell [.d ty66,.d ty56,.d ty29,.d ty78] false),.b (.cell [.d .str,.d iT,.d iT,.d iT,.d iT,.d iT,.d (.list iT),.d ty13,.d iT,.d iT] false)],[iT,ty66,ty56,ty29,ty78,.str,iT,iT,iT,iT,iT,(.list iT),ty13,iT,iT],[⟨.ret,[sI],[iT]⟩,⟨.exit 1,[.s (.one (.bp 128 0)),.s (.one (.bp 192 0)),.b (.cell [.d ty66,.d ty56,.d ty29,.d ty78] false),.b (.cell [.d .str,.d iT,.d iT,.d iT,.d iT,.d iT,.d (.list iT),.d ty13,.d iT,.d iT] false)],[ty66,ty56,ty29,ty78,.str,iT,iT,iT,iT,iT,(.list iT),ty13,iT,iT]⟩],Pw.jtZ (Pw.j4A)⟩]
 modes:=[(108,[false]),(279,[false,false,false]),(281,[])]
 keep:=[(1,⟨[2,3,5],[128,192],[],[]⟩)]
 keepX:=[(1,.ret,⟨[4],[],[],[]⟩),
  (1,.exit 1,⟨[2,3],[128,192],[],[]⟩)]
 ro:=[false]
theorem jnx:Con.OK Tryz.prog jcE:=
 cOf j0e j03 joS jcE Tryz.func282 (j9 je0 (j9 je1 (j9 jcD trivial))) (j9 (fun h=>by kernel_rfl) trivial)
def je2:Con:=⟨283,[.v ty84,.v ty42],[ty84,ty42],⟨[.v iT],[]⟩,[iT],Pw.unc2 Pw.jge⟩
def jqV:FnD where
 N:=86
 np:=2
 cs:=[j8h,j6K]
 ds:=[]
 modes:=[(279,[false,false,false]),(281,[])]
 ro:=[false]
theorem joT:Con.OK Tryz.prog je2:=
 cOf j0e j03 jqV je2 Tryz.func283 (j9 je0 (j9 jcD trivial)) trivial
def j8j:Con:=⟨187,[.v ty84],[ty84],⟨[.v iT],[]⟩,[iT],fun h=>Pw.jcl h⟩
def jjk:FnD where
 N:=95
 np:=1
 cs:=[j76,jcE,je2]
 ds:=[⟨0,[.s (.one (.bp 64 0)),.s (.one (.ol 1000000)),sI,.b (.cell [.d ty66,.d ty56,.d ty29,.d ty78] false),.b (.lst 9 .str false)],[iT,ty66,ty56,ty29,ty78,(.list .str)],[⟨.ret,[sI],[iT]⟩,⟨.exit 0,[],[]⟩],Pw.unc6 (Pw.j2S)⟩,
  ⟨2,[.s (.one (.bp 64 0)),.s (.one (.ol 1002000)),sI,.s (.one (.bp 320 0)),.s (.one (.ol 1002001)),sI,.b (.cell [.d ty66,.d ty56,.d ty29,.d ty78] false),.b (.cell [.d .str,.d ty73,.d ty44] false),.b (.lst 9 .str false),.b (.lst 9 .str false)],[iT,iT,ty66,ty56,ty29,ty78,.str,ty73,ty44,(.list .str),(.list .str)],[⟨.ret,[sI],[iT]⟩,⟨.exit 2,[.s (.one (.bp 64 0)),.s (.one (.ol 1502300)),sI,.s (.one (.bp 320 0)),.b (.cell [.d ty66,.d ty56,.d ty29,.d ty78] false),.b (.cell [.d .str,.d ty73,.d ty44] false),.b (.lst 9 .str false)],[iT,ty66,ty56,ty29,ty78,.str,ty73,ty44,(.list .str)]⟩],Pw.jn4 (Pw.j2Q)⟩,
  ⟨4,[.s (.one (.bp 64 0)),.s (.one (.ol 1004000)),sI,.s (.one (.bp 320 0)),sI,.b (.cell [.d ty66,.d ty56,.d ty29,.d ty78] false),.b (.cell [.d .str,.d ty73,.d ty44] false),.b (.lst 9 .str false)],[iT,iT,ty66,ty56,ty29,ty78,.str,ty73,ty44,(.list .str)],[⟨.ret,[sI],[iT]⟩,⟨.exit 4,[.s (.one (.bp 64 0)),.s (.one (.ol 1504500)),sI,.b (.cell [.d ty66,.d ty56,.d ty29,.d ty78] false),.b (.lst 9 .str false)],[iT,ty66,ty56,ty29,ty78,(.list .str)]⟩],Pw.jjO (Pw.j2R)⟩]
 modes:=[(276,[false,false]),(282,[false,false]),(283,[false,false])]
 keep:=[(0,⟨[1,3,4],[64],[⟨1000000,9,.str,[.slot 3],false⟩],[]⟩),
  (2,⟨[1,3,4,5,7,8],[64,320],[⟨1002000,9,.str,[.slot 3],false⟩,⟨1002001,9,.str,[.slot 7],false⟩],[]⟩),
  (4,⟨[1,3,4,5,11],[64,320],[⟨1004000,9,.str,[.slot 3],false⟩],[]⟩)]
 keepX:=[(0,.ret,⟨[2],[],[],[]⟩),
  (0,.exit 0,⟨[],[],[],[]⟩),
  (2,.ret,⟨[2],[],[],[]⟩),
  (2,.exit 2,⟨[1,3,4,5],[64,320],[⟨1502300,9,.str,[.slot 3],false⟩],[]⟩),
  (4,.ret,⟨[2],[],[],[]⟩),
  (4,.exit 4,⟨[1,3,4],[64],[⟨1504500,9,.str,[.slot 3],false⟩],[]⟩)]
 ro:=[false]
theorem jhP:Con.OK Tryz.prog j8j:=
 cOf j0e j03 jjk j8j Tryz.func187 (j9 jcy (j9 jnx (j9 joT trivial))) (j9 (fun h=>by kernel_rfl) (j9 (fun h=>by kernel_rfl) (j9 (fun h=>by kernel_rfl) trivial)))
def j9B:Con:=⟨102,[.v ty84],[ty84],⟨[.v iT],[]⟩,[iT],fun h=>Pw.j8H h⟩
def joU:FnD where
 N:=45
 np:=1
 cs:=[jcB,jbc,j8i,j8j]
 ds:=[]
 modes:=[(184,[false]),(185,[false]),(186,[false]),(187,[false])]
 ro:=[false]
theorem jhv:Con.OK Tryz.prog j9B:=
 cOf j0e j03 joU j9B Tryz.func102 (j9 jnt (j9 jlT (j9 jhO (j9 jhP trivial)))) trivial
def je3:Con:=⟨125,[.v ty84,.v iT,.v ty44],[ty84,iT,ty44],⟨[.v ty84],[]⟩,[ty84],Pw.unc3 Pw.jls⟩
def jqW:FnD where
 N:=19
 np:=3
 cs:=[]
 ds:=[]
 ro:=[false]
theorem joV:Con.OK Tryz.prog je3:=
 cOf j0e j03 jqW je3 Tryz.func125 trivial trivial
def jcF:Con:=⟨50,[.v ty84,.v iT,.v ty42],[ty84,iT,ty42],⟨[.v ty84,.v iT],[]⟩,[ty84,iT],Pw.unc3 Pw.jdL⟩
def joW:FnD where
 N:=48
 np:=3
 cs:=[j9B,je3]
 ds:=[]
 modes:=[(102,[false]),(125,[false,false,false])]
 ro:=[false,false]
 dw:=[(5,[[],[],[],[],[],[],[2112],[],[2240],[2112,2304],[]])]
theorem jny:Con.OK Tryz.prog jcF:=
 cOf j0e j03 joW jcF Tryz.func50 (j9 jhv (j9 joV trivial)) trivial
def j6z:Con:=⟨18,[.ref [(.list iT),iT],.v ty84,.v iT,.v iT],[(.list iT),iT,ty84,iT,iT],⟨[.v ty84],[.ref [(.list iT),iT]]⟩,[ty84,(.list iT),iT],Pw.unc5 Pw.j94⟩
def jgC:FnD where
 N:=28
 np:=4
 cs:=[j5w,jcF]
 ds:=[⟨0,[.s (.one (.bp 0 0)),sI,sI,.s (.one (.bp 320 0)),.s (.one (.bp 512 0)),.b (.cell [.d (.list iT),.d iT] false),.b (.cell [.d ty66,.d ty56,.d ty29,.d ty78] false),.b (.cell [.nil,.nil,.nil,.nil] false)],[iT,iT,(.list iT),iT,ty66,ty56,ty29,ty78],[⟨.exit 0,[.s (.one (.bp 320 0)),.s (.one (.bp 512 0)),.b (.cell [.d (.list iT),.d iT] false),.b (.cell [.d ty66,.d ty56,.d ty29,.d ty78] false),.b (.cell [.nil,.nil,.nil,.nil] false)],[(.list iT),iT,ty66,ty56,ty29,ty78]⟩],Pw.unc8 (Pw.j2c)⟩]
 modes:=[(23,[false,false]),(50,[false,false,false])]
 keep:=[(0,⟨[0,2,3,5,8],[0,320,512],[],[]⟩)]
 keepX:=[(0,.exit 0,⟨[5,8],[0,320,512],[],[]⟩)]
 ro:=[false]
 dw:=[(3,[[],[],[],[],[0],[],[],[],[],[576],[576],[]])]
theorem jfx:Con.OK Tryz.prog j6z:=
 cOf j0e j03 jgC j6z Tryz.func18 (j9 jbR (j9 jny trivial)) (j9 (fun h=>by kernel_rfl) trivial)
def jcG:Con:=⟨28,[.v ty84],[ty84],⟨[.so [(some 68,ty66),(some 71,ty56),(some 120,ty29),(some 38,ty78)]],[]⟩,[ty66,ty56,ty29,ty78],fun h=>Pw.jbL h⟩
def joX:FnD where
 N:=43
 np:=1
 cs:=[]
 ds:=[⟨0,[.s (.one (.bp 64 0)),.s (.one (.bp 128 0)),.s (.one (.bp 192 0)),sI,.b (.cell [.d ty66,.d ty56,.d ty29,.d ty78] false),.b (.cell [.nil,.nil,.nil,.nil] false),.b (.cell [.ol 1000000,.ol 1000001,.ol 1000002,.ol 1000003] false),.b (.lst 68 ty65 false),.b (.lst 71 ty53 false),.b (.lst 120 ty24 false),.b (.lst 38 ty77 false)],[iT,ty66,ty56,ty29,ty78,ty66,ty56,ty29,ty78],[⟨.exit 0,[.s (.one (.bp 128 0)),.s (.one (.bp 192 0)),.b (.cell [.nil,.nil,.nil,.nil] false),.b (.cell [.ol 1500100,.ol 1500101,.ol 1500102,.ol 1500103] false),.b (.lst 68 ty65 false),.b (.lst 71 ty53 false),.b (.lst 120 ty24 false),.b (.lst 38 ty77 false)],[ty66,ty56,ty29,ty78]⟩],Pw.unc9 (Pw.j4B)⟩]
 keep:=[(0,⟨[1,2,3,4],[64,128,192],[⟨1000000,68,ty65,[.cell 192 0],false⟩,⟨1000001,71,ty53,[.cell 192 1],false⟩,⟨1000002,120,ty24,[.cell 192 2],false⟩,⟨1000003,38,ty77,[.cell 192 3],false⟩],[]⟩)]
 keepX:=[(0,.exit 0,⟨[2,3],[128,192],[⟨1500100,68,ty65,[.cell 192 0],false⟩,⟨1500101,71,ty53,[.cell 192 1],false⟩,⟨1500102,120,ty24,[.cell 192 2],false⟩,⟨1500103,38,ty77,[.cell 192 3],false⟩],[]⟩)]
 ro:=[true]
 dw:=[(1,[[],[],[512],[],[],[704],[],[],[896],[],[192],[192]]),(6,[[],[],[1920],[],[],[2112],[],[320],[],[320]])]
 so:=[.own 68 ty65,.own 71 ty53,.own 120 ty24,.own 38 ty77]
theorem jnz:Con.OK Tryz.prog jcG:=
 cOf j0e j03 joX jcG Tryz.func28 trivial (j9 (fun h=>by kernel_rfl) trivial)
def jh7:Con:=⟨80,[.v ty84,.v iT,.v iT],[ty84,iT,iT],⟨[.v .bool],[]⟩,[.bool],Pw.unc3 Pw.jsy⟩
def ju3:FnD where
 N:=29
 np:=3
 cs:=[j9B]
 ds:=[]
 modes:=[(102,[false])]
 ro:=[false]
theorem jsE:Con.OK Tryz.prog jh7:=
 cOf j0e j03 ju3 jh7 Tryz.func80 (j9 jhv trivial) trivial
def jcH:Con:=⟨350,[.v ty65,.v ty72],[ty65,ty72],⟨[.v iT],[]⟩,[iT],Pw.unc2 Pw.jdN⟩
def joY:FnD where
 N:=58
 np:=2
 cs:=[j9A]
 ds:=[]
 modes:=[(277,[false])]
 ro:=[false]
theorem jnA:Con.OK Tryz.prog jcH:=
 cOf j0e j03 joY jcH Tryz.func350 (j9 jhu trivial) trivial
def jcI:Con:=⟨411,[.v iT],[iT],⟨[.v .bool],[]⟩,[.bool],fun h=>Pw.jdO h⟩
def joZ:FnD where
 N:=5
 np:=1
 cs:=[j8g]
 ds:=[]
 modes:=[(191,[false,false,false])]
 ro:=[false]
theorem jnB:Con.OK Tryz.prog jcI:=
 cOf j0e j03 joZ jcI Tryz.func411 (j9 jdY trivial) trivial
def j9C:Con:=⟨397,[.v ty65,.v ty8],[ty65,ty8],⟨[.v iT,.v iT],[]⟩,[iT,iT],Pw.unc2 Pw.j40⟩
def jp0:FnD where
 N:=76
 np:=2
 cs:=[j8g,j3A,jcI]
 ds:=[⟨0,[.s (.one (.bp 128 0)),.s (.one (.bp 192 0)),.s (.one (.ol 1000000)),sI,.b (.cell [.d .str,.d iT,.d ty58] false),.b (.cell [.d iT,.d iT] false),.b (.lst 167 ty8 false)],[iT,.str,iT,ty58,iT,iT,ty13],[⟨.ret,[sI,sI],[iT,iT]⟩,⟨.exit 0,[],[]⟩],Pw.unc7 (Pw.j3u)⟩]
 modes:=[(107,[false]),(191,[false,false,false]),(411,[false])]
 keep:=[(0,⟨[2,3,6,8],[128,192],[⟨1000000,167,ty8,[.slot 6],false⟩],[]⟩)]
 keepX:=[(0,.ret,⟨[4,5],[],[],[]⟩),
  (0,.exit 0,⟨[],[],[],[]⟩)]
 ro:=[false,false]
theorem jhw:Con.OK Tryz.prog j9C:=
 cOf j0e j03 jp0 j9C Tryz.func397 (j9 jdY (j9 j7x (j9 jnB trivial))) (j9 (fun h=>by kernel_rfl) trivial)
def jbd:Con:=⟨399,[.v ty65,.v ty13,.v iT],[ty65,ty13,iT],⟨[.v iT],[]⟩,[iT],Pw.unc3 Pw.jep⟩
def jnC:FnD where
 N:=32
 np:=3
 cs:=[]
 ds:=[⟨0,[.s (.one (.d ty13)),sI,sI,sI],[ty13,iT,iT,iT],[⟨.exit 0,[sI],[iT]⟩],Pw.unc4 (Pw.j41)⟩]
 keep:=[(0,⟨[1,2,7,8],[],[],[]⟩)]
 keepX:=[(0,.exit 0,⟨[7],[],[],[]⟩)]
 ro:=[false]
theorem jlU:Con.OK Tryz.prog jbd:=
 cOf j0e j03 jnC jbd Tryz.func399 trivial (j9 (fun h=>by kernel_rfl) trivial)
def j9g:Con:=⟨354,[.v ty65,.v iT],[ty65,iT],⟨[.v iT,.v iT],[]⟩,[iT,iT],Pw.unc2 Pw.j8J⟩
def jk4:FnD where
 N:=22
 np:=2
 cs:=[j8g,j3A,jbd]
 ds:=[]
 modes:=[(107,[false]),(191,[false,false,false]),(399,[false,false,false])]
 ro:=[false,false]
theorem jjl:Con.OK Tryz.prog j9g:=
 cOf j0e j03 jk4 j9g Tryz.func354 (j9 jdY (j9 j7x (j9 jlU trivial))) trivial
def jcJ:Con:=⟨355,[.v iT,.v iT],[iT,iT],⟨[.v ty8],[]⟩,[ty8],Pw.unc2 Pw.jgf⟩
def jp1:FnD where
 N:=16
 np:=2
 cs:=[]
 ds:=[]
 ro:=[false]
theorem jnD:Con.OK Tryz.prog jcJ:=
 cOf j0e j03 jp1 jcJ Tryz.func355 trivial trivial
def j61:Con:=⟨314,[.v ty65,.v iT],[ty65,iT],⟨[.v ty8,.v iT],[]⟩,[ty8,iT],Pw.unc2 Pw.j39⟩
def jlV:FnD where
 N:=21
 np:=2
 cs:=[j9g,jcJ]
 ds:=[]
 modes:=[(354,[false,false]),(355,[false,false])]
 ro:=[false,false]
theorem jbe:Con.OK Tryz.prog j61:=
 cOf j0e j03 jlV j61 Tryz.func314 (j9 jjl (j9 jnD trivial)) trivial
def j9h:Con:=⟨398,[.v ty65,.v ty72,.v iT],[ty65,ty72,iT],⟨[.v iT,.v .bool],[]⟩,[iT,.bool],Pw.unc3 Pw.j8K⟩
def jk5:FnD where
 N:=66
 np:=3
 cs:=[j9C]
 ds:=[]
 modes:=[(397,[false,false])]
 ro:=[false,false]
theorem jjm:Con.OK Tryz.prog j9h:=
 cOf j0e j03 jk5 j9h Tryz.func398 (j9 jhw trivial) trivial
end Go.Proofs.Pk
