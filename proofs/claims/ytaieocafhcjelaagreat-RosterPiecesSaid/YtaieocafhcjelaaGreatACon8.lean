/- Contracts: each given function is its plain function, printed by a program. -/
import Derived.Test.YtaieocafhcjelaaGreatACon7
noncomputable section
open Go Go.Lft
set_option linter.unusedVariables false
set_option maxRecDepth 100000
namespace Go.Proofs.Pk
def jbY:Con:=⟨284,[.v ty65],[ty65],⟨[.v iT],[]⟩,[iT],fun h=>Pw.j7t h⟩
def jto:FnD where
 N:=11
 np:=1
 cs:=[j4P]
 ds:=[]
 modes:=[(128,[false])]
 ro:=[false]
theorem jll:Con.OK Tryz.prog jbY:=
 cOf j0c j03 jto jbY Tryz.func284 (j9 j9z trivial) trivial
def jcY:Con:=⟨285,[.v ty65],[ty65],⟨[.v .bool],[]⟩,[.bool],fun h=>Pw.jcv h⟩
def jq9:FnD where
 N:=28
 np:=1
 cs:=[]
 ds:=[⟨0,[.s (.one (.bp 64 0)),.s (.one (.d .bool)),sI,.b (.cell [.d .str,.d iT,.d ty58] false)],[.bool,iT,.str,iT,ty58],[⟨.exit 0,[.s (.one (.d .bool))],[.bool]⟩],Pw.unc5 (Pw.j4M)⟩]
 keep:=[(0,⟨[1,3,4],[64],[],[]⟩)]
 keepX:=[(0,.exit 0,⟨[3],[],[],[]⟩)]
 ro:=[false]
theorem jof:Con.OK Tryz.prog jcY:=
 cOf j0c j03 jq9 jcY Tryz.func285 trivial (j9 (fun h=>by kernel_rfl) trivial)
def jft:Con:=⟨189,[.v ty84],[ty84],⟨[.v iT],[]⟩,[iT],fun h=>Pw.jmZ h⟩
def jtp:FnD where
 N:=44
 np:=1
 cs:=[j93,jbY,jcY]
 ds:=[⟨0,[.s (.one (.bp 64 0)),.s (.one (.ol 1000000)),sI,.b (.cell [.d ty66,.d ty56,.d ty29,.d ty78] false),.b (.lst 9 .str false)],[iT,ty66,ty56,ty29,ty78,(.list .str)],[⟨.ret,[sI],[iT]⟩,⟨.exit 0,[],[]⟩],Pw.unc6 (Pw.j61)⟩]
 modes:=[(283,[false,false]),(284,[false]),(285,[false])]
 keep:=[(0,⟨[1,3,4],[64],[⟨1000000,9,.str,[.slot 3],false⟩],[]⟩)]
 keepX:=[(0,.ret,⟨[2],[],[],[]⟩),
  (0,.exit 0,⟨[],[],[],[]⟩)]
 ro:=[false]
theorem jrW:Con.OK Tryz.prog jft:=
 cOf j0c j03 jtp jft Tryz.func189 (j9 jfq (j9 jll (j9 jof trivial))) (j9 (fun h=>by kernel_rfl) trivial)
def jas:Con:=⟨286,[.v iT,.v iT,.v iT],[iT,iT,iT],⟨[.v .bool],[]⟩,[.bool],Pw.unc3 Pw.j8s⟩
def jz9:FnD where
 N:=15
 np:=3
 cs:=[]
 ds:=[]
 ro:=[false]
theorem jgZ:Con.OK Tryz.prog jas:=
 cOf j0c j03 jz9 jas Tryz.func286 trivial trivial
def j9A:Con:=⟨129,[.v ty13],[ty13],⟨[.v iT],[]⟩,[iT],fun h=>Pw.jex h⟩
def jtq:FnD where
 N:=56
 np:=1
 cs:=[]
 ds:=[⟨0,[.s (.one (.d ty13)),sI],[ty13,iT],[⟨.ret,[sI],[iT]⟩,⟨.exit 0,[],[]⟩],Pw.unc2 (Pw.j62)⟩]
 keep:=[(0,⟨[0,3],[],[],[]⟩)]
 keepX:=[(0,.ret,⟨[2],[],[],[]⟩),
  (0,.exit 0,⟨[],[],[],[]⟩)]
 ro:=[false]
theorem jh0:Con.OK Tryz.prog j9A:=
 cOf j0c j03 jtq j9A Tryz.func129 trivial (j9 (fun h=>by kernel_rfl) trivial)
def jfu:Con:=⟨287,[.v iT],[iT],⟨[.v .bool],[]⟩,[.bool],fun h=>Pw.jjA h⟩
def jtr:FnD where
 N:=10
 np:=1
 cs:=[jas]
 ds:=[]
 modes:=[(286,[false,false,false])]
 ro:=[false]
theorem jrX:Con.OK Tryz.prog jfu:=
 cOf j0c j03 jtr jfu Tryz.func287 (j9 jgZ trivial) trivial
def je4:Con:=⟨190,[.v ty84],[ty84],⟨[.v iT],[]⟩,[iT],fun h=>Pw.jkE h⟩
def jrY:FnD where
 N:=58
 np:=1
 cs:=[j93,jas,j9A,jfu]
 ds:=[⟨0,[.s (.one (.bp 64 0)),.s (.one (.ol 1000000)),sI,.b (.cell [.d ty66,.d ty56,.d ty29,.d ty78] false),.b (.lst 9 .str false)],[iT,ty66,ty56,ty29,ty78,(.list .str)],[⟨.ret,[sI],[iT]⟩,⟨.exit 0,[],[]⟩],Pw.unc6 (Pw.j5m)⟩]
 modes:=[(129,[false]),(283,[false,false]),(286,[false,false,false]),(287,[false])]
 keep:=[(0,⟨[1,3,4],[64],[⟨1000000,9,.str,[.slot 3],false⟩],[]⟩)]
 keepX:=[(0,.ret,⟨[2],[],[],[]⟩),
  (0,.exit 0,⟨[],[],[],[]⟩)]
 ro:=[false]
theorem jqa:Con.OK Tryz.prog je4:=
 cOf j0c j03 jrY je4 Tryz.func190 (j9 jfq (j9 jgZ (j9 jh0 (j9 jrX trivial)))) (j9 (fun h=>by kernel_rfl) trivial)
def j8z:Con:=⟨288,[],[],⟨[.v iT],[]⟩,[iT],fun h=>Pw.jcb⟩
def jrZ:FnD where
 N:=3
 np:=0
 cs:=[jdD]
 ds:=[]
 modes:=[(335,[false])]
 ro:=[false]
theorem jfv:Con.OK Tryz.prog j8z:=
 cOf j0c j03 jrZ j8z Tryz.func288 (j9 jno trivial) trivial
def jat:Con:=⟨191,[.v ty84],[ty84],⟨[.v iT],[]⟩,[iT],fun h=>Pw.jf9 h⟩
def jnp:FnD where
 N:=78
 np:=1
 cs:=[j93,jas,j8z]
 ds:=[⟨0,[.s (.one (.bp 64 0)),.s (.one (.ol 1000000)),sI,.b (.cell [.d ty66,.d ty56,.d ty29,.d ty78] false),.b (.lst 9 .str false)],[iT,ty66,ty56,ty29,ty78,(.list .str)],[⟨.ret,[sI],[iT]⟩,⟨.exit 0,[],[]⟩],Pw.unc6 (Pw.j3R)⟩,
  ⟨2,[.s (.one (.bp 64 0)),.s (.one (.ol 1002000)),sI,.s (.one (.bp 320 0)),sI,.b (.cell [.d ty66,.d ty56,.d ty29,.d ty78] false),.b (.cell [.d .str,.d iT,.d (.list iT)] false),.b (.lst 9 .str false)],[iT,iT,ty66,ty56,ty29,ty78,.str,iT,(.list iT),(.list .str)],[⟨.ret,[sI],[iT]⟩,⟨.exit 2,[.s (.one (.bp 64 0)),.s (.one (.ol 1502300)),sI,.s (.one (.bp 320 0)),.b (.cell [.d ty66,.d ty56,.d ty29,.d ty78] false),.b (.cell [.d .str,.d iT,.d (.list iT)] false),.b (.lst 9 .str false)],[iT,ty66,ty56,ty29,ty78,.str,iT,(.list iT),(.list .str)]⟩],Pw.jlv (Pw.j3Q)⟩,
  ⟨4,[.s (.one (.bp 64 0)),.s (.one (.ol 1004000)),sI,.s (.one (.bp 320 0)),sI,.b (.cell [.d ty66,.d ty56,.d ty29,.d ty78] false),.b (.cell [.d .str,.d iT,.d (.list iT)] false),.b (.lst 9 .str false)],[iT,iT,ty66,ty56,ty29,ty78,.str,iT,(.list iT),(.list .str)],[⟨.ret,[sI],[iT]⟩,⟨.exit 4,[.s (.one (.bp 64 0)),.s (.one (.ol 1504500)),sI,.b (.cell [.d ty66,.d ty56,.d ty29,.d ty78] false),.b (.lst 9 .str false)],[iT,ty66,ty56,ty29,ty78,(.list .str)]⟩],Pw.jlv (Pw.j5n)⟩]
 modes:=[(283,[false,false]),(286,[false,false,false]),(288,[])]
 keep:=[(0,⟨[1,3,4],[64],[⟨1000000,9,.str,[.slot 3],false⟩],[]⟩),
  (2,⟨[1,3,4,5,7],[64,320],[⟨1002000,9,.str,[.slot 3],false⟩],[]⟩),
  (4,⟨[1,3,4,5,8],[64,320],[⟨1004000,9,.str,[.slot 3],false⟩],[]⟩)]
 keepX:=[(0,.ret,⟨[2],[],[],[]⟩),
  (0,.exit 0,⟨[],[],[],[]⟩),
  (2,.ret,⟨[2],[],[],[]⟩),
  (2,.exit 2,⟨[1,3,4,5],[64,320],[⟨1502300,9,.str,[.slot 3],false⟩],[]⟩),
  (4,.ret,⟨[2],[],[],[]⟩),
  (4,.exit 4,⟨[1,3,4],[64],[⟨1504500,9,.str,[.slot 3],false⟩],[]⟩)]
 ro:=[false]
theorem jlO:Con.OK Tryz.prog jat:=
 cOf j0c j03 jnp jat Tryz.func191 (j9 jfq (j9 jgZ (j9 jfv trivial))) (j9 (fun h=>by kernel_rfl) (j9 (fun h=>by kernel_rfl) (j9 (fun h=>by kernel_rfl) trivial)))
def jfw:Con:=⟨289,[.v ty84,.v ty72],[ty84,ty72],⟨[.v iT],[]⟩,[iT],Pw.unc2 Pw.jgG⟩
def jts:FnD where
 N:=102
 np:=2
 cs:=[jas,j9A,j8z]
 ds:=[⟨1,[.s (.one (.bp 128 0)),.s (.one (.bp 192 0)),sI,.b (.cell [.d ty66,.d ty56,.d ty29,.d ty78] false),.b (.cell [.d .str,.d iT,.d iT,.d iT,.d iT,.d iT,.d (.list iT),.d ty13,.d iT,.d iT] false)],[iT,ty66,ty56,ty29,ty78,.str,iT,iT,iT,iT,iT,(.list iT),ty13,iT,iT],[⟨.ret,[sI],[iT]⟩,⟨.exit 1,[.s (.one (.bp 128 0)),.s (.one (.bp 192 0)),.b (.cell [.d ty66,.d ty56,.d ty29,.d ty78] false),.b (.cell [.d .str,.d iT,.d iT,.d iT,.d iT,.d iT,.d (.list iT),.d ty13,.d iT,.d iT] false)],[ty66,ty56,ty29,ty78,.str,iT,iT,iT,iT,iT,(.list iT),ty13,iT,iT]⟩],Pw.jz5 (Pw.j63)⟩]
 modes:=[(129,[false]),(286,[false,false,false]),(288,[])]
 keep:=[(1,⟨[2,3,5],[128,192],[],[]⟩)]
 keepX:=[(1,.ret,⟨[4],[],[],[]⟩),
  (1,.exit 1,⟨[2,3],[128,192],[],[]⟩)]
 ro:=[false]
theorem js0:Con.OK Tryz.prog jfw:=
 cOf j0c j03 jts jfw Tryz.func289 (j9 jgZ (j9 jh0 (j9 jfv trivial))) (j9 (fun h=>by kernel_rfl) trivial)
def jh1:Con:=⟨290,[.v ty84,.v ty42],[ty84,ty42],⟨[.v iT],[]⟩,[iT],Pw.unc2 Pw.jjB⟩
def jvF:FnD where
 N:=86
 np:=2
 cs:=[jas,j8z]
 ds:=[]
 modes:=[(286,[false,false,false]),(288,[])]
 ro:=[false]
theorem jtt:Con.OK Tryz.prog jh1:=
 cOf j0c j03 jvF jh1 Tryz.func290 (j9 jgZ (j9 jfv trivial)) trivial
def jau:Con:=⟨192,[.v ty84],[ty84],⟨[.v iT],[]⟩,[iT],fun h=>Pw.jfa h⟩
def jnq:FnD where
 N:=95
 np:=1
 cs:=[j93,jfw,jh1]
 ds:=[⟨0,[.s (.one (.bp 64 0)),.s (.one (.ol 1000000)),sI,.b (.cell [.d ty66,.d ty56,.d ty29,.d ty78] false),.b (.lst 9 .str false)],[iT,ty66,ty56,ty29,ty78,(.list .str)],[⟨.ret,[sI],[iT]⟩,⟨.exit 0,[],[]⟩],Pw.unc6 (Pw.j3U)⟩,
  ⟨2,[.s (.one (.bp 64 0)),.s (.one (.ol 1002000)),sI,.s (.one (.bp 320 0)),.s (.one (.ol 1002001)),sI,.b (.cell [.d ty66,.d ty56,.d ty29,.d ty78] false),.b (.cell [.d .str,.d ty73,.d ty44] false),.b (.lst 9 .str false),.b (.lst 9 .str false)],[iT,iT,ty66,ty56,ty29,ty78,.str,ty73,ty44,(.list .str),(.list .str)],[⟨.ret,[sI],[iT]⟩,⟨.exit 2,[.s (.one (.bp 64 0)),.s (.one (.ol 1502300)),sI,.s (.one (.bp 320 0)),.b (.cell [.d ty66,.d ty56,.d ty29,.d ty78] false),.b (.cell [.d .str,.d ty73,.d ty44] false),.b (.lst 9 .str false)],[iT,ty66,ty56,ty29,ty78,.str,ty73,ty44,(.list .str)]⟩],Pw.jrr (Pw.j3S)⟩,
  ⟨4,[.s (.one (.bp 64 0)),.s (.one (.ol 1004000)),sI,.s (.one (.bp 320 0)),sI,.b (.cell [.d ty66,.d ty56,.d ty29,.d ty78] false),.b (.cell [.d .str,.d ty73,.d ty44] false),.b (.lst 9 .str false)],[iT,iT,ty66,ty56,ty29,ty78,.str,ty73,ty44,(.list .str)],[⟨.ret,[sI],[iT]⟩,⟨.exit 4,[.s (.one (.bp 64 0)),.s (.one (.ol 1504500)),sI,.b (.cell [.d ty66,.d ty56,.d ty29,.d ty78] false),.b (.lst 9 .str false)],[iT,ty66,ty56,ty29,ty78,(.list .str)]⟩],Pw.jlv (Pw.j3T)⟩]
 modes:=[(283,[false,false]),(289,[false,false]),(290,[false,false])]
 keep:=[(0,⟨[1,3,4],[64],[⟨1000000,9,.str,[.slot 3],false⟩],[]⟩),
  (2,⟨[1,3,4,5,7,8],[64,320],[⟨1002000,9,.str,[.slot 3],false⟩,⟨1002001,9,.str,[.slot 7],false⟩],[]⟩),
  (4,⟨[1,3,4,5,11],[64,320],[⟨1004000,9,.str,[.slot 3],false⟩],[]⟩)]
 keepX:=[(0,.ret,⟨[2],[],[],[]⟩),
  (0,.exit 0,⟨[],[],[],[]⟩),
  (2,.ret,⟨[2],[],[],[]⟩),
  (2,.exit 2,⟨[1,3,4,5],[64,320],[⟨1502300,9,.str,[.slot 3],false⟩],[]⟩),
  (4,.ret,⟨[2],[],[],[]⟩),
  (4,.exit 4,⟨[1,3,4],[64],[⟨1504500,9,.str,[.slot 3],false⟩],[]⟩)]
 ro:=[false]
theorem jlP:Con.OK Tryz.prog jau:=
 cOf j0c j03 jnq jau Tryz.func192 (j9 jfq (j9 js0 (j9 jtt trivial))) (j9 (fun h=>by kernel_rfl) (j9 (fun h=>by kernel_rfl) (j9 (fun h=>by kernel_rfl) trivial)))
def jbZ:Con:=⟨123,[.v ty84],[ty84],⟨[.v iT],[]⟩,[iT],fun h=>Pw.j8t h⟩
def jtu:FnD where
 N:=45
 np:=1
 cs:=[jft,je4,jat,jau]
 ds:=[]
 modes:=[(189,[false]),(190,[false]),(191,[false]),(192,[false])]
 ro:=[false]
theorem jlm:Con.OK Tryz.prog jbZ:=
 cOf j0c j03 jtu jbZ Tryz.func123 (j9 jrW (j9 jqa (j9 jlO (j9 jlP trivial)))) trivial
def jh2:Con:=⟨147,[.v ty84,.v iT,.v ty44],[ty84,iT,ty44],⟨[.v ty84],[]⟩,[ty84],Pw.unc3 Pw.jpI⟩
def jvG:FnD where
 N:=19
 np:=3
 cs:=[]
 ds:=[]
 ro:=[false]
theorem jtv:Con.OK Tryz.prog jh2:=
 cOf j0c j03 jvG jh2 Tryz.func147 trivial trivial
def jfx:Con:=⟨66,[.v ty84,.v iT,.v ty42],[ty84,iT,ty42],⟨[.v ty84,.v iT],[]⟩,[ty84,iT],Pw.unc3 Pw.jgH⟩
def jtw:FnD where
 N:=48
 np:=3
 cs:=[jbZ,jh2]
 ds:=[]
 modes:=[(123,[false]),(147,[false,false,false])]
 ro:=[false,false]
 dw:=[(5,[[],[],[],[],[],[],[2112],[],[2240],[2112,2304],[]])]
theorem js1:Con.OK Tryz.prog jfx:=
 cOf j0c j03 jtw jfx Tryz.func66 (j9 jlm (j9 jtv trivial)) trivial
def j8g:Con:=⟨20,[.ref [(.list iT),iT],.v ty84,.v iT,.v iT],[(.list iT),iT,ty84,iT,iT],⟨[.v ty84],[.ref [(.list iT),iT]]⟩,[ty84,(.list iT),iT],Pw.unc5 Pw.jbl⟩
def jk2:FnD where
 N:=28
 np:=4
 cs:=[j7b,jfx]
 ds:=[⟨0,[.s (.one (.bp 0 0)),sI,sI,.s (.one (.bp 320 0)),.s (.one (.bp 512 0)),.b (.cell [.d (.list iT),.d iT] false),.b (.cell [.d ty66,.d ty56,.d ty29,.d ty78] false),.b (.cell [.nil,.nil,.nil,.nil] false)],[iT,iT,(.list iT),iT,ty66,ty56,ty29,ty78],[⟨.exit 0,[.s (.one (.bp 320 0)),.s (.one (.bp 512 0)),.b (.cell [.d (.list iT),.d iT] false),.b (.cell [.d ty66,.d ty56,.d ty29,.d ty78] false),.b (.cell [.nil,.nil,.nil,.nil] false)],[(.list iT),iT,ty66,ty56,ty29,ty78]⟩],Pw.unc8 (Pw.j32)⟩]
 modes:=[(37,[false,false]),(66,[false,false,false])]
 keep:=[(0,⟨[0,2,3,5,8],[0,320,512],[],[]⟩)]
 keepX:=[(0,.exit 0,⟨[5,8],[0,320,512],[],[]⟩)]
 ro:=[false]
 dw:=[(3,[[],[],[],[],[0],[],[],[],[],[576],[576],[]])]
theorem jiO:Con.OK Tryz.prog j8g:=
 cOf j0c j03 jk2 j8g Tryz.func20 (j9 jeF (j9 js1 trivial)) (j9 (fun h=>by kernel_rfl) trivial)
def jh3:Con:=⟨24,[.v iT,.v iT],[iT,iT],⟨[.v iT],[]⟩,[iT],Pw.unc2 Pw.jhz⟩
def jvH:FnD where
 N:=12
 np:=2
 cs:=[]
 ds:=[]
 ro:=[false]
theorem jtx:Con.OK Tryz.prog jh3:=
 cOf j0c j03 jvH jh3 Tryz.func24 trivial trivial
def jh4:Con:=⟨154,[.v ty84,.v ty72],[ty84,ty72],⟨[.v .bool],[]⟩,[.bool],Pw.unc2 Pw.jjC⟩
def jvI:FnD where
 N:=20
 np:=2
 cs:=[jbZ]
 ds:=[]
 modes:=[(123,[false])]
 ro:=[false]
theorem jty:Con.OK Tryz.prog jh4:=
 cOf j0c j03 jvI jh4 Tryz.func154 (j9 jlm trivial) trivial
def jfy:Con:=⟨310,[.v ty65,.v ty72],[ty65,ty72],⟨[.v iT],[]⟩,[iT],Pw.unc2 Pw.jgI⟩
def jtz:FnD where
 N:=58
 np:=2
 cs:=[jbY]
 ds:=[]
 modes:=[(284,[false])]
 ro:=[false]
theorem js2:Con.OK Tryz.prog jfy:=
 cOf j0c j03 jtz jfy Tryz.func310 (j9 jll trivial) trivial
def jfz:Con:=⟨392,[.v iT],[iT],⟨[.v .bool],[]⟩,[.bool],fun h=>Pw.jgJ h⟩
def jtA:FnD where
 N:=5
 np:=1
 cs:=[jar]
 ds:=[]
 modes:=[(196,[false,false,false])]
 ro:=[false]
theorem js3:Con.OK Tryz.prog jfz:=
 cOf j0c j03 jtA jfz Tryz.func392 (j9 jgX trivial) trivial
end Go.Proofs.Pk
