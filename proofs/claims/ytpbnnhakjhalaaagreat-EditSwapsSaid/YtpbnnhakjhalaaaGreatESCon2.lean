/- Contracts: each given function is its plain function, printed by a program. -/
import Derived.Test.YtpbnnhakjhalaaaGreatESCon1
noncomputable section
open Go Go.Lft
set_option linter.unusedVariables false
set_option maxRecDepth 100000
namespace Go.Proofs.Pk
def j2J:Con:=⟨229,[.v (.list iT),.clo 230 []],[(.list iT)],⟨[.v .bool],[]⟩,[.bool],fun h=>Pw.j1e h⟩
def j88:FnD where
 N:=9
 np:=2
 cs:=[j3c]
 ds:=[]
 modes:=[(309,[false,false])]
 ro:=[false]
theorem j7P:Con.OK Tryz.prog j2J:=
 cOf j0r j04 j88 j2J Tryz.func229 (j9 j8X trivial) trivial
def j3R:Con:=⟨157,[.v ty84,.v ty24],[ty84,ty24],⟨[.v iT],[]⟩,[iT],Pw.unc2 Pw.j1h⟩
def jaO:FnD where
 N:=46
 np:=2
 cs:=[j2I,j2J]
 ds:=[⟨1,[.s (.one (.bp 192 0)),sI,sI,.b (.cell [.d .str,.d iT,.d (.list iT)] false)],[iT,iT,.str,iT,(.list iT)],[⟨.ret,[sI],[iT]⟩,⟨.exit 1,[],[]⟩],Pw.unc5 (Pw.j1u)⟩]
 modes:=[(227,[false,false]),(229,[false,false])]
 keep:=[(1,⟨[3,25,26],[192],[],[]⟩)]
 keepX:=[(1,.ret,⟨[4],[],[],[]⟩),
  (1,.exit 1,⟨[],[],[],[]⟩)]
 ro:=[false]
theorem jag:Con.OK Tryz.prog j3R:=
 cOf j0r j04 jaO j3R Tryz.func157 (j9 j4C (j9 j7P trivial)) (j9 (fun h=>by kernel_rfl) trivial)
def j5K:Con:=⟨156,[.v ty24,.ip [ty66,ty56,ty29,ty78]],[ty24,ty66,ty56,ty29,ty78],⟨[.v iT],[]⟩,[iT],Pw.unc5 Pw.j3x⟩
def jdX:FnD where
 N:=7
 np:=2
 cs:=[j3R]
 ds:=[]
 modes:=[(157,[false,false])]
 ro:=[false]
theorem jcX:Con.OK Tryz.prog j5K:=
 cOf j0r j04 jdX j5K Tryz.func156 (j9 jag trivial) trivial
def j2O:Con:=⟨154,[.v ty29,.clo 155 [],.clo 156 [.p [ty66,ty56,ty29,ty78]]],[ty29,ty66,ty56,ty29,ty78],⟨[.v iT],[]⟩,[iT],Pw.unc5 Pw.j0Y⟩
def j8v:FnD where
 N:=34
 np:=3
 cs:=[j33,j5J,j5K]
 ds:=[⟨0,[.s (.one (.clo 155 [])),.s (.one (.clo 156 [.p [ty66,ty56,ty29,ty78]])),.s (.one (.ol 1000000)),.s (.one (.d ty29)),sI,sI,.b (.lst 4294967512 (.pair .str .bool) false)],[ty66,ty56,ty29,ty78,ty29,iT,iT,(.list (.pair .str .bool))],[⟨.ret,[sI],[iT]⟩,⟨.exit 0,[],[]⟩],Pw.unc8 (Pw.j0n)⟩]
 modes:=[(152,[false,true]),(155,[false]),(156,[false])]
 keep:=[(0,⟨[1,2,7,13,14,15],[],[⟨1000000,4294967512,(.pair .str .bool),[.slot 7],false⟩],[]⟩)]
 keepX:=[(0,.ret,⟨[6],[],[],[]⟩),
  (0,.exit 0,⟨[],[],[],[]⟩)]
 ro:=[false]
theorem j89:Con.OK Tryz.prog j2O:=
 cOf j0r j04 j8v j2O Tryz.func154 (j9 j5g (j9 jcW (j9 jcX trivial))) (j9 (fun h=>by kernel_rfl) trivial)
def j5L:Con:=⟨159,[.v ty77],[ty77],⟨[.v .str],[]⟩,[.str],fun h=>Pw.j85 h⟩
def jdY:FnD where
 N:=5
 np:=1
 cs:=[]
 ds:=[]
 ro:=[false]
theorem jcY:Con.OK Tryz.prog j5L:=
 cOf j0r j04 jdY j5L Tryz.func159 trivial trivial
def j3d:Con:=⟨233,[.v ty72],[ty72],⟨[.v .str],[]⟩,[.str],fun h=>Pw.j47 h⟩
def j9m:FnD where
 N:=5
 np:=1
 cs:=[]
 ds:=[]
 ro:=[false]
theorem j8Y:Con.OK Tryz.prog j3d:=
 cOf j0r j04 j9m j3d Tryz.func233 trivial trivial
def j3S:Con:=⟨311,[.v iT,.ip [ty66,ty56,ty29,ty78]],[iT,ty66,ty56,ty29,ty78],⟨[.v .bool],[]⟩,[.bool],Pw.unc5 Pw.j56⟩
def jaP:FnD where
 N:=10
 np:=2
 cs:=[j2I]
 ds:=[]
 modes:=[(227,[false,false])]
 ro:=[false]
theorem jah:Con.OK Tryz.prog j3S:=
 cOf j0r j04 jaP j3S Tryz.func311 (j9 j4C trivial) trivial
def j2K:Con:=⟨309,[.v (.list iT),.clo 311 [.p [ty66,ty56,ty29,ty78]]],[(.list iT),ty66,ty56,ty29,ty78],⟨[.v iT],[]⟩,[iT],Pw.unc5 Pw.j1f⟩
def j8a:FnD where
 N:=19
 np:=2
 cs:=[j3S]
 ds:=[⟨0,[.s (.one (.d (.list iT))),.s (.one (.clo 311 [.p [ty66,ty56,ty29,ty78]])),sI,sI],[(.list iT),ty66,ty56,ty29,ty78,iT,iT],[⟨.ret,[sI],[iT]⟩,⟨.exit 0,[],[]⟩],Pw.unc7 (Pw.j0P)⟩]
 modes:=[(311,[false])]
 keep:=[(0,⟨[0,1,7,8],[],[],[]⟩)]
 keepX:=[(0,.ret,⟨[4],[],[],[]⟩),
  (0,.exit 0,⟨[],[],[],[]⟩)]
 ro:=[false]
theorem j7Q:Con.OK Tryz.prog j2K:=
 cOf j0r j04 j8a j2K Tryz.func309 (j9 jah trivial) (j9 (fun h=>by kernel_rfl) trivial)
def j2j:Con:=⟨229,[.v (.list iT),.clo 311 [.p [ty66,ty56,ty29,ty78]]],[(.list iT),ty66,ty56,ty29,ty78],⟨[.v .bool],[]⟩,[.bool],Pw.unc5 Pw.j0T⟩
def j6U:FnD where
 N:=9
 np:=2
 cs:=[j2K]
 ds:=[]
 modes:=[(309,[false,false])]
 ro:=[false]
theorem j6H:Con.OK Tryz.prog j2j:=
 cOf j0r j04 j6U j2j Tryz.func229 (j9 j7Q trivial) trivial
def j4I:Con:=⟨235,[.v ty84,.v ty72],[ty84,ty72],⟨[.v iT],[]⟩,[iT],Pw.unc2 Pw.j1W⟩
def jcj:FnD where
 N:=91
 np:=2
 cs:=[j2I,j7u,j60,j5k,j2j]
 ds:=[]
 modes:=[(197,[false]),(227,[false,false]),(229,[false,false]),(231,[false]),(308,[false,false,false])]
 ro:=[false]
theorem jbR:Con.OK Tryz.prog j4I:=
 cOf j0r j04 jcj j4I Tryz.func235 (j9 j4C (j9 jdV (j9 jaN (j9 j9M (j9 j6H trivial))))) trivial
def j3e:Con:=⟨234,[.v ty72,.ip [ty66,ty56,ty29,ty78]],[ty72,ty66,ty56,ty29,ty78],⟨[.v iT],[]⟩,[iT],Pw.unc5 Pw.j1G⟩
def j9n:FnD where
 N:=7
 np:=2
 cs:=[j4I]
 ds:=[]
 modes:=[(235,[false,false])]
 ro:=[false]
theorem j8Z:Con.OK Tryz.prog j3e:=
 cOf j0r j04 j9n j3e Tryz.func234 (j9 jbR trivial) trivial
def j3o:Con:=⟨232,[.v ty73,.clo 233 [],.clo 234 [.p [ty66,ty56,ty29,ty78]]],[ty73,ty66,ty56,ty29,ty78],⟨[.v iT],[]⟩,[iT],Pw.unc5 Pw.j1r⟩
def j9N:FnD where
 N:=34
 np:=3
 cs:=[j33,j3d,j3e]
 ds:=[⟨0,[.s (.one (.clo 233 [])),.s (.one (.clo 234 [.p [ty66,ty56,ty29,ty78]])),.s (.one (.ol 1000000)),.s (.one (.d ty73)),sI,sI,.b (.lst 4294967512 (.pair .str .bool) false)],[ty66,ty56,ty29,ty78,ty73,iT,iT,(.list (.pair .str .bool))],[⟨.ret,[sI],[iT]⟩,⟨.exit 0,[],[]⟩],Pw.unc8 (Pw.j0x)⟩]
 modes:=[(152,[false,true]),(233,[false]),(234,[false])]
 keep:=[(0,⟨[1,2,7,13,14,15],[],[⟨1000000,4294967512,(.pair .str .bool),[.slot 7],false⟩],[]⟩)]
 keepX:=[(0,.ret,⟨[6],[],[],[]⟩),
  (0,.exit 0,⟨[],[],[],[]⟩)]
 ro:=[false]
theorem j9o:Con.OK Tryz.prog j3o:=
 cOf j0r j04 j9N j3o Tryz.func232 (j9 j5g (j9 j8Y (j9 j8Z trivial))) (j9 (fun h=>by kernel_rfl) trivial)
def j5l:Con:=⟨236,[.v ty84,.v ty42],[ty84,ty42],⟨[.v iT],[]⟩,[iT],Pw.unc2 Pw.j2e⟩
def jcZ:FnD where
 N:=83
 np:=2
 cs:=[j2I,j60,j5k]
 ds:=[]
 modes:=[(227,[false,false]),(231,[false]),(308,[false,false,false])]
 ro:=[false]
theorem jck:Con.OK Tryz.prog j5l:=
 cOf j0r j04 jcZ j5l Tryz.func236 (j9 j4C (j9 jaN (j9 j9M trivial))) trivial
def j3T:Con:=⟨161,[.v ty84,.v ty77],[ty84,ty77],⟨[.v iT],[]⟩,[iT],Pw.unc2 Pw.j1i⟩
def jaQ:FnD where
 N:=40
 np:=2
 cs:=[j3o,j5l]
 ds:=[⟨0,[.s (.one (.bp 128 0)),.s (.one (.d ty44)),sI,sI,.b (.cell [.d ty66,.d ty56,.d ty29,.d ty78] true)],[ty44,iT,iT,ty66,ty56,ty29,ty78],[⟨.ret,[sI],[iT]⟩,⟨.exit 0,[],[]⟩],Pw.unc7 (Pw.j0F)⟩]
 modes:=[(232,[false,false,false]),(236,[false,false])]
 keep:=[(0,⟨[2,27,28,29],[128],[],[]⟩)]
 keepX:=[(0,.ret,⟨[4],[],[],[]⟩),
  (0,.exit 0,⟨[],[],[],[]⟩)]
 ro:=[false]
theorem jai:Con.OK Tryz.prog j3T:=
 cOf j0r j04 jaQ j3T Tryz.func161 (j9 j9o (j9 jck trivial)) (j9 (fun h=>by kernel_rfl) trivial)
def j5M:Con:=⟨160,[.v ty77,.ip [ty66,ty56,ty29,ty78]],[ty77,ty66,ty56,ty29,ty78],⟨[.v iT],[]⟩,[iT],Pw.unc5 Pw.j3y⟩
def jdZ:FnD where
 N:=7
 np:=2
 cs:=[j3T]
 ds:=[]
 modes:=[(161,[false,false])]
 ro:=[false]
theorem jd0:Con.OK Tryz.prog j5M:=
 cOf j0r j04 jdZ j5M Tryz.func160 (j9 jai trivial) trivial
def j2P:Con:=⟨158,[.v ty78,.clo 159 [],.clo 160 [.p [ty66,ty56,ty29,ty78]]],[ty78,ty66,ty56,ty29,ty78],⟨[.v iT],[]⟩,[iT],Pw.unc5 Pw.j1o⟩
def j8w:FnD where
 N:=34
 np:=3
 cs:=[j33,j5L,j5M]
 ds:=[⟨0,[.s (.one (.clo 159 [])),.s (.one (.clo 160 [.p [ty66,ty56,ty29,ty78]])),.s (.one (.ol 1000000)),.s (.one (.d ty78)),sI,sI,.b (.lst 4294967512 (.pair .str .bool) false)],[ty66,ty56,ty29,ty78,ty78,iT,iT,(.list (.pair .str .bool))],[⟨.ret,[sI],[iT]⟩,⟨.exit 0,[],[]⟩],Pw.unc8 (Pw.j0o)⟩]
 modes:=[(152,[false,true]),(159,[false]),(160,[false])]
 keep:=[(0,⟨[1,2,7,13,14,15],[],[⟨1000000,4294967512,(.pair .str .bool),[.slot 7],false⟩],[]⟩)]
 keepX:=[(0,.ret,⟨[6],[],[],[]⟩),
  (0,.exit 0,⟨[],[],[],[]⟩)]
 ro:=[false]
theorem j8b:Con.OK Tryz.prog j2P:=
 cOf j0r j04 j8w j2P Tryz.func158 (j9 j5g (j9 jcY (j9 jd0 trivial))) (j9 (fun h=>by kernel_rfl) trivial)
def j4i:Con:=⟨75,[.v ty84],[ty84],⟨[.v iT],[]⟩,[iT],fun h=>Pw.j21 h⟩
def jgu:FnD where
 N:=72
 np:=1
 cs:=[j33,j3u,j4v,j2O,j2P]
 ds:=[⟨0,[.s (.one (.bp 64 0)),.s (.one (.ol 1000000)),.s (.one (.d ty56)),sI,sI,.b (.cell [.d ty66,.d ty56,.d ty29,.d ty78] false),.b (.lst 4294967512 (.pair .str .bool) false)],[ty56,iT,iT,ty66,ty56,ty29,ty78,(.list (.pair .str .bool))],[⟨.ret,[sI],[iT]⟩,⟨.exit 0,[.s (.one (.bp 64 0)),.b (.cell [.d ty66,.d ty56,.d ty29,.d ty78] false)],[ty66,ty56,ty29,ty78]⟩],Pw.unc8 (Pw.j1j)⟩]
 modes:=[(149,[false,false,false]),(152,[false,true]),(153,[false,false]),(154,[false,false,false]),(158,[false,false,false])]
 keep:=[(0,⟨[1,4,39,40,41],[64],[⟨1000000,4294967512,(.pair .str .bool),[.slot 4],false⟩],[]⟩)]
 keepX:=[(0,.ret,⟨[2],[],[],[]⟩),
  (0,.exit 0,⟨[1],[64],[],[]⟩)]
 ro:=[false]
theorem j8c:Con.OK Tryz.prog j4i:=
 cOf j0r j04 jgu j4i Tryz.func75 (j9 j5g (j9 j9K (j9 jbb (j9 j89 (j9 j8b trivial))))) (j9 (fun h=>by kernel_rfl) trivial)
def j6I:Con:=⟨77,[.v ty84,.v iT],[ty84,iT],⟨[.v .bool],[]⟩,[.bool],Pw.unc2 Pw.j8K⟩
def jiP:FnD where
 N:=14
 np:=2
 cs:=[]
 ds:=[]
 ro:=[false]
theorem jcx:Con.OK Tryz.prog j6I:=
 cOf j0r j04 jiP j6I Tryz.func77 trivial trivial
def j3r:Con:=⟨214,[.v ty66],[ty66],⟨[.own 68 ty66],[]⟩,[ty66],fun h=>Pw.j1X h⟩
def j6V:FnD where
 N:=8
 np:=1
 cs:=[]
 ds:=[]
 ro:=[true]
theorem j6J:Con.OK Tryz.prog j3r:=
 j6y j0r j04 j6V 214 ty65 68 Tryz.f214 (Tryz.f214.body.getD .skip) Tryz.func214 (by kernel_rfl) (by kernel_rfl) (k5 (by kernel_rfl)) (by kernel_rfl) trivial (by kernel_rfl)
  (fun h R k=>by kernel_rfl)
def j2V:Con:=⟨215,[.v ty56],[ty56],⟨[.own 71 ty56],[]⟩,[ty56],fun h=>Pw.j1x h⟩
def j61:FnD where
 N:=8
 np:=1
 cs:=[]
 ds:=[]
 ro:=[true]
theorem j5N:Con.OK Tryz.prog j2V:=
 j6y j0r j04 j61 215 ty53 71 Tryz.f215 (Tryz.f215.body.getD .skip) Tryz.func215 (by kernel_rfl) (by kernel_rfl) (k5 (by kernel_rfl)) (by kernel_rfl) trivial (by kernel_rfl)
  (fun h R k=>by kernel_rfl)
end Go.Proofs.Pk
