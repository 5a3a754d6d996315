/- Contracts: each given function is its plain function, printed by a program. -/
import Derived.Test.YtpbnnhakjhalaaaGreatELCon1
noncomputable section
open Go Go.Lft
set_option linter.unusedVariables false
set_option maxRecDepth 100000
namespace Go.Proofs.Pk
def j2P:Con:=⟨229,[.v (.list iT),.clo 230 []],[(.list iT)],⟨[.v .bool],[]⟩,[.bool],fun h=>Pw.j1g h⟩
def j8B:FnD where
 N:=9
 np:=2
 cs:=[j3i]
 ds:=[]
 modes:=[(309,[false,false])]
 ro:=[false]
theorem j8i:Con.OK Tryz.prog j2P:=
 cOf j0n j04 j8B j2P Tryz.func229 (j9 j9s trivial) trivial
def j44:Con:=⟨157,[.v ty84,.v ty24],[ty84,ty24],⟨[.v iT],[]⟩,[iT],Pw.unc2 Pw.j1j⟩
def jbo:FnD where
 N:=46
 np:=2
 cs:=[j2O,j2P]
 ds:=[⟨1,[.s (.one (.bp 192 0)),sI,sI,.b (.cell [.d .str,.d iT,.d (.list iT)] false)],[iT,iT,.str,iT,(.list iT)],[⟨.ret,[sI],[iT]⟩,⟨.exit 1,[],[]⟩],Pw.unc5 (Pw.j1u)⟩]
 modes:=[(227,[false,false]),(229,[false,false])]
 keep:=[(1,⟨[3,25,26],[192],[],[]⟩)]
 keepX:=[(1,.ret,⟨[4],[],[],[]⟩),
  (1,.exit 1,⟨[],[],[],[]⟩)]
 ro:=[false]
theorem jaN:Con.OK Tryz.prog j44:=
 cOf j0n j04 jbo j44 Tryz.func157 (j9 j4T (j9 j8i trivial)) (j9 (fun h=>by kernel_rfl) trivial)
def j68:Con:=⟨156,[.v ty24,.ip [ty66,ty56,ty29,ty78]],[ty24,ty66,ty56,ty29,ty78],⟨[.v iT],[]⟩,[iT],Pw.unc5 Pw.j3G⟩
def jeG:FnD where
 N:=7
 np:=2
 cs:=[j44]
 ds:=[]
 modes:=[(157,[false,false])]
 ro:=[false]
theorem jdE:Con.OK Tryz.prog j68:=
 cOf j0n j04 jeG j68 Tryz.func156 (j9 jaN trivial) trivial
def j2U:Con:=⟨154,[.v ty29,.clo 155 [],.clo 156 [.p [ty66,ty56,ty29,ty78]]],[ty29,ty66,ty56,ty29,ty78],⟨[.v iT],[]⟩,[iT],Pw.unc5 Pw.j0X⟩
def j8Y:FnD where
 N:=34
 np:=3
 cs:=[j37,j67,j68]
 ds:=[⟨0,[.s (.one (.clo 155 [])),.s (.one (.clo 156 [.p [ty66,ty56,ty29,ty78]])),.s (.one (.ol 1000000)),.s (.one (.d ty29)),sI,sI,.b (.lst 4294967512 (.pair .str .bool) false)],[ty66,ty56,ty29,ty78,ty29,iT,iT,(.list (.pair .str .bool))],[⟨.ret,[sI],[iT]⟩,⟨.exit 0,[],[]⟩],Pw.unc8 (Pw.j0p)⟩]
 modes:=[(152,[false,true]),(155,[false]),(156,[false])]
 keep:=[(0,⟨[1,2,7,13,14,15],[],[⟨1000000,4294967512,(.pair .str .bool),[.slot 7],false⟩],[]⟩)]
 keepX:=[(0,.ret,⟨[6],[],[],[]⟩),
  (0,.exit 0,⟨[],[],[],[]⟩)]
 ro:=[false]
theorem j8C:Con.OK Tryz.prog j2U:=
 cOf j0n j04 j8Y j2U Tryz.func154 (j9 j5D (j9 jdD (j9 jdE trivial))) (j9 (fun h=>by kernel_rfl) trivial)
def j69:Con:=⟨159,[.v ty77],[ty77],⟨[.v .str],[]⟩,[.str],fun h=>Pw.j8y h⟩
def jeH:FnD where
 N:=5
 np:=1
 cs:=[]
 ds:=[]
 ro:=[false]
theorem jdF:Con.OK Tryz.prog j69:=
 cOf j0n j04 jeH j69 Tryz.func159 trivial trivial
def j3j:Con:=⟨233,[.v ty72],[ty72],⟨[.v .str],[]⟩,[.str],fun h=>Pw.j4k h⟩
def j9R:FnD where
 N:=5
 np:=1
 cs:=[]
 ds:=[]
 ro:=[false]
theorem j9t:Con.OK Tryz.prog j3j:=
 cOf j0n j04 j9R j3j Tryz.func233 trivial trivial
def j45:Con:=⟨311,[.v iT,.ip [ty66,ty56,ty29,ty78]],[iT,ty66,ty56,ty29,ty78],⟨[.v .bool],[]⟩,[.bool],Pw.unc5 Pw.j5q⟩
def jbp:FnD where
 N:=10
 np:=2
 cs:=[j2O]
 ds:=[]
 modes:=[(227,[false,false])]
 ro:=[false]
theorem jaO:Con.OK Tryz.prog j45:=
 cOf j0n j04 jbp j45 Tryz.func311 (j9 j4T trivial) trivial
def j2Q:Con:=⟨309,[.v (.list iT),.clo 311 [.p [ty66,ty56,ty29,ty78]]],[(.list iT),ty66,ty56,ty29,ty78],⟨[.v iT],[]⟩,[iT],Pw.unc5 Pw.j1h⟩
def j8D:FnD where
 N:=19
 np:=2
 cs:=[j45]
 ds:=[⟨0,[.s (.one (.d (.list iT))),.s (.one (.clo 311 [.p [ty66,ty56,ty29,ty78]])),sI,sI],[(.list iT),ty66,ty56,ty29,ty78,iT,iT],[⟨.ret,[sI],[iT]⟩,⟨.exit 0,[],[]⟩],Pw.unc7 (Pw.j0O)⟩]
 modes:=[(311,[false])]
 keep:=[(0,⟨[0,1,7,8],[],[],[]⟩)]
 keepX:=[(0,.ret,⟨[4],[],[],[]⟩),
  (0,.exit 0,⟨[],[],[],[]⟩)]
 ro:=[false]
theorem j8j:Con.OK Tryz.prog j2Q:=
 cOf j0n j04 j8D j2Q Tryz.func309 (j9 jaO trivial) (j9 (fun h=>by kernel_rfl) trivial)
def j2o:Con:=⟨229,[.v (.list iT),.clo 311 [.p [ty66,ty56,ty29,ty78]]],[(.list iT),ty66,ty56,ty29,ty78],⟨[.v .bool],[]⟩,[.bool],Pw.unc5 Pw.j0S⟩
def j7h:FnD where
 N:=9
 np:=2
 cs:=[j2Q]
 ds:=[]
 modes:=[(309,[false,false])]
 ro:=[false]
theorem j74:Con.OK Tryz.prog j2o:=
 cOf j0n j04 j7h j2o Tryz.func229 (j9 j8j trivial) trivial
def j51:Con:=⟨235,[.v ty84,.v ty72],[ty84,ty72],⟨[.v iT],[]⟩,[iT],Pw.unc2 Pw.j1Y⟩
def jcV:FnD where
 N:=91
 np:=2
 cs:=[j2O,j7U,j6p,j5H,j2o]
 ds:=[]
 modes:=[(197,[false]),(227,[false,false]),(229,[false,false]),(231,[false]),(308,[false,false,false])]
 ro:=[false]
theorem jcr:Con.OK Tryz.prog j51:=
 cOf j0n j04 jcV j51 Tryz.func235 (j9 j4T (j9 jeE (j9 jbn (j9 jaj (j9 j74 trivial))))) trivial
def j3k:Con:=⟨234,[.v ty72,.ip [ty66,ty56,ty29,ty78]],[ty72,ty66,ty56,ty29,ty78],⟨[.v iT],[]⟩,[iT],Pw.unc5 Pw.j1F⟩
def j9S:FnD where
 N:=7
 np:=2
 cs:=[j51]
 ds:=[]
 modes:=[(235,[false,false])]
 ro:=[false]
theorem j9u:Con.OK Tryz.prog j3k:=
 cOf j0n j04 j9S j3k Tryz.func234 (j9 jcr trivial) trivial
def j3w:Con:=⟨232,[.v ty73,.clo 233 [],.clo 234 [.p [ty66,ty56,ty29,ty78]]],[ty73,ty66,ty56,ty29,ty78],⟨[.v iT],[]⟩,[iT],Pw.unc5 Pw.j1r⟩
def jak:FnD where
 N:=34
 np:=3
 cs:=[j37,j3j,j3k]
 ds:=[⟨0,[.s (.one (.clo 233 [])),.s (.one (.clo 234 [.p [ty66,ty56,ty29,ty78]])),.s (.one (.ol 1000000)),.s (.one (.d ty73)),sI,sI,.b (.lst 4294967512 (.pair .str .bool) false)],[ty66,ty56,ty29,ty78,ty73,iT,iT,(.list (.pair .str .bool))],[⟨.ret,[sI],[iT]⟩,⟨.exit 0,[],[]⟩],Pw.unc8 (Pw.j0x)⟩]
 modes:=[(152,[false,true]),(233,[false]),(234,[false])]
 keep:=[(0,⟨[1,2,7,13,14,15],[],[⟨1000000,4294967512,(.pair .str .bool),[.slot 7],false⟩],[]⟩)]
 keepX:=[(0,.ret,⟨[6],[],[],[]⟩),
  (0,.exit 0,⟨[],[],[],[]⟩)]
 ro:=[false]
theorem j9T:Con.OK Tryz.prog j3w:=
 cOf j0n j04 jak j3w Tryz.func232 (j9 j5D (j9 j9t (j9 j9u trivial))) (j9 (fun h=>by kernel_rfl) trivial)
def j5I:Con:=⟨236,[.v ty84,.v ty42],[ty84,ty42],⟨[.v iT],[]⟩,[iT],Pw.unc2 Pw.j2g⟩
def jdG:FnD where
 N:=83
 np:=2
 cs:=[j2O,j6p,j5H]
 ds:=[]
 modes:=[(227,[false,false]),(231,[false]),(308,[false,false,false])]
 ro:=[false]
theorem jcW:Con.OK Tryz.prog j5I:=
 cOf j0n j04 jdG j5I Tryz.func236 (j9 j4T (j9 jbn (j9 jaj trivial))) trivial
def j46:Con:=⟨161,[.v ty84,.v ty77],[ty84,ty77],⟨[.v iT],[]⟩,[iT],Pw.unc2 Pw.j1k⟩
def jbq:FnD where
 N:=40
 np:=2
 cs:=[j3w,j5I]
 ds:=[⟨0,[.s (.one (.bp 128 0)),.s (.one (.d ty44)),sI,sI,.b (.cell [.d ty66,.d ty56,.d ty29,.d ty78] true)],[ty44,iT,iT,ty66,ty56,ty29,ty78],[⟨.ret,[sI],[iT]⟩,⟨.exit 0,[],[]⟩],Pw.unc7 (Pw.j0F)⟩]
 modes:=[(232,[false,false,false]),(236,[false,false])]
 keep:=[(0,⟨[2,27,28,29],[128],[],[]⟩)]
 keepX:=[(0,.ret,⟨[4],[],[],[]⟩),
  (0,.exit 0,⟨[],[],[],[]⟩)]
 ro:=[false]
theorem jaP:Con.OK Tryz.prog j46:=
 cOf j0n j04 jbq j46 Tryz.func161 (j9 j9T (j9 jcW trivial)) (j9 (fun h=>by kernel_rfl) trivial)
def j6a:Con:=⟨160,[.v ty77,.ip [ty66,ty56,ty29,ty78]],[ty77,ty66,ty56,ty29,ty78],⟨[.v iT],[]⟩,[iT],Pw.unc5 Pw.j3H⟩
def jeI:FnD where
 N:=7
 np:=2
 cs:=[j46]
 ds:=[]
 modes:=[(161,[false,false])]
 ro:=[false]
theorem jdH:Con.OK Tryz.prog j6a:=
 cOf j0n j04 jeI j6a Tryz.func160 (j9 jaP trivial) trivial
def j2V:Con:=⟨158,[.v ty78,.clo 159 [],.clo 160 [.p [ty66,ty56,ty29,ty78]]],[ty78,ty66,ty56,ty29,ty78],⟨[.v iT],[]⟩,[iT],Pw.unc5 Pw.j1p⟩
def j8Z:FnD where
 N:=34
 np:=3
 cs:=[j37,j69,j6a]
 ds:=[⟨0,[.s (.one (.clo 159 [])),.s (.one (.clo 160 [.p [ty66,ty56,ty29,ty78]])),.s (.one (.ol 1000000)),.s (.one (.d ty78)),sI,sI,.b (.lst 4294967512 (.pair .str .bool) false)],[ty66,ty56,ty29,ty78,ty78,iT,iT,(.list (.pair .str .bool))],[⟨.ret,[sI],[iT]⟩,⟨.exit 0,[],[]⟩],Pw.unc8 (Pw.j0q)⟩]
 modes:=[(152,[false,true]),(159,[false]),(160,[false])]
 keep:=[(0,⟨[1,2,7,13,14,15],[],[⟨1000000,4294967512,(.pair .str .bool),[.slot 7],false⟩],[]⟩)]
 keepX:=[(0,.ret,⟨[6],[],[],[]⟩),
  (0,.exit 0,⟨[],[],[],[]⟩)]
 ro:=[false]
theorem j8E:Con.OK Tryz.prog j2V:=
 cOf j0n j04 j8Z j2V Tryz.func158 (j9 j5D (j9 jdF (j9 jdH trivial))) (j9 (fun h=>by kernel_rfl) trivial)
def j4t:Con:=⟨75,[.v ty84],[ty84],⟨[.v iT],[]⟩,[iT],fun h=>Pw.j23 h⟩
def jhe:FnD where
 N:=72
 np:=1
 cs:=[j37,j3D,j4H,j2U,j2V]
 ds:=[⟨0,[.s (.one (.bp 64 0)),.s (.one (.ol 1000000)),.s (.one (.d ty56)),sI,sI,.b (.cell [.d ty66,.d ty56,.d ty29,.d ty78] false),.b (.lst 4294967512 (.pair .str .bool) false)],[ty56,iT,iT,ty66,ty56,ty29,ty78,(.list (.pair .str .bool))],[⟨.ret,[sI],[iT]⟩,⟨.exit 0,[.s (.one (.bp 64 0)),.b (.cell [.d ty66,.d ty56,.d ty29,.d ty78] false)],[ty66,ty56,ty29,ty78]⟩],Pw.unc8 (Pw.j1l)⟩]
 modes:=[(149,[false,false,false]),(152,[false,true]),(153,[false,false]),(154,[false,false,false]),(158,[false,false,false])]
 keep:=[(0,⟨[1,4,39,40,41],[64],[⟨1000000,4294967512,(.pair .str .bool),[.slot 4],false⟩],[]⟩)]
 keepX:=[(0,.ret,⟨[2],[],[],[]⟩),
  (0,.exit 0,⟨[1],[64],[],[]⟩)]
 ro:=[false]
theorem j8F:Con.OK Tryz.prog j4t:=
 cOf j0n j04 jhe j4t Tryz.func75 (j9 j5D (j9 jah (j9 jbL (j9 j8C (j9 j8E trivial))))) (j9 (fun h=>by kernel_rfl) trivial)
def j75:Con:=⟨77,[.v ty84,.v iT],[ty84,iT],⟨[.v .bool],[]⟩,[.bool],Pw.unc2 Pw.j7F⟩
def jjA:FnD where
 N:=14
 np:=2
 cs:=[]
 ds:=[]
 ro:=[false]
theorem jdd:Con.OK Tryz.prog j75:=
 cOf j0n j04 jjA j75 Tryz.func77 trivial trivial
def j3A:Con:=⟨214,[.v ty66],[ty66],⟨[.own 68 ty66],[]⟩,[ty66],fun h=>Pw.j1Z h⟩
def j7i:FnD where
 N:=8
 np:=1
 cs:=[]
 ds:=[]
 ro:=[true]
theorem j76:Con.OK Tryz.prog j3A:=
 j6U j0n j04 j7i 214 ty65 68 Tryz.f214 (Tryz.f214.body.getD .skip) Tryz.func214 (by kernel_rfl) (by kernel_rfl) (k5 (by kernel_rfl)) (by kernel_rfl) trivial (by kernel_rfl)
  (fun h R k=>by kernel_rfl)
def j2Z:Con:=⟨215,[.v ty56],[ty56],⟨[.own 71 ty56],[]⟩,[ty56],fun h=>Pw.j1x h⟩
def j6q:FnD where
 N:=8
 np:=1
 cs:=[]
 ds:=[]
 ro:=[true]
theorem j6b:Con.OK Tryz.prog j2Z:=
 j6U j0n j04 j6q 215 ty53 71 Tryz.f215 (Tryz.f215.body.getD .skip) Tryz.func215 (by kernel_rfl) (by kernel_rfl) (k5 (by kernel_rfl)) (by kernel_rfl) trivial (by kernel_rfl)
  (fun h R k=>by kernel_rfl)
end Go.Proofs.Pk
