/- Contracts: each given function is its plain function, printed by a program. -/
import Derived.Test.YtpbnnhakjhalaaaGreatECCon1
noncomputable section
open Go Go.Lft
set_option linter.unusedVariables false
set_option maxRecDepth 100000
namespace Go.Proofs.Pk
def j2w:Con:=⟨229,[.v (.list iT),.clo 230 []],[(.list iT)],⟨[.v .bool],[]⟩,[.bool],fun h=>Pw.j17 h⟩
def j8P:FnD where
 N:=9
 np:=2
 cs:=[j38]
 ds:=[]
 modes:=[(309,[false,false])]
 ro:=[false]
theorem j8q:Con.OK Tryz.prog j2w:=
 cOf j0f j02 j8P j2w Tryz.func229 (j8 j9S trivial) trivial
def j3T:Con:=⟨157,[.v ty84,.v ty24],[ty84,ty24],⟨[.v iT],[]⟩,[iT],Pw.unc2 Pw.j1c⟩
def jbS:FnD where
 N:=46
 np:=2
 cs:=[j2v,j2w]
 ds:=[⟨1,[.s (.one (.bp 192 0)),sI,sI,.b (.cell [.d .str,.d iT,.d (.list iT)] false)],[iT,iT,.str,iT,(.list iT)],[⟨.ret,[sI],[iT]⟩,⟨.exit 1,[],[]⟩],Pw.unc5 (Pw.j1k)⟩]
 modes:=[(227,[false,false]),(229,[false,false])]
 keep:=[(1,⟨[3,25,26],[192],[],[]⟩)]
 keepX:=[(1,.ret,⟨[4],[],[],[]⟩),
  (1,.exit 1,⟨[],[],[],[]⟩)]
 ro:=[false]
theorem jbh:Con.OK Tryz.prog j3T:=
 cOf j0f j02 jbS j3T Tryz.func157 (j8 j4V (j8 j8q trivial)) (j8 (fun h=>by kernel_rfl) trivial)
def j68:Con:=⟨156,[.v ty24,.ip [ty66,ty56,ty29,ty78]],[ty24,ty66,ty56,ty29,ty78],⟨[.v iT],[]⟩,[iT],Pw.unc5 Pw.j3w⟩
def jfE:FnD where
 N:=7
 np:=2
 cs:=[j3T]
 ds:=[]
 modes:=[(157,[false,false])]
 ro:=[false]
theorem jew:Con.OK Tryz.prog j68:=
 cOf j0f j02 jfE j68 Tryz.func156 (j8 jbh trivial) trivial
def j2K:Con:=⟨154,[.v ty29,.clo 155 [],.clo 156 [.p [ty66,ty56,ty29,ty78]]],[ty29,ty66,ty56,ty29,ty78],⟨[.v iT],[]⟩,[iT],Pw.unc5 Pw.j0R⟩
def j9b:FnD where
 N:=34
 np:=3
 cs:=[j2Z,j67,j68]
 ds:=[⟨0,[.s (.one (.clo 155 [])),.s (.one (.clo 156 [.p [ty66,ty56,ty29,ty78]])),.s (.one (.ol 1000000)),.s (.one (.d ty29)),sI,sI,.b (.lst 4294967512 (.pair .str .bool) false)],[ty66,ty56,ty29,ty78,ty29,iT,iT,(.list (.pair .str .bool))],[⟨.ret,[sI],[iT]⟩,⟨.exit 0,[],[]⟩],Pw.unc8 (Pw.j0p)⟩]
 modes:=[(152,[false,true]),(155,[false]),(156,[false])]
 keep:=[(0,⟨[1,2,7,13,14,15],[],[⟨1000000,4294967512,(.pair .str .bool),[.slot 7],false⟩],[]⟩)]
 keepX:=[(0,.ret,⟨[6],[],[],[]⟩),
  (0,.exit 0,⟨[],[],[],[]⟩)]
 ro:=[false]
theorem j8Q:Con.OK Tryz.prog j2K:=
 cOf j0f j02 j9b j2K Tryz.func154 (j8 j5C (j8 jev (j8 jew trivial))) (j8 (fun h=>by kernel_rfl) trivial)
def j69:Con:=⟨159,[.v ty77],[ty77],⟨[.v .str],[]⟩,[.str],fun h=>Pw.j8H h⟩
def jfF:FnD where
 N:=5
 np:=1
 cs:=[]
 ds:=[]
 ro:=[false]
theorem jex:Con.OK Tryz.prog j69:=
 cOf j0f j02 jfF j69 Tryz.func159 trivial trivial
def j39:Con:=⟨233,[.v ty72],[ty72],⟨[.v .str],[]⟩,[.str],fun h=>Pw.j4a h⟩
def jaf:FnD where
 N:=5
 np:=1
 cs:=[]
 ds:=[]
 ro:=[false]
theorem j9T:Con.OK Tryz.prog j39:=
 cOf j0f j02 jaf j39 Tryz.func233 trivial trivial
def j3U:Con:=⟨311,[.v iT,.ip [ty66,ty56,ty29,ty78]],[iT,ty66,ty56,ty29,ty78],⟨[.v .bool],[]⟩,[.bool],Pw.unc5 Pw.j5q⟩
def jbT:FnD where
 N:=10
 np:=2
 cs:=[j2v]
 ds:=[]
 modes:=[(227,[false,false])]
 ro:=[false]
theorem jbi:Con.OK Tryz.prog j3U:=
 cOf j0f j02 jbT j3U Tryz.func311 (j8 j4V trivial) trivial
def j2x:Con:=⟨309,[.v (.list iT),.clo 311 [.p [ty66,ty56,ty29,ty78]]],[(.list iT),ty66,ty56,ty29,ty78],⟨[.v iT],[]⟩,[iT],Pw.unc5 Pw.j18⟩
def j8R:FnD where
 N:=19
 np:=2
 cs:=[j3U]
 ds:=[⟨0,[.s (.one (.d (.list iT))),.s (.one (.clo 311 [.p [ty66,ty56,ty29,ty78]])),sI,sI],[(.list iT),ty66,ty56,ty29,ty78,iT,iT],[⟨.ret,[sI],[iT]⟩,⟨.exit 0,[],[]⟩],Pw.unc7 (Pw.j0I)⟩]
 modes:=[(311,[false])]
 keep:=[(0,⟨[0,1,7,8],[],[],[]⟩)]
 keepX:=[(0,.ret,⟨[4],[],[],[]⟩),
  (0,.exit 0,⟨[],[],[],[]⟩)]
 ro:=[false]
theorem j8r:Con.OK Tryz.prog j2x:=
 cOf j0f j02 j8R j2x Tryz.func309 (j8 jbi trivial) (j8 (fun h=>by kernel_rfl) trivial)
def j26:Con:=⟨229,[.v (.list iT),.clo 311 [.p [ty66,ty56,ty29,ty78]]],[(.list iT),ty66,ty56,ty29,ty78],⟨[.v .bool],[]⟩,[.bool],Pw.unc5 Pw.j0M⟩
def j7n:FnD where
 N:=9
 np:=2
 cs:=[j2x]
 ds:=[]
 modes:=[(309,[false,false])]
 ro:=[false]
theorem j7b:Con.OK Tryz.prog j26:=
 cOf j0f j02 j7n j26 Tryz.func229 (j8 j8r trivial) trivial
def j51:Con:=⟨235,[.v ty84,.v ty72],[ty84,ty72],⟨[.v iT],[]⟩,[iT],Pw.unc2 Pw.j1I⟩
def jdM:FnD where
 N:=91
 np:=2
 cs:=[j2v,j7Z,j6s,j5G,j26]
 ds:=[]
 modes:=[(197,[false]),(227,[false,false]),(229,[false,false]),(231,[false]),(308,[false,false,false])]
 ro:=[false]
theorem jdd:Con.OK Tryz.prog j51:=
 cOf j0f j02 jdM j51 Tryz.func235 (j8 j4V (j8 jfC (j8 jbR (j8 jaJ (j8 j7b trivial))))) trivial
def j3a:Con:=⟨234,[.v ty72,.ip [ty66,ty56,ty29,ty78]],[ty72,ty66,ty56,ty29,ty78],⟨[.v iT],[]⟩,[iT],Pw.unc5 Pw.j1t⟩
def jag:FnD where
 N:=7
 np:=2
 cs:=[j51]
 ds:=[]
 modes:=[(235,[false,false])]
 ro:=[false]
theorem j9U:Con.OK Tryz.prog j3a:=
 cOf j0f j02 jag j3a Tryz.func234 (j8 jdd trivial) trivial
def j3o:Con:=⟨232,[.v ty73,.clo 233 [],.clo 234 [.p [ty66,ty56,ty29,ty78]]],[ty73,ty66,ty56,ty29,ty78],⟨[.v iT],[]⟩,[iT],Pw.unc5 Pw.j1i⟩
def jaK:FnD where
 N:=34
 np:=3
 cs:=[j2Z,j39,j3a]
 ds:=[⟨0,[.s (.one (.clo 233 [])),.s (.one (.clo 234 [.p [ty66,ty56,ty29,ty78]])),.s (.one (.ol 1000000)),.s (.one (.d ty73)),sI,sI,.b (.lst 4294967512 (.pair .str .bool) false)],[ty66,ty56,ty29,ty78,ty73,iT,iT,(.list (.pair .str .bool))],[⟨.ret,[sI],[iT]⟩,⟨.exit 0,[],[]⟩],Pw.unc8 (Pw.j0w)⟩]
 modes:=[(152,[false,true]),(233,[false]),(234,[false])]
 keep:=[(0,⟨[1,2,7,13,14,15],[],[⟨1000000,4294967512,(.pair .str .bool),[.slot 7],false⟩],[]⟩)]
 keepX:=[(0,.ret,⟨[6],[],[],[]⟩),
  (0,.exit 0,⟨[],[],[],[]⟩)]
 ro:=[false]
theorem jah:Con.OK Tryz.prog j3o:=
 cOf j0f j02 jaK j3o Tryz.func232 (j8 j5C (j8 j9T (j8 j9U trivial))) (j8 (fun h=>by kernel_rfl) trivial)
def j5H:Con:=⟨236,[.v ty84,.v ty42],[ty84,ty42],⟨[.v iT],[]⟩,[iT],Pw.unc2 Pw.j1Y⟩
def jey:FnD where
 N:=83
 np:=2
 cs:=[j2v,j6s,j5G]
 ds:=[]
 modes:=[(227,[false,false]),(231,[false]),(308,[false,false,false])]
 ro:=[false]
theorem jdN:Con.OK Tryz.prog j5H:=
 cOf j0f j02 jey j5H Tryz.func236 (j8 j4V (j8 jbR (j8 jaJ trivial))) trivial
def j3V:Con:=⟨161,[.v ty84,.v ty77],[ty84,ty77],⟨[.v iT],[]⟩,[iT],Pw.unc2 Pw.j1d⟩
def jbU:FnD where
 N:=40
 np:=2
 cs:=[j3o,j5H]
 ds:=[⟨0,[.s (.one (.bp 128 0)),.s (.one (.d ty44)),sI,sI,.b (.cell [.d ty66,.d ty56,.d ty29,.d ty78] true)],[ty44,iT,iT,ty66,ty56,ty29,ty78],[⟨.ret,[sI],[iT]⟩,⟨.exit 0,[],[]⟩],Pw.unc7 (Pw.j0B)⟩]
 modes:=[(232,[false,false,false]),(236,[false,false])]
 keep:=[(0,⟨[2,27,28,29],[128],[],[]⟩)]
 keepX:=[(0,.ret,⟨[4],[],[],[]⟩),
  (0,.exit 0,⟨[],[],[],[]⟩)]
 ro:=[false]
theorem jbj:Con.OK Tryz.prog j3V:=
 cOf j0f j02 jbU j3V Tryz.func161 (j8 jah (j8 jdN trivial)) (j8 (fun h=>by kernel_rfl) trivial)
def j6a:Con:=⟨160,[.v ty77,.ip [ty66,ty56,ty29,ty78]],[ty77,ty66,ty56,ty29,ty78],⟨[.v iT],[]⟩,[iT],Pw.unc5 Pw.j3x⟩
def jfG:FnD where
 N:=7
 np:=2
 cs:=[j3V]
 ds:=[]
 modes:=[(161,[false,false])]
 ro:=[false]
theorem jez:Con.OK Tryz.prog j6a:=
 cOf j0f j02 jfG j6a Tryz.func160 (j8 jbj trivial) trivial
def j2L:Con:=⟨158,[.v ty78,.clo 159 [],.clo 160 [.p [ty66,ty56,ty29,ty78]]],[ty78,ty66,ty56,ty29,ty78],⟨[.v iT],[]⟩,[iT],Pw.unc5 Pw.j1g⟩
def j9c:FnD where
 N:=34
 np:=3
 cs:=[j2Z,j69,j6a]
 ds:=[⟨0,[.s (.one (.clo 159 [])),.s (.one (.clo 160 [.p [ty66,ty56,ty29,ty78]])),.s (.one (.ol 1000000)),.s (.one (.d ty78)),sI,sI,.b (.lst 4294967512 (.pair .str .bool) false)],[ty66,ty56,ty29,ty78,ty78,iT,iT,(.list (.pair .str .bool))],[⟨.ret,[sI],[iT]⟩,⟨.exit 0,[],[]⟩],Pw.unc8 (Pw.j0q)⟩]
 modes:=[(152,[false,true]),(159,[false]),(160,[false])]
 keep:=[(0,⟨[1,2,7,13,14,15],[],[⟨1000000,4294967512,(.pair .str .bool),[.slot 7],false⟩],[]⟩)]
 keepX:=[(0,.ret,⟨[6],[],[],[]⟩),
  (0,.exit 0,⟨[],[],[],[]⟩)]
 ro:=[false]
theorem j8S:Con.OK Tryz.prog j2L:=
 cOf j0f j02 j9c j2L Tryz.func158 (j8 j5C (j8 jex (j8 jez trivial))) (j8 (fun h=>by kernel_rfl) trivial)
def j4o:Con:=⟨75,[.v ty84],[ty84],⟨[.v iT],[]⟩,[iT],fun h=>Pw.j2z h⟩
def jip:FnD where
 N:=72
 np:=1
 cs:=[j2Z,j3t,j4B,j2K,j2L]
 ds:=[⟨0,[.s (.one (.bp 64 0)),.s (.one (.ol 1000000)),.s (.one (.d ty56)),sI,sI,.b (.cell [.d ty66,.d ty56,.d ty29,.d ty78] false),.b (.lst 4294967512 (.pair .str .bool) false)],[ty56,iT,iT,ty66,ty56,ty29,ty78,(.list (.pair .str .bool))],[⟨.ret,[sI],[iT]⟩,⟨.exit 0,[.s (.one (.bp 64 0)),.b (.cell [.d ty66,.d ty56,.d ty29,.d ty78] false)],[ty66,ty56,ty29,ty78]⟩],Pw.unc8 (Pw.j1e)⟩]
 modes:=[(149,[false,false,false]),(152,[false,true]),(153,[false,false]),(154,[false,false,false]),(158,[false,false,false])]
 keep:=[(0,⟨[1,4,39,40,41],[64],[⟨1000000,4294967512,(.pair .str .bool),[.slot 4],false⟩],[]⟩)]
 keepX:=[(0,.ret,⟨[2],[],[],[]⟩),
  (0,.exit 0,⟨[1],[64],[],[]⟩)]
 ro:=[false]
theorem j8T:Con.OK Tryz.prog j4o:=
 cOf j0f j02 jip j4o Tryz.func75 (j8 j5C (j8 jaH (j8 jcq (j8 j8Q (j8 j8S trivial))))) (j8 (fun h=>by kernel_rfl) trivial)
def j7c:Con:=⟨77,[.v ty84,.v iT],[ty84,iT],⟨[.v .bool],[]⟩,[.bool],Pw.unc2 Pw.jbI⟩
def jkM:FnD where
 N:=14
 np:=2
 cs:=[]
 ds:=[]
 ro:=[false]
theorem je6:Con.OK Tryz.prog j7c:=
 cOf j0f j02 jkM j7c Tryz.func77 trivial trivial
def j3q:Con:=⟨214,[.v ty66],[ty66],⟨[.own 68 ty66],[]⟩,[ty66],fun h=>Pw.j1J h⟩
def j7o:FnD where
 N:=8
 np:=1
 cs:=[]
 ds:=[]
 ro:=[true]
theorem j7d:Con.OK Tryz.prog j3q:=
 j71 j0f j02 j7o 214 ty65 68 Tryz.f214 (Tryz.f214.body.getD .skip) Tryz.func214 (by kernel_rfl) (by kernel_rfl) (k7 (by kernel_rfl)) (by kernel_rfl) trivial (by kernel_rfl)
  (fun h R k=>by kernel_rfl)
def j2R:Con:=⟨215,[.v ty56],[ty56],⟨[.own 71 ty56],[]⟩,[ty56],fun h=>Pw.j1l h⟩
def j6t:FnD where
 N:=8
 np:=1
 cs:=[]
 ds:=[]
 ro:=[true]
theorem j6b:Con.OK Tryz.prog j2R:=
 j71 j0f j02 j6t 215 ty53 71 Tryz.f215 (Tryz.f215.body.getD .skip) Tryz.func215 (by kernel_rfl) (by kernel_rfl) (k7 (by kernel_rfl)) (by kernel_rfl) trivial (by kernel_rfl)
  (fun h R k=>by kernel_rfl)
end Go.Proofs.Pk
