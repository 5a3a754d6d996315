/- Contracts: each given function is its plain function, printed by a program. -/
import Derived.Test.YtpbnnhakjhalaaaGreatEOCon1
noncomputable section
open Go Go.Lft
set_option linter.unusedVariables false
set_option maxRecDepth 100000
namespace Go.Proofs.Pk
def j2H:Con:=⟨229,[.v (.list iT),.clo 230 []],[(.list iT)],⟨[.v .bool],[]⟩,[.bool],fun h=>Pw.j1c h⟩
def j97:FnD where
 N:=9
 np:=2
 cs:=[j3i]
 ds:=[]
 modes:=[(309,[false,false])]
 ro:=[false]
theorem j8N:Con.OK Tryz.prog j2H:=
 cOf j0e j03 j97 j2H Tryz.func229 (j9 jad trivial) trivial
def j4d:Con:=⟨157,[.v ty84,.v ty24],[ty84,ty24],⟨[.v iT],[]⟩,[iT],Pw.unc2 Pw.j1g⟩
def jcq:FnD where
 N:=46
 np:=2
 cs:=[j2G,j2H]
 ds:=[⟨1,[.s (.one (.bp 192 0)),sI,sI,.b (.cell [.d .str,.d iT,.d (.list iT)] false)],[iT,iT,.str,iT,(.list iT)],[⟨.ret,[sI],[iT]⟩,⟨.exit 1,[],[]⟩],Pw.unc5 (Pw.j1r)⟩]
 modes:=[(227,[false,false]),(229,[false,false])]
 keep:=[(1,⟨[3,25,26],[192],[],[]⟩)]
 keepX:=[(1,.ret,⟨[4],[],[],[]⟩),
  (1,.exit 1,⟨[],[],[],[]⟩)]
 ro:=[false]
theorem jbO:Con.OK Tryz.prog j4d:=
 cOf j0e j03 jcq j4d Tryz.func157 (j9 j5d (j9 j8N trivial)) (j9 (fun h=>by kernel_rfl) trivial)
def j6n:Con:=⟨156,[.v ty24,.ip [ty66,ty56,ty29,ty78]],[ty24,ty66,ty56,ty29,ty78],⟨[.v iT],[]⟩,[iT],Pw.unc5 Pw.j3L⟩
def jgn:FnD where
 N:=7
 np:=2
 cs:=[j4d]
 ds:=[]
 modes:=[(157,[false,false])]
 ro:=[false]
theorem jfe:Con.OK Tryz.prog j6n:=
 cOf j0e j03 jgn j6n Tryz.func156 (j9 jbO trivial) trivial
def j2T:Con:=⟨154,[.v ty29,.clo 155 [],.clo 156 [.p [ty66,ty56,ty29,ty78]]],[ty29,ty66,ty56,ty29,ty78],⟨[.v iT],[]⟩,[iT],Pw.unc5 Pw.j10⟩
def j9w:FnD where
 N:=34
 np:=3
 cs:=[j3a,j6m,j6n]
 ds:=[⟨0,[.s (.one (.clo 155 [])),.s (.one (.clo 156 [.p [ty66,ty56,ty29,ty78]])),.s (.one (.ol 1000000)),.s (.one (.d ty29)),sI,sI,.b (.lst 4294967512 (.pair .str .bool) false)],[ty66,ty56,ty29,ty78,ty29,iT,iT,(.list (.pair .str .bool))],[⟨.ret,[sI],[iT]⟩,⟨.exit 0,[],[]⟩],Pw.unc8 (Pw.j0p)⟩]
 modes:=[(152,[false,true]),(155,[false]),(156,[false])]
 keep:=[(0,⟨[1,2,7,13,14,15],[],[⟨1000000,4294967512,(.pair .str .bool),[.slot 7],false⟩],[]⟩)]
 keepX:=[(0,.ret,⟨[6],[],[],[]⟩),
  (0,.exit 0,⟨[],[],[],[]⟩)]
 ro:=[false]
theorem j98:Con.OK Tryz.prog j2T:=
 cOf j0e j03 j9w j2T Tryz.func154 (j9 j5S (j9 jfd (j9 jfe trivial))) (j9 (fun h=>by kernel_rfl) trivial)
def j6o:Con:=⟨159,[.v ty77],[ty77],⟨[.v .str],[]⟩,[.str],fun h=>Pw.j93 h⟩
def jgo:FnD where
 N:=5
 np:=1
 cs:=[]
 ds:=[]
 ro:=[false]
theorem jff:Con.OK Tryz.prog j6o:=
 cOf j0e j03 jgo j6o Tryz.func159 trivial trivial
def j3j:Con:=⟨233,[.v ty72],[ty72],⟨[.v .str],[]⟩,[.str],fun h=>Pw.j4u h⟩
def jaD:FnD where
 N:=5
 np:=1
 cs:=[]
 ds:=[]
 ro:=[false]
theorem jae:Con.OK Tryz.prog j3j:=
 cOf j0e j03 jaD j3j Tryz.func233 trivial trivial
def j4e:Con:=⟨311,[.v iT,.ip [ty66,ty56,ty29,ty78]],[iT,ty66,ty56,ty29,ty78],⟨[.v .bool],[]⟩,[.bool],Pw.unc5 Pw.j5J⟩
def jcr:FnD where
 N:=10
 np:=2
 cs:=[j2G]
 ds:=[]
 modes:=[(227,[false,false])]
 ro:=[false]
theorem jbP:Con.OK Tryz.prog j4e:=
 cOf j0e j03 jcr j4e Tryz.func311 (j9 j5d trivial) trivial
def j2I:Con:=⟨309,[.v (.list iT),.clo 311 [.p [ty66,ty56,ty29,ty78]]],[(.list iT),ty66,ty56,ty29,ty78],⟨[.v iT],[]⟩,[iT],Pw.unc5 Pw.j1d⟩
def j99:FnD where
 N:=19
 np:=2
 cs:=[j4e]
 ds:=[⟨0,[.s (.one (.d (.list iT))),.s (.one (.clo 311 [.p [ty66,ty56,ty29,ty78]])),sI,sI],[(.list iT),ty66,ty56,ty29,ty78,iT,iT],[⟨.ret,[sI],[iT]⟩,⟨.exit 0,[],[]⟩],Pw.unc7 (Pw.j0Q)⟩]
 modes:=[(311,[false])]
 keep:=[(0,⟨[0,1,7,8],[],[],[]⟩)]
 keepX:=[(0,.ret,⟨[4],[],[],[]⟩),
  (0,.exit 0,⟨[],[],[],[]⟩)]
 ro:=[false]
theorem j8O:Con.OK Tryz.prog j2I:=
 cOf j0e j03 j99 j2I Tryz.func309 (j9 jbP trivial) (j9 (fun h=>by kernel_rfl) trivial)
def j2f:Con:=⟨229,[.v (.list iT),.clo 311 [.p [ty66,ty56,ty29,ty78]]],[(.list iT),ty66,ty56,ty29,ty78],⟨[.v .bool],[]⟩,[.bool],Pw.unc5 Pw.j0U⟩
def j7E:FnD where
 N:=9
 np:=2
 cs:=[j2I]
 ds:=[]
 modes:=[(309,[false,false])]
 ro:=[false]
theorem j7q:Con.OK Tryz.prog j2f:=
 cOf j0e j03 j7E j2f Tryz.func229 (j9 j8O trivial) trivial
def j5k:Con:=⟨235,[.v ty84,.v ty72],[ty84,ty72],⟨[.v iT],[]⟩,[iT],Pw.unc2 Pw.j1S⟩
def jev:FnD where
 N:=91
 np:=2
 cs:=[j2G,j8l,j6G,j5W,j2f]
 ds:=[]
 modes:=[(197,[false]),(227,[false,false]),(229,[false,false]),(231,[false]),(308,[false,false,false])]
 ro:=[false]
theorem jdU:Con.OK Tryz.prog j5k:=
 cOf j0e j03 jev j5k Tryz.func235 (j9 j5d (j9 jgl (j9 jcp (j9 jb5 (j9 j7q trivial))))) trivial
def j3k:Con:=⟨234,[.v ty72,.ip [ty66,ty56,ty29,ty78]],[ty72,ty66,ty56,ty29,ty78],⟨[.v iT],[]⟩,[iT],Pw.unc5 Pw.j1B⟩
def jaE:FnD where
 N:=7
 np:=2
 cs:=[j5k]
 ds:=[]
 modes:=[(235,[false,false])]
 ro:=[false]
theorem jaf:Con.OK Tryz.prog j3k:=
 cOf j0e j03 jaE j3k Tryz.func234 (j9 jdU trivial) trivial
def j3z:Con:=⟨232,[.v ty73,.clo 233 [],.clo 234 [.p [ty66,ty56,ty29,ty78]]],[ty73,ty66,ty56,ty29,ty78],⟨[.v iT],[]⟩,[iT],Pw.unc5 Pw.j1o⟩
def jb6:FnD where
 N:=34
 np:=3
 cs:=[j3a,j3j,j3k]
 ds:=[⟨0,[.s (.one (.clo 233 [])),.s (.one (.clo 234 [.p [ty66,ty56,ty29,ty78]])),.s (.one (.ol 1000000)),.s (.one (.d ty73)),sI,sI,.b (.lst 4294967512 (.pair .str .bool) false)],[ty66,ty56,ty29,ty78,ty73,iT,iT,(.list (.pair .str .bool))],[⟨.ret,[sI],[iT]⟩,⟨.exit 0,[],[]⟩],Pw.unc8 (Pw.j0y)⟩]
 modes:=[(152,[false,true]),(233,[false]),(234,[false])]
 keep:=[(0,⟨[1,2,7,13,14,15],[],[⟨1000000,4294967512,(.pair .str .bool),[.slot 7],false⟩],[]⟩)]
 keepX:=[(0,.ret,⟨[6],[],[],[]⟩),
  (0,.exit 0,⟨[],[],[],[]⟩)]
 ro:=[false]
theorem jaF:Con.OK Tryz.prog j3z:=
 cOf j0e j03 jb6 j3z Tryz.func232 (j9 j5S (j9 jae (j9 jaf trivial))) (j9 (fun h=>by kernel_rfl) trivial)
def j5X:Con:=⟨236,[.v ty84,.v ty42],[ty84,ty42],⟨[.v iT],[]⟩,[iT],Pw.unc2 Pw.j28⟩
def jfg:FnD where
 N:=83
 np:=2
 cs:=[j2G,j6G,j5W]
 ds:=[]
 modes:=[(227,[false,false]),(231,[false]),(308,[false,false,false])]
 ro:=[false]
theorem jew:Con.OK Tryz.prog j5X:=
 cOf j0e j03 jfg j5X Tryz.func236 (j9 j5d (j9 jcp (j9 jb5 trivial))) trivial
def j4f:Con:=⟨161,[.v ty84,.v ty77],[ty84,ty77],⟨[.v iT],[]⟩,[iT],Pw.unc2 Pw.j1h⟩
def jcs:FnD where
 N:=40
 np:=2
 cs:=[j3z,j5X]
 ds:=[⟨0,[.s (.one (.bp 128 0)),.s (.one (.d ty44)),sI,sI,.b (.cell [.d ty66,.d ty56,.d ty29,.d ty78] true)],[ty44,iT,iT,ty66,ty56,ty29,ty78],[⟨.ret,[sI],[iT]⟩,⟨.exit 0,[],[]⟩],Pw.unc7 (Pw.j0F)⟩]
 modes:=[(232,[false,false,false]),(236,[false,false])]
 keep:=[(0,⟨[2,27,28,29],[128],[],[]⟩)]
 keepX:=[(0,.ret,⟨[4],[],[],[]⟩),
  (0,.exit 0,⟨[],[],[],[]⟩)]
 ro:=[false]
theorem jbQ:Con.OK Tryz.prog j4f:=
 cOf j0e j03 jcs j4f Tryz.func161 (j9 jaF (j9 jew trivial)) (j9 (fun h=>by kernel_rfl) trivial)
def j6p:Con:=⟨160,[.v ty77,.ip [ty66,ty56,ty29,ty78]],[ty77,ty66,ty56,ty29,ty78],⟨[.v iT],[]⟩,[iT],Pw.unc5 Pw.j3M⟩
def jgp:FnD where
 N:=7
 np:=2
 cs:=[j4f]
 ds:=[]
 modes:=[(161,[false,false])]
 ro:=[false]
theorem jfh:Con.OK Tryz.prog j6p:=
 cOf j0e j03 jgp j6p Tryz.func160 (j9 jbQ trivial) trivial
def j2U:Con:=⟨158,[.v ty78,.clo 159 [],.clo 160 [.p [ty66,ty56,ty29,ty78]]],[ty78,ty66,ty56,ty29,ty78],⟨[.v iT],[]⟩,[iT],Pw.unc5 Pw.j1m⟩
def j9x:FnD where
 N:=34
 np:=3
 cs:=[j3a,j6o,j6p]
 ds:=[⟨0,[.s (.one (.clo 159 [])),.s (.one (.clo 160 [.p [ty66,ty56,ty29,ty78]])),.s (.one (.ol 1000000)),.s (.one (.d ty78)),sI,sI,.b (.lst 4294967512 (.pair .str .bool) false)],[ty66,ty56,ty29,ty78,ty78,iT,iT,(.list (.pair .str .bool))],[⟨.ret,[sI],[iT]⟩,⟨.exit 0,[],[]⟩],Pw.unc8 (Pw.j0q)⟩]
 modes:=[(152,[false,true]),(159,[false]),(160,[false])]
 keep:=[(0,⟨[1,2,7,13,14,15],[],[⟨1000000,4294967512,(.pair .str .bool),[.slot 7],false⟩],[]⟩)]
 keepX:=[(0,.ret,⟨[6],[],[],[]⟩),
  (0,.exit 0,⟨[],[],[],[]⟩)]
 ro:=[false]
theorem j9a:Con.OK Tryz.prog j2U:=
 cOf j0e j03 j9x j2U Tryz.func158 (j9 j5S (j9 jff (j9 jfh trivial))) (j9 (fun h=>by kernel_rfl) trivial)
def j4G:Con:=⟨75,[.v ty84],[ty84],⟨[.v iT],[]⟩,[iT],fun h=>Pw.j2L h⟩
def jj8:FnD where
 N:=72
 np:=1
 cs:=[j3a,j3I,j4W,j2T,j2U]
 ds:=[⟨0,[.s (.one (.bp 64 0)),.s (.one (.ol 1000000)),.s (.one (.d ty56)),sI,sI,.b (.cell [.d ty66,.d ty56,.d ty29,.d ty78] false),.b (.lst 4294967512 (.pair .str .bool) false)],[ty56,iT,iT,ty66,ty56,ty29,ty78,(.list (.pair .str .bool))],[⟨.ret,[sI],[iT]⟩,⟨.exit 0,[.s (.one (.bp 64 0)),.b (.cell [.d ty66,.d ty56,.d ty29,.d ty78] false)],[ty66,ty56,ty29,ty78]⟩],Pw.unc8 (Pw.j1i)⟩]
 modes:=[(149,[false,false,false]),(152,[false,true]),(153,[false,false]),(154,[false,false,false]),(158,[false,false,false])]
 keep:=[(0,⟨[1,4,39,40,41],[64],[⟨1000000,4294967512,(.pair .str .bool),[.slot 4],false⟩],[]⟩)]
 keepX:=[(0,.ret,⟨[2],[],[],[]⟩),
  (0,.exit 0,⟨[1],[64],[],[]⟩)]
 ro:=[false]
theorem j9b:Con.OK Tryz.prog j4G:=
 cOf j0e j03 jj8 j4G Tryz.func75 (j9 j5S (j9 jb3 (j9 jd3 (j9 j98 (j9 j9a trivial))))) (j9 (fun h=>by kernel_rfl) trivial)
def j7r:Con:=⟨77,[.v ty84,.v iT],[ty84,iT],⟨[.v .bool],[]⟩,[.bool],Pw.unc2 Pw.jcf⟩
def jlH:FnD where
 N:=14
 np:=2
 cs:=[]
 ds:=[]
 ro:=[false]
theorem jeO:Con.OK Tryz.prog j7r:=
 cOf j0e j03 jlH j7r Tryz.func77 trivial trivial
def j3F:Con:=⟨214,[.v ty66],[ty66],⟨[.own 68 ty66],[]⟩,[ty66],fun h=>Pw.j4M h⟩
def j7F:FnD where
 N:=8
 np:=1
 cs:=[]
 ds:=[]
 ro:=[true]
theorem j7s:Con.OK Tryz.prog j3F:=
 j7f j0e j03 j7F 214 ty65 68 Tryz.f214 (Tryz.f214.body.getD .skip) Tryz.func214 (by kernel_rfl) (by kernel_rfl) (k9 (by kernel_rfl)) (by kernel_rfl) trivial (by kernel_rfl)
  (fun h R k=>by kernel_rfl)
def j31:Con:=⟨215,[.v ty56],[ty56],⟨[.own 71 ty56],[]⟩,[ty56],fun h=>Pw.j3E h⟩
def j6H:FnD where
 N:=8
 np:=1
 cs:=[]
 ds:=[]
 ro:=[true]
theorem j6q:Con.OK Tryz.prog j31:=
 j7f j0e j03 j6H 215 ty53 71 Tryz.f215 (Tryz.f215.body.getD .skip) Tryz.func215 (by kernel_rfl) (by kernel_rfl) (k9 (by kernel_rfl)) (by kernel_rfl) trivial (by kernel_rfl)
  (fun h R k=>by kernel_rfl)
end Go.Proofs.Pk
