/- Contracts: each given function is its plain function, printed by a program. -/
import Derived.Test.YtpbnnhakjhalaaaGreatSLCon1
noncomputable section
open Go Go.Lft
set_option linter.unusedVariables false
set_option maxRecDepth 100000
namespace Go.Proofs.Pk
def j2M:Con:=⟨229,[.v (.list iT),.clo 230 []],[(.list iT)],⟨[.v .bool],[]⟩,[.bool],fun h=>Pw.j1e h⟩
def j8y:FnD where
 N:=9
 np:=2
 cs:=[j3k]
 ds:=[]
 modes:=[(309,[false,false])]
 ro:=[false]
theorem j8e:Con.OK Tryz.prog j2M:=
 cOf j0l j04 j8y j2M Tryz.func229 (j9 j9K trivial) trivial
def j43:Con:=⟨157,[.v ty84,.v ty24],[ty84,ty24],⟨[.v iT],[]⟩,[iT],Pw.unc2 Pw.j1h⟩
def jbN:FnD where
 N:=46
 np:=2
 cs:=[j2L,j2M]
 ds:=[⟨1,[.s (.one (.bp 192 0)),sI,sI,.b (.cell [.d .str,.d iT,.d (.list iT)] false)],[iT,iT,.str,iT,(.list iT)],[⟨.ret,[sI],[iT]⟩,⟨.exit 1,[],[]⟩],Pw.unc5 (Pw.j1t)⟩]
 modes:=[(227,[false,false]),(229,[false,false])]
 keep:=[(1,⟨[3,25,26],[192],[],[]⟩)]
 keepX:=[(1,.ret,⟨[4],[],[],[]⟩),
  (1,.exit 1,⟨[],[],[],[]⟩)]
 ro:=[false]
theorem jb8:Con.OK Tryz.prog j43:=
 cOf j0l j04 jbN j43 Tryz.func157 (j9 j4K (j9 j8e trivial)) (j9 (fun h=>by kernel_rfl) trivial)
def j5R:Con:=⟨156,[.v ty24,.ip [ty66,ty56,ty29,ty78]],[ty24,ty66,ty56,ty29,ty78],⟨[.v iT],[]⟩,[iT],Pw.unc5 Pw.j3G⟩
def jf9:FnD where
 N:=7
 np:=2
 cs:=[j43]
 ds:=[]
 modes:=[(157,[false,false])]
 ro:=[false]
theorem je6:Con.OK Tryz.prog j5R:=
 cOf j0l j04 jf9 j5R Tryz.func156 (j9 jb8 trivial) trivial
def j2U:Con:=⟨154,[.v ty29,.clo 155 [],.clo 156 [.p [ty66,ty56,ty29,ty78]]],[ty29,ty66,ty56,ty29,ty78],⟨[.v iT],[]⟩,[iT],Pw.unc5 Pw.j12⟩
def j95:FnD where
 N:=34
 np:=3
 cs:=[j38,j5Q,j5R]
 ds:=[⟨0,[.s (.one (.clo 155 [])),.s (.one (.clo 156 [.p [ty66,ty56,ty29,ty78]])),.s (.one (.ol 1000000)),.s (.one (.d ty29)),sI,sI,.b (.lst 4294967512 (.pair .str .bool) false)],[ty66,ty56,ty29,ty78,ty29,iT,iT,(.list (.pair .str .bool))],[⟨.ret,[sI],[iT]⟩,⟨.exit 0,[],[]⟩],Pw.unc8 (Pw.j0o)⟩]
 modes:=[(152,[false,true]),(155,[false]),(156,[false])]
 keep:=[(0,⟨[1,2,7,13,14,15],[],[⟨1000000,4294967512,(.pair .str .bool),[.slot 7],false⟩],[]⟩)]
 keepX:=[(0,.ret,⟨[6],[],[],[]⟩),
  (0,.exit 0,⟨[],[],[],[]⟩)]
 ro:=[false]
theorem j8z:Con.OK Tryz.prog j2U:=
 cOf j0l j04 j95 j2U Tryz.func154 (j9 j5l (j9 je5 (j9 je6 trivial))) (j9 (fun h=>by kernel_rfl) trivial)
def j5S:Con:=⟨159,[.v ty77],[ty77],⟨[.v .str],[]⟩,[.str],fun h=>Pw.j8u h⟩
def jfa:FnD where
 N:=5
 np:=1
 cs:=[]
 ds:=[]
 ro:=[false]
theorem je7:Con.OK Tryz.prog j5S:=
 cOf j0l j04 jfa j5S Tryz.func159 trivial trivial
def j3l:Con:=⟨233,[.v ty72],[ty72],⟨[.v .str],[]⟩,[.str],fun h=>Pw.j4k h⟩
def jad:FnD where
 N:=5
 np:=1
 cs:=[]
 ds:=[]
 ro:=[false]
theorem j9L:Con.OK Tryz.prog j3l:=
 cOf j0l j04 jad j3l Tryz.func233 trivial trivial
def j44:Con:=⟨311,[.v iT,.ip [ty66,ty56,ty29,ty78]],[iT,ty66,ty56,ty29,ty78],⟨[.v .bool],[]⟩,[.bool],Pw.unc5 Pw.j5b⟩
def jbO:FnD where
 N:=10
 np:=2
 cs:=[j2L]
 ds:=[]
 modes:=[(227,[false,false])]
 ro:=[false]
theorem jb9:Con.OK Tryz.prog j44:=
 cOf j0l j04 jbO j44 Tryz.func311 (j9 j4K trivial) trivial
def j2N:Con:=⟨309,[.v (.list iT),.clo 311 [.p [ty66,ty56,ty29,ty78]]],[(.list iT),ty66,ty56,ty29,ty78],⟨[.v iT],[]⟩,[iT],Pw.unc5 Pw.j1f⟩
def j8A:FnD where
 N:=19
 np:=2
 cs:=[j44]
 ds:=[⟨0,[.s (.one (.d (.list iT))),.s (.one (.clo 311 [.p [ty66,ty56,ty29,ty78]])),sI,sI],[(.list iT),ty66,ty56,ty29,ty78,iT,iT],[⟨.ret,[sI],[iT]⟩,⟨.exit 0,[],[]⟩],Pw.unc7 (Pw.j0Q)⟩]
 modes:=[(311,[false])]
 keep:=[(0,⟨[0,1,7,8],[],[],[]⟩)]
 keepX:=[(0,.ret,⟨[4],[],[],[]⟩),
  (0,.exit 0,⟨[],[],[],[]⟩)]
 ro:=[false]
theorem j8f:Con.OK Tryz.prog j2N:=
 cOf j0l j04 j8A j2N Tryz.func309 (j9 jb9 trivial) (j9 (fun h=>by kernel_rfl) trivial)
def j2n:Con:=⟨229,[.v (.list iT),.clo 311 [.p [ty66,ty56,ty29,ty78]]],[(.list iT),ty66,ty56,ty29,ty78],⟨[.v .bool],[]⟩,[.bool],Pw.unc5 Pw.j0V⟩
def j7b:FnD where
 N:=9
 np:=2
 cs:=[j2N]
 ds:=[]
 modes:=[(309,[false,false])]
 ro:=[false]
theorem j6Y:Con.OK Tryz.prog j2n:=
 cOf j0l j04 j7b j2n Tryz.func229 (j9 j8f trivial) trivial
def j4S:Con:=⟨235,[.v ty84,.v ty72],[ty84,ty72],⟨[.v iT],[]⟩,[iT],Pw.unc2 Pw.j24⟩
def jds:FnD where
 N:=91
 np:=2
 cs:=[j2L,j7P,j6c,j5p,j2n]
 ds:=[]
 modes:=[(197,[false]),(227,[false,false]),(229,[false,false]),(231,[false]),(308,[false,false,false])]
 ro:=[false]
theorem jcW:Con.OK Tryz.prog j4S:=
 cOf j0l j04 jds j4S Tryz.func235 (j9 j4K (j9 jf7 (j9 jbM (j9 jaH (j9 j6Y trivial))))) trivial
def j3m:Con:=⟨234,[.v ty72,.ip [ty66,ty56,ty29,ty78]],[ty72,ty66,ty56,ty29,ty78],⟨[.v iT],[]⟩,[iT],Pw.unc5 Pw.j1G⟩
def jae:FnD where
 N:=7
 np:=2
 cs:=[j4S]
 ds:=[]
 modes:=[(235,[false,false])]
 ro:=[false]
theorem j9M:Con.OK Tryz.prog j3m:=
 cOf j0l j04 jae j3m Tryz.func234 (j9 jcW trivial) trivial
def j3x:Con:=⟨232,[.v ty73,.clo 233 [],.clo 234 [.p [ty66,ty56,ty29,ty78]]],[ty73,ty66,ty56,ty29,ty78],⟨[.v iT],[]⟩,[iT],Pw.unc5 Pw.j1p⟩
def jaI:FnD where
 N:=34
 np:=3
 cs:=[j38,j3l,j3m]
 ds:=[⟨0,[.s (.one (.clo 233 [])),.s (.one (.clo 234 [.p [ty66,ty56,ty29,ty78]])),.s (.one (.ol 1000000)),.s (.one (.d ty73)),sI,sI,.b (.lst 4294967512 (.pair .str .bool) false)],[ty66,ty56,ty29,ty78,ty73,iT,iT,(.list (.pair .str .bool))],[⟨.ret,[sI],[iT]⟩,⟨.exit 0,[],[]⟩],Pw.unc8 (Pw.j0w)⟩]
 modes:=[(152,[false,true]),(233,[false]),(234,[false])]
 keep:=[(0,⟨[1,2,7,13,14,15],[],[⟨1000000,4294967512,(.pair .str .bool),[.slot 7],false⟩],[]⟩)]
 keepX:=[(0,.ret,⟨[6],[],[],[]⟩),
  (0,.exit 0,⟨[],[],[],[]⟩)]
 ro:=[false]
theorem jaf:Con.OK Tryz.prog j3x:=
 cOf j0l j04 jaI j3x Tryz.func232 (j9 j5l (j9 j9L (j9 j9M trivial))) (j9 (fun h=>by kernel_rfl) trivial)
def j5q:Con:=⟨236,[.v ty84,.v ty42],[ty84,ty42],⟨[.v iT],[]⟩,[iT],Pw.unc2 Pw.j2h⟩
def je8:FnD where
 N:=83
 np:=2
 cs:=[j2L,j6c,j5p]
 ds:=[]
 modes:=[(227,[false,false]),(231,[false]),(308,[false,false,false])]
 ro:=[false]
theorem jdt:Con.OK Tryz.prog j5q:=
 cOf j0l j04 je8 j5q Tryz.func236 (j9 j4K (j9 jbM (j9 jaH trivial))) trivial
def j45:Con:=⟨161,[.v ty84,.v ty77],[ty84,ty77],⟨[.v iT],[]⟩,[iT],Pw.unc2 Pw.j1i⟩
def jbP:FnD where
 N:=40
 np:=2
 cs:=[j3x,j5q]
 ds:=[⟨0,[.s (.one (.bp 128 0)),.s (.one (.d ty44)),sI,sI,.b (.cell [.d ty66,.d ty56,.d ty29,.d ty78] true)],[ty44,iT,iT,ty66,ty56,ty29,ty78],[⟨.ret,[sI],[iT]⟩,⟨.exit 0,[],[]⟩],Pw.unc7 (Pw.j0F)⟩]
 modes:=[(232,[false,false,false]),(236,[false,false])]
 keep:=[(0,⟨[2,27,28,29],[128],[],[]⟩)]
 keepX:=[(0,.ret,⟨[4],[],[],[]⟩),
  (0,.exit 0,⟨[],[],[],[]⟩)]
 ro:=[false]
theorem jba:Con.OK Tryz.prog j45:=
 cOf j0l j04 jbP j45 Tryz.func161 (j9 jaf (j9 jdt trivial)) (j9 (fun h=>by kernel_rfl) trivial)
def j5T:Con:=⟨160,[.v ty77,.ip [ty66,ty56,ty29,ty78]],[ty77,ty66,ty56,ty29,ty78],⟨[.v iT],[]⟩,[iT],Pw.unc5 Pw.j3H⟩
def jfb:FnD where
 N:=7
 np:=2
 cs:=[j45]
 ds:=[]
 modes:=[(161,[false,false])]
 ro:=[false]
theorem je9:Con.OK Tryz.prog j5T:=
 cOf j0l j04 jfb j5T Tryz.func160 (j9 jba trivial) trivial
def j2V:Con:=⟨158,[.v ty78,.clo 159 [],.clo 160 [.p [ty66,ty56,ty29,ty78]]],[ty78,ty66,ty56,ty29,ty78],⟨[.v iT],[]⟩,[iT],Pw.unc5 Pw.j1m⟩
def j96:FnD where
 N:=34
 np:=3
 cs:=[j38,j5S,j5T]
 ds:=[⟨0,[.s (.one (.clo 159 [])),.s (.one (.clo 160 [.p [ty66,ty56,ty29,ty78]])),.s (.one (.ol 1000000)),.s (.one (.d ty78)),sI,sI,.b (.lst 4294967512 (.pair .str .bool) false)],[ty66,ty56,ty29,ty78,ty78,iT,iT,(.list (.pair .str .bool))],[⟨.ret,[sI],[iT]⟩,⟨.exit 0,[],[]⟩],Pw.unc8 (Pw.j0p)⟩]
 modes:=[(152,[false,true]),(159,[false]),(160,[false])]
 keep:=[(0,⟨[1,2,7,13,14,15],[],[⟨1000000,4294967512,(.pair .str .bool),[.slot 7],false⟩],[]⟩)]
 keepX:=[(0,.ret,⟨[6],[],[],[]⟩),
  (0,.exit 0,⟨[],[],[],[]⟩)]
 ro:=[false]
theorem j8B:Con.OK Tryz.prog j2V:=
 cOf j0l j04 j96 j2V Tryz.func158 (j9 j5l (j9 je7 (j9 je9 trivial))) (j9 (fun h=>by kernel_rfl) trivial)
def j7H:Con:=⟨75,[.v ty84],[ty84],⟨[.v iT],[]⟩,[iT],fun h=>Pw.j3M h⟩
def ji6:FnD where
 N:=72
 np:=1
 cs:=[j38,j3D,j4B,j2U,j2V]
 ds:=[⟨0,[.s (.one (.bp 64 0)),.s (.one (.ol 1000000)),.s (.one (.d ty56)),sI,sI,.b (.cell [.d ty66,.d ty56,.d ty29,.d ty78] false),.b (.lst 4294967512 (.pair .str .bool) false)],[ty56,iT,iT,ty66,ty56,ty29,ty78,(.list (.pair .str .bool))],[⟨.ret,[sI],[iT]⟩,⟨.exit 0,[.s (.one (.bp 64 0)),.b (.cell [.d ty66,.d ty56,.d ty29,.d ty78] false)],[ty66,ty56,ty29,ty78]⟩],Pw.unc8 (Pw.j1j)⟩]
 modes:=[(149,[false,false,false]),(152,[false,true]),(153,[false,false]),(154,[false,false,false]),(158,[false,false,false])]
 keep:=[(0,⟨[1,4,39,40,41],[64],[⟨1000000,4294967512,(.pair .str .bool),[.slot 4],false⟩],[]⟩)]
 keepX:=[(0,.ret,⟨[2],[],[],[]⟩),
  (0,.exit 0,⟨[1],[64],[],[]⟩)]
 ro:=[false]
theorem jgD:Con.OK Tryz.prog j7H:=
 cOf j0l j04 ji6 j7H Tryz.func75 (j9 j5l (j9 jaF (j9 jch (j9 j8z (j9 j8B trivial))))) (j9 (fun h=>by kernel_rfl) trivial)
def jea:Con:=⟨117,[.v ty65],[ty65],⟨[.v ty28,.v iT],[]⟩,[ty28,iT],fun h=>Pw.jcQ h⟩
def jqD:FnD where
 N:=16
 np:=1
 cs:=[j4e]
 ds:=[]
 modes:=[(201,[false])]
 ro:=[false,false]
theorem joY:Con.OK Tryz.prog jea:=
 cOf j0l j04 jqD jea Tryz.func117 (j9 j9I trivial) trivial
def j9N:Con:=⟨237,[.v ty66],[ty66],⟨[.own 154 ty33],[]⟩,[ty33],fun h=>Pw.j7x h⟩
def jkE:FnD where
 N:=25
 np:=1
 cs:=[jea]
 ds:=[⟨0,[.s (.one (.ol 1000000)),.s (.one (.d ty66)),sI,sI,.b (.lst 154 ty28 false)],[ty66,iT,iT,ty33],[⟨.exit 0,[.s (.one (.ol 1500100)),.b (.lst 154 ty28 false)],[ty33]⟩],Pw.unc4 (Pw.j1J)⟩]
 modes:=[(117,[false])]
 keep:=[(0,⟨[3,8,9,10],[],[⟨1000000,154,ty28,[.slot 3],false⟩],[]⟩)]
 keepX:=[(0,.exit 0,⟨[3],[],[⟨1500100,154,ty28,[.slot 3],false⟩],[]⟩)]
 ro:=[true]
theorem jiN:Con.OK Tryz.prog j9N:=
 cOf j0l j04 jkE j9N Tryz.func237 (j9 joY trivial) (j9 (fun h=>by kernel_rfl) trivial)
def jbQ:Con:=⟨162,[.v ty84],[ty84],⟨[.v ty86],[]⟩,[ty86],fun h=>Pw.j9o h⟩
def jne:FnD where
 N:=8
 np:=1
 cs:=[j9N]
 ds:=[]
 modes:=[(237,[false])]
 ro:=[false]
 dw:=[(1,[[],[],[],[384],[],[128]])]
theorem jm3:Con.OK Tryz.prog jbQ:=
 cOf j0l j04 jne jbQ Tryz.func162 (j9 jiN trivial) trivial
end Go.Proofs.Pk
