/- Contracts: each given function is its plain function, printed by a program. -/
import Derived.Test.YtaieocafhcjelaaGreatACon1
noncomputable section
open Go Go.Lft
set_option linter.unusedVariables false
set_option maxRecDepth 100000
namespace Go.Proofs.Pk
def j4t:Con:=⟨303,[.v (.list iT),.clo 253 []],[(.list iT)],⟨[.v iT],[]⟩,[iT],fun h=>Pw.j2e h⟩
def jde:FnD where
 N:=19
 np:=2
 cs:=[j4s]
 ds:=[⟨0,[.s (.one (.d (.list iT))),.s (.one (.clo 253 [])),sI,sI],[(.list iT),iT,iT],[⟨.ret,[sI],[iT]⟩,⟨.exit 0,[],[]⟩],Pw.unc3 (Pw.j0z)⟩]
 modes:=[(253,[false])]
 keep:=[(0,⟨[0,1,7,8],[],[],[]⟩)]
 keepX:=[(0,.ret,⟨[4],[],[],[]⟩),
  (0,.exit 0,⟨[],[],[],[]⟩)]
 ro:=[false]
theorem jcK:Con.OK Tryz.prog j4t:=
 cOf j0c j03 jde j4t Tryz.func303 (j9 jcJ trivial) (j9 (fun h=>by kernel_rfl) trivial)
def j3A:Con:=⟨252,[.v (.list iT),.clo 253 []],[(.list iT)],⟨[.v .bool],[]⟩,[.bool],fun h=>Pw.j1D h⟩
def jbo:FnD where
 N:=9
 np:=2
 cs:=[j4t]
 ds:=[]
 modes:=[(303,[false,false])]
 ro:=[false]
theorem jb6:Con.OK Tryz.prog j3A:=
 cOf j0c j03 jbo j3A Tryz.func252 (j9 jcK trivial) trivial
def j5C:Con:=⟨173,[.v ty84,.v ty24],[ty84,ty24],⟨[.v iT],[]⟩,[iT],Pw.unc2 Pw.j1K⟩
def jfg:FnD where
 N:=46
 np:=2
 cs:=[j3z,j3A]
 ds:=[⟨1,[.s (.one (.bp 192 0)),sI,sI,.b (.cell [.d .str,.d iT,.d (.list iT)] false)],[iT,iT,.str,iT,(.list iT)],[⟨.ret,[sI],[iT]⟩,⟨.exit 1,[],[]⟩],Pw.unc5 (Pw.j1Y)⟩]
 modes:=[(250,[false,false]),(252,[false,false])]
 keep:=[(1,⟨[3,25,26],[192],[],[]⟩)]
 keepX:=[(1,.ret,⟨[4],[],[],[]⟩),
  (1,.exit 1,⟨[],[],[],[]⟩)]
 ro:=[false]
theorem jeA:Con.OK Tryz.prog j5C:=
 cOf j0c j03 jfg j5C Tryz.func173 (j9 j6L (j9 jb6 trivial)) (j9 (fun h=>by kernel_rfl) trivial)
def j83:Con:=⟨172,[.v ty24,.ip [ty66,ty56,ty29,ty78]],[ty24,ty66,ty56,ty29,ty78],⟨[.v iT],[]⟩,[iT],Pw.unc5 Pw.j52⟩
def jjK:FnD where
 N:=7
 np:=2
 cs:=[j5C]
 ds:=[]
 modes:=[(173,[false,false])]
 ro:=[false]
theorem jiw:Con.OK Tryz.prog j83:=
 cOf j0c j03 jjK j83 Tryz.func172 (j9 jeA trivial) trivial
def j3Y:Con:=⟨170,[.v ty29,.clo 171 [],.clo 172 [.p [ty66,ty56,ty29,ty78]]],[ty29,ty66,ty56,ty29,ty78],⟨[.v iT],[]⟩,[iT],Pw.unc5 Pw.j1f⟩
def jbU:FnD where
 N:=34
 np:=3
 cs:=[j4e,j82,j83]
 ds:=[⟨0,[.s (.one (.clo 171 [])),.s (.one (.clo 172 [.p [ty66,ty56,ty29,ty78]])),.s (.one (.ol 1000000)),.s (.one (.d ty29)),sI,sI,.b (.lst 4294967523 (.pair .str .bool) false)],[ty66,ty56,ty29,ty78,ty29,iT,iT,(.list (.pair .str .bool))],[⟨.ret,[sI],[iT]⟩,⟨.exit 0,[],[]⟩],Pw.unc8 (Pw.j0t)⟩]
 modes:=[(168,[false,true]),(171,[false]),(172,[false])]
 keep:=[(0,⟨[1,2,7,13,14,15],[],[⟨1000000,4294967523,(.pair .str .bool),[.slot 7],false⟩],[]⟩)]
 keepX:=[(0,.ret,⟨[6],[],[],[]⟩),
  (0,.exit 0,⟨[],[],[],[]⟩)]
 ro:=[false]
theorem jbp:Con.OK Tryz.prog j3Y:=
 cOf j0c j03 jbU j3Y Tryz.func170 (j9 j7v (j9 jiv (j9 jiw trivial))) (j9 (fun h=>by kernel_rfl) trivial)
def j84:Con:=⟨175,[.v ty77],[ty77],⟨[.v .str],[]⟩,[.str],fun h=>Pw.jbj h⟩
def jjL:FnD where
 N:=5
 np:=1
 cs:=[]
 ds:=[]
 ro:=[false]
theorem jix:Con.OK Tryz.prog j84:=
 cOf j0c j03 jjL j84 Tryz.func175 trivial trivial
def j4u:Con:=⟨256,[.v ty72],[ty72],⟨[.v .str],[]⟩,[.str],fun h=>Pw.j5S h⟩
def jdf:FnD where
 N:=5
 np:=1
 cs:=[]
 ds:=[]
 ro:=[false]
theorem jcL:Con.OK Tryz.prog j4u:=
 cOf j0c j03 jdf j4u Tryz.func256 trivial trivial
def j5D:Con:=⟨324,[.v iT,.ip [ty66,ty56,ty29,ty78]],[iT,ty66,ty56,ty29,ty78],⟨[.v .bool],[]⟩,[.bool],Pw.unc5 Pw.j7k⟩
def jfh:FnD where
 N:=10
 np:=2
 cs:=[j3z]
 ds:=[]
 modes:=[(250,[false,false])]
 ro:=[false]
theorem jeB:Con.OK Tryz.prog j5D:=
 cOf j0c j03 jfh j5D Tryz.func324 (j9 j6L trivial) trivial
def j3B:Con:=⟨303,[.v (.list iT),.clo 324 [.p [ty66,ty56,ty29,ty78]]],[(.list iT),ty66,ty56,ty29,ty78],⟨[.v iT],[]⟩,[iT],Pw.unc5 Pw.j1E⟩
def jbq:FnD where
 N:=19
 np:=2
 cs:=[j5D]
 ds:=[⟨0,[.s (.one (.d (.list iT))),.s (.one (.clo 324 [.p [ty66,ty56,ty29,ty78]])),sI,sI],[(.list iT),ty66,ty56,ty29,ty78,iT,iT],[⟨.ret,[sI],[iT]⟩,⟨.exit 0,[],[]⟩],Pw.unc7 (Pw.j12)⟩]
 modes:=[(324,[false])]
 keep:=[(0,⟨[0,1,7,8],[],[],[]⟩)]
 keepX:=[(0,.ret,⟨[4],[],[],[]⟩),
  (0,.exit 0,⟨[],[],[],[]⟩)]
 ro:=[false]
theorem jb7:Con.OK Tryz.prog j3B:=
 cOf j0c j03 jbq j3B Tryz.func303 (j9 jeB trivial) (j9 (fun h=>by kernel_rfl) trivial)
def j34:Con:=⟨252,[.v (.list iT),.clo 324 [.p [ty66,ty56,ty29,ty78]]],[(.list iT),ty66,ty56,ty29,ty78],⟨[.v .bool],[]⟩,[.bool],Pw.unc5 Pw.j18⟩
def j9J:FnD where
 N:=9
 np:=2
 cs:=[j3B]
 ds:=[]
 modes:=[(303,[false,false])]
 ro:=[false]
theorem j9o:Con.OK Tryz.prog j34:=
 cOf j0c j03 j9J j34 Tryz.func252 (j9 jb7 trivial) trivial
def j6U:Con:=⟨258,[.v ty84,.v ty72],[ty84,ty72],⟨[.v iT],[]⟩,[iT],Pw.unc2 Pw.j2F⟩
def jhG:FnD where
 N:=91
 np:=2
 cs:=[j3z,jaA,j8u,j7z,j34]
 ds:=[]
 modes:=[(204,[false]),(250,[false,false]),(252,[false,false]),(254,[false]),(322,[false,false,false])]
 ro:=[false]
theorem jgP:Con.OK Tryz.prog j6U:=
 cOf j0c j03 jhG j6U Tryz.func258 (j9 j6L (j9 jjI (j9 jff (j9 jdW (j9 j9o trivial))))) trivial
def j4v:Con:=⟨257,[.v ty72,.ip [ty66,ty56,ty29,ty78]],[ty72,ty66,ty56,ty29,ty78],⟨[.v iT],[]⟩,[iT],Pw.unc5 Pw.j2g⟩
def jdg:FnD where
 N:=7
 np:=2
 cs:=[j6U]
 ds:=[]
 modes:=[(258,[false,false])]
 ro:=[false]
theorem jcM:Con.OK Tryz.prog j4v:=
 cOf j0c j03 jdg j4v Tryz.func257 (j9 jgP trivial) trivial
def j4O:Con:=⟨255,[.v ty73,.clo 256 [],.clo 257 [.p [ty66,ty56,ty29,ty78]]],[ty73,ty66,ty56,ty29,ty78],⟨[.v iT],[]⟩,[iT],Pw.unc5 Pw.j1U⟩
def jdX:FnD where
 N:=34
 np:=3
 cs:=[j4e,j4u,j4v]
 ds:=[⟨0,[.s (.one (.clo 256 [])),.s (.one (.clo 257 [.p [ty66,ty56,ty29,ty78]])),.s (.one (.ol 1000000)),.s (.one (.d ty73)),sI,sI,.b (.lst 4294967523 (.pair .str .bool) false)],[ty66,ty56,ty29,ty78,ty73,iT,iT,(.list (.pair .str .bool))],[⟨.ret,[sI],[iT]⟩,⟨.exit 0,[],[]⟩],Pw.unc8 (Pw.j0E)⟩]
 modes:=[(168,[false,true]),(256,[false]),(257,[false])]
 keep:=[(0,⟨[1,2,7,13,14,15],[],[⟨1000000,4294967523,(.pair .str .bool),[.slot 7],false⟩],[]⟩)]
 keepX:=[(0,.ret,⟨[6],[],[],[]⟩),
  (0,.exit 0,⟨[],[],[],[]⟩)]
 ro:=[false]
theorem jdh:Con.OK Tryz.prog j4O:=
 cOf j0c j03 jdX j4O Tryz.func255 (j9 j7v (j9 jcL (j9 jcM trivial))) (j9 (fun h=>by kernel_rfl) trivial)
def j7A:Con:=⟨259,[.v ty84,.v ty42],[ty84,ty42],⟨[.v iT],[]⟩,[iT],Pw.unc2 Pw.j2X⟩
def jiy:FnD where
 N:=83
 np:=2
 cs:=[j3z,j8u,j7z]
 ds:=[]
 modes:=[(250,[false,false]),(254,[false]),(322,[false,false,false])]
 ro:=[false]
theorem jhH:Con.OK Tryz.prog j7A:=
 cOf j0c j03 jiy j7A Tryz.func259 (j9 j6L (j9 jff (j9 jdW trivial))) trivial
def j5E:Con:=⟨177,[.v ty84,.v ty77],[ty84,ty77],⟨[.v iT],[]⟩,[iT],Pw.unc2 Pw.j1L⟩
def jfi:FnD where
 N:=40
 np:=2
 cs:=[j4O,j7A]
 ds:=[⟨0,[.s (.one (.bp 128 0)),.s (.one (.d ty44)),sI,sI,.b (.cell [.d ty66,.d ty56,.d ty29,.d ty78] true)],[ty44,iT,iT,ty66,ty56,ty29,ty78],[⟨.ret,[sI],[iT]⟩,⟨.exit 0,[],[]⟩],Pw.unc7 (Pw.j0L)⟩]
 modes:=[(255,[false,false,false]),(259,[false,false])]
 keep:=[(0,⟨[2,27,28,29],[128],[],[]⟩)]
 keepX:=[(0,.ret,⟨[4],[],[],[]⟩),
  (0,.exit 0,⟨[],[],[],[]⟩)]
 ro:=[false]
theorem jeC:Con.OK Tryz.prog j5E:=
 cOf j0c j03 jfi j5E Tryz.func177 (j9 jdh (j9 jhH trivial)) (j9 (fun h=>by kernel_rfl) trivial)
def j85:Con:=⟨176,[.v ty77,.ip [ty66,ty56,ty29,ty78]],[ty77,ty66,ty56,ty29,ty78],⟨[.v iT],[]⟩,[iT],Pw.unc5 Pw.j53⟩
def jjM:FnD where
 N:=7
 np:=2
 cs:=[j5E]
 ds:=[]
 modes:=[(177,[false,false])]
 ro:=[false]
theorem jiz:Con.OK Tryz.prog j85:=
 cOf j0c j03 jjM j85 Tryz.func176 (j9 jeC trivial) trivial
def j3Z:Con:=⟨174,[.v ty78,.clo 175 [],.clo 176 [.p [ty66,ty56,ty29,ty78]]],[ty78,ty66,ty56,ty29,ty78],⟨[.v iT],[]⟩,[iT],Pw.unc5 Pw.j1S⟩
def jbV:FnD where
 N:=34
 np:=3
 cs:=[j4e,j84,j85]
 ds:=[⟨0,[.s (.one (.clo 175 [])),.s (.one (.clo 176 [.p [ty66,ty56,ty29,ty78]])),.s (.one (.ol 1000000)),.s (.one (.d ty78)),sI,sI,.b (.lst 4294967523 (.pair .str .bool) false)],[ty66,ty56,ty29,ty78,ty78,iT,iT,(.list (.pair .str .bool))],[⟨.ret,[sI],[iT]⟩,⟨.exit 0,[],[]⟩],Pw.unc8 (Pw.j0u)⟩]
 modes:=[(168,[false,true]),(175,[false]),(176,[false])]
 keep:=[(0,⟨[1,2,7,13,14,15],[],[⟨1000000,4294967523,(.pair .str .bool),[.slot 7],false⟩],[]⟩)]
 keepX:=[(0,.ret,⟨[6],[],[],[]⟩),
  (0,.exit 0,⟨[],[],[],[]⟩)]
 ro:=[false]
theorem jbr:Con.OK Tryz.prog j3Z:=
 cOf j0c j03 jbV j3Z Tryz.func174 (j9 j7v (j9 jix (j9 jiz trivial))) (j9 (fun h=>by kernel_rfl) trivial)
def jak:Con:=⟨99,[.v ty84],[ty84],⟨[.v iT],[]⟩,[iT],fun h=>Pw.j5b h⟩
def jn8:FnD where
 N:=72
 np:=1
 cs:=[j4e,j4X,j6p,j3Y,j3Z]
 ds:=[⟨0,[.s (.one (.bp 64 0)),.s (.one (.ol 1000000)),.s (.one (.d ty56)),sI,sI,.b (.cell [.d ty66,.d ty56,.d ty29,.d ty78] false),.b (.lst 4294967523 (.pair .str .bool) false)],[ty56,iT,iT,ty66,ty56,ty29,ty78,(.list (.pair .str .bool))],[⟨.ret,[sI],[iT]⟩,⟨.exit 0,[.s (.one (.bp 64 0)),.b (.cell [.d ty66,.d ty56,.d ty29,.d ty78] false)],[ty66,ty56,ty29,ty78]⟩],Pw.unc8 (Pw.j1M)⟩]
 modes:=[(165,[false,false,false]),(168,[false,true]),(169,[false,false]),(170,[false,false,false]),(174,[false,false,false])]
 keep:=[(0,⟨[1,4,39,40,41],[64],[⟨1000000,4294967523,(.pair .str .bool),[.slot 4],false⟩],[]⟩)]
 keepX:=[(0,.ret,⟨[2],[],[],[]⟩),
  (0,.exit 0,⟨[1],[64],[],[]⟩)]
 ro:=[false]
theorem jlz:Con.OK Tryz.prog jak:=
 cOf j0c j03 jn8 jak Tryz.func99 (j9 j7v (j9 jdU (j9 jg7 (j9 jbp (j9 jbr trivial))))) (j9 (fun h=>by kernel_rfl) trivial)
def jiA:Con:=⟨139,[.v ty65],[ty65],⟨[.v ty28,.v iT],[]⟩,[ty28,iT],fun h=>Pw.jgA h⟩
def jxj:FnD where
 N:=16
 np:=1
 cs:=[j5O]
 ds:=[]
 modes:=[(208,[false])]
 ro:=[false,false]
theorem jvx:Con.OK Tryz.prog jiA:=
 cOf j0c j03 jxj jiA Tryz.func139 (j9 jcI trivial) trivial
def jcN:Con:=⟨234,[.v ty66],[ty66],⟨[.own 174 ty33],[]⟩,[ty33],fun h=>Pw.ja9 h⟩
def jpV:FnD where
 N:=25
 np:=1
 cs:=[jiA]
 ds:=[⟨0,[.s (.one (.ol 1000000)),.s (.one (.d ty66)),sI,sI,.b (.lst 174 ty28 false)],[ty66,iT,iT,ty33],[⟨.exit 0,[.s (.one (.ol 1500100)),.b (.lst 174 ty28 false)],[ty33]⟩],Pw.unc4 (Pw.j2j)⟩]
 modes:=[(139,[false])]
 keep:=[(0,⟨[3,8,9,10],[],[⟨1000000,174,ty28,[.slot 3],false⟩],[]⟩)]
 keepX:=[(0,.exit 0,⟨[3],[],[⟨1500100,174,ty28,[.slot 3],false⟩],[]⟩)]
 ro:=[true]
theorem jo0:Con.OK Tryz.prog jcN:=
 cOf j0c j03 jpV jcN Tryz.func234 (j9 jvx trivial) (j9 (fun h=>by kernel_rfl) trivial)
end Go.Proofs.Pk
