/- Contracts: each given function is its plain function, printed by a program. -/
import Derived.Test.YtaieocafhcjelaaGreatBCon1
noncomputable section
open Go Go.Lft
set_option linter.unusedVariables false
set_option maxRecDepth 100000
namespace Go.Proofs.Pk
def j46:Con:=⟨303,[.v (.list iT),.clo 253 []],[(.list iT)],⟨[.v iT],[]⟩,[iT],fun h=>Pw.j29 h⟩
def jbl:FnD where
 N:=19
 np:=2
 cs:=[j45]
 ds:=[⟨0,[.s (.one (.d (.list iT))),.s (.one (.clo 253 [])),sI,sI],[(.list iT),iT,iT],[⟨.ret,[sI],[iT]⟩,⟨.exit 0,[],[]⟩],Pw.unc3 (Pw.j0x)⟩]
 modes:=[(253,[false])]
 keep:=[(0,⟨[0,1,7,8],[],[],[]⟩)]
 keepX:=[(0,.ret,⟨[4],[],[],[]⟩),
  (0,.exit 0,⟨[],[],[],[]⟩)]
 ro:=[false]
theorem jaU:Con.OK Tryz.prog j46:=
 cOf j0n j04 jbl j46 Tryz.func303 (j9 jaT trivial) (j9 (fun h=>by kernel_rfl) trivial)
def j3q:Con:=⟨252,[.v (.list iT),.clo 253 []],[(.list iT)],⟨[.v .bool],[]⟩,[.bool],fun h=>Pw.j1B h⟩
def j9R:FnD where
 N:=9
 np:=2
 cs:=[j46]
 ds:=[]
 modes:=[(303,[false,false])]
 ro:=[false]
theorem j9C:Con.OK Tryz.prog j3q:=
 cOf j0n j04 j9R j3q Tryz.func252 (j9 jaU trivial) trivial
def j51:Con:=⟨173,[.v ty84,.v ty24],[ty84,ty24],⟨[.v iT],[]⟩,[iT],Pw.unc2 Pw.j1I⟩
def jd5:FnD where
 N:=46
 np:=2
 cs:=[j3p,j3q]
 ds:=[⟨1,[.s (.one (.bp 192 0)),sI,sI,.b (.cell [.d .str,.d iT,.d (.list iT)] false)],[iT,iT,.str,iT,(.list iT)],[⟨.ret,[sI],[iT]⟩,⟨.exit 1,[],[]⟩],Pw.unc5 (Pw.j1U)⟩]
 modes:=[(250,[false,false]),(252,[false,false])]
 keep:=[(1,⟨[3,25,26],[192],[],[]⟩)]
 keepX:=[(1,.ret,⟨[4],[],[],[]⟩),
  (1,.exit 1,⟨[],[],[],[]⟩)]
 ro:=[false]
theorem jcv:Con.OK Tryz.prog j51:=
 cOf j0n j04 jd5 j51 Tryz.func173 (j9 j5W (j9 j9C trivial)) (j9 (fun h=>by kernel_rfl) trivial)
def j73:Con:=⟨172,[.v ty24,.ip [ty66,ty56,ty29,ty78]],[ty24,ty66,ty56,ty29,ty78],⟨[.v iT],[]⟩,[iT],Pw.unc5 Pw.j4A⟩
def jgo:FnD where
 N:=7
 np:=2
 cs:=[j51]
 ds:=[]
 modes:=[(173,[false,false])]
 ro:=[false]
theorem jft:Con.OK Tryz.prog j73:=
 cOf j0n j04 jgo j73 Tryz.func172 (j9 jcv trivial) trivial
def j3F:Con:=⟨170,[.v ty29,.clo 171 [],.clo 172 [.p [ty66,ty56,ty29,ty78]]],[ty29,ty66,ty56,ty29,ty78],⟨[.v iT],[]⟩,[iT],Pw.unc5 Pw.j1e⟩
def jal:FnD where
 N:=34
 np:=3
 cs:=[j3S,j72,j73]
 ds:=[⟨0,[.s (.one (.clo 171 [])),.s (.one (.clo 172 [.p [ty66,ty56,ty29,ty78]])),.s (.one (.ol 1000000)),.s (.one (.d ty29)),sI,sI,.b (.lst 4294967523 (.pair .str .bool) false)],[ty66,ty56,ty29,ty78,ty29,iT,iT,(.list (.pair .str .bool))],[⟨.ret,[sI],[iT]⟩,⟨.exit 0,[],[]⟩],Pw.unc8 (Pw.j0r)⟩]
 modes:=[(168,[false,true]),(171,[false]),(172,[false])]
 keep:=[(0,⟨[1,2,7,13,14,15],[],[⟨1000000,4294967523,(.pair .str .bool),[.slot 7],false⟩],[]⟩)]
 keepX:=[(0,.ret,⟨[6],[],[],[]⟩),
  (0,.exit 0,⟨[],[],[],[]⟩)]
 ro:=[false]
theorem j9S:Con.OK Tryz.prog j3F:=
 cOf j0n j04 jal j3F Tryz.func170 (j9 j6x (j9 jfs (j9 jft trivial))) (j9 (fun h=>by kernel_rfl) trivial)
def j74:Con:=⟨175,[.v ty77],[ty77],⟨[.v .str],[]⟩,[.str],fun h=>Pw.j9N h⟩
def jgp:FnD where
 N:=5
 np:=1
 cs:=[]
 ds:=[]
 ro:=[false]
theorem jfu:Con.OK Tryz.prog j74:=
 cOf j0n j04 jgp j74 Tryz.func175 trivial trivial
def j47:Con:=⟨256,[.v ty72],[ty72],⟨[.v .str],[]⟩,[.str],fun h=>Pw.j5h h⟩
def jbm:FnD where
 N:=5
 np:=1
 cs:=[]
 ds:=[]
 ro:=[false]
theorem jaV:Con.OK Tryz.prog j47:=
 cOf j0n j04 jbm j47 Tryz.func256 trivial trivial
def j52:Con:=⟨324,[.v iT,.ip [ty66,ty56,ty29,ty78]],[iT,ty66,ty56,ty29,ty78],⟨[.v .bool],[]⟩,[.bool],Pw.unc5 Pw.j6r⟩
def jd6:FnD where
 N:=10
 np:=2
 cs:=[j3p]
 ds:=[]
 modes:=[(250,[false,false])]
 ro:=[false]
theorem jcw:Con.OK Tryz.prog j52:=
 cOf j0n j04 jd6 j52 Tryz.func324 (j9 j5W trivial) trivial
def j3r:Con:=⟨303,[.v (.list iT),.clo 324 [.p [ty66,ty56,ty29,ty78]]],[(.list iT),ty66,ty56,ty29,ty78],⟨[.v iT],[]⟩,[iT],Pw.unc5 Pw.j1C⟩
def j9T:FnD where
 N:=19
 np:=2
 cs:=[j52]
 ds:=[⟨0,[.s (.one (.d (.list iT))),.s (.one (.clo 324 [.p [ty66,ty56,ty29,ty78]])),sI,sI],[(.list iT),ty66,ty56,ty29,ty78,iT,iT],[⟨.ret,[sI],[iT]⟩,⟨.exit 0,[],[]⟩],Pw.unc7 (Pw.j10)⟩]
 modes:=[(324,[false])]
 keep:=[(0,⟨[0,1,7,8],[],[],[]⟩)]
 keepX:=[(0,.ret,⟨[4],[],[],[]⟩),
  (0,.exit 0,⟨[],[],[],[]⟩)]
 ro:=[false]
theorem j9D:Con.OK Tryz.prog j3r:=
 cOf j0n j04 j9T j3r Tryz.func303 (j9 jcw trivial) (j9 (fun h=>by kernel_rfl) trivial)
def j2X:Con:=⟨252,[.v (.list iT),.clo 324 [.p [ty66,ty56,ty29,ty78]]],[(.list iT),ty66,ty56,ty29,ty78],⟨[.v .bool],[]⟩,[.bool],Pw.unc5 Pw.j16⟩
def j8B:FnD where
 N:=9
 np:=2
 cs:=[j3r]
 ds:=[]
 modes:=[(303,[false,false])]
 ro:=[false]
theorem j8e:Con.OK Tryz.prog j2X:=
 cOf j0n j04 j8B j2X Tryz.func252 (j9 j9D trivial) trivial
def j64:Con:=⟨258,[.v ty84,.v ty72],[ty84,ty72],⟨[.v iT],[]⟩,[iT],Pw.unc2 Pw.j2x⟩
def jeI:FnD where
 N:=91
 np:=2
 cs:=[j3p,j9g,j7u,j6B,j2X]
 ds:=[]
 modes:=[(204,[false]),(250,[false,false]),(252,[false,false]),(254,[false]),(322,[false,false,false])]
 ro:=[false]
theorem je8:Con.OK Tryz.prog j64:=
 cOf j0n j04 jeI j64 Tryz.func258 (j9 j5W (j9 jgm (j9 jd4 (j9 jc0 (j9 j8e trivial))))) trivial
def j48:Con:=⟨257,[.v ty72,.ip [ty66,ty56,ty29,ty78]],[ty72,ty66,ty56,ty29,ty78],⟨[.v iT],[]⟩,[iT],Pw.unc5 Pw.j2b⟩
def jbn:FnD where
 N:=7
 np:=2
 cs:=[j64]
 ds:=[]
 modes:=[(258,[false,false])]
 ro:=[false]
theorem jaW:Con.OK Tryz.prog j48:=
 cOf j0n j04 jbn j48 Tryz.func257 (j9 je8 trivial) trivial
def j4p:Con:=⟨255,[.v ty73,.clo 256 [],.clo 257 [.p [ty66,ty56,ty29,ty78]]],[ty73,ty66,ty56,ty29,ty78],⟨[.v iT],[]⟩,[iT],Pw.unc5 Pw.j1R⟩
def jc1:FnD where
 N:=34
 np:=3
 cs:=[j3S,j47,j48]
 ds:=[⟨0,[.s (.one (.clo 256 [])),.s (.one (.clo 257 [.p [ty66,ty56,ty29,ty78]])),.s (.one (.ol 1000000)),.s (.one (.d ty73)),sI,sI,.b (.lst 4294967523 (.pair .str .bool) false)],[ty66,ty56,ty29,ty78,ty73,iT,iT,(.list (.pair .str .bool))],[⟨.ret,[sI],[iT]⟩,⟨.exit 0,[],[]⟩],Pw.unc8 (Pw.j0C)⟩]
 modes:=[(168,[false,true]),(256,[false]),(257,[false])]
 keep:=[(0,⟨[1,2,7,13,14,15],[],[⟨1000000,4294967523,(.pair .str .bool),[.slot 7],false⟩],[]⟩)]
 keepX:=[(0,.ret,⟨[6],[],[],[]⟩),
  (0,.exit 0,⟨[],[],[],[]⟩)]
 ro:=[false]
theorem jbo:Con.OK Tryz.prog j4p:=
 cOf j0n j04 jc1 j4p Tryz.func255 (j9 j6x (j9 jaV (j9 jaW trivial))) (j9 (fun h=>by kernel_rfl) trivial)
def j6C:Con:=⟨259,[.v ty84,.v ty42],[ty84,ty42],⟨[.v iT],[]⟩,[iT],Pw.unc2 Pw.j2S⟩
def jfv:FnD where
 N:=83
 np:=2
 cs:=[j3p,j7u,j6B]
 ds:=[]
 modes:=[(250,[false,false]),(254,[false]),(322,[false,false,false])]
 ro:=[false]
theorem jeJ:Con.OK Tryz.prog j6C:=
 cOf j0n j04 jfv j6C Tryz.func259 (j9 j5W (j9 jd4 (j9 jc0 trivial))) trivial
def j53:Con:=⟨177,[.v ty84,.v ty77],[ty84,ty77],⟨[.v iT],[]⟩,[iT],Pw.unc2 Pw.j1J⟩
def jd7:FnD where
 N:=40
 np:=2
 cs:=[j4p,j6C]
 ds:=[⟨0,[.s (.one (.bp 128 0)),.s (.one (.d ty44)),sI,sI,.b (.cell [.d ty66,.d ty56,.d ty29,.d ty78] true)],[ty44,iT,iT,ty66,ty56,ty29,ty78],[⟨.ret,[sI],[iT]⟩,⟨.exit 0,[],[]⟩],Pw.unc7 (Pw.j0J)⟩]
 modes:=[(255,[false,false,false]),(259,[false,false])]
 keep:=[(0,⟨[2,27,28,29],[128],[],[]⟩)]
 keepX:=[(0,.ret,⟨[4],[],[],[]⟩),
  (0,.exit 0,⟨[],[],[],[]⟩)]
 ro:=[false]
theorem jcx:Con.OK Tryz.prog j53:=
 cOf j0n j04 jd7 j53 Tryz.func177 (j9 jbo (j9 jeJ trivial)) (j9 (fun h=>by kernel_rfl) trivial)
def j75:Con:=⟨176,[.v ty77,.ip [ty66,ty56,ty29,ty78]],[ty77,ty66,ty56,ty29,ty78],⟨[.v iT],[]⟩,[iT],Pw.unc5 Pw.j4B⟩
def jgq:FnD where
 N:=7
 np:=2
 cs:=[j53]
 ds:=[]
 modes:=[(177,[false,false])]
 ro:=[false]
theorem jfw:Con.OK Tryz.prog j75:=
 cOf j0n j04 jgq j75 Tryz.func176 (j9 jcx trivial) trivial
def j3G:Con:=⟨174,[.v ty78,.clo 175 [],.clo 176 [.p [ty66,ty56,ty29,ty78]]],[ty78,ty66,ty56,ty29,ty78],⟨[.v iT],[]⟩,[iT],Pw.unc5 Pw.j1P⟩
def jam:FnD where
 N:=34
 np:=3
 cs:=[j3S,j74,j75]
 ds:=[⟨0,[.s (.one (.clo 175 [])),.s (.one (.clo 176 [.p [ty66,ty56,ty29,ty78]])),.s (.one (.ol 1000000)),.s (.one (.d ty78)),sI,sI,.b (.lst 4294967523 (.pair .str .bool) false)],[ty66,ty56,ty29,ty78,ty78,iT,iT,(.list (.pair .str .bool))],[⟨.ret,[sI],[iT]⟩,⟨.exit 0,[],[]⟩],Pw.unc8 (Pw.j0s)⟩]
 modes:=[(168,[false,true]),(175,[false]),(176,[false])]
 keep:=[(0,⟨[1,2,7,13,14,15],[],[⟨1000000,4294967523,(.pair .str .bool),[.slot 7],false⟩],[]⟩)]
 keepX:=[(0,.ret,⟨[6],[],[],[]⟩),
  (0,.exit 0,⟨[],[],[],[]⟩)]
 ro:=[false]
theorem j9U:Con.OK Tryz.prog j3G:=
 cOf j0n j04 jam j3G Tryz.func174 (j9 j6x (j9 jfu (j9 jfw trivial))) (j9 (fun h=>by kernel_rfl) trivial)
def j94:Con:=⟨99,[.v ty84],[ty84],⟨[.v iT],[]⟩,[iT],fun h=>Pw.j4H h⟩
def jjr:FnD where
 N:=72
 np:=1
 cs:=[j3S,j4w,j5L,j3F,j3G]
 ds:=[⟨0,[.s (.one (.bp 64 0)),.s (.one (.ol 1000000)),.s (.one (.d ty56)),sI,sI,.b (.cell [.d ty66,.d ty56,.d ty29,.d ty78] false),.b (.lst 4294967523 (.pair .str .bool) false)],[ty56,iT,iT,ty66,ty56,ty29,ty78,(.list (.pair .str .bool))],[⟨.ret,[sI],[iT]⟩,⟨.exit 0,[.s (.one (.bp 64 0)),.b (.cell [.d ty66,.d ty56,.d ty29,.d ty78] false)],[ty66,ty56,ty29,ty78]⟩],Pw.unc8 (Pw.j1K)⟩]
 modes:=[(165,[false,false,false]),(168,[false,true]),(169,[false,false]),(170,[false,false,false]),(174,[false,false,false])]
 keep:=[(0,⟨[1,4,39,40,41],[64],[⟨1000000,4294967523,(.pair .str .bool),[.slot 4],false⟩],[]⟩)]
 keepX:=[(0,.ret,⟨[2],[],[],[]⟩),
  (0,.exit 0,⟨[1],[64],[],[]⟩)]
 ro:=[false]
theorem jhX:Con.OK Tryz.prog j94:=
 cOf j0n j04 jjr j94 Tryz.func99 (j9 j6x (j9 jbY (j9 jdB (j9 j9S (j9 j9U trivial))))) (j9 (fun h=>by kernel_rfl) trivial)
def jfx:Con:=⟨139,[.v ty65],[ty65],⟨[.v ty28,.v iT],[]⟩,[ty28,iT],fun h=>Pw.je4 h⟩
def js5:FnD where
 N:=16
 np:=1
 cs:=[j5d]
 ds:=[]
 modes:=[(208,[false])]
 ro:=[false,false]
theorem jqA:Con.OK Tryz.prog jfx:=
 cOf j0n j04 js5 jfx Tryz.func139 (j9 jaS trivial) trivial
def jaX:Con:=⟨234,[.v ty66],[ty66],⟨[.own 174 ty33],[]⟩,[ty33],fun h=>Pw.j8V h⟩
def jlZ:FnD where
 N:=25
 np:=1
 cs:=[jfx]
 ds:=[⟨0,[.s (.one (.ol 1000000)),.s (.one (.d ty66)),sI,sI,.b (.lst 174 ty28 false)],[ty66,iT,iT,ty33],[⟨.exit 0,[.s (.one (.ol 1500100)),.b (.lst 174 ty28 false)],[ty33]⟩],Pw.unc4 (Pw.j2f)⟩]
 modes:=[(139,[false])]
 keep:=[(0,⟨[3,8,9,10],[],[⟨1000000,174,ty28,[.slot 3],false⟩],[]⟩)]
 keepX:=[(0,.exit 0,⟨[3],[],[⟨1500100,174,ty28,[.slot 3],false⟩],[]⟩)]
 ro:=[true]
theorem jka:Con.OK Tryz.prog jaX:=
 cOf j0n j04 jlZ jaX Tryz.func234 (j9 jqA trivial) (j9 (fun h=>by kernel_rfl) trivial)
end Go.Proofs.Pk
