/- Contracts: each given function is its plain function, printed by a program. -/
import Derived.Test.YtpbnnhakjhalaaaGreatELCon5
noncomputable section
open Go Go.Lft
set_option linter.unusedVariables false
set_option maxRecDepth 100000
namespace Go.Proofs.Pk
def j8K:Con:=⟨70,[.v ty65,.v ty65],[ty65,ty65],⟨[.v .bool],[]⟩,[.bool],Pw.unc2 Pw.j89⟩
def ji1:FnD where
 N:=45
 np:=2
 cs:=[]
 ds:=[⟨0,[.s (.one (.bp 128 0)),.s (.one (.bp 192 0)),sI,.b (.cell [.d .str,.d iT,.d ty58] false),.b (.cell [.d .str,.d iT,.d ty58] false)],[iT,.str,iT,ty58,.str,iT,ty58],[⟨.ret,[.s (.one (.d .bool))],[.bool]⟩,⟨.exit 0,[],[]⟩],Pw.unc7 (Pw.j3b)⟩]
 keep:=[(0,⟨[2,3,5],[128,192],[],[]⟩)]
 keepX:=[(0,.ret,⟨[4],[],[],[]⟩),
  (0,.exit 0,⟨[],[],[],[]⟩)]
 ro:=[false]
theorem jho:Con.OK Tryz.prog j8K:=
 cOf j0n j04 ji1 j8K Tryz.func70 trivial (j9 (fun h=>by kernel_rfl) trivial)
def j4J:Con:=⟨71,[.v ty13,.v ty13],[ty13,ty13],⟨[.v .bool],[]⟩,[.bool],Pw.unc2 Pw.j5y⟩
def jfm:FnD where
 N:=26
 np:=2
 cs:=[]
 ds:=[⟨0,[.s (.one (.d ty13)),.s (.one (.d ty13)),sI],[ty13,ty13,iT],[⟨.ret,[.s (.one (.d .bool))],[.bool]⟩,⟨.exit 0,[],[]⟩],Pw.unc3 (Pw.j2x)⟩]
 keep:=[(0,⟨[0,1,5],[],[],[]⟩)]
 keepX:=[(0,.ret,⟨[4],[],[],[]⟩),
  (0,.exit 0,⟨[],[],[],[]⟩)]
 ro:=[false]
theorem ja8:Con.OK Tryz.prog j4J:=
 cOf j0n j04 jfm j4J Tryz.func71 trivial (j9 (fun h=>by kernel_rfl) trivial)
def j6w:Con:=⟨72,[.v (.list iT),.v (.list iT)],[(.list iT),(.list iT)],⟨[.v .bool],[]⟩,[.bool],Pw.unc2 Pw.j8b⟩
def ji2:FnD where
 N:=26
 np:=2
 cs:=[]
 ds:=[⟨0,[.s (.one (.d (.list iT))),.s (.one (.d (.list iT))),sI],[(.list iT),(.list iT),iT],[⟨.ret,[.s (.one (.d .bool))],[.bool]⟩,⟨.exit 0,[],[]⟩],Pw.unc3 (Pw.j3c)⟩]
 keep:=[(0,⟨[0,1,5],[],[],[]⟩)]
 keepX:=[(0,.ret,⟨[4],[],[],[]⟩),
  (0,.exit 0,⟨[],[],[],[]⟩)]
 ro:=[false]
theorem jcu:Con.OK Tryz.prog j6w:=
 cOf j0n j04 ji2 j6w Tryz.func72 trivial (j9 (fun h=>by kernel_rfl) trivial)
def j7S:Con:=⟨148,[.v ty72,.v ty72],[ty72,ty72],⟨[.v .bool],[]⟩,[.bool],Pw.unc2 Pw.j70⟩
def jhp:FnD where
 N:=66
 np:=2
 cs:=[j4J,j6w]
 ds:=[]
 modes:=[(71,[false,false]),(72,[false,false])]
 ro:=[false]
theorem jfY:Con.OK Tryz.prog j7S:=
 cOf j0n j04 jhp j7S Tryz.func148 (j9 ja8 (j9 jcu trivial)) trivial
def j6k:Con:=⟨73,[.v ty77,.v ty77],[ty77,ty77],⟨[.v .bool],[]⟩,[.bool],Pw.unc2 Pw.j3K⟩
def jeV:FnD where
 N:=67
 np:=2
 cs:=[j7S]
 ds:=[⟨0,[.s (.one (.bp 128 0)),.s (.one (.bp 192 0)),sI,.b (.cell [.d .str,.d ty73,.d ty44] false),.b (.cell [.d .str,.d ty73,.d ty44] false)],[iT,.str,ty73,ty44,.str,ty73,ty44],[⟨.ret,[.s (.one (.d .bool))],[.bool]⟩,⟨.exit 0,[.s (.one (.bp 128 0)),.s (.one (.bp 192 0)),.b (.cell [.d .str,.d ty73,.d ty44] false),.b (.cell [.d .str,.d ty73,.d ty44] false)],[.str,ty73,ty44,.str,ty73,ty44]⟩],Pw.unc7 (Pw.j2l)⟩,
  ⟨2,[.s (.one (.bp 128 0)),.s (.one (.bp 192 0)),sI,.b (.cell [.d .str,.d ty73,.d ty44] false),.b (.cell [.d .str,.d ty73,.d ty44] false)],[iT,.str,ty73,ty44,.str,ty73,ty44],[⟨.ret,[.s (.one (.d .bool))],[.bool]⟩,⟨.exit 2,[],[]⟩],Pw.unc7 (Pw.j2m)⟩]
 modes:=[(148,[false,false])]
 keep:=[(0,⟨[2,3,5],[128,192],[],[]⟩),
  (2,⟨[2,3,6],[128,192],[],[]⟩)]
 keepX:=[(0,.ret,⟨[4],[],[],[]⟩),
  (0,.exit 0,⟨[2,3],[128,192],[],[]⟩),
  (2,.ret,⟨[4],[],[],[]⟩),
  (2,.exit 2,⟨[],[],[],[]⟩)]
 ro:=[false]
theorem jdU:Con.OK Tryz.prog j6k:=
 cOf j0n j04 jeV j6k Tryz.func73 (j9 jfY trivial) (j9 (fun h=>by kernel_rfl) (j9 (fun h=>by kernel_rfl) trivial))
def jcv:Con:=⟨22,[.v ty84,.v ty84],[ty84,ty84],⟨[.v .bool],[]⟩,[.bool],Pw.unc2 Pw.jew⟩
def jnT:FnD where
 N:=180
 np:=2
 cs:=[j8K,j4J,j6w,j6k]
 ds:=[⟨0,[.s (.one (.bp 128 0)),.s (.one (.bp 192 0)),sI,.b (.cell [.d ty66,.d ty56,.d ty29,.d ty78] false),.b (.cell [.d ty66,.d ty56,.d ty29,.d ty78] false)],[iT,ty66,ty56,ty29,ty78,ty66,ty56,ty29,ty78],[⟨.ret,[.s (.one (.d .bool))],[.bool]⟩,⟨.exit 0,[.s (.one (.bp 128 0)),.s (.one (.bp 192 0)),.b (.cell [.d ty66,.d ty56,.d ty29,.d ty78] false),.b (.cell [.d ty66,.d ty56,.d ty29,.d ty78] false)],[ty66,ty56,ty29,ty78,ty66,ty56,ty29,ty78]⟩],Pw.unc9 (Pw.j4P)⟩,
  ⟨2,[.s (.one (.bp 128 0)),.s (.one (.bp 192 0)),sI,.b (.cell [.d ty66,.d ty56,.d ty29,.d ty78] false),.b (.cell [.d ty66,.d ty56,.d ty29,.d ty78] false)],[iT,ty66,ty56,ty29,ty78,ty66,ty56,ty29,ty78],[⟨.ret,[.s (.one (.d .bool))],[.bool]⟩,⟨.exit 2,[.s (.one (.bp 128 0)),.s (.one (.bp 192 0)),.b (.cell [.d ty66,.d ty56,.d ty29,.d ty78] false),.b (.cell [.d ty66,.d ty56,.d ty29,.d ty78] false)],[ty66,ty56,ty29,ty78,ty66,ty56,ty29,ty78]⟩],Pw.unc9 (Pw.j4Q)⟩,
  ⟨4,[.s (.one (.bp 128 0)),.s (.one (.bp 192 0)),sI,.b (.cell [.d ty66,.d ty56,.d ty29,.d ty78] false),.b (.cell [.d ty66,.d ty56,.d ty29,.d ty78] false)],[iT,ty66,ty56,ty29,ty78,ty66,ty56,ty29,ty78],[⟨.ret,[.s (.one (.d .bool))],[.bool]⟩,⟨.exit 4,[.s (.one (.bp 128 0)),.s (.one (.bp 192 0)),.b (.cell [.d ty66,.d ty56,.d ty29,.d ty78] false),.b (.cell [.d ty66,.d ty56,.d ty29,.d ty78] false)],[ty66,ty56,ty29,ty78,ty66,ty56,ty29,ty78]⟩],Pw.unc9 (Pw.j4R)⟩,
  ⟨6,[.s (.one (.bp 128 0)),.s (.one (.bp 192 0)),sI,.b (.cell [.d ty66,.d ty56,.d ty29,.d ty78] false),.b (.cell [.d ty66,.d ty56,.d ty29,.d ty78] false)],[iT,ty66,ty56,ty29,ty78,ty66,ty56,ty29,ty78],[⟨.ret,[.s (.one (.d .bool))],[.bool]⟩,⟨.exit 6,[],[]⟩],Pw.unc9 (Pw.j4S)⟩]
 modes:=[(70,[false,false]),(71,[false,false]),(72,[false,false]),(73,[false,false])]
 keep:=[(0,⟨[2,3,5],[128,192],[],[]⟩),
  (2,⟨[2,3,6],[128,192],[],[]⟩),
  (4,⟨[2,3,9],[128,192],[],[]⟩),
  (6,⟨[2,3,12],[128,192],[],[]⟩)]
 keepX:=[(0,.ret,⟨[4],[],[],[]⟩),
  (0,.exit 0,⟨[2,3],[128,192],[],[]⟩),
  (2,.ret,⟨[4],[],[],[]⟩),
  (2,.exit 2,⟨[2,3],[128,192],[],[]⟩),
  (4,.ret,⟨[4],[],[],[]⟩),
  (4,.exit 4,⟨[2,3],[128,192],[],[]⟩),
  (6,.ret,⟨[4],[],[],[]⟩),
  (6,.exit 6,⟨[],[],[],[]⟩)]
 ro:=[false]
 dw:=[(11,[[],[],[],[],[],[],[],[],[],[],[448],[512],[448],[512]]),(17,[[],[],[],[],[],[],[],[],[],[],[640],[704],[640],[704]])]
theorem jmc:Con.OK Tryz.prog jcv:=
 cOf j0n j04 jnT jcv Tryz.func22 (j9 jho (j9 ja8 (j9 jcu (j9 jdU trivial)))) (j9 (fun h=>by kernel_rfl) (j9 (fun h=>by kernel_rfl) (j9 (fun h=>by kernel_rfl) (j9 (fun h=>by kernel_rfl) trivial))))
def j9A:Con:=⟨4,[.v (.list iT)],[(.list iT)],⟨[.v .bool],[]⟩,[.bool],fun h=>Pw.j9k h⟩
def jfn:FnD where
 N:=158
 np:=1
 cs:=[jac,j7V,j79,ja7,jao,jbv,j3X,j5c,j6j,jcv]
 ds:=[⟨0,[.s (.one (.bp 256 0)),.s (.one (.bp 320 0)),.s (.one (.bp 384 0)),.s (.av 8 iT),sI,.b (.cell [.d ty66,.d ty56,.d ty29,.d ty78] false),.b (.cell [.d iT,.d iT,.d iT,.d iT,.d iT] false),.b (.cell [.d ty66,.d ty56,.d ty29,.d ty78] false)],[(.list iT),iT,ty66,ty56,ty29,ty78,iT,iT,iT,iT,iT,ty66,ty56,ty29,ty78],[⟨.ret,[.s (.one (.d .bool))],[.bool]⟩,⟨.exit 0,[],[]⟩],Pw.jsW (Pw.j2y)⟩]
 modes:=[(15,[false]),(16,[]),(17,[false]),(19,[false,false]),(21,[false,false,false]),(22,[false,false]),(23,[false,false]),(24,[false,false,false]),(25,[false]),(26,[false,false,false])]
 keep:=[(0,⟨[4,5,6,77,78],[256,320,384],[],[]⟩)]
 keepX:=[(0,.ret,⟨[2],[],[],[]⟩),
  (0,.exit 0,⟨[],[],[],[]⟩)]
 ro:=[false]
 dw:=[(9,[[],[],[],[],[],[],[],[],[],[],[],[],[512],[512],[]]),(12,[[],[],[],[],[],[],[],[],[],[],[],[1216],[],[1216],[],[1216],[],[1216],[],[]])]
theorem law13_EditLocal_ok:Con.OK Tryz.prog j9A:=
 cOf j0n j04 jfn j9A Tryz.func4 (j9 jjo (j9 jeJ (j9 jde (j9 jhn (j9 jjI (j9 jl7 (j9 j8T (j9 jaQ (j9 jdT (j9 jmc trivial)))))))))) (j9 (fun h=>by kernel_rfl) trivial)
def jcR:Con:=⟨191,[.v iT,.v iT,.v iT],[iT,iT,iT],⟨[.v .bool],[]⟩,[.bool],Pw.unc3 Pw.jaL⟩
def jqO:FnD where
 N:=15
 np:=3
 cs:=[]
 ds:=[]
 ro:=[false]
theorem jl9:Con.OK Tryz.prog jcR:=
 cOf j0n j04 jqO jcR Tryz.func191 trivial trivial
def jbw:Con:=⟨192,[.v ty55],[ty55],⟨[.v .bool],[]⟩,[.bool],fun h=>Pw.jco h⟩
def jmd:FnD where
 N:=38
 np:=1
 cs:=[jcR]
 ds:=[]
 modes:=[(191,[false,false,false])]
 ro:=[false]
theorem jla:Con.OK Tryz.prog jbw:=
 cOf j0n j04 jmd jbw Tryz.func192 (j9 jl9 trivial) trivial
def jcw:Con:=⟨390,[.v iT],[iT],⟨[.v .bool],[]⟩,[.bool],fun h=>Pw.j1t h⟩
def jnU:FnD where
 N:=16
 np:=1
 cs:=[]
 ds:=[]
 ro:=[false]
theorem jme:Con.OK Tryz.prog jcw:=
 cOf j0n j04 jnU jcw Tryz.func390 trivial trivial
def j8l:Con:=⟨338,[.v iT,.v iT],[iT,iT],⟨[.v iT],[]⟩,[iT],Pw.unc2 Pw.jbj⟩
def jnV:FnD where
 N:=23
 np:=2
 cs:=[jcw]
 ds:=[]
 modes:=[(390,[false])]
 ro:=[false]
theorem jdV:Con.OK Tryz.prog j8l:=
 cOf j0n j04 jnV j8l Tryz.func338 (j9 jme trivial) trivial
def jbx:Con:=⟨389,[.v ty21],[ty21],⟨[.v .bool],[]⟩,[.bool],fun h=>Pw.jex h⟩
def jmf:FnD where
 N:=36
 np:=1
 cs:=[j8l]
 ds:=[]
 modes:=[(338,[false,false])]
 ro:=[false]
theorem jlb:Con.OK Tryz.prog jbx:=
 cOf j0n j04 jmf jbx Tryz.func389 (j9 jdV trivial) trivial
def jcx:Con:=⟨335,[.v iT],[iT],⟨[.v iT],[]⟩,[iT],fun h=>Pw.jgi h⟩
def jnW:FnD where
 N:=18
 np:=1
 cs:=[]
 ds:=[]
 ro:=[false]
theorem jmg:Con.OK Tryz.prog jcx:=
 cOf j0n j04 jnW jcx Tryz.func335 trivial trivial
def jdW:Con:=⟨337,[.v ty21],[ty21],⟨[.v iT,.v iT],[]⟩,[iT,iT],fun h=>Pw.jjm h⟩
def jpv:FnD where
 N:=29
 np:=1
 cs:=[j8l,jbx,jcx]
 ds:=[⟨0,[.s (.one (.bp 64 0)),sI,sI,.b (.cell [.d iT,.d iT,.d iT] false)],[iT,iT,iT,iT,iT],[⟨.exit 0,[.s (.one (.bp 64 0)),sI,.b (.cell [.d iT,.d iT,.d iT] false)],[iT,iT,iT,iT]⟩],Pw.unc5 (Pw.j5A)⟩]
 modes:=[(335,[false]),(338,[false,false]),(389,[false])]
 keep:=[(0,⟨[1,4,5],[64],[],[]⟩)]
 keepX:=[(0,.exit 0,⟨[1,4],[64],[],[]⟩)]
 ro:=[false,false]
theorem r01_Day_ok:Con.OK Tryz.prog jdW:=
 cOf j0n j04 jpv jdW Tryz.func337 (j9 jdV (j9 jlb (j9 jmg trivial))) (j9 (fun h=>by kernel_rfl) trivial)
def j9B:Con:=⟨287,[.v iT],[iT],⟨[.v iT],[]⟩,[iT],fun h=>Pw.jdz h⟩
def jjJ:FnD where
 N:=7
 np:=1
 cs:=[]
 ds:=[]
 ro:=[false]
theorem ji3:Con.OK Tryz.prog j9B:=
 cOf j0n j04 jjJ j9B Tryz.func287 trivial trivial
def jdX:Con:=⟨286,[.v iT,.v iT,.v iT,.v iT],[iT,iT,iT,iT],⟨[.v iT,.v iT],[]⟩,[iT,iT],Pw.unc4 Pw.jjn⟩
def jpw:FnD where
 N:=63
 np:=4
 cs:=[j8l,jdW,j9B]
 ds:=[⟨0,[sI,sI,sI,sI,sI,sI],[iT,iT,iT,iT,iT,iT],[⟨.exit 0,[sI,sI,sI,sI,sI],[iT,iT,iT,iT,iT]⟩],Pw.unc6 (Pw.j5B)⟩,
  ⟨2,[sI,sI,sI,sI],[iT,iT,iT,iT],[⟨.exit 2,[sI],[iT]⟩],Pw.unc4 (Pw.j5C)⟩]
 modes:=[(287,[false]),(337,[false]),(338,[false,false])]
 keep:=[(0,⟨[0,1,2,3,10,12],[],[],[]⟩),
  (2,⟨[0,1,10,12],[],[],[]⟩)]
 keepX:=[(0,.exit 0,⟨[0,1,2,10,12],[],[],[]⟩),
  (2,.exit 2,⟨[12],[],[],[]⟩)]
 ro:=[false,false]
theorem r01_Nth_ok:Con.OK Tryz.prog jdX:=
 cOf j0n j04 jpw jdX Tryz.func286 (j9 jdV (j9 r01_Day_ok (j9 ji3 trivial))) (j9 (fun h=>by kernel_rfl) (j9 (fun h=>by kernel_rfl) trivial))
def j6D:Con:=⟨193,[.v ty58],[ty58],⟨[.own 258 ty13],[]⟩,[ty13],fun h=>Pw.j71 h⟩
def jfo:FnD where
 N:=98
 np:=1
 cs:=[jdX]
 ds:=[⟨0,[.s (.one (.d ty58)),.s (.one (.ol 1000000)),sI,.b (.lst 258 ty8 false)],[ty58,iT,ty13],[⟨.exit 0,[.s (.one (.ol 1500100)),.b (.lst 258 ty8 false)],[ty13]⟩],Pw.unc3 (Pw.j2B)⟩,
  ⟨2,[.s (.one (.d ty58)),.s (.one (.ol 1002000)),sI,sI,.b (.lst 258 ty8 false)],[ty58,iT,iT,ty13],[⟨.exit 2,[.s (.one (.d ty58)),.s (.one (.ol 1502300)),sI,.b (.lst 258 ty8 false)],[ty58,iT,ty13]⟩],Pw.unc4 (Pw.j2A)⟩,
  ⟨4,[.s (.one (.d ty58)),.s (.one (.ol 1004000)),sI,sI,.s (.one (.bp 512 0)),sI,.b (.cell [.d iT,.d iT] false),.b (.lst 258 ty8 false)],[ty58,iT,iT,iT,iT,iT,ty13],[⟨.exit 4,[.s (.one (.d ty58)),.s (.one (.ol 1504500)),sI,sI,.s (.one (.bp 512 0)),sI,.b (.cell [.d iT,.d iT] false),.b (.lst 258 ty8 false)],[ty58,iT,iT,iT,iT,iT,ty13]⟩],Pw.unc7 (Pw.j2z)⟩]
 modes:=[(286,[false,false,false,false])]
 keep:=[(0,⟨[0,3,4],[],[⟨1000000,258,ty8,[.slot 3],false⟩],[]⟩),
  (2,⟨[0,3,4,5],[],[⟨1002000,258,ty8,[.slot 3],false⟩],[]⟩),
  (4,⟨[0,3,4,5,8,9],[512],[⟨1004000,258,ty8,[.slot 3],false⟩],[]⟩)]
 keepX:=[(0,.exit 0,⟨[3],[],[⟨1500100,258,ty8,[.slot 3],false⟩],[]⟩),
  (2,.exit 2,⟨[0,3,4],[],[⟨1502300,258,ty8,[.slot 3],false⟩],[]⟩),
  (4,.exit 4,⟨[0,3,4,5,8,9],[512],[⟨1504500,258,ty8,[.slot 3],false⟩],[]⟩)]
 ro:=[true]
 dw:=[(9,[[],[],[],[],[],[],[],[],[],[],[],[],[],[],[512],[512]]),(14,[[],[],[],[],[],[],[],[5376]])]
theorem jeW:Con.OK Tryz.prog j6D:=
 cOf j0n j04 jfo j6D Tryz.func193 (j9 r01_Nth_ok trivial) (j9 (fun h=>by kernel_rfl) (j9 (fun h=>by kernel_rfl) (j9 (fun h=>by kernel_rfl) trivial)))
def j9C:Con:=⟨107,[.v ty65],[ty65],⟨[.own 167 ty13,.v iT],[]⟩,[ty13,iT],fun h=>Pw.j72 h⟩
def jfp:FnD where
 N:=119
 np:=1
 cs:=[jcR,jbw,j6D]
 ds:=[⟨0,[.s (.one (.bp 64 0)),sI,sI,.b (.cell [.d .str,.d iT,.d ty58] false)],[iT,iT,.str,iT,ty58],[⟨.ret,[.s (.one (.nil)),sI],[iT]⟩,⟨.exit 0,[.s (.one (.bp 64 0)),sI,.b (.cell [.d .str,.d iT,.d ty58] false)],[iT,.str,iT,ty58]⟩],Pw.unc5 (Pw.j2C)⟩,
  ⟨2,[.s (.one (.ol 1002000)),.s (.one (.ol 1002001)),sI,sI,.b (.lst 167 ty8 false),.b (.lst 258 ty8 false)],[iT,iT,ty13,ty13],[⟨.ret,[.s (.one (.nil)),sI],[iT]⟩,⟨.exit 2,[.s (.one (.ol 1502300)),.b (.lst 167 ty8 false)],[ty13]⟩],Pw.unc4 (Pw.j2D)⟩]
 modes:=[(191,[false,false,false]),(192,[false]),(193,[false])]
 keep:=[(0,⟨[1,4,5],[64],[],[]⟩),
  (2,⟨[6,7,8,9],[],[⟨1002000,167,ty8,[.slot 6],false⟩,⟨1002001,258,ty8,[.slot 7],false⟩],[]⟩)]
 keepX:=[(0,.ret,⟨[2,3],[],[],[]⟩),
  (0,.exit 0,⟨[1,4],[64],[],[]⟩),
  (2,.ret,⟨[2,3],[],[],[]⟩),
  (2,.exit 2,⟨[6],[],[⟨1502300,167,ty8,[.slot 6],false⟩],[]⟩)]
 ro:=[true,false]
 dw:=[(21,[[],[],[],[],[],[],[],[],[],[],[],[],[],[640],[640]]),(24,[[],[],[7296],[7360,1002000],[],[],[],[]])]
theorem jmZ:Con.OK Tryz.prog j9C:=
 cOf j0n j04 jfp j9C Tryz.func107 (j9 jl9 (j9 jla (j9 jeW trivial))) (j9 (fun h=>by kernel_rfl) (j9 (fun h=>by kernel_rfl) trivial))
end Go.Proofs.Pk
