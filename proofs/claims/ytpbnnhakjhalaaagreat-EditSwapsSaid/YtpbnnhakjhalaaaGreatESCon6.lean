/- Contracts: each given function is its plain function, printed by a program. -/
import Derived.Test.YtpbnnhakjhalaaaGreatESCon5
noncomputable section
open Go Go.Lft
set_option linter.unusedVariables false
set_option maxRecDepth 100000
namespace Go.Proofs.Pk
def j96:Con:=⟨5,[.v (.list iT)],[(.list iT)],⟨[.v .bool],[]⟩,[.bool],fun h=>Pw.j8P h⟩
def jeD:FnD where
 N:=107
 np:=1
 cs:=[j9F,j7v,j9B,j9R,jaV,j0O,j3L,j5V]
 ds:=[⟨0,[.s (.one (.bp 1408 0)),.s (.one (.bp 256 0)),.s (.one (.bp 576 0)),.s (.one (.bp 704 0)),.s (.one (.bp 832 0)),sI,.b (.cell [.d ty66,.d ty56,.d ty29,.d ty78] false),.b (.cell [.d ty66,.d ty56,.d ty29,.d ty78] false),.b (.cell [.d ty66,.d ty56,.d ty29,.d ty78] false),.b (.cell [.d ty66,.d ty56,.d ty29,.d ty78] false),.b (.cell [.d (.list iT),.d iT] false)],[iT,ty66,ty56,ty29,ty78,ty66,ty56,ty29,ty78,ty66,ty56,ty29,ty78,ty66,ty56,ty29,ty78,(.list iT),iT],[⟨.ret,[.s (.one (.d .bool))],[.bool]⟩,⟨.exit 0,[],[]⟩],Pw.jrS (Pw.j2s)⟩]
 modes:=[(15,[false]),(16,[]),(17,[false]),(19,[false,false]),(24,[false,false,false]),(25,[false]),(26,[false,false,false]),(27,[false,false])]
 keep:=[(0,⟨[3,4,9,11,13,15],[256,576,704,832,1408],[],[]⟩)]
 keepX:=[(0,.ret,⟨[2],[],[],[]⟩),
  (0,.exit 0,⟨[],[],[],[]⟩)]
 ro:=[false]
 dw:=[(8,[[],[],[],[],[],[],[],[1408],[],[],[],[],[],[]])]
theorem law13_EditSwaps_ok:Con.OK Tryz.prog j96:=
 cOf j0r j04 jeD j96 Tryz.func5 (j9 jiD (j9 je0 (j9 jgD (j9 jiX (j9 jkn (j9 j1y (j9 j8p (j9 jdc trivial)))))))) (j9 (fun h=>by kernel_rfl) trivial)
def jcf:Con:=⟨191,[.v iT,.v iT,.v iT],[iT,iT,iT],⟨[.v .bool],[]⟩,[.bool],Pw.unc3 Pw.jae⟩
def jpT:FnD where
 N:=15
 np:=3
 cs:=[]
 ds:=[]
 ro:=[false]
theorem jkp:Con.OK Tryz.prog jcf:=
 cOf j0r j04 jpT jcf Tryz.func191 trivial trivial
def jaW:Con:=⟨192,[.v ty55],[ty55],⟨[.v .bool],[]⟩,[.bool],fun h=>Pw.jbO h⟩
def jlr:FnD where
 N:=38
 np:=1
 cs:=[jcf]
 ds:=[]
 modes:=[(191,[false,false,false])]
 ro:=[false]
theorem jkq:Con.OK Tryz.prog jaW:=
 cOf j0r j04 jlr jaW Tryz.func192 (j9 jkp trivial) trivial
def jbU:Con:=⟨390,[.v iT],[iT],⟨[.v .bool],[]⟩,[.bool],fun h=>Pw.j1t h⟩
def jn5:FnD where
 N:=16
 np:=1
 cs:=[]
 ds:=[]
 ro:=[false]
theorem jls:Con.OK Tryz.prog jbU:=
 cOf j0r j04 jn5 jbU Tryz.func390 trivial trivial
def j7S:Con:=⟨338,[.v iT,.v iT],[iT,iT],⟨[.v iT],[]⟩,[iT],Pw.unc2 Pw.jaJ⟩
def jn6:FnD where
 N:=23
 np:=2
 cs:=[jbU]
 ds:=[]
 modes:=[(390,[false])]
 ro:=[false]
theorem jdd:Con.OK Tryz.prog j7S:=
 cOf j0r j04 jn6 j7S Tryz.func338 (j9 jls trivial) trivial
def jaX:Con:=⟨389,[.v ty21],[ty21],⟨[.v .bool],[]⟩,[.bool],fun h=>Pw.jdO h⟩
def jlt:FnD where
 N:=36
 np:=1
 cs:=[j7S]
 ds:=[]
 modes:=[(338,[false,false])]
 ro:=[false]
theorem jkr:Con.OK Tryz.prog jaX:=
 cOf j0r j04 jlt jaX Tryz.func389 (j9 jdd trivial) trivial
def jbV:Con:=⟨335,[.v iT],[iT],⟨[.v iT],[]⟩,[iT],fun h=>Pw.jfx h⟩
def jn7:FnD where
 N:=18
 np:=1
 cs:=[]
 ds:=[]
 ro:=[false]
theorem jlu:Con.OK Tryz.prog jbV:=
 cOf j0r j04 jn7 jbV Tryz.func335 trivial trivial
def jde:Con:=⟨337,[.v ty21],[ty21],⟨[.v iT,.v iT],[]⟩,[iT,iT],fun h=>Pw.jiB h⟩
def joF:FnD where
 N:=29
 np:=1
 cs:=[j7S,jaX,jbV]
 ds:=[⟨0,[.s (.one (.bp 64 0)),sI,sI,.b (.cell [.d iT,.d iT,.d iT] false)],[iT,iT,iT,iT,iT],[⟨.exit 0,[.s (.one (.bp 64 0)),sI,.b (.cell [.d iT,.d iT,.d iT] false)],[iT,iT,iT,iT]⟩],Pw.unc5 (Pw.j5d)⟩]
 modes:=[(335,[false]),(338,[false,false]),(389,[false])]
 keep:=[(0,⟨[1,4,5],[64],[],[]⟩)]
 keepX:=[(0,.exit 0,⟨[1,4],[64],[],[]⟩)]
 ro:=[false,false]
theorem r01_Day_ok:Con.OK Tryz.prog jde:=
 cOf j0r j04 joF jde Tryz.func337 (j9 jdd (j9 jkr (j9 jlu trivial))) (j9 (fun h=>by kernel_rfl) trivial)
def j97:Con:=⟨287,[.v iT],[iT],⟨[.v iT],[]⟩,[iT],fun h=>Pw.jcS h⟩
def jiY:FnD where
 N:=7
 np:=1
 cs:=[]
 ds:=[]
 ro:=[false]
theorem jhh:Con.OK Tryz.prog j97:=
 cOf j0r j04 jiY j97 Tryz.func287 trivial trivial
def jdf:Con:=⟨286,[.v iT,.v iT,.v iT,.v iT],[iT,iT,iT,iT],⟨[.v iT,.v iT],[]⟩,[iT,iT],Pw.unc4 Pw.jiC⟩
def joG:FnD where
 N:=63
 np:=4
 cs:=[j7S,jde,j97]
 ds:=[⟨0,[sI,sI,sI,sI,sI,sI],[iT,iT,iT,iT,iT,iT],[⟨.exit 0,[sI,sI,sI,sI,sI],[iT,iT,iT,iT,iT]⟩],Pw.unc6 (Pw.j5e)⟩,
  ⟨2,[sI,sI,sI,sI],[iT,iT,iT,iT],[⟨.exit 2,[sI],[iT]⟩],Pw.unc4 (Pw.j5f)⟩]
 modes:=[(287,[false]),(337,[false]),(338,[false,false])]
 keep:=[(0,⟨[0,1,2,3,10,12],[],[],[]⟩),
  (2,⟨[0,1,10,12],[],[],[]⟩)]
 keepX:=[(0,.exit 0,⟨[0,1,2,10,12],[],[],[]⟩),
  (2,.exit 2,⟨[12],[],[],[]⟩)]
 ro:=[false,false]
theorem r01_Nth_ok:Con.OK Tryz.prog jdf:=
 cOf j0r j04 joG jdf Tryz.func286 (j9 jdd (j9 r01_Day_ok (j9 jhh trivial))) (j9 (fun h=>by kernel_rfl) (j9 (fun h=>by kernel_rfl) trivial))
def j6d:Con:=⟨193,[.v ty58],[ty58],⟨[.own 258 ty13],[]⟩,[ty13],fun h=>Pw.j6E h⟩
def jeE:FnD where
 N:=98
 np:=1
 cs:=[jdf]
 ds:=[⟨0,[.s (.one (.d ty58)),.s (.one (.ol 1000000)),sI,.b (.lst 258 ty8 false)],[ty58,iT,ty13],[⟨.exit 0,[.s (.one (.ol 1500100)),.b (.lst 258 ty8 false)],[ty13]⟩],Pw.unc3 (Pw.j2v)⟩,
  ⟨2,[.s (.one (.d ty58)),.s (.one (.ol 1002000)),sI,sI,.b (.lst 258 ty8 false)],[ty58,iT,iT,ty13],[⟨.exit 2,[.s (.one (.d ty58)),.s (.one (.ol 1502300)),sI,.b (.lst 258 ty8 false)],[ty58,iT,ty13]⟩],Pw.unc4 (Pw.j2u)⟩,
  ⟨4,[.s (.one (.d ty58)),.s (.one (.ol 1004000)),sI,sI,.s (.one (.bp 512 0)),sI,.b (.cell [.d iT,.d iT] false),.b (.lst 258 ty8 false)],[ty58,iT,iT,iT,iT,iT,ty13],[⟨.exit 4,[.s (.one (.d ty58)),.s (.one (.ol 1504500)),sI,sI,.s (.one (.bp 512 0)),sI,.b (.cell [.d iT,.d iT] false),.b (.lst 258 ty8 false)],[ty58,iT,iT,iT,iT,iT,ty13]⟩],Pw.unc7 (Pw.j2t)⟩]
 modes:=[(286,[false,false,false,false])]
 keep:=[(0,⟨[0,3,4],[],[⟨1000000,258,ty8,[.slot 3],false⟩],[]⟩),
  (2,⟨[0,3,4,5],[],[⟨1002000,258,ty8,[.slot 3],false⟩],[]⟩),
  (4,⟨[0,3,4,5,8,9],[512],[⟨1004000,258,ty8,[.slot 3],false⟩],[]⟩)]
 keepX:=[(0,.exit 0,⟨[3],[],[⟨1500100,258,ty8,[.slot 3],false⟩],[]⟩),
  (2,.exit 2,⟨[0,3,4],[],[⟨1502300,258,ty8,[.slot 3],false⟩],[]⟩),
  (4,.exit 4,⟨[0,3,4,5,8,9],[512],[⟨1504500,258,ty8,[.slot 3],false⟩],[]⟩)]
 ro:=[true]
 dw:=[(9,[[],[],[],[],[],[],[],[],[],[],[],[],[],[],[512],[512]]),(14,[[],[],[],[],[],[],[],[5376]])]
theorem jec:Con.OK Tryz.prog j6d:=
 cOf j0r j04 jeE j6d Tryz.func193 (j9 r01_Nth_ok trivial) (j9 (fun h=>by kernel_rfl) (j9 (fun h=>by kernel_rfl) (j9 (fun h=>by kernel_rfl) trivial)))
def j98:Con:=⟨107,[.v ty65],[ty65],⟨[.own 167 ty13,.v iT],[]⟩,[ty13,iT],fun h=>Pw.j6F h⟩
def jeF:FnD where
 N:=119
 np:=1
 cs:=[jcf,jaW,j6d]
 ds:=[⟨0,[.s (.one (.bp 64 0)),sI,sI,.b (.cell [.d .str,.d iT,.d ty58] false)],[iT,iT,.str,iT,ty58],[⟨.ret,[.s (.one (.nil)),sI],[iT]⟩,⟨.exit 0,[.s (.one (.bp 64 0)),sI,.b (.cell [.d .str,.d iT,.d ty58] false)],[iT,.str,iT,ty58]⟩],Pw.unc5 (Pw.j2w)⟩,
  ⟨2,[.s (.one (.ol 1002000)),.s (.one (.ol 1002001)),sI,sI,.b (.lst 167 ty8 false),.b (.lst 258 ty8 false)],[iT,iT,ty13,ty13],[⟨.ret,[.s (.one (.nil)),sI],[iT]⟩,⟨.exit 2,[.s (.one (.ol 1502300)),.b (.lst 167 ty8 false)],[ty13]⟩],Pw.unc4 (Pw.j2x)⟩]
 modes:=[(191,[false,false,false]),(192,[false]),(193,[false])]
 keep:=[(0,⟨[1,4,5],[64],[],[]⟩),
  (2,⟨[6,7,8,9],[],[⟨1002000,167,ty8,[.slot 6],false⟩,⟨1002001,258,ty8,[.slot 7],false⟩],[]⟩)]
 keepX:=[(0,.ret,⟨[2,3],[],[],[]⟩),
  (0,.exit 0,⟨[1,4],[64],[],[]⟩),
  (2,.ret,⟨[2,3],[],[],[]⟩),
  (2,.exit 2,⟨[6],[],[⟨1502300,167,ty8,[.slot 6],false⟩],[]⟩)]
 ro:=[true,false]
 dw:=[(21,[[],[],[],[],[],[],[],[],[],[],[],[],[],[640],[640]]),(24,[[],[],[7296],[7360,1002000],[],[],[],[]])]
theorem jmd:Con.OK Tryz.prog j98:=
 cOf j0r j04 jeF j98 Tryz.func107 (j9 jkp (j9 jkq (j9 jec trivial))) (j9 (fun h=>by kernel_rfl) (j9 (fun h=>by kernel_rfl) trivial))
end Go.Proofs.Pk
