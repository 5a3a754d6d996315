/- Contracts: each given function is its plain function, printed by a program. -/
import Derived.Test.YtpbnnhakjhalaaaGreatECCon3
noncomputable section
open Go Go.Lft
set_option linter.unusedVariables false
set_option maxRecDepth 100000
namespace Go.Proofs.Pk
def j44:Con:=⟨264,[.v ty28,.v iT],[ty28,iT],⟨[.v iT],[]⟩,[iT],Pw.unc2 Pw.j3y⟩
def jfI:FnD where
 N:=10
 np:=2
 cs:=[j9W]
 ds:=[]
 modes:=[(327,[false,false])]
 ro:=[false]
theorem j9X:Con.OK Tryz.prog j44:=
 cOf j0f j02 jfI j44 Tryz.func264 (j8 jj7 trivial) trivial
def j3N:Con:=⟨265,[.v ty28,.v iT],[ty28,iT],⟨[.v iT],[]⟩,[iT],Pw.unc2 Pw.j5T⟩
def jeC:FnD where
 N:=16
 np:=2
 cs:=[]
 ds:=[]
 ro:=[false]
theorem j95:Con.OK Tryz.prog j3N:=
 cOf j0f j02 jeC j3N Tryz.func265 trivial trivial
def j5I:Con:=⟨181,[.v ty28,.v iT,.v iT],[ty28,iT,iT],⟨[.own 248 ty26],[]⟩,[ty26],Pw.unc3 Pw.j4f⟩
def jeD:FnD where
 N:=41
 np:=3
 cs:=[j44,j3N]
 ds:=[⟨0,[sI,sI,.s (.one (.bp 192 0)),.s (.one (.ol 1000000)),.b (.cell [.d iT,.d ty13] false),.b (.lst 248 ty21 false)],[iT,iT,iT,ty13,ty26],[⟨.exit 0,[.s (.one (.ol 1500100)),.b (.lst 248 ty21 false)],[ty26]⟩],Pw.unc5 (Pw.j1L)⟩]
 modes:=[(264,[false,false]),(265,[false,false])]
 keep:=[(0,⟨[1,2,3,7],[192],[⟨1000000,248,ty21,[.slot 7],false⟩],[]⟩)]
 keepX:=[(0,.exit 0,⟨[7],[],[⟨1500100,248,ty21,[.slot 7],false⟩],[]⟩)]
 ro:=[true]
theorem jdO:Con.OK Tryz.prog j5I:=
 cOf j0f j02 jeD j5I Tryz.func181 (j8 j9X (j8 j95 trivial)) (j8 (fun h=>by kernel_rfl) trivial)
def j8U:Con:=⟨400,[.v ty8],[ty8],⟨[.v iT],[]⟩,[iT],fun h=>Pw.jgG h⟩
def jj8:FnD where
 N:=11
 np:=1
 cs:=[]
 ds:=[]
 ro:=[false]
theorem jiq:Con.OK Tryz.prog j8U:=
 cOf j0f j02 jj8 j8U Tryz.func400 trivial trivial
def j6e:Con:=⟨358,[.v ty28,.v ty8],[ty28,ty8],⟨[.v iT,.v .bool],[]⟩,[iT,.bool],Pw.unc2 Pw.j3z⟩
def jfJ:FnD where
 N:=30
 np:=2
 cs:=[j5I,j8U]
 ds:=[⟨0,[.s (.one (.bp 192 0)),.s (.one (.ol 1000000)),sI,sI,.b (.cell [.d iT,.d iT] false),.b (.lst 248 ty21 false)],[iT,iT,iT,iT,ty26],[⟨.ret,[sI,.s (.one (.d .bool))],[iT,.bool]⟩,⟨.exit 0,[],[]⟩],Pw.unc5 (Pw.j6P)⟩]
 modes:=[(181,[false,false,false]),(400,[false])]
 keep:=[(0,⟨[3,10,11,12],[192],[⟨1000000,248,ty21,[.slot 10],false⟩],[]⟩)]
 keepX:=[(0,.ret,⟨[4,5],[],[],[]⟩),
  (0,.exit 0,⟨[],[],[],[]⟩)]
 ro:=[false,false]
theorem jeE:Con.OK Tryz.prog j6e:=
 cOf j0f j02 jfJ j6e Tryz.func358 (j8 jdO (j8 jiq trivial)) (j8 (fun h=>by kernel_rfl) trivial)
def j6f:Con:=⟨318,[.v ty28,.v ty72,.v iT],[ty28,ty72,iT],⟨[.v iT,.v .bool],[]⟩,[iT,.bool],Pw.unc3 Pw.j2Y⟩
def jfK:FnD where
 N:=50
 np:=3
 cs:=[j80,j6e]
 ds:=[]
 modes:=[(357,[false]),(358,[false,false])]
 ro:=[false,false]
 dw:=[(5,[[],[],[],[],[],[],[],[],[512]])]
theorem jeF:Con.OK Tryz.prog j6f:=
 cOf j0f j02 jfK j6f Tryz.func318 (j8 jfH (j8 jeE trivial)) trivial
def j5J:Con:=⟨252,[.v ty28,.v iT],[ty28,iT],⟨[.v iT],[]⟩,[iT],Pw.unc2 Pw.j4g⟩
def jeG:FnD where
 N:=10
 np:=2
 cs:=[j44,j3N]
 ds:=[]
 modes:=[(264,[false,false]),(265,[false,false])]
 ro:=[false]
theorem jdP:Con.OK Tryz.prog j5J:=
 cOf j0f j02 jeG j5J Tryz.func252 (j8 j9X (j8 j95 trivial)) trivial
def jaM:Con:=⟨251,[.v iT],[iT],⟨[.v ty8],[]⟩,[ty8],fun h=>Pw.jjT h⟩
def jmg:FnD where
 N:=17
 np:=1
 cs:=[]
 ds:=[]
 ro:=[false]
theorem jkR:Con.OK Tryz.prog jaM:=
 cOf j0f j02 jmg jaM Tryz.func251 trivial trivial
def j45:Con:=⟨172,[.v ty28,.v iT],[ty28,iT],⟨[.v ty8],[]⟩,[ty8],Pw.unc2 Pw.j2n⟩
def jfL:FnD where
 N:=11
 np:=2
 cs:=[j5J,jaM]
 ds:=[]
 modes:=[(251,[false]),(252,[false,false])]
 ro:=[false]
theorem j9Y:Con.OK Tryz.prog j45:=
 cOf j0f j02 jfL j45 Tryz.func172 (j8 jdP (j8 jkR trivial)) trivial
def j7P:Con:=⟨317,[.v ty28,.v ty72,.v iT],[ty28,ty72,iT],⟨[.v iT],[]⟩,[iT],Pw.unc3 Pw.j72⟩
def jir:FnD where
 N:=84
 np:=3
 cs:=[j80,j6f,j45]
 ds:=[⟨0,[sI,.s (.one (.bp 192 0)),.s (.one (.bp 256 0)),sI,.b (.cell [.d iT,.d ty13] false),.b (.cell [.d .str,.d iT,.d iT,.d iT,.d iT,.d iT,.d (.list iT),.d ty13,.d iT,.d iT] false)],[iT,iT,iT,ty13,.str,iT,iT,iT,iT,iT,(.list iT),ty13,iT,iT],[⟨.exit 0,[sI,.s (.one (.bp 192 0)),.s (.one (.bp 256 0)),sI,.b (.cell [.d iT,.d ty13] false),.b (.cell [.d .str,.d iT,.d iT,.d iT,.d iT,.d iT,.d (.list iT),.d ty13,.d iT,.d iT] false)],[iT,iT,iT,ty13,.str,iT,iT,iT,iT,iT,(.list iT),ty13,iT,iT]⟩],Pw.jsb (Pw.j2B)⟩,
  ⟨2,[sI,.s (.one (.bp 192 0)),.s (.one (.bp 256 0)),sI,.b (.cell [.d iT,.d ty13] false),.b (.cell [.d .str,.d iT,.d iT,.d iT,.d iT,.d iT,.d (.list iT),.d ty13,.d iT,.d iT] false)],[iT,iT,iT,ty13,.str,iT,iT,iT,iT,iT,(.list iT),ty13,iT,iT],[⟨.ret,[sI],[iT]⟩],Pw.jsb (Pw.j2C)⟩]
 modes:=[(172,[false,false]),(318,[false,false,false]),(357,[false])]
 keep:=[(0,⟨[2,3,4,9],[192,256],[],[]⟩),
  (2,⟨[2,3,4,9],[192,256],[],[]⟩)]
 keepX:=[(0,.exit 0,⟨[2,3,4,9],[192,256],[],[]⟩),
  (2,.ret,⟨[6],[],[],[]⟩)]
 ro:=[false]
theorem jgR:Con.OK Tryz.prog j7P:=
 cOf j0f j02 jir j7P Tryz.func317 (j8 jfH (j8 jeF (j8 j9Y trivial))) (j8 (fun h=>by kernel_rfl) (j8 (fun h=>by kernel_rfl) trivial))
def j7Q:Con:=⟨171,[.v ty8],[ty8],⟨[.v iT],[]⟩,[iT],fun h=>Pw.jfo h⟩
def jis:FnD where
 N:=10
 np:=1
 cs:=[j5V]
 ds:=[]
 modes:=[(250,[false])]
 ro:=[false]
theorem jgS:Con.OK Tryz.prog j7Q:=
 cOf j0f j02 jis j7Q Tryz.func171 (j8 jcm trivial) trivial
def jdf:Con:=⟨170,[.v ty13,.v iT],[ty13,iT],⟨[.v .bool],[]⟩,[.bool],Pw.unc2 Pw.jfp⟩
def jpi:FnD where
 N:=24
 np:=2
 cs:=[]
 ds:=[⟨0,[sI,.s (.one (.d ty13)),sI,sI],[iT,ty13,iT,iT],[⟨.ret,[.s (.one (.d .bool))],[.bool]⟩,⟨.exit 0,[],[]⟩],Pw.unc4 (Pw.jck)⟩]
 keep:=[(0,⟨[1,7,8,9],[],[],[]⟩)]
 keepX:=[(0,.ret,⟨[4],[],[],[]⟩),
  (0,.exit 0,⟨[],[],[],[]⟩)]
 ro:=[false]
theorem jnr:Con.OK Tryz.prog jdf:=
 cOf j0f j02 jpi jdf Tryz.func170 trivial (j8 (fun h=>by kernel_rfl) trivial)
def j7R:Con:=⟨367,[.v iT],[iT],⟨[.v .bool],[]⟩,[.bool],fun h=>Pw.jbJ h⟩
def jit:FnD where
 N:=6
 np:=1
 cs:=[]
 ds:=[]
 ro:=[false]
theorem jgT:Con.OK Tryz.prog j7R:=
 cOf j0f j02 jit j7R Tryz.func367 trivial trivial
def j8V:Con:=⟨320,[.v iT,.v iT],[iT,iT],⟨[.v .bool],[]⟩,[.bool],Pw.unc2 Pw.jgH⟩
def jj9:FnD where
 N:=17
 np:=2
 cs:=[j7R]
 ds:=[]
 modes:=[(367,[false])]
 ro:=[false]
theorem jiu:Con.OK Tryz.prog j8V:=
 cOf j0f j02 jj9 j8V Tryz.func320 (j8 jgT trivial) trivial
def j6g:Con:=⟨321,[.v iT],[iT],⟨[.v .bool],[]⟩,[.bool],fun h=>Pw.j8K h⟩
def jfM:FnD where
 N:=6
 np:=1
 cs:=[]
 ds:=[]
 ro:=[false]
theorem jeH:Con.OK Tryz.prog j6g:=
 cOf j0f j02 jfM j6g Tryz.func321 trivial trivial
def j2y:Con:=⟨253,[.v (.list iT),.v iT],[(.list iT),iT],⟨[.v iT,.v .bool],[]⟩,[iT,.bool],Pw.unc2 Pw.j1a⟩
def j8W:FnD where
 N:=54
 np:=2
 cs:=[j8V,j6g]
 ds:=[⟨0,[.s (.one (.d (.list iT))),sI,sI,sI,sI],[(.list iT),iT,iT,iT,iT],[⟨.exit 0,[.s (.one (.d (.list iT))),sI,sI,sI],[(.list iT),iT,iT,iT]⟩],Pw.unc5 (Pw.j3i)⟩]
 modes:=[(320,[false,false]),(321,[false])]
 keep:=[(0,⟨[0,1,6,7,8],[],[],[]⟩)]
 keepX:=[(0,.exit 0,⟨[0,1,6,7],[],[],[]⟩)]
 ro:=[false,false]
theorem j8s:Con.OK Tryz.prog j2y:=
 cOf j0f j02 j8W j2y Tryz.func253 (j8 jiu (j8 jeH trivial)) (j8 (fun h=>by kernel_rfl) trivial)
def j8X:Con:=⟨249,[.v ty86,.v ty72,.v iT],[ty86,ty72,iT],⟨[.v iT,.v .bool],[]⟩,[iT,.bool],Pw.unc3 Pw.j89⟩
def jja:FnD where
 N:=79
 np:=3
 cs:=[j45,j7P,j7Q,jdf,j2y]
 ds:=[]
 modes:=[(170,[false,false]),(171,[false]),(172,[false,false]),(253,[false,false]),(317,[false,false,false])]
 ro:=[false,false]
theorem jiv:Con.OK Tryz.prog j8X:=
 cOf j0f j02 jja j8X Tryz.func249 (j8 j9Y (j8 jgR (j8 jgS (j8 jnr (j8 j8s trivial))))) trivial
def j6h:Con:=⟨169,[.v ty86,.v ty72,.v iT],[ty86,ty72,iT],⟨[.v iT],[]⟩,[iT],Pw.unc3 Pw.j4H⟩
def jfN:FnD where
 N:=27
 np:=3
 cs:=[j8X]
 ds:=[]
 modes:=[(249,[false,false,false])]
 ro:=[false]
theorem jeI:Con.OK Tryz.prog j6h:=
 cOf j0f j02 jfN j6h Tryz.func169 (j8 jiv trivial) trivial
def j7S:Con:=⟨167,[.v ty42,.ip [iT],.ip [iT]],[ty42,iT,iT],⟨[.v .bool],[]⟩,[.bool],Pw.unc3 Pw.jfq⟩
def jiw:FnD where
 N:=26
 np:=3
 cs:=[]
 ds:=[]
 ro:=[false]
theorem jgU:Con.OK Tryz.prog j7S:=
 cOf j0f j02 jiw j7S Tryz.func167 trivial trivial
def j1C:Con:=⟨247,[.v ty44,.clo 167 [.p [iT],.p [iT]]],[ty44,iT,iT],⟨[.v iT],[]⟩,[iT],Pw.unc3 Pw.j0P⟩
def j6v:FnD where
 N:=19
 np:=2
 cs:=[j7S]
 ds:=[⟨0,[.s (.one (.d ty44)),.s (.one (.clo 167 [.p [iT],.p [iT]])),sI,sI],[ty44,iT,iT,iT,iT],[⟨.ret,[sI],[iT]⟩,⟨.exit 0,[],[]⟩],Pw.unc5 (Pw.j2o)⟩]
 modes:=[(167,[false])]
 keep:=[(0,⟨[0,1,7,8],[],[],[]⟩)]
 keepX:=[(0,.ret,⟨[4],[],[],[]⟩),
  (0,.exit 0,⟨[],[],[],[]⟩)]
 ro:=[false]
theorem j6i:Con.OK Tryz.prog j1C:=
 cOf j0f j02 j6v j1C Tryz.func247 (j8 jgU trivial) (j8 (fun h=>by kernel_rfl) trivial)
end Go.Proofs.Pk
