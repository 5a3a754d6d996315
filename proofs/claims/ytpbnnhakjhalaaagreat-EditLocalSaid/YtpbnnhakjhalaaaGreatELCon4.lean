/- Contracts: each given function is its plain function, printed by a program. -/
import Derived.Test.YtpbnnhakjhalaaaGreatELCon3
noncomputable section
open Go Go.Lft
set_option linter.unusedVariables false
set_option maxRecDepth 100000
namespace Go.Proofs.Pk
def j4f:Con:=⟨264,[.v ty28,.v iT],[ty28,iT],⟨[.v iT],[]⟩,[iT],Pw.unc2 Pw.j2G⟩
def jeL:FnD where
 N:=10
 np:=2
 cs:=[j9w]
 ds:=[]
 modes:=[(327,[false,false])]
 ro:=[false]
theorem j9x:Con.OK Tryz.prog j4f:=
 cOf j0n j04 jeL j4f Tryz.func264 (j9 jhW trivial) trivial
def j3V:Con:=⟨265,[.v ty28,.v iT],[ty28,iT],⟨[.v iT],[]⟩,[iT],Pw.unc2 Pw.j3q⟩
def jdK:FnD where
 N:=16
 np:=2
 cs:=[]
 ds:=[]
 ro:=[false]
theorem j8R:Con.OK Tryz.prog j3V:=
 cOf j0n j04 jdK j3V Tryz.func265 trivial trivial
def j5J:Con:=⟨181,[.v ty28,.v iT,.v iT],[ty28,iT,iT],⟨[.own 248 ty26],[]⟩,[ty26],Pw.unc3 Pw.j2M⟩
def jdL:FnD where
 N:=41
 np:=3
 cs:=[j4f,j3V]
 ds:=[⟨0,[sI,sI,.s (.one (.bp 192 0)),.s (.one (.ol 1000000)),.b (.cell [.d iT,.d ty13] false),.b (.lst 248 ty21 false)],[iT,iT,iT,ty13,ty26],[⟨.exit 0,[.s (.one (.ol 1500100)),.b (.lst 248 ty21 false)],[ty26]⟩],Pw.unc5 (Pw.j0N)⟩]
 modes:=[(264,[false,false]),(265,[false,false])]
 keep:=[(0,⟨[1,2,3,7],[192],[⟨1000000,248,ty21,[.slot 7],false⟩],[]⟩)]
 keepX:=[(0,.exit 0,⟨[7],[],[⟨1500100,248,ty21,[.slot 7],false⟩],[]⟩)]
 ro:=[true]
theorem jcX:Con.OK Tryz.prog j5J:=
 cOf j0n j04 jdL j5J Tryz.func181 (j9 j9x (j9 j8R trivial)) (j9 (fun h=>by kernel_rfl) trivial)
def j8G:Con:=⟨400,[.v ty8],[ty8],⟨[.v iT],[]⟩,[iT],fun h=>Pw.j3l h⟩
def jhX:FnD where
 N:=11
 np:=1
 cs:=[]
 ds:=[]
 ro:=[false]
theorem jhf:Con.OK Tryz.prog j8G:=
 cOf j0n j04 jhX j8G Tryz.func400 trivial trivial
def j6e:Con:=⟨358,[.v ty28,.v ty8],[ty28,ty8],⟨[.v iT,.v .bool],[]⟩,[iT,.bool],Pw.unc2 Pw.j1v⟩
def jeM:FnD where
 N:=30
 np:=2
 cs:=[j5J,j8G]
 ds:=[⟨0,[.s (.one (.bp 192 0)),.s (.one (.ol 1000000)),sI,sI,.b (.cell [.d iT,.d iT] false),.b (.lst 248 ty21 false)],[iT,iT,iT,iT,ty26],[⟨.ret,[sI,.s (.one (.d .bool))],[iT,.bool]⟩,⟨.exit 0,[],[]⟩],Pw.unc5 (Pw.j1i)⟩]
 modes:=[(181,[false,false,false]),(400,[false])]
 keep:=[(0,⟨[3,10,11,12],[192],[⟨1000000,248,ty21,[.slot 10],false⟩],[]⟩)]
 keepX:=[(0,.ret,⟨[4,5],[],[],[]⟩),
  (0,.exit 0,⟨[],[],[],[]⟩)]
 ro:=[false,false]
theorem jdM:Con.OK Tryz.prog j6e:=
 cOf j0n j04 jeM j6e Tryz.func358 (j9 jcX (j9 jhf trivial)) (j9 (fun h=>by kernel_rfl) trivial)
def j6f:Con:=⟨318,[.v ty28,.v ty72,.v iT],[ty28,ty72,iT],⟨[.v iT,.v .bool],[]⟩,[iT,.bool],Pw.unc3 Pw.j1d⟩
def jeN:FnD where
 N:=50
 np:=3
 cs:=[j7W,j6e]
 ds:=[]
 modes:=[(357,[false]),(358,[false,false])]
 ro:=[false,false]
 dw:=[(5,[[],[],[],[],[],[],[],[],[512]])]
theorem jdN:Con.OK Tryz.prog j6f:=
 cOf j0n j04 jeN j6f Tryz.func318 (j9 jeK (j9 jdM trivial)) trivial
def j5K:Con:=⟨252,[.v ty28,.v iT],[ty28,iT],⟨[.v iT],[]⟩,[iT],Pw.unc2 Pw.j2N⟩
def jdO:FnD where
 N:=10
 np:=2
 cs:=[j4f,j3V]
 ds:=[]
 modes:=[(264,[false,false]),(265,[false,false])]
 ro:=[false]
theorem jcY:Con.OK Tryz.prog j5K:=
 cOf j0n j04 jdO j5K Tryz.func252 (j9 j9x (j9 j8R trivial)) trivial
def jal:Con:=⟨251,[.v iT],[iT],⟨[.v ty8],[]⟩,[ty8],fun h=>Pw.jcM h⟩
def jl2:FnD where
 N:=17
 np:=1
 cs:=[]
 ds:=[]
 ro:=[false]
theorem jjE:Con.OK Tryz.prog jal:=
 cOf j0n j04 jl2 jal Tryz.func251 trivial trivial
def j4g:Con:=⟨172,[.v ty28,.v iT],[ty28,iT],⟨[.v ty8],[]⟩,[ty8],Pw.unc2 Pw.j0y⟩
def jeO:FnD where
 N:=11
 np:=2
 cs:=[j5K,jal]
 ds:=[]
 modes:=[(251,[false]),(252,[false,false])]
 ro:=[false]
theorem j9y:Con.OK Tryz.prog j4g:=
 cOf j0n j04 jeO j4g Tryz.func172 (j9 jcY (j9 jjE trivial)) trivial
def j7N:Con:=⟨317,[.v ty28,.v ty72,.v iT],[ty28,ty72,iT],⟨[.v iT],[]⟩,[iT],Pw.unc3 Pw.j24⟩
def jhg:FnD where
 N:=84
 np:=3
 cs:=[j7W,j6f,j4g]
 ds:=[⟨0,[sI,.s (.one (.bp 192 0)),.s (.one (.bp 256 0)),sI,.b (.cell [.d iT,.d ty13] false),.b (.cell [.d .str,.d iT,.d iT,.d iT,.d iT,.d iT,.d (.list iT),.d ty13,.d iT,.d iT] false)],[iT,iT,iT,ty13,.str,iT,iT,iT,iT,iT,(.list iT),ty13,iT,iT],[⟨.exit 0,[sI,.s (.one (.bp 192 0)),.s (.one (.bp 256 0)),sI,.b (.cell [.d iT,.d ty13] false),.b (.cell [.d .str,.d iT,.d iT,.d iT,.d iT,.d iT,.d (.list iT),.d ty13,.d iT,.d iT] false)],[iT,iT,iT,ty13,.str,iT,iT,iT,iT,iT,(.list iT),ty13,iT,iT]⟩],Pw.jqM (Pw.j1n)⟩,
  ⟨2,[sI,.s (.one (.bp 192 0)),.s (.one (.bp 256 0)),sI,.b (.cell [.d iT,.d ty13] false),.b (.cell [.d .str,.d iT,.d iT,.d iT,.d iT,.d iT,.d (.list iT),.d ty13,.d iT,.d iT] false)],[iT,iT,iT,ty13,.str,iT,iT,iT,iT,iT,(.list iT),ty13,iT,iT],[⟨.ret,[sI],[iT]⟩],Pw.jqM (Pw.j1J)⟩]
 modes:=[(172,[false,false]),(318,[false,false,false]),(357,[false])]
 keep:=[(0,⟨[2,3,4,9],[192,256],[],[]⟩),
  (2,⟨[2,3,4,9],[192,256],[],[]⟩)]
 keepX:=[(0,.exit 0,⟨[2,3,4,9],[192,256],[],[]⟩),
  (2,.ret,⟨[6],[],[],[]⟩)]
 ro:=[false]
theorem jfO:Con.OK Tryz.prog j7N:=
 cOf j0n j04 jhg j7N Tryz.func317 (j9 jeK (j9 jdN (j9 j9y trivial))) (j9 (fun h=>by kernel_rfl) (j9 (fun h=>by kernel_rfl) trivial))
def j7O:Con:=⟨171,[.v ty8],[ty8],⟨[.v iT],[]⟩,[iT],fun h=>Pw.j3f h⟩
def jhh:FnD where
 N:=10
 np:=1
 cs:=[j5W]
 ds:=[]
 modes:=[(250,[false])]
 ro:=[false]
theorem jfP:Con.OK Tryz.prog j7O:=
 cOf j0n j04 jhh j7O Tryz.func171 (j9 jbH trivial) trivial
def jct:Con:=⟨170,[.v ty13,.v iT],[ty13,iT],⟨[.v .bool],[]⟩,[.bool],Pw.unc2 Pw.jbg⟩
def jnR:FnD where
 N:=24
 np:=2
 cs:=[]
 ds:=[⟨0,[sI,.s (.one (.d ty13)),sI,sI],[iT,ty13,iT,iT],[⟨.ret,[.s (.one (.d .bool))],[.bool]⟩,⟨.exit 0,[],[]⟩],Pw.unc4 (Pw.j4N)⟩]
 keep:=[(0,⟨[1,7,8,9],[],[],[]⟩)]
 keepX:=[(0,.ret,⟨[4],[],[],[]⟩),
  (0,.exit 0,⟨[],[],[],[]⟩)]
 ro:=[false]
theorem jm9:Con.OK Tryz.prog jct:=
 cOf j0n j04 jnR jct Tryz.func170 trivial (j9 (fun h=>by kernel_rfl) trivial)
def j7P:Con:=⟨367,[.v iT],[iT],⟨[.v .bool],[]⟩,[.bool],fun h=>Pw.j8W h⟩
def jhi:FnD where
 N:=6
 np:=1
 cs:=[]
 ds:=[]
 ro:=[false]
theorem jfQ:Con.OK Tryz.prog j7P:=
 cOf j0n j04 jhi j7P Tryz.func367 trivial trivial
def j8H:Con:=⟨320,[.v iT,.v iT],[iT,iT],⟨[.v .bool],[]⟩,[.bool],Pw.unc2 Pw.ja4⟩
def jhY:FnD where
 N:=17
 np:=2
 cs:=[j7P]
 ds:=[]
 modes:=[(367,[false])]
 ro:=[false]
theorem jhj:Con.OK Tryz.prog j8H:=
 cOf j0n j04 jhY j8H Tryz.func320 (j9 jfQ trivial) trivial
def j6g:Con:=⟨321,[.v iT],[iT],⟨[.v .bool],[]⟩,[.bool],fun h=>Pw.j6v h⟩
def jeP:FnD where
 N:=6
 np:=1
 cs:=[]
 ds:=[]
 ro:=[false]
theorem jdP:Con.OK Tryz.prog j6g:=
 cOf j0n j04 jeP j6g Tryz.func321 trivial trivial
def j2R:Con:=⟨253,[.v (.list iT),.v iT],[(.list iT),iT],⟨[.v iT,.v .bool],[]⟩,[iT,.bool],Pw.unc2 Pw.j0C⟩
def j8I:FnD where
 N:=54
 np:=2
 cs:=[j8H,j6g]
 ds:=[⟨0,[.s (.one (.d (.list iT))),sI,sI,sI,sI],[(.list iT),iT,iT,iT,iT],[⟨.exit 0,[.s (.one (.d (.list iT))),sI,sI,sI],[(.list iT),iT,iT,iT]⟩],Pw.unc5 (Pw.j1s)⟩]
 modes:=[(320,[false,false]),(321,[false])]
 keep:=[(0,⟨[0,1,6,7,8],[],[],[]⟩)]
 keepX:=[(0,.exit 0,⟨[0,1,6,7],[],[],[]⟩)]
 ro:=[false,false]
theorem j8k:Con.OK Tryz.prog j2R:=
 cOf j0n j04 j8I j2R Tryz.func253 (j9 jhj (j9 jdP trivial)) (j9 (fun h=>by kernel_rfl) trivial)
def j8J:Con:=⟨249,[.v ty86,.v ty72,.v iT],[ty86,ty72,iT],⟨[.v iT,.v .bool],[]⟩,[iT,.bool],Pw.unc3 Pw.j3m⟩
def jhZ:FnD where
 N:=79
 np:=3
 cs:=[j4g,j7N,j7O,jct,j2R]
 ds:=[]
 modes:=[(170,[false,false]),(171,[false]),(172,[false,false]),(253,[false,false]),(317,[false,false,false])]
 ro:=[false,false]
theorem jhk:Con.OK Tryz.prog j8J:=
 cOf j0n j04 jhZ j8J Tryz.func249 (j9 j9y (j9 jfO (j9 jfP (j9 jm9 (j9 j8k trivial))))) trivial
def j6h:Con:=⟨169,[.v ty86,.v ty72,.v iT],[ty86,ty72,iT],⟨[.v iT],[]⟩,[iT],Pw.unc3 Pw.j1w⟩
def jeQ:FnD where
 N:=27
 np:=3
 cs:=[j8J]
 ds:=[]
 modes:=[(249,[false,false,false])]
 ro:=[false]
theorem jdQ:Con.OK Tryz.prog j6h:=
 cOf j0n j04 jeQ j6h Tryz.func169 (j9 jhk trivial) trivial
def j7Q:Con:=⟨167,[.v ty42,.ip [iT],.ip [iT]],[ty42,iT,iT],⟨[.v .bool],[]⟩,[.bool],Pw.unc3 Pw.jbh⟩
def jhl:FnD where
 N:=26
 np:=3
 cs:=[]
 ds:=[]
 ro:=[false]
theorem jfR:Con.OK Tryz.prog j7Q:=
 cOf j0n j04 jhl j7Q Tryz.func167 trivial trivial
def j1R:Con:=⟨247,[.v ty44,.clo 167 [.p [iT],.p [iT]]],[ty44,iT,iT],⟨[.v iT],[]⟩,[iT],Pw.unc3 Pw.j0J⟩
def j6s:FnD where
 N:=19
 np:=2
 cs:=[j7Q]
 ds:=[⟨0,[.s (.one (.d ty44)),.s (.one (.clo 167 [.p [iT],.p [iT]])),sI,sI],[ty44,iT,iT,iT,iT],[⟨.ret,[sI],[iT]⟩,⟨.exit 0,[],[]⟩],Pw.unc5 (Pw.j0G)⟩]
 modes:=[(167,[false])]
 keep:=[(0,⟨[0,1,7,8],[],[],[]⟩)]
 keepX:=[(0,.ret,⟨[4],[],[],[]⟩),
  (0,.exit 0,⟨[],[],[],[]⟩)]
 ro:=[false]
theorem j6i:Con.OK Tryz.prog j1R:=
 cOf j0n j04 j6s j1R Tryz.func247 (j9 jfR trivial) (j9 (fun h=>by kernel_rfl) trivial)
end Go.Proofs.Pk
