/- Contracts: each given function is its plain function, printed by a program. -/
import Derived.Test.YtpbnnhakjhalaaaGreatEOCon3
noncomputable section
open Go Go.Lft
set_option linter.unusedVariables false
set_option maxRecDepth 100000
namespace Go.Proofs.Pk
def j4o:Con:=⟨264,[.v ty28,.v iT],[ty28,iT],⟨[.v iT],[]⟩,[iT],Pw.unc2 Pw.j2w⟩
def jgr:FnD where
 N:=10
 np:=2
 cs:=[jai]
 ds:=[]
 modes:=[(327,[false,false])]
 ro:=[false]
theorem jaj:Con.OK Tryz.prog j4o:=
 cOf j0e j03 jgr j4o Tryz.func264 (j9 jjY trivial) trivial
def j45:Con:=⟨265,[.v ty28,.v iT],[ty28,iT],⟨[.v iT],[]⟩,[iT],Pw.unc2 Pw.j3s⟩
def jfk:FnD where
 N:=16
 np:=2
 cs:=[]
 ds:=[]
 ro:=[false]
theorem j9o:Con.OK Tryz.prog j45:=
 cOf j0e j03 jfk j45 Tryz.func265 trivial trivial
def j5Y:Con:=⟨181,[.v ty28,.v iT,.v iT],[ty28,iT,iT],⟨[.own 248 ty26],[]⟩,[ty26],Pw.unc3 Pw.j2E⟩
def jfl:FnD where
 N:=41
 np:=3
 cs:=[j4o,j45]
 ds:=[⟨0,[sI,sI,.s (.one (.bp 192 0)),.s (.one (.ol 1000000)),.b (.cell [.d iT,.d ty13] false),.b (.lst 248 ty21 false)],[iT,iT,iT,ty13,ty26],[⟨.exit 0,[.s (.one (.ol 1500100)),.b (.lst 248 ty21 false)],[ty26]⟩],Pw.unc5 (Pw.j0O)⟩]
 modes:=[(264,[false,false]),(265,[false,false])]
 keep:=[(0,⟨[1,2,3,7],[192],[⟨1000000,248,ty21,[.slot 7],false⟩],[]⟩)]
 keepX:=[(0,.exit 0,⟨[7],[],[⟨1500100,248,ty21,[.slot 7],false⟩],[]⟩)]
 ro:=[true]
theorem jex:Con.OK Tryz.prog j5Y:=
 cOf j0e j03 jfl j5Y Tryz.func181 (j9 jaj (j9 j9o trivial)) (j9 (fun h=>by kernel_rfl) trivial)
def j9c:Con:=⟨400,[.v ty8],[ty8],⟨[.v iT],[]⟩,[iT],fun h=>Pw.j3n h⟩
def jjZ:FnD where
 N:=11
 np:=1
 cs:=[]
 ds:=[]
 ro:=[false]
theorem jj9:Con.OK Tryz.prog j9c:=
 cOf j0e j03 jjZ j9c Tryz.func400 trivial trivial
def j6t:Con:=⟨358,[.v ty28,.v ty8],[ty28,ty8],⟨[.v iT,.v .bool],[]⟩,[iT,.bool],Pw.unc2 Pw.j1s⟩
def jgs:FnD where
 N:=30
 np:=2
 cs:=[j5Y,j9c]
 ds:=[⟨0,[.s (.one (.bp 192 0)),.s (.one (.ol 1000000)),sI,sI,.b (.cell [.d iT,.d iT] false),.b (.lst 248 ty21 false)],[iT,iT,iT,iT,ty26],[⟨.ret,[sI,.s (.one (.d .bool))],[iT,.bool]⟩,⟨.exit 0,[],[]⟩],Pw.unc5 (Pw.j1e)⟩]
 modes:=[(181,[false,false,false]),(400,[false])]
 keep:=[(0,⟨[3,10,11,12],[192],[⟨1000000,248,ty21,[.slot 10],false⟩],[]⟩)]
 keepX:=[(0,.ret,⟨[4,5],[],[],[]⟩),
  (0,.exit 0,⟨[],[],[],[]⟩)]
 ro:=[false,false]
theorem jfm:Con.OK Tryz.prog j6t:=
 cOf j0e j03 jgs j6t Tryz.func358 (j9 jex (j9 jj9 trivial)) (j9 (fun h=>by kernel_rfl) trivial)
def j6u:Con:=⟨318,[.v ty28,.v ty72,.v iT],[ty28,ty72,iT],⟨[.v iT,.v .bool],[]⟩,[iT,.bool],Pw.unc3 Pw.j1a⟩
def jgt:FnD where
 N:=50
 np:=3
 cs:=[j8m,j6t]
 ds:=[]
 modes:=[(357,[false]),(358,[false,false])]
 ro:=[false,false]
 dw:=[(5,[[],[],[],[],[],[],[],[],[512]])]
theorem jfn:Con.OK Tryz.prog j6u:=
 cOf j0e j03 jgt j6u Tryz.func318 (j9 jgq (j9 jfm trivial)) trivial
def j5Z:Con:=⟨252,[.v ty28,.v iT],[ty28,iT],⟨[.v iT],[]⟩,[iT],Pw.unc2 Pw.j2F⟩
def jfo:FnD where
 N:=10
 np:=2
 cs:=[j4o,j45]
 ds:=[]
 modes:=[(264,[false,false]),(265,[false,false])]
 ro:=[false]
theorem jey:Con.OK Tryz.prog j5Z:=
 cOf j0e j03 jfo j5Z Tryz.func252 (j9 jaj (j9 j9o trivial)) trivial
def jb8:Con:=⟨251,[.v iT],[iT],⟨[.v ty8],[]⟩,[ty8],fun h=>Pw.jek h⟩
def jnk:FnD where
 N:=17
 np:=1
 cs:=[]
 ds:=[]
 ro:=[false]
theorem jlM:Con.OK Tryz.prog jb8:=
 cOf j0e j03 jnk jb8 Tryz.func251 trivial trivial
def j4p:Con:=⟨172,[.v ty28,.v iT],[ty28,iT],⟨[.v ty8],[]⟩,[ty8],Pw.unc2 Pw.j0u⟩
def jgu:FnD where
 N:=11
 np:=2
 cs:=[j5Z,jb8]
 ds:=[]
 modes:=[(251,[false]),(252,[false,false])]
 ro:=[false]
theorem jak:Con.OK Tryz.prog j4p:=
 cOf j0e j03 jgu j4p Tryz.func172 (j9 jey (j9 jlM trivial)) trivial
def j8b:Con:=⟨317,[.v ty28,.v ty72,.v iT],[ty28,ty72,iT],⟨[.v iT],[]⟩,[iT],Pw.unc3 Pw.j1W⟩
def jja:FnD where
 N:=84
 np:=3
 cs:=[j8m,j6u,j4p]
 ds:=[⟨0,[sI,.s (.one (.bp 192 0)),.s (.one (.bp 256 0)),sI,.b (.cell [.d iT,.d ty13] false),.b (.cell [.d .str,.d iT,.d iT,.d iT,.d iT,.d iT,.d (.list iT),.d ty13,.d iT,.d iT] false)],[iT,iT,iT,ty13,.str,iT,iT,iT,iT,iT,(.list iT),ty13,iT,iT],[⟨.exit 0,[sI,.s (.one (.bp 192 0)),.s (.one (.bp 256 0)),sI,.b (.cell [.d iT,.d ty13] false),.b (.cell [.d .str,.d iT,.d iT,.d iT,.d iT,.d iT,.d (.list iT),.d ty13,.d iT,.d iT] false)],[iT,iT,iT,ty13,.str,iT,iT,iT,iT,iT,(.list iT),ty13,iT,iT]⟩],Pw.jtY (Pw.j1j)⟩,
  ⟨2,[sI,.s (.one (.bp 192 0)),.s (.one (.bp 256 0)),sI,.b (.cell [.d iT,.d ty13] false),.b (.cell [.d .str,.d iT,.d iT,.d iT,.d iT,.d iT,.d (.list iT),.d ty13,.d iT,.d iT] false)],[iT,iT,iT,ty13,.str,iT,iT,iT,iT,iT,(.list iT),ty13,iT,iT],[⟨.ret,[sI],[iT]⟩],Pw.jtY (Pw.j1F)⟩]
 modes:=[(172,[false,false]),(318,[false,false,false]),(357,[false])]
 keep:=[(0,⟨[2,3,4,9],[192,256],[],[]⟩),
  (2,⟨[2,3,4,9],[192,256],[],[]⟩)]
 keepX:=[(0,.exit 0,⟨[2,3,4,9],[192,256],[],[]⟩),
  (2,.ret,⟨[6],[],[],[]⟩)]
 ro:=[false]
theorem jhE:Con.OK Tryz.prog j8b:=
 cOf j0e j03 jja j8b Tryz.func317 (j9 jgq (j9 jfn (j9 jak trivial))) (j9 (fun h=>by kernel_rfl) (j9 (fun h=>by kernel_rfl) trivial))
def j8c:Con:=⟨171,[.v ty8],[ty8],⟨[.v iT],[]⟩,[iT],fun h=>Pw.j3f h⟩
def jjb:FnD where
 N:=10
 np:=1
 cs:=[j6a]
 ds:=[]
 modes:=[(250,[false])]
 ro:=[false]
theorem jhF:Con.OK Tryz.prog j8c:=
 cOf j0e j03 jjb j8c Tryz.func171 (j9 jcZ trivial) trivial
def jdW:Con:=⟨170,[.v ty13,.v iT],[ty13,iT],⟨[.v .bool],[]⟩,[.bool],Pw.unc2 Pw.jcg⟩
def jqO:FnD where
 N:=24
 np:=2
 cs:=[]
 ds:=[⟨0,[sI,.s (.one (.d ty13)),sI,sI],[iT,ty13,iT,iT],[⟨.ret,[.s (.one (.d .bool))],[.bool]⟩,⟨.exit 0,[],[]⟩],Pw.unc4 (Pw.j51)⟩]
 keep:=[(0,⟨[1,7,8,9],[],[],[]⟩)]
 keepX:=[(0,.ret,⟨[4],[],[],[]⟩),
  (0,.exit 0,⟨[],[],[],[]⟩)]
 ro:=[false]
theorem joG:Con.OK Tryz.prog jdW:=
 cOf j0e j03 jqO jdW Tryz.func170 trivial (j9 (fun h=>by kernel_rfl) trivial)
def j8d:Con:=⟨367,[.v iT],[iT],⟨[.v .bool],[]⟩,[.bool],fun h=>Pw.j9t h⟩
def jjc:FnD where
 N:=6
 np:=1
 cs:=[]
 ds:=[]
 ro:=[false]
theorem jhG:Con.OK Tryz.prog j8d:=
 cOf j0e j03 jjc j8d Tryz.func367 trivial trivial
def j9d:Con:=⟨320,[.v iT,.v iT],[iT,iT],⟨[.v .bool],[]⟩,[.bool],Pw.unc2 Pw.jaR⟩
def jk0:FnD where
 N:=17
 np:=2
 cs:=[j8d]
 ds:=[]
 modes:=[(367,[false])]
 ro:=[false]
theorem jjd:Con.OK Tryz.prog j9d:=
 cOf j0e j03 jk0 j9d Tryz.func320 (j9 jhG trivial) trivial
def j6v:Con:=⟨321,[.v iT],[iT],⟨[.v .bool],[]⟩,[.bool],fun h=>Pw.j6N h⟩
def jgv:FnD where
 N:=6
 np:=1
 cs:=[]
 ds:=[]
 ro:=[false]
theorem jfp:Con.OK Tryz.prog j6v:=
 cOf j0e j03 jgv j6v Tryz.func321 trivial trivial
def j2J:Con:=⟨253,[.v (.list iT),.v iT],[(.list iT),iT],⟨[.v iT,.v .bool],[]⟩,[iT,.bool],Pw.unc2 Pw.j0C⟩
def j9e:FnD where
 N:=54
 np:=2
 cs:=[j9d,j6v]
 ds:=[⟨0,[.s (.one (.d (.list iT))),sI,sI,sI,sI],[(.list iT),iT,iT,iT,iT],[⟨.exit 0,[.s (.one (.d (.list iT))),sI,sI,sI],[(.list iT),iT,iT,iT]⟩],Pw.unc5 (Pw.j1p)⟩]
 modes:=[(320,[false,false]),(321,[false])]
 keep:=[(0,⟨[0,1,6,7,8],[],[],[]⟩)]
 keepX:=[(0,.exit 0,⟨[0,1,6,7],[],[],[]⟩)]
 ro:=[false,false]
theorem j8P:Con.OK Tryz.prog j2J:=
 cOf j0e j03 j9e j2J Tryz.func253 (j9 jjd (j9 jfp trivial)) (j9 (fun h=>by kernel_rfl) trivial)
def j9f:Con:=⟨249,[.v ty86,.v ty72,.v iT],[ty86,ty72,iT],⟨[.v iT,.v .bool],[]⟩,[iT,.bool],Pw.unc3 Pw.j3o⟩
def jk1:FnD where
 N:=79
 np:=3
 cs:=[j4p,j8b,j8c,jdW,j2J]
 ds:=[]
 modes:=[(170,[false,false]),(171,[false]),(172,[false,false]),(253,[false,false]),(317,[false,false,false])]
 ro:=[false,false]
theorem jje:Con.OK Tryz.prog j9f:=
 cOf j0e j03 jk1 j9f Tryz.func249 (j9 jak (j9 jhE (j9 jhF (j9 joG (j9 j8P trivial))))) trivial
def j6w:Con:=⟨169,[.v ty86,.v ty72,.v iT],[ty86,ty72,iT],⟨[.v iT],[]⟩,[iT],Pw.unc3 Pw.j1t⟩
def jgw:FnD where
 N:=27
 np:=3
 cs:=[j9f]
 ds:=[]
 modes:=[(249,[false,false,false])]
 ro:=[false]
theorem jfq:Con.OK Tryz.prog j6w:=
 cOf j0e j03 jgw j6w Tryz.func169 (j9 jje trivial) trivial
def j8e:Con:=⟨167,[.v ty42,.ip [iT],.ip [iT]],[ty42,iT,iT],⟨[.v .bool],[]⟩,[.bool],Pw.unc3 Pw.jch⟩
def jjf:FnD where
 N:=26
 np:=3
 cs:=[]
 ds:=[]
 ro:=[false]
theorem jhH:Con.OK Tryz.prog j8e:=
 cOf j0e j03 jjf j8e Tryz.func167 trivial trivial
def j1L:Con:=⟨247,[.v ty44,.clo 167 [.p [iT],.p [iT]]],[ty44,iT,iT],⟨[.v iT],[]⟩,[iT],Pw.unc3 Pw.j0J⟩
def j6J:FnD where
 N:=19
 np:=2
 cs:=[j8e]
 ds:=[⟨0,[.s (.one (.d ty44)),.s (.one (.clo 167 [.p [iT],.p [iT]])),sI,sI],[ty44,iT,iT,iT,iT],[⟨.ret,[sI],[iT]⟩,⟨.exit 0,[],[]⟩],Pw.unc5 (Pw.j0G)⟩]
 modes:=[(167,[false])]
 keep:=[(0,⟨[0,1,7,8],[],[],[]⟩)]
 keepX:=[(0,.ret,⟨[4],[],[],[]⟩),
  (0,.exit 0,⟨[],[],[],[]⟩)]
 ro:=[false]
theorem j6x:Con.OK Tryz.prog j1L:=
 cOf j0e j03 j6J j1L Tryz.func247 (j9 jhH trivial) (j9 (fun h=>by kernel_rfl) trivial)
end Go.Proofs.Pk
