/- Contracts: each given function is its plain function, printed by a program. -/
import Derived.Test.YtpbnnhakjhalaaaGreatESCon3
noncomputable section
open Go Go.Lft
set_option linter.unusedVariables false
set_option maxRecDepth 100000
namespace Go.Proofs.Pk
def j42:Con:=⟨264,[.v ty28,.v iT],[ty28,iT],⟨[.v iT],[]⟩,[iT],Pw.unc2 Pw.j2z⟩
def je2:FnD where
 N:=10
 np:=2
 cs:=[j92]
 ds:=[]
 modes:=[(327,[false,false])]
 ro:=[false]
theorem j93:Con.OK Tryz.prog j42:=
 cOf j0r j04 je2 j42 Tryz.func264 (j9 jhc trivial) trivial
def j3J:Con:=⟨265,[.v ty28,.v iT],[ty28,iT],⟨[.v iT],[]⟩,[iT],Pw.unc2 Pw.j3k⟩
def jd3:FnD where
 N:=16
 np:=2
 cs:=[]
 ds:=[]
 ro:=[false]
theorem j8n:Con.OK Tryz.prog j3J:=
 cOf j0r j04 jd3 j3J Tryz.func265 trivial trivial
def j5m:Con:=⟨181,[.v ty28,.v iT,.v iT],[ty28,iT,iT],⟨[.own 248 ty26],[]⟩,[ty26],Pw.unc3 Pw.j2G⟩
def jd4:FnD where
 N:=41
 np:=3
 cs:=[j42,j3J]
 ds:=[⟨0,[sI,sI,.s (.one (.bp 192 0)),.s (.one (.ol 1000000)),.b (.cell [.d iT,.d ty13] false),.b (.lst 248 ty21 false)],[iT,iT,iT,ty13,ty26],[⟨.exit 0,[.s (.one (.ol 1500100)),.b (.lst 248 ty21 false)],[ty26]⟩],Pw.unc5 (Pw.j0N)⟩]
 modes:=[(264,[false,false]),(265,[false,false])]
 keep:=[(0,⟨[1,2,3,7],[192],[⟨1000000,248,ty21,[.slot 7],false⟩],[]⟩)]
 keepX:=[(0,.exit 0,⟨[7],[],[⟨1500100,248,ty21,[.slot 7],false⟩],[]⟩)]
 ro:=[true]
theorem jcl:Con.OK Tryz.prog j5m:=
 cOf j0r j04 jd4 j5m Tryz.func181 (j9 j93 (j9 j8n trivial)) (j9 (fun h=>by kernel_rfl) trivial)
def j8d:Con:=⟨400,[.v ty8],[ty8],⟨[.v iT],[]⟩,[iT],fun h=>Pw.j3f h⟩
def jhd:FnD where
 N:=11
 np:=1
 cs:=[]
 ds:=[]
 ro:=[false]
theorem jgv:Con.OK Tryz.prog j8d:=
 cOf j0r j04 jhd j8d Tryz.func400 trivial trivial
def j5Q:Con:=⟨358,[.v ty28,.v ty8],[ty28,ty8],⟨[.v iT,.v .bool],[]⟩,[iT,.bool],Pw.unc2 Pw.j1v⟩
def je3:FnD where
 N:=30
 np:=2
 cs:=[j5m,j8d]
 ds:=[⟨0,[.s (.one (.bp 192 0)),.s (.one (.ol 1000000)),sI,sI,.b (.cell [.d iT,.d iT] false),.b (.lst 248 ty21 false)],[iT,iT,iT,iT,ty26],[⟨.ret,[sI,.s (.one (.d .bool))],[iT,.bool]⟩,⟨.exit 0,[],[]⟩],Pw.unc5 (Pw.j1g)⟩]
 modes:=[(181,[false,false,false]),(400,[false])]
 keep:=[(0,⟨[3,10,11,12],[192],[⟨1000000,248,ty21,[.slot 10],false⟩],[]⟩)]
 keepX:=[(0,.ret,⟨[4,5],[],[],[]⟩),
  (0,.exit 0,⟨[],[],[],[]⟩)]
 ro:=[false,false]
theorem jd5:Con.OK Tryz.prog j5Q:=
 cOf j0r j04 je3 j5Q Tryz.func358 (j9 jcl (j9 jgv trivial)) (j9 (fun h=>by kernel_rfl) trivial)
def j5R:Con:=⟨318,[.v ty28,.v ty72,.v iT],[ty28,ty72,iT],⟨[.v iT,.v .bool],[]⟩,[iT,.bool],Pw.unc3 Pw.j1c⟩
def je4:FnD where
 N:=50
 np:=3
 cs:=[j7w,j5Q]
 ds:=[]
 modes:=[(357,[false]),(358,[false,false])]
 ro:=[false,false]
 dw:=[(5,[[],[],[],[],[],[],[],[],[512]])]
theorem jd6:Con.OK Tryz.prog j5R:=
 cOf j0r j04 je4 j5R Tryz.func318 (j9 je1 (j9 jd5 trivial)) trivial
def j5n:Con:=⟨252,[.v ty28,.v iT],[ty28,iT],⟨[.v iT],[]⟩,[iT],Pw.unc2 Pw.j2H⟩
def jd7:FnD where
 N:=10
 np:=2
 cs:=[j42,j3J]
 ds:=[]
 modes:=[(264,[false,false]),(265,[false,false])]
 ro:=[false]
theorem jcm:Con.OK Tryz.prog j5n:=
 cOf j0r j04 jd7 j5n Tryz.func252 (j9 j93 (j9 j8n trivial)) trivial
def j9O:Con:=⟨251,[.v iT],[iT],⟨[.v ty8],[]⟩,[ty8],fun h=>Pw.jca h⟩
def jki:FnD where
 N:=17
 np:=1
 cs:=[]
 ds:=[]
 ro:=[false]
theorem jiT:Con.OK Tryz.prog j9O:=
 cOf j0r j04 jki j9O Tryz.func251 trivial trivial
def j43:Con:=⟨172,[.v ty28,.v iT],[ty28,iT],⟨[.v ty8],[]⟩,[ty8],Pw.unc2 Pw.j0y⟩
def je5:FnD where
 N:=11
 np:=2
 cs:=[j5n,j9O]
 ds:=[]
 modes:=[(251,[false]),(252,[false,false])]
 ro:=[false]
theorem j94:Con.OK Tryz.prog j43:=
 cOf j0r j04 je5 j43 Tryz.func172 (j9 jcm (j9 jiT trivial)) trivial
def j7n:Con:=⟨317,[.v ty28,.v ty72,.v iT],[ty28,ty72,iT],⟨[.v iT],[]⟩,[iT],Pw.unc3 Pw.j22⟩
def jgw:FnD where
 N:=84
 np:=3
 cs:=[j7w,j5R,j43]
 ds:=[⟨0,[sI,.s (.one (.bp 192 0)),.s (.one (.bp 256 0)),sI,.b (.cell [.d iT,.d ty13] false),.b (.cell [.d .str,.d iT,.d iT,.d iT,.d iT,.d iT,.d (.list iT),.d ty13,.d iT,.d iT] false)],[iT,iT,iT,ty13,.str,iT,iT,iT,iT,iT,(.list iT),ty13,iT,iT],[⟨.exit 0,[sI,.s (.one (.bp 192 0)),.s (.one (.bp 256 0)),sI,.b (.cell [.d iT,.d ty13] false),.b (.cell [.d .str,.d iT,.d iT,.d iT,.d iT,.d iT,.d (.list iT),.d ty13,.d iT,.d iT] false)],[iT,iT,iT,ty13,.str,iT,iT,iT,iT,iT,(.list iT),ty13,iT,iT]⟩],Pw.jpR (Pw.j1l)⟩,
  ⟨2,[sI,.s (.one (.bp 192 0)),.s (.one (.bp 256 0)),sI,.b (.cell [.d iT,.d ty13] false),.b (.cell [.d .str,.d iT,.d iT,.d iT,.d iT,.d iT,.d (.list iT),.d ty13,.d iT,.d iT] false)],[iT,iT,iT,ty13,.str,iT,iT,iT,iT,iT,(.list iT),ty13,iT,iT],[⟨.ret,[sI],[iT]⟩],Pw.jpR (Pw.j1K)⟩]
 modes:=[(172,[false,false]),(318,[false,false,false]),(357,[false])]
 keep:=[(0,⟨[2,3,4,9],[192,256],[],[]⟩),
  (2,⟨[2,3,4,9],[192,256],[],[]⟩)]
 keepX:=[(0,.exit 0,⟨[2,3,4,9],[192,256],[],[]⟩),
  (2,.ret,⟨[6],[],[],[]⟩)]
 ro:=[false]
theorem jf4:Con.OK Tryz.prog j7n:=
 cOf j0r j04 jgw j7n Tryz.func317 (j9 je1 (j9 jd6 (j9 j94 trivial))) (j9 (fun h=>by kernel_rfl) (j9 (fun h=>by kernel_rfl) trivial))
def j7o:Con:=⟨171,[.v ty8],[ty8],⟨[.v iT],[]⟩,[iT],fun h=>Pw.j39 h⟩
def jgx:FnD where
 N:=10
 np:=1
 cs:=[j5x]
 ds:=[]
 modes:=[(250,[false])]
 ro:=[false]
theorem jf5:Con.OK Tryz.prog j7o:=
 cOf j0r j04 jgx j7o Tryz.func171 (j9 jb7 trivial) trivial
def jbT:Con:=⟨170,[.v ty13,.v iT],[ty13,iT],⟨[.v .bool],[]⟩,[.bool],Pw.unc2 Pw.jaH⟩
def jn3:FnD where
 N:=24
 np:=2
 cs:=[]
 ds:=[⟨0,[sI,.s (.one (.d ty13)),sI,sI],[iT,ty13,iT,iT],[⟨.ret,[.s (.one (.d .bool))],[.bool]⟩,⟨.exit 0,[],[]⟩],Pw.unc4 (Pw.j4A)⟩]
 keep:=[(0,⟨[1,7,8,9],[],[],[]⟩)]
 keepX:=[(0,.ret,⟨[4],[],[],[]⟩),
  (0,.exit 0,⟨[],[],[],[]⟩)]
 ro:=[false]
theorem jlo:Con.OK Tryz.prog jbT:=
 cOf j0r j04 jn3 jbT Tryz.func170 trivial (j9 (fun h=>by kernel_rfl) trivial)
def j7p:Con:=⟨367,[.v iT],[iT],⟨[.v .bool],[]⟩,[.bool],fun h=>Pw.j8t h⟩
def jgy:FnD where
 N:=6
 np:=1
 cs:=[]
 ds:=[]
 ro:=[false]
theorem jf6:Con.OK Tryz.prog j7p:=
 cOf j0r j04 jgy j7p Tryz.func367 trivial trivial
def j8e:Con:=⟨320,[.v iT,.v iT],[iT,iT],⟨[.v .bool],[]⟩,[.bool],Pw.unc2 Pw.j9A⟩
def jhe:FnD where
 N:=17
 np:=2
 cs:=[j7p]
 ds:=[]
 modes:=[(367,[false])]
 ro:=[false]
theorem jgz:Con.OK Tryz.prog j8e:=
 cOf j0r j04 jhe j8e Tryz.func320 (j9 jf6 trivial) trivial
def j5S:Con:=⟨321,[.v iT],[iT],⟨[.v .bool],[]⟩,[.bool],fun h=>Pw.j66 h⟩
def je6:FnD where
 N:=6
 np:=1
 cs:=[]
 ds:=[]
 ro:=[false]
theorem jd8:Con.OK Tryz.prog j5S:=
 cOf j0r j04 je6 j5S Tryz.func321 trivial trivial
def j2L:Con:=⟨253,[.v (.list iT),.v iT],[(.list iT),iT],⟨[.v iT,.v .bool],[]⟩,[iT,.bool],Pw.unc2 Pw.j0C⟩
def j8f:FnD where
 N:=54
 np:=2
 cs:=[j8e,j5S]
 ds:=[⟨0,[.s (.one (.d (.list iT))),sI,sI,sI,sI],[(.list iT),iT,iT,iT,iT],[⟨.exit 0,[.s (.one (.d (.list iT))),sI,sI,sI],[(.list iT),iT,iT,iT]⟩],Pw.unc5 (Pw.j1s)⟩]
 modes:=[(320,[false,false]),(321,[false])]
 keep:=[(0,⟨[0,1,6,7,8],[],[],[]⟩)]
 keepX:=[(0,.exit 0,⟨[0,1,6,7],[],[],[]⟩)]
 ro:=[false,false]
theorem j7R:Con.OK Tryz.prog j2L:=
 cOf j0r j04 j8f j2L Tryz.func253 (j9 jgz (j9 jd8 trivial)) (j9 (fun h=>by kernel_rfl) trivial)
def j8g:Con:=⟨249,[.v ty86,.v ty72,.v iT],[ty86,ty72,iT],⟨[.v iT,.v .bool],[]⟩,[iT,.bool],Pw.unc3 Pw.j3g⟩
def jhf:FnD where
 N:=79
 np:=3
 cs:=[j43,j7n,j7o,jbT,j2L]
 ds:=[]
 modes:=[(170,[false,false]),(171,[false]),(172,[false,false]),(253,[false,false]),(317,[false,false,false])]
 ro:=[false,false]
theorem jgA:Con.OK Tryz.prog j8g:=
 cOf j0r j04 jhf j8g Tryz.func249 (j9 j94 (j9 jf4 (j9 jf5 (j9 jlo (j9 j7R trivial))))) trivial
def j5T:Con:=⟨169,[.v ty86,.v ty72,.v iT],[ty86,ty72,iT],⟨[.v iT],[]⟩,[iT],Pw.unc3 Pw.j1w⟩
def je7:FnD where
 N:=27
 np:=3
 cs:=[j8g]
 ds:=[]
 modes:=[(249,[false,false,false])]
 ro:=[false]
theorem jd9:Con.OK Tryz.prog j5T:=
 cOf j0r j04 je7 j5T Tryz.func169 (j9 jgA trivial) trivial
def j7q:Con:=⟨167,[.v ty42,.ip [iT],.ip [iT]],[ty42,iT,iT],⟨[.v .bool],[]⟩,[.bool],Pw.unc3 Pw.jaI⟩
def jgB:FnD where
 N:=26
 np:=3
 cs:=[]
 ds:=[]
 ro:=[false]
theorem jf7:Con.OK Tryz.prog j7q:=
 cOf j0r j04 jgB j7q Tryz.func167 trivial trivial
def j1Q:Con:=⟨247,[.v ty44,.clo 167 [.p [iT],.p [iT]]],[ty44,iT,iT],⟨[.v iT],[]⟩,[iT],Pw.unc3 Pw.j0J⟩
def j63:FnD where
 N:=19
 np:=2
 cs:=[j7q]
 ds:=[⟨0,[.s (.one (.d ty44)),.s (.one (.clo 167 [.p [iT],.p [iT]])),sI,sI],[ty44,iT,iT,iT,iT],[⟨.ret,[sI],[iT]⟩,⟨.exit 0,[],[]⟩],Pw.unc5 (Pw.j0G)⟩]
 modes:=[(167,[false])]
 keep:=[(0,⟨[0,1,7,8],[],[],[]⟩)]
 keepX:=[(0,.ret,⟨[4],[],[],[]⟩),
  (0,.exit 0,⟨[],[],[],[]⟩)]
 ro:=[false]
theorem j5U:Con.OK Tryz.prog j1Q:=
 cOf j0r j04 j63 j1Q Tryz.func247 (j9 jf7 trivial) (j9 (fun h=>by kernel_rfl) trivial)
end Go.Proofs.Pk
