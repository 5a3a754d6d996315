/- Contracts: each given function is its plain function, printed by a program. -/
import Derived.Test.YtpbnnhakjhalaaaGreatSLCon3
noncomputable section
open Go Go.Lft
set_option linter.unusedVariables false
set_option maxRecDepth 100000
namespace Go.Proofs.Pk
def j4R:Con:=⟨175,[.v ty13],[ty13],⟨[.own 77 ty13],[]⟩,[ty13],fun h=>Pw.j6A h⟩
def jm6:FnD where
 N:=54
 np:=1
 cs:=[j3B,j1L,j1y]
 ds:=[⟨0,[.s (.one (.ol 1000000)),.s (.one (.ol 1000001)),sI,sI,.b (.lst 77 ty8 false),.b (.lst 77 ty8 false)],[iT,iT,ty13,ty13],[⟨.exit 0,[.s (.one (.ol 1500100)),.b (.lst 77 ty8 false)],[ty13]⟩],Pw.unc4 (Pw.jas)⟩]
 modes:=[(254,[true,false]),(255,[false]),(257,[true,false])]
 keep:=[(0,⟨[4,13,14,15],[],[⟨1000000,77,ty8,[.slot 4],false⟩,⟨1000001,77,ty8,[.slot 13],false⟩],[]⟩)]
 keepX:=[(0,.exit 0,⟨[4],[],[⟨1500100,77,ty8,[.slot 4],false⟩],[]⟩)]
 ro:=[true]
 dw:=[(9,[[],[],[],[],[],[],[],[],[],[],[],[],[],[],[1000000]])]
theorem j97:Con.OK Tryz.prog j4R:=
 cOf j0l j04 jm6 j4R Tryz.func175 (j9 j70 (j9 j5E (j9 j3n trivial))) (j9 (fun h=>by kernel_rfl) trivial)
def j8D:Con:=⟨96,[.v ty28,.v ty13,.v iT,.v iT],[ty28,ty13,iT,iT],⟨[.own 77 ty13],[]⟩,[ty13],Pw.unc4 Pw.j81⟩
def jiR:FnD where
 N:=73
 np:=4
 cs:=[j2W,j4R]
 ds:=[⟨0,[.s (.one (.d ty13)),.s (.one (.ol 1000000)),.s (.one (.ol 1000001)),sI,sI,.b (.lst 77 ty8 false),.b (.lst 248 ty21 false)],[ty13,iT,iT,ty13,ty26],[⟨.exit 0,[.s (.one (.ol 1500100)),.b (.lst 77 ty8 false)],[ty13]⟩],Pw.unc5 (Pw.j3c)⟩,
  ⟨2,[.s (.one (.d ty13)),.s (.one (.ol 1002000)),.s (.one (.bp 704 0)),sI,.s (.one (.ol 1002001)),sI,sI,.b (.cell [.d iT,.d iT,.d iT] false),.b (.lst 77 ty8 false),.b (.lst 248 ty21 false)],[ty13,iT,iT,iT,iT,iT,iT,ty13,ty26],[⟨.exit 2,[.s (.one (.d ty13)),.s (.one (.ol 1502300)),.s (.one (.ol 1502301)),sI,sI,.b (.lst 77 ty8 false),.b (.lst 248 ty21 false)],[ty13,iT,iT,ty13,ty26]⟩],Pw.unc9 (Pw.j3b)⟩,
  ⟨4,[.s (.one (.d ty13)),.s (.one (.ol 1004000)),.s (.one (.bp 704 0)),sI,.s (.one (.ol 1004001)),sI,sI,.s (.one (.d ty13)),sI,sI,.b (.cell [.d iT,.d iT,.d iT] false),.b (.lst 77 ty8 false),.b (.lst 248 ty21 false)],[ty13,iT,iT,iT,ty13,iT,iT,iT,iT,iT,ty13,ty26],[⟨.exit 4,[.s (.one (.d ty13)),.s (.one (.ol 1504500)),.s (.one (.bp 704 0)),sI,.s (.one (.ol 1504501)),sI,sI,.b (.cell [.d iT,.d iT,.d iT] false),.b (.lst 77 ty8 false),.b (.lst 248 ty21 false)],[ty13,iT,iT,iT,iT,iT,iT,ty13,ty26]⟩],Pw.jrO (Pw.j8R)⟩]
 modes:=[(175,[false]),(181,[false,false,false])]
 keep:=[(0,⟨[1,9,19,20,21],[],[⟨1000000,77,ty8,[.slot 9],false⟩,⟨1000001,248,ty21,[.slot 19],false⟩],[]⟩),
  (2,⟨[1,9,11,13,19,20,21],[704],[⟨1002000,77,ty8,[.slot 9],false⟩,⟨1002001,248,ty21,[.slot 19],false⟩],[]⟩),
  (4,⟨[1,9,11,13,19,20,21,45,46,47],[704],[⟨1004000,77,ty8,[.slot 9],false⟩,⟨1004001,248,ty21,[.slot 19],false⟩],[]⟩)]
 keepX:=[(0,.exit 0,⟨[9],[],[⟨1500100,77,ty8,[.slot 9],false⟩],[]⟩),
  (2,.exit 2,⟨[1,9,19,20,21],[],[⟨1502300,77,ty8,[.slot 9],false⟩,⟨1502301,248,ty21,[.slot 19],false⟩],[]⟩),
  (4,.exit 4,⟨[1,9,11,13,19,20,21],[704],[⟨1504500,77,ty8,[.slot 9],false⟩,⟨1504501,248,ty21,[.slot 19],false⟩],[]⟩)]
 ro:=[true]
theorem jia:Con.OK Tryz.prog j8D:=
 cOf j0l j04 jiR j8D Tryz.func96 (j9 j5V (j9 j97 trivial)) (j9 (fun h=>by kernel_rfl) (j9 (fun h=>by kernel_rfl) (j9 (fun h=>by kernel_rfl) trivial)))
def j71:Con:=⟨356,[.v ty86,.v ty24,.v iT,.v iT],[ty86,ty24,iT,iT],⟨[.own 77 ty13],[]⟩,[ty13],Pw.unc4 Pw.j3p⟩
def jgE:FnD where
 N:=58
 np:=4
 cs:=[j2W,j4R]
 ds:=[⟨0,[.s (.one (.bp 320 0)),.s (.one (.ol 1000000)),.s (.one (.ol 1000001)),sI,sI,.b (.cell [.d .str,.d iT,.d (.list iT)] false),.b (.lst 77 ty8 false),.b (.lst 248 ty21 false)],[iT,iT,.str,iT,(.list iT),ty13,ty26],[⟨.exit 0,[.s (.one (.ol 1500100)),.b (.lst 77 ty8 false)],[ty13]⟩],Pw.unc7 (Pw.j2H)⟩,
  ⟨2,[.s (.one (.bp 320 0)),.s (.one (.ol 1002000)),.s (.one (.bp 704 0)),.s (.one (.ol 1002001)),sI,sI,.s (.one (.d (.list iT))),sI,sI,.b (.cell [.d .str,.d iT,.d (.list iT)] false),.b (.cell [.d iT,.d iT,.d iT] false),.b (.lst 77 ty8 false),.b (.lst 248 ty21 false)],[iT,iT,(.list iT),iT,iT,.str,iT,(.list iT),iT,iT,iT,ty13,ty26],[⟨.exit 2,[.s (.one (.bp 320 0)),.s (.one (.ol 1502300)),.s (.one (.ol 1502301)),sI,sI,.b (.cell [.d .str,.d iT,.d (.list iT)] false),.b (.lst 77 ty8 false),.b (.lst 248 ty21 false)],[iT,iT,.str,iT,(.list iT),ty13,ty26]⟩],Pw.jrP (Pw.j7k)⟩]
 modes:=[(175,[false]),(181,[false,false,false])]
 keep:=[(0,⟨[5,9,23,24,25],[320],[⟨1000000,77,ty8,[.slot 9],false⟩,⟨1000001,248,ty21,[.slot 23],false⟩],[]⟩),
  (2,⟨[5,9,11,23,24,25,30,31,32],[320,704],[⟨1002000,77,ty8,[.slot 9],false⟩,⟨1002001,248,ty21,[.slot 23],false⟩],[]⟩)]
 keepX:=[(0,.exit 0,⟨[9],[],[⟨1500100,77,ty8,[.slot 9],false⟩],[]⟩),
  (2,.exit 2,⟨[5,9,23,24,25],[320],[⟨1502300,77,ty8,[.slot 9],false⟩,⟨1502301,248,ty21,[.slot 23],false⟩],[]⟩)]
 ro:=[true]
theorem jg3:Con.OK Tryz.prog j71:=
 cOf j0l j04 jgE j71 Tryz.func356 (j9 j5V (j9 j97 trivial)) (j9 (fun h=>by kernel_rfl) (j9 (fun h=>by kernel_rfl) trivial))
def j4L:Con:=⟨242,[.v ty13,.v ty13],[ty13,ty13],⟨[.own 77 ty13],[]⟩,[ty13],Pw.unc2 Pw.j3N⟩
def jiS:FnD where
 N:=89
 np:=2
 cs:=[]
 ds:=[⟨0,[.s (.one (.d ty13)),.s (.one (.ol 1000000)),sI,.s (.one (.d ty13)),sI,sI,.b (.lst 77 ty8 false)],[ty13,iT,ty13,iT,iT,ty13],[⟨.exit 0,[.s (.one (.ol 1500100)),.b (.lst 77 ty8 false)],[ty13]⟩],Pw.unc6 (Pw.j3d)⟩,
  ⟨2,[.s (.one (.d ty13)),.s (.one (.ol 1002000)),sI,.s (.one (.bp 512 0)),.s (.one (.d ty13)),sI,sI,.b (.cell [.d iT,.d iT] false),.b (.lst 77 ty8 false)],[ty13,iT,ty13,iT,iT,iT,iT,ty13],[⟨.exit 2,[.s (.one (.d ty13)),.s (.one (.ol 1502300)),sI,.s (.one (.bp 512 0)),.s (.one (.d ty13)),sI,sI,.b (.cell [.d iT,.d iT] false),.b (.lst 77 ty8 false)],[ty13,iT,ty13,iT,iT,iT,iT,ty13]⟩],Pw.unc8 (Pw.j8S)⟩,
  ⟨4,[.s (.one (.d ty13)),.s (.one (.ol 1004000)),sI,.s (.one (.bp 512 0)),sI,sI,.s (.one (.d ty13)),sI,sI,.b (.cell [.d iT,.d iT] false),.b (.lst 77 ty8 false)],[ty13,iT,iT,iT,ty13,iT,iT,iT,iT,ty13],[⟨.exit 4,[.s (.one (.d ty13)),.s (.one (.ol 1504500)),sI,.s (.one (.bp 512 0)),sI,.s (.one (.d ty13)),sI,sI,.b (.cell [.d iT,.d iT] false),.b (.lst 77 ty8 false)],[ty13,iT,iT,ty13,iT,iT,iT,iT,ty13]⟩],Pw.jrM (Pw.j8T)⟩]
 keep:=[(0,⟨[1,5,6,11,12,13],[],[⟨1000000,77,ty8,[.slot 5],false⟩],[]⟩),
  (2,⟨[1,5,6,8,11,12,13],[512],[⟨1002000,77,ty8,[.slot 5],false⟩],[]⟩),
  (4,⟨[1,5,6,8,9,10,11,12,13],[512],[⟨1004000,77,ty8,[.slot 5],false⟩],[]⟩)]
 keepX:=[(0,.exit 0,⟨[5],[],[⟨1500100,77,ty8,[.slot 5],false⟩],[]⟩),
  (2,.exit 2,⟨[1,5,6,8,11,12,13],[512],[⟨1502300,77,ty8,[.slot 5],false⟩],[]⟩),
  (4,.exit 4,⟨[1,5,6,8,9,11,12,13],[512],[⟨1504500,77,ty8,[.slot 5],false⟩],[]⟩)]
 ro:=[true]
theorem j9R:Con.OK Tryz.prog j4L:=
 cOf j0l j04 jiS j4L Tryz.func242 trivial (j9 (fun h=>by kernel_rfl) (j9 (fun h=>by kernel_rfl) (j9 (fun h=>by kernel_rfl) trivial)))
def j9S:Con:=⟨95,[.v ty13,.v ty13],[ty13,ty13],⟨[.own 77 ty13],[]⟩,[ty13],Pw.unc2 Pw.j7C⟩
def jkJ:FnD where
 N:=67
 np:=2
 cs:=[]
 ds:=[⟨0,[.s (.one (.d ty13)),.s (.one (.d ty13)),.s (.one (.ol 1000000)),sI,sI,.b (.lst 77 ty8 false)],[ty13,ty13,iT,iT,ty13],[⟨.exit 0,[.s (.one (.ol 1500100)),.b (.lst 77 ty8 false)],[ty13]⟩],Pw.unc5 (Pw.j9w)⟩]
 keep:=[(0,⟨[0,1,5,6,7],[],[⟨1000000,77,ty8,[.slot 5],false⟩],[]⟩)]
 keepX:=[(0,.exit 0,⟨[5],[],[⟨1500100,77,ty8,[.slot 5],false⟩],[]⟩)]
 ro:=[true]
 dw:=[(4,[[],[],[],[],[],[],[],[],[],[],[],[],[],[],[],[],[],[],[],[],[],[],[],[512],[512]])]
theorem jiT:Con.OK Tryz.prog j9S:=
 cOf j0l j04 jkJ j9S Tryz.func95 trivial (j9 (fun h=>by kernel_rfl) trivial)
def j6q:Con:=⟨316,[.v ty86,.v ty72,.v iT,.v iT],[ty86,ty72,iT,iT],⟨[.own 77 ty13],[]⟩,[ty13],Pw.unc4 Pw.j5d⟩
def jg4:FnD where
 N:=90
 np:=4
 cs:=[j3e,j8D,j71,j4L,j9S]
 ds:=[]
 modes:=[(95,[false,false]),(96,[false,false,false,false]),(242,[false,false]),(318,[false,false,false]),(356,[false,false,false,false])]
 ro:=[true]
 dw:=[(7,[[],[],[],[],[],[],[],[],[],[],[3584],[]]),(10,[[],[],[],[],[],[],[],[],[],[],[],[4608],[4672],[]]),(12,[[],[],[],[],[],[],[],[],[],[],[],[5568],[5632],[]])]
theorem jfg:Con.OK Tryz.prog j6q:=
 cOf j0l j04 jg4 j6q Tryz.func316 (j9 j6p (j9 jia (j9 jg3 (j9 j9R (j9 jiT trivial))))) trivial
def j5r:Con:=⟨252,[.v ty28,.v iT],[ty28,iT],⟨[.v iT],[]⟩,[iT],Pw.unc2 Pw.j2K⟩
def jee:FnD where
 N:=10
 np:=2
 cs:=[j4f,j3V]
 ds:=[]
 modes:=[(264,[false,false]),(265,[false,false])]
 ro:=[false]
theorem jdu:Con.OK Tryz.prog j5r:=
 cOf j0l j04 jee j5r Tryz.func252 (j9 j9Q (j9 j8W trivial)) trivial
def jaK:Con:=⟨251,[.v iT],[iT],⟨[.v ty8],[]⟩,[ty8],fun h=>Pw.jdj h⟩
def jm7:FnD where
 N:=17
 np:=1
 cs:=[]
 ds:=[]
 ro:=[false]
theorem jkK:Con.OK Tryz.prog jaK:=
 cOf j0l j04 jm7 jaK Tryz.func251 trivial trivial
def j4g:Con:=⟨172,[.v ty28,.v iT],[ty28,iT],⟨[.v ty8],[]⟩,[ty8],Pw.unc2 Pw.j0y⟩
def jfh:FnD where
 N:=11
 np:=2
 cs:=[j5r,jaK]
 ds:=[]
 modes:=[(251,[false]),(252,[false,false])]
 ro:=[false]
theorem j9T:Con.OK Tryz.prog j4g:=
 cOf j0l j04 jfh j4g Tryz.func172 (j9 jdu (j9 jkK trivial)) trivial
def j5F:Con:=⟨317,[.v ty28,.v ty72,.v iT],[ty28,ty72,iT],⟨[.v iT],[]⟩,[iT],Pw.unc3 Pw.j1T⟩
def jib:FnD where
 N:=84
 np:=3
 cs:=[j7Q,j3e,j4g]
 ds:=[⟨0,[sI,.s (.one (.bp 192 0)),.s (.one (.bp 256 0)),sI,.b (.cell [.d iT,.d ty13] false),.b (.cell [.d .str,.d iT,.d iT,.d iT,.d iT,.d iT,.d (.list iT),.d ty13,.d iT,.d iT] false)],[iT,iT,iT,ty13,.str,iT,iT,iT,iT,iT,(.list iT),ty13,iT,iT],[⟨.exit 0,[sI,.s (.one (.bp 192 0)),.s (.one (.bp 256 0)),sI,.b (.cell [.d iT,.d ty13] false),.b (.cell [.d .str,.d iT,.d iT,.d iT,.d iT,.d iT,.d (.list iT),.d ty13,.d iT,.d iT] false)],[iT,iT,iT,ty13,.str,iT,iT,iT,iT,iT,(.list iT),ty13,iT,iT]⟩],Pw.jlS (Pw.j1k)⟩,
  ⟨2,[sI,.s (.one (.bp 192 0)),.s (.one (.bp 256 0)),sI,.b (.cell [.d iT,.d ty13] false),.b (.cell [.d .str,.d iT,.d iT,.d iT,.d iT,.d iT,.d (.list iT),.d ty13,.d iT,.d iT] false)],[iT,iT,iT,ty13,.str,iT,iT,iT,iT,iT,(.list iT),ty13,iT,iT],[⟨.ret,[sI],[iT]⟩],Pw.jlS (Pw.j1K)⟩]
 modes:=[(172,[false,false]),(318,[false,false,false]),(357,[false])]
 keep:=[(0,⟨[2,3,4,9],[192,256],[],[]⟩),
  (2,⟨[2,3,4,9],[192,256],[],[]⟩)]
 keepX:=[(0,.exit 0,⟨[2,3,4,9],[192,256],[],[]⟩),
  (2,.ret,⟨[6],[],[],[]⟩)]
 ro:=[false]
theorem jca:Con.OK Tryz.prog j5F:=
 cOf j0l j04 jib j5F Tryz.func317 (j9 jfc (j9 j6p (j9 j9T trivial))) (j9 (fun h=>by kernel_rfl) (j9 (fun h=>by kernel_rfl) trivial))
def j7R:Con:=⟨246,[.v ty26],[ty26],⟨[.own 181 ty26],[]⟩,[ty26],fun h=>Pw.j9e h⟩
def jm8:FnD where
 N:=57
 np:=1
 cs:=[]
 ds:=[⟨0,[.s (.one (.ol 1000000)),.s (.one (.d ty26)),sI,sI,.b (.lst 181 ty21 false)],[ty26,iT,iT,ty26],[⟨.exit 0,[.s (.one (.ol 1500100)),.b (.lst 181 ty21 false)],[ty26]⟩],Pw.unc4 (Pw.jat)⟩]
 keep:=[(0,⟨[3,7,8,9],[],[⟨1000000,181,ty21,[.slot 3],false⟩],[]⟩)]
 keepX:=[(0,.exit 0,⟨[3],[],[⟨1500100,181,ty21,[.slot 3],false⟩],[]⟩)]
 ro:=[true]
theorem jfi:Con.OK Tryz.prog j7R:=
 cOf j0l j04 jm8 j7R Tryz.func246 trivial (j9 (fun h=>by kernel_rfl) trivial)
def j4T:Con:=⟨241,[.v ty86,.v ty72,.v iT,.v iT],[ty86,ty72,iT,iT],⟨[.own 181 ty26],[]⟩,[ty26],Pw.unc4 Pw.j3O⟩
def jdv:FnD where
 N:=95
 np:=4
 cs:=[j3e,j6q,j5F,j7R]
 ds:=[⟨0,[sI,.s (.one (.bp 320 0)),.s (.one (.ol 1000000)),.s (.one (.bp 640 0)),sI,sI,sI,.s (.one (.ol 1000001)),sI,sI,.b (.cell [.d .str,.d iT,.d iT,.d iT,.d iT,.d iT,.d (.list iT),.d ty13,.d iT,.d iT] false),.b (.cell [.d iT,.d ty13] false),.b (.lst 181 ty21 false),.b (.lst 77 ty8 false)],[iT,iT,iT,iT,iT,iT,.str,iT,iT,iT,iT,iT,(.list iT),ty13,iT,iT,iT,ty13,ty26,ty13],[⟨.exit 0,[sI,.s (.one (.ol 1500100)),sI,.b (.lst 181 ty21 false)],[iT,iT,ty26]⟩],Pw.jtK (Pw.j20)⟩,
  ⟨2,[sI,.s (.one (.bp 320 0)),.s (.one (.ol 1002000)),.s (.one (.bp 640 0)),sI,sI,sI,.s (.one (.bp 960 0)),.s (.one (.ol 1002001)),sI,sI,.b (.cell [.d .str,.d iT,.d iT,.d iT,.d iT,.d iT,.d (.list iT),.d ty13,.d iT,.d iT] false),.b (.cell [.d iT,.d ty13] false),.b (.cell [.d iT,.d iT] false),.b (.lst 181 ty21 false),.b (.lst 77 ty8 false)],[iT,iT,iT,iT,iT,iT,.str,iT,iT,iT,iT,iT,(.list iT),ty13,iT,iT,iT,ty13,iT,iT,ty26,ty13],[⟨.exit 2,[sI,.s (.one (.bp 320 0)),.s (.one (.ol 1502300)),.s (.one (.bp 640 0)),sI,sI,sI,.s (.one (.ol 1502301)),sI,sI,.b (.cell [.d .str,.d iT,.d iT,.d iT,.d iT,.d iT,.d (.list iT),.d ty13,.d iT,.d iT] false),.b (.cell [.d iT,.d ty13] false),.b (.lst 181 ty21 false),.b (.lst 77 ty8 false)],[iT,iT,iT,iT,iT,iT,.str,iT,iT,iT,iT,iT,(.list iT),ty13,iT,iT,iT,ty13,ty26,ty13]⟩],Pw.jtL (Pw.j1Z)⟩]
 modes:=[(246,[false]),(316,[false,false,false,false]),(317,[false,false,false]),(318,[false,false,false])]
 keep:=[(0,⟨[3,5,9,10,11,12,13,30,31,32],[320,640],[⟨1000000,181,ty21,[.slot 9],false⟩,⟨1000001,77,ty8,[.slot 30],false⟩],[]⟩),
  (2,⟨[3,5,9,10,11,12,13,15,30,31,32],[320,640,960],[⟨1002000,181,ty21,[.slot 9],false⟩,⟨1002001,77,ty8,[.slot 30],false⟩],[]⟩)]
 keepX:=[(0,.exit 0,⟨[3,9,11],[],[⟨1500100,181,ty21,[.slot 9],false⟩],[]⟩),
  (2,.exit 2,⟨[3,5,9,10,11,12,13,30,31,32],[320,640],[⟨1502300,181,ty21,[.slot 9],false⟩,⟨1502301,77,ty8,[.slot 30],false⟩],[]⟩)]
 ro:=[true]
 dw:=[(17,[[],[],[],[],[],[],[],[],[],[],[],[],[],[5376],[5440,1002000],[]])]
theorem jcY:Con.OK Tryz.prog j4T:=
 cOf j0l j04 jdv j4T Tryz.func241 (j9 j6p (j9 jfg (j9 jca (j9 jfi trivial)))) (j9 (fun h=>by kernel_rfl) (j9 (fun h=>by kernel_rfl) trivial))
def j8E:Con:=⟨315,[.v ty77,.v iT],[ty77,iT],⟨[.own 77 ty13],[]⟩,[ty13],Pw.unc2 Pw.j82⟩
def jiU:FnD where
 N:=35
 np:=2
 cs:=[j4R]
 ds:=[⟨0,[sI,.s (.one (.ol 1000000)),.s (.one (.d ty44)),sI,sI,.b (.lst 77 ty8 false)],[iT,ty44,iT,iT,ty13],[⟨.exit 0,[.s (.one (.ol 1500100)),.b (.lst 77 ty8 false)],[ty13]⟩],Pw.unc5 (Pw.j8U)⟩]
 modes:=[(175,[false])]
 keep:=[(0,⟨[1,5,9,10,11],[],[⟨1000000,77,ty8,[.slot 5],false⟩],[]⟩)]
 keepX:=[(0,.exit 0,⟨[5],[],[⟨1500100,77,ty8,[.slot 5],false⟩],[]⟩)]
 ro:=[true]
theorem jic:Con.OK Tryz.prog j8E:=
 cOf j0l j04 jiU j8E Tryz.func315 (j9 j97 trivial) (j9 (fun h=>by kernel_rfl) trivial)
def j7J:Con:=⟨240,[.v ty77,.v ty26],[ty77,ty26],⟨[.own 181 ty26],[]⟩,[ty26],Pw.unc2 Pw.j6P⟩
def jid:FnD where
 N:=68
 np:=2
 cs:=[j4L,j8E]
 ds:=[⟨0,[.s (.one (.bp 128 0)),.s (.one (.ol 1000000)),.s (.one (.ol 1000001)),.s (.one (.d ty26)),sI,sI,.b (.cell [.d .str,.d ty73,.d ty44] false),.b (.lst 4294967645 ty28 false),.b (.lst 181 ty21 false)],[ty26,iT,iT,.str,ty73,ty44,ty33,ty26],[⟨.exit 0,[.s (.one (.ol 1500100)),.b (.lst 181 ty21 false)],[ty26]⟩],Pw.unc8 (Pw.j2T)⟩,
  ⟨2,[.s (.one (.bp 128 0)),.s (.one (.ol 1002000)),.s (.one (.ol 1002001)),.s (.one (.bp 512 0)),.s (.one (.d ty26)),sI,sI,.s (.one (.ol 1002002)),sI,sI,.b (.cell [.d .str,.d ty73,.d ty44] false),.b (.cell [.d iT,.d iT,.d iT] false),.b (.lst 4294967645 ty28 false),.b (.lst 181 ty21 false),.b (.lst 77 ty8 false)],[ty26,iT,iT,iT,iT,.str,ty73,ty44,iT,iT,iT,ty33,ty26,ty13],[⟨.exit 2,[.s (.one (.bp 128 0)),.s (.one (.ol 1502300)),.s (.one (.ol 1502301)),.s (.one (.d ty26)),sI,sI,.b (.cell [.d .str,.d ty73,.d ty44] false),.b (.lst 4294967645 ty28 false),.b (.lst 181 ty21 false)],[ty26,iT,iT,.str,ty73,ty44,ty33,ty26]⟩],Pw.jlS (Pw.j83)⟩]
 modes:=[(242,[false,false]),(315,[false,false])]
 keep:=[(0,⟨[2,5,6,14,15,16],[128],[⟨1000000,4294967645,ty28,[.slot 5],false⟩,⟨1000001,181,ty21,[.slot 6],false⟩],[]⟩),
  (2,⟨[2,5,6,8,14,15,16,49,50,51],[128,512],[⟨1002000,4294967645,ty28,[.slot 5],false⟩,⟨1002001,181,ty21,[.slot 6],false⟩,⟨1002002,77,ty8,[.slot 49],false⟩],[]⟩)]
 keepX:=[(0,.exit 0,⟨[6],[],[⟨1500100,181,ty21,[.slot 6],false⟩],[]⟩),
  (2,.exit 2,⟨[2,5,6,14,15,16],[128],[⟨1502300,4294967645,ty28,[.slot 5],false⟩,⟨1502301,181,ty21,[.slot 6],false⟩],[]⟩)]
 ro:=[true]
 dw:=[(9,[[],[],[],[],[],[],[2432],[2432,1000000]])]
theorem jgF:Con.OK Tryz.prog j7J:=
 cOf j0l j04 jid j7J Tryz.func240 (j9 j9R (j9 jic trivial)) (j9 (fun h=>by kernel_rfl) (j9 (fun h=>by kernel_rfl) trivial))
def j8F:Con:=⟨239,[.v ty26,.v ty13],[ty26,ty13],⟨[.own 181 ty26],[]⟩,[ty26],Pw.unc2 Pw.j84⟩
def jiV:FnD where
 N:=72
 np:=2
 cs:=[]
 ds:=[⟨0,[.s (.one (.d ty26)),.s (.one (.d ty13)),.s (.one (.ol 1000000)),sI,sI,.b (.lst 181 ty21 false)],[ty26,ty13,iT,iT,ty26],[⟨.exit 0,[.s (.one (.ol 1500100)),.b (.lst 181 ty21 false)],[ty26]⟩],Pw.unc5 (Pw.j8V)⟩]
 keep:=[(0,⟨[0,1,5,6,7],[],[⟨1000000,181,ty21,[.slot 5],false⟩],[]⟩)]
 keepX:=[(0,.exit 0,⟨[5],[],[⟨1500100,181,ty21,[.slot 5],false⟩],[]⟩)]
 ro:=[true]
 dw:=[(4,[[],[],[],[],[],[],[],[],[],[],[],[],[],[],[],[],[],[],[],[],[],[],[],[],[],[],[],[],[512],[512]])]
theorem jie:Con.OK Tryz.prog j8F:=
 cOf j0l j04 jiV j8F Tryz.func239 trivial (j9 (fun h=>by kernel_rfl) trivial)
def j9U:Con:=⟨243,[.v ty26],[ty26],⟨[.own 77 ty13],[]⟩,[ty13],fun h=>Pw.j9B h⟩
def jkL:FnD where
 N:=23
 np:=1
 cs:=[j4R]
 ds:=[⟨0,[.s (.one (.ol 1000000)),.s (.one (.d ty26)),sI,sI,.b (.lst 77 ty8 false)],[ty26,iT,iT,ty13],[⟨.exit 0,[.s (.one (.ol 1500100)),.b (.lst 77 ty8 false)],[ty13]⟩],Pw.unc4 (Pw.j9A)⟩]
 modes:=[(175,[false])]
 keep:=[(0,⟨[3,6,7,8],[],[⟨1000000,77,ty8,[.slot 3],false⟩],[]⟩)]
 keepX:=[(0,.exit 0,⟨[3],[],[⟨1500100,77,ty8,[.slot 3],false⟩],[]⟩)]
 ro:=[true]
theorem jiW:Con.OK Tryz.prog j9U:=
 cOf j0l j04 jkL j9U Tryz.func243 (j9 j97 trivial) (j9 (fun h=>by kernel_rfl) trivial)
def j4D:Con:=⟨245,[.v ty21,.v ty21],[ty21,ty21],⟨[.v iT],[]⟩,[iT],Pw.unc2 Pw.j4x⟩
def jcZ:FnD where
 N:=10
 np:=2
 cs:=[]
 ds:=[]
 ro:=[false]
theorem jl3:Con.OK Tryz.prog j4D:=
 cOf j0l j04 jcZ j4D Tryz.func245 trivial trivial
def j0X:Con:=⟨244,[.rl 181 ty26,.clo 245 []],[ty26],⟨[],[.rl ty26]⟩,[ty26],fun h=>Pw.j17 h⟩
def j6G:FnD where
 N:=14
 np:=2
 cs:=[j4D]
 ds:=[]
 modes:=[(245,[false,false])]
theorem j2o:Con.OK Tryz.prog j0X:=
 jo6 Tryz.sort244 (ty21) rfl 181 (by kernel_rfl) Tryz.isAgg181 Tryz.sizeOf181 _ 245 (enters_of Tryz.func245 (by kernel_rfl) rfl) jna jnb 244 rfl
def j5Z:Con:=⟨165,[.v ty86,.v ty77,.v iT,.v iT],[ty86,ty77,iT,iT],⟨[.own 181 ty26],[]⟩,[ty26],Pw.unc4 Pw.j4H⟩
def jfj:FnD where
 N:=63
 np:=4
 cs:=[j16,j4L,j7R,j4T,j7J,j8F,j9U,j0X]
 ds:=[⟨0,[sI,.s (.one (.bp 256 0)),.s (.one (.bp 320 0)),.s (.one (.bp 384 0)),.s (.one (.bp 448 0)),.s (.one (.bp 576 0)),.s (.one (.bp 640 0)),.s (.one (.clo 248 [.p [ty73]])),.b (.cell [.d ty66,.d ty56,.d ty29,.d ty78,.d ty33] false),.b (.cell [.d .str,.d ty73,.d ty44] false),.b (.cell [.d iT] false),.b (.cell [.d iT] false),.b (.cell [.ol 1000000] false),.b (.cell [.ol 1000001] false),.b (.lst 77 ty8 false),.b (.lst 181 ty21 false)],[iT,ty73,ty66,ty56,ty29,ty78,ty33,.str,ty73,ty44,iT,iT,ty13,ty26],[⟨.normal,[.s (.one (.bp 576 0)),.s (.one (.bp 640 0)),.b (.cell [.ol 1500050] false),.b (.cell [.ol 1500051] false),.b (.lst 77 ty8 false),.b (.lst 181 ty21 false)],[ty13,ty26]⟩],Pw.jlS (Pw.j2i)⟩,
  ⟨2,[.s (.one (.bp 640 0)),.s (.one (.ol 1002000)),sI,sI,.b (.cell [.ol 1002001] false),.b (.lst 77 ty8 false),.b (.lst 181 ty21 false)],[iT,iT,ty13,ty26],[⟨.exit 2,[.s (.one (.bp 640 0)),.b (.cell [.ol 1502300] false),.b (.lst 181 ty21 false)],[ty26]⟩],Pw.unc4 (Pw.j6B)⟩]
 modes:=[(168,[false]),(239,[false,false]),(240,[false,false]),(241,[false,false,false,false]),(242,[false,false]),(243,[false]),(244,[true,false]),(246,[false])]
 keep:=[(0,⟨[4,5,6,7,9,10,25],[256,320,384,448,576,640],[⟨1000000,77,ty8,[.cell 576 0],false⟩,⟨1000001,181,ty21,[.cell 640 0],false⟩],[]⟩),
  (2,⟨[10,44,45,46],[640],[⟨1002000,77,ty8,[.slot 44],false⟩,⟨1002001,181,ty21,[.cell 640 0],false⟩],[]⟩)]
 keepX:=[(0,.normal,⟨[9,10],[576,640],[⟨1500050,77,ty8,[.cell 576 0],false⟩,⟨1500051,181,ty21,[.cell 640 0],false⟩],[]⟩),
  (2,.exit 2,⟨[10],[640],[⟨1502300,181,ty21,[.cell 640 0],false⟩],[]⟩)]
 ro:=[true]
 dw:=[(7,[[],[],[],[],[],[2112],[2176],[],[2304],[]]),(9,[[],[],[2688],[2752],[576]])]
 bw:=[(248,(false,ty72))]
theorem jo7:ItOK Tryz.prog 248 false (ty72):=jul <| jtI j0l Tryz.func248 (fn:=Tryz.f248) (A0:=bwA Tryz.f248 0) (A1:=bwA Tryz.f248 1) (A2:=bwA Tryz.f248 2) (A3:=bwA Tryz.f248 3) (by kernel_rfl) (by kernel_rfl) (by kernel_rfl) (by kernel_rfl) (by kernel_rfl) (by kernel_rfl) (by kernel_rfl) (by kernel_rfl) (by kernel_rfl) (by kernel_rfl) (by kernel_rfl) ⟨(by kernel_rfl),(by kernel_rfl)⟩
 (fun xs=>by kernel_rfl) (fun i=>by kernel_rfl) (fun i=>by kernel_rfl) (fun xs i=>by kernel_rfl) (fun b i=>by kernel_rfl)
theorem jef:Con.OK Tryz.prog j5Z:=
 cOf j0l j04 jfj j5Z Tryz.func165 (j9 j31 (j9 j9R (j9 jfi (j9 jcY (j9 jgF (j9 jie (j9 jiW (j9 j2o trivial)))))))) (j9 (fun h=>by kernel_rfl) (j9 (fun h=>by kernel_rfl) trivial)) (j9 jo7 trivial)
def j72:Con:=⟨83,[.v ty84,.v iT,.v iT,.v iT],[ty84,iT,iT,iT],⟨[.own 181 ty26,.v iT],[]⟩,[ty26,iT],Pw.unc4 Pw.j6b⟩
def jgG:FnD where
 N:=37
 np:=4
 cs:=[j9O,j5Z]
 ds:=[]
 modes:=[(164,[false,false,false,false]),(165,[false,false,false,false])]
 ro:=[true,false]
 dw:=[(4,[[],[],[],[],[],[],[],[],[2048],[]])]
theorem jg5:Con.OK Tryz.prog j72:=
 cOf j0l j04 jgG j72 Tryz.func83 (j9 jiO (j9 jef trivial)) trivial
end Go.Proofs.Pk
