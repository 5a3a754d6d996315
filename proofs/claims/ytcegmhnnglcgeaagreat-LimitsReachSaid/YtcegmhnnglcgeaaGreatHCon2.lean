/- Contracts: each given function is its plain function, printed by a program. -/
import Derived.Test.YtcegmhnnglcgeaaGreatHCon1
noncomputable section
open Go Go.Lft
set_option linter.unusedVariables false
set_option maxRecDepth 100000
namespace Go.Proofs.Pk
def j37:Con:=⟨215,[.v (.list iT),.clo 216 []],[(.list iT)],⟨[.v .bool],[]⟩,[.bool],fun h=>Pw.j1h h⟩
def jao:FnD where
 N:=9
 np:=2
 cs:=[j3O]
 ds:=[]
 modes:=[(192,[false,false])]
 ro:=[false]
theorem j9X:Con.OK Tryz.prog j37:=
 cOf j0c j00 jao j37 Tryz.func215 (j9 jbJ trivial) trivial
def j4P:Con:=⟨153,[.v ty80,.v ty22],[ty80,ty22],⟨[.v iT],[]⟩,[iT],fun h=>Pw.j1o h.1 h.2⟩
def je6:FnD where
 N:=46
 np:=2
 cs:=[j36,j37]
 ds:=[⟨1,[.s (.one (.bp 192 0)),sI,sI,.b (.cell [.d .str,.d iT,.d (.list iT)] false)],[iT,iT,.str,iT,(.list iT)],[⟨.ret,[sI],[iT]⟩,⟨.exit 1,[],[]⟩],fun h=>Pw.j1x h.1 h.2.1 h.2.2.1 h.2.2.2.1 h.2.2.2.2⟩]
 modes:=[(212,[false,false]),(215,[false,false])]
 keep:=[(1,⟨[3,25,26],[192],[],[]⟩)]
 keepX:=[(1,.ret,⟨[4],[],[],[]⟩),
  (1,.exit 1,⟨[],[],[],[]⟩)]
 ro:=[false]
theorem jdr:Con.OK Tryz.prog j4P:=
 cOf j0c j00 je6 j4P Tryz.func153 (j9 j5L (j9 j9X trivial)) (j9 (fun h=>by kernel_rfl) trivial)
def j6Z:Con:=⟨152,[.v ty22,.ip [ty62,ty52,ty26,ty74]],[ty22,ty62,ty52,ty26,ty74],⟨[.v iT],[]⟩,[iT],fun h=>Pw.j4k h.1 h.2.1 h.2.2.1 h.2.2.2.1 h.2.2.2.2⟩
def jhV:FnD where
 N:=7
 np:=2
 cs:=[j4P]
 ds:=[]
 modes:=[(153,[false,false])]
 ro:=[false]
theorem jgP:Con.OK Tryz.prog j6Z:=
 cOf j0c j00 jhV j6Z Tryz.func152 (j9 jdr trivial) trivial
def j3m:Con:=⟨150,[.v ty26,.clo 151 [],.clo 152 [.p [ty62,ty52,ty26,ty74]]],[ty26,ty62,ty52,ty26,ty74],⟨[.v iT],[]⟩,[iT],fun h=>Pw.j14 h.1 h.2.1 h.2.2.1 h.2.2.2.1 h.2.2.2.2⟩
def jaY:FnD where
 N:=34
 np:=3
 cs:=[j3x,j6Y,j6Z]
 ds:=[⟨0,[.s (.one (.clo 151 [])),.s (.one (.clo 152 [.p [ty62,ty52,ty26,ty74]])),.s (.one (.ol 1000000)),.s (.one (.d ty26)),sI,sI,.b (.lst 4294967504 (.pair .str .bool) false)],[ty62,ty52,ty26,ty74,ty26,iT,iT,(.list (.pair .str .bool))],[⟨.ret,[sI],[iT]⟩,⟨.exit 0,[],[]⟩],fun h=>Pw.j0q h.1 h.2.1 h.2.2.1 h.2.2.2.1 h.2.2.2.2.1 h.2.2.2.2.2.1 h.2.2.2.2.2.2.1 h.2.2.2.2.2.2.2⟩]
 modes:=[(148,[false,true]),(151,[false]),(152,[false])]
 keep:=[(0,⟨[1,2,7,13,14,15],[],[⟨1000000,4294967504,(.pair .str .bool),[.slot 7],false⟩],[]⟩)]
 keepX:=[(0,.ret,⟨[6],[],[],[]⟩),
  (0,.exit 0,⟨[],[],[],[]⟩)]
 ro:=[false]
theorem jap:Con.OK Tryz.prog j3m:=
 cOf j0c j00 jaY j3m Tryz.func150 (j9 j6m (j9 jgO (j9 jgP trivial))) (j9 (fun h=>by kernel_rfl) trivial)
def j70:Con:=⟨155,[.v ty73],[ty73],⟨[.v .str],[]⟩,[.str],fun h=>Pw.jae h⟩
def jhW:FnD where
 N:=5
 np:=1
 cs:=[]
 ds:=[]
 ro:=[false]
theorem jgQ:Con.OK Tryz.prog j70:=
 cOf j0c j00 jhW j70 Tryz.func155 trivial trivial
def j3P:Con:=⟨219,[.v ty68],[ty68],⟨[.v .str],[]⟩,[.str],fun h=>Pw.j54 h⟩
def jcg:FnD where
 N:=5
 np:=1
 cs:=[]
 ds:=[]
 ro:=[false]
theorem jbK:Con.OK Tryz.prog j3P:=
 cOf j0c j00 jcg j3P Tryz.func219 trivial trivial
def j4Q:Con:=⟨272,[.v iT,.ip [ty62,ty52,ty26,ty74]],[iT,ty62,ty52,ty26,ty74],⟨[.v .bool],[]⟩,[.bool],fun h=>Pw.j6c h.1 h.2.1 h.2.2.1 h.2.2.2.1 h.2.2.2.2⟩
def je7:FnD where
 N:=10
 np:=2
 cs:=[j36]
 ds:=[]
 modes:=[(212,[false,false])]
 ro:=[false]
theorem jds:Con.OK Tryz.prog j4Q:=
 cOf j0c j00 je7 j4Q Tryz.func272 (j9 j5L trivial) trivial
def j38:Con:=⟨192,[.v (.list iT),.clo 272 [.p [ty62,ty52,ty26,ty74]]],[(.list iT),ty62,ty52,ty26,ty74],⟨[.v iT],[]⟩,[iT],fun h=>Pw.j1i h.1 h.2.1 h.2.2.1 h.2.2.2.1 h.2.2.2.2⟩
def jaq:FnD where
 N:=19
 np:=2
 cs:=[j4Q]
 ds:=[⟨0,[.s (.one (.d (.list iT))),.s (.one (.clo 272 [.p [ty62,ty52,ty26,ty74]])),sI,sI],[(.list iT),ty62,ty52,ty26,ty74,iT,iT],[⟨.ret,[sI],[iT]⟩,⟨.exit 0,[],[]⟩],fun h=>Pw.j0S h.1 h.2.1 h.2.2.1 h.2.2.2.1 h.2.2.2.2.1 h.2.2.2.2.2.1 h.2.2.2.2.2.2⟩]
 modes:=[(272,[false])]
 keep:=[(0,⟨[0,1,7,8],[],[],[]⟩)]
 keepX:=[(0,.ret,⟨[4],[],[],[]⟩),
  (0,.exit 0,⟨[],[],[],[]⟩)]
 ro:=[false]
theorem j9Y:Con.OK Tryz.prog j38:=
 cOf j0c j00 jaq j38 Tryz.func192 (j9 jds trivial) (j9 (fun h=>by kernel_rfl) trivial)
def j2A:Con:=⟨215,[.v (.list iT),.clo 272 [.p [ty62,ty52,ty26,ty74]]],[(.list iT),ty62,ty52,ty26,ty74],⟨[.v .bool],[]⟩,[.bool],fun h=>Pw.j0X h.1 h.2.1 h.2.2.1 h.2.2.2.1 h.2.2.2.2⟩
def j8J:FnD where
 N:=9
 np:=2
 cs:=[j38]
 ds:=[]
 modes:=[(192,[false,false])]
 ro:=[false]
theorem j8r:Con.OK Tryz.prog j2A:=
 cOf j0c j00 j8J j2A Tryz.func215 (j9 j9Y trivial) trivial
def j5U:Con:=⟨221,[.v ty80,.v ty68],[ty80,ty68],⟨[.v iT],[]⟩,[iT],fun h=>Pw.j25 h.1 h.2⟩
def jg8:FnD where
 N:=91
 np:=2
 cs:=[j36,j9x,j7l,j6q,j2A]
 ds:=[]
 modes:=[(212,[false,false]),(213,[false]),(215,[false,false]),(217,[false]),(270,[false,false,false])]
 ro:=[false]
theorem jfp:Con.OK Tryz.prog j5U:=
 cOf j0c j00 jg8 j5U Tryz.func221 (j9 j5L (j9 jhT (j9 je5 (j9 jcQ (j9 j8r trivial))))) trivial
def j3Q:Con:=⟨220,[.v ty68,.ip [ty62,ty52,ty26,ty74]],[ty68,ty62,ty52,ty26,ty74],⟨[.v iT],[]⟩,[iT],fun h=>Pw.j1I h.1 h.2.1 h.2.2.1 h.2.2.2.1 h.2.2.2.2⟩
def jch:FnD where
 N:=7
 np:=2
 cs:=[j5U]
 ds:=[]
 modes:=[(221,[false,false])]
 ro:=[false]
theorem jbL:Con.OK Tryz.prog j3Q:=
 cOf j0c j00 jch j3Q Tryz.func220 (j9 jfp trivial) trivial
def j49:Con:=⟨218,[.v ty69,.clo 219 [],.clo 220 [.p [ty62,ty52,ty26,ty74]]],[ty69,ty62,ty52,ty26,ty74],⟨[.v iT],[]⟩,[iT],fun h=>Pw.j1v h.1 h.2.1 h.2.2.1 h.2.2.2.1 h.2.2.2.2⟩
def jcR:FnD where
 N:=34
 np:=3
 cs:=[j3x,j3P,j3Q]
 ds:=[⟨0,[.s (.one (.clo 219 [])),.s (.one (.clo 220 [.p [ty62,ty52,ty26,ty74]])),.s (.one (.ol 1000000)),.s (.one (.d ty69)),sI,sI,.b (.lst 4294967504 (.pair .str .bool) false)],[ty62,ty52,ty26,ty74,ty69,iT,iT,(.list (.pair .str .bool))],[⟨.ret,[sI],[iT]⟩,⟨.exit 0,[],[]⟩],fun h=>Pw.j0w h.1 h.2.1 h.2.2.1 h.2.2.2.1 h.2.2.2.2.1 h.2.2.2.2.2.1 h.2.2.2.2.2.2.1 h.2.2.2.2.2.2.2⟩]
 modes:=[(148,[false,true]),(219,[false]),(220,[false])]
 keep:=[(0,⟨[1,2,7,13,14,15],[],[⟨1000000,4294967504,(.pair .str .bool),[.slot 7],false⟩],[]⟩)]
 keepX:=[(0,.ret,⟨[6],[],[],[]⟩),
  (0,.exit 0,⟨[],[],[],[]⟩)]
 ro:=[false]
theorem jci:Con.OK Tryz.prog j49:=
 cOf j0c j00 jcR j49 Tryz.func218 (j9 j6m (j9 jbK (j9 jbL trivial))) (j9 (fun h=>by kernel_rfl) trivial)
def j6r:Con:=⟨222,[.v ty80,.v ty38],[ty80,ty38],⟨[.v iT],[]⟩,[iT],fun h=>Pw.j2p h.1 h.2⟩
def jgR:FnD where
 N:=83
 np:=2
 cs:=[j36,j7l,j6q]
 ds:=[]
 modes:=[(212,[false,false]),(217,[false]),(270,[false,false,false])]
 ro:=[false]
theorem jg9:Con.OK Tryz.prog j6r:=
 cOf j0c j00 jgR j6r Tryz.func222 (j9 j5L (j9 je5 (j9 jcQ trivial))) trivial
def j4R:Con:=⟨157,[.v ty80,.v ty73],[ty80,ty73],⟨[.v iT],[]⟩,[iT],fun h=>Pw.j1p h.1 h.2⟩
def je8:FnD where
 N:=40
 np:=2
 cs:=[j49,j6r]
 ds:=[⟨0,[.s (.one (.bp 128 0)),.s (.one (.d ty40)),sI,sI,.b (.cell [.d ty62,.d ty52,.d ty26,.d ty74] true)],[ty40,iT,iT,ty62,ty52,ty26,ty74],[⟨.ret,[sI],[iT]⟩,⟨.exit 0,[],[]⟩],fun h=>Pw.j0B h.1 h.2.1 h.2.2.1 h.2.2.2.1 h.2.2.2.2.1 h.2.2.2.2.2.1 h.2.2.2.2.2.2⟩]
 modes:=[(218,[false,false,false]),(222,[false,false])]
 keep:=[(0,⟨[2,27,28,29],[128],[],[]⟩)]
 keepX:=[(0,.ret,⟨[4],[],[],[]⟩),
  (0,.exit 0,⟨[],[],[],[]⟩)]
 ro:=[false]
theorem jdt:Con.OK Tryz.prog j4R:=
 cOf j0c j00 je8 j4R Tryz.func157 (j9 jci (j9 jg9 trivial)) (j9 (fun h=>by kernel_rfl) trivial)
def j71:Con:=⟨156,[.v ty73,.ip [ty62,ty52,ty26,ty74]],[ty73,ty62,ty52,ty26,ty74],⟨[.v iT],[]⟩,[iT],fun h=>Pw.j4l h.1 h.2.1 h.2.2.1 h.2.2.2.1 h.2.2.2.2⟩
def jhX:FnD where
 N:=7
 np:=2
 cs:=[j4R]
 ds:=[]
 modes:=[(157,[false,false])]
 ro:=[false]
theorem jgS:Con.OK Tryz.prog j71:=
 cOf j0c j00 jhX j71 Tryz.func156 (j9 jdt trivial) trivial
def j3n:Con:=⟨154,[.v ty74,.clo 155 [],.clo 156 [.p [ty62,ty52,ty26,ty74]]],[ty74,ty62,ty52,ty26,ty74],⟨[.v iT],[]⟩,[iT],fun h=>Pw.j1t h.1 h.2.1 h.2.2.1 h.2.2.2.1 h.2.2.2.2⟩
def jaZ:FnD where
 N:=34
 np:=3
 cs:=[j3x,j70,j71]
 ds:=[⟨0,[.s (.one (.clo 155 [])),.s (.one (.clo 156 [.p [ty62,ty52,ty26,ty74]])),.s (.one (.ol 1000000)),.s (.one (.d ty74)),sI,sI,.b (.lst 4294967504 (.pair .str .bool) false)],[ty62,ty52,ty26,ty74,ty74,iT,iT,(.list (.pair .str .bool))],[⟨.ret,[sI],[iT]⟩,⟨.exit 0,[],[]⟩],fun h=>Pw.j0r h.1 h.2.1 h.2.2.1 h.2.2.2.1 h.2.2.2.2.1 h.2.2.2.2.2.1 h.2.2.2.2.2.2.1 h.2.2.2.2.2.2.2⟩]
 modes:=[(148,[false,true]),(155,[false]),(156,[false])]
 keep:=[(0,⟨[1,2,7,13,14,15],[],[⟨1000000,4294967504,(.pair .str .bool),[.slot 7],false⟩],[]⟩)]
 keepX:=[(0,.ret,⟨[6],[],[],[]⟩),
  (0,.exit 0,⟨[],[],[],[]⟩)]
 ro:=[false]
theorem jar:Con.OK Tryz.prog j3n:=
 cOf j0c j00 jaZ j3n Tryz.func154 (j9 j6m (j9 jgQ (j9 jgS trivial))) (j9 (fun h=>by kernel_rfl) trivial)
def j9i:Con:=⟨99,[.v ty80],[ty80],⟨[.v iT],[]⟩,[iT],fun h=>Pw.j4p h⟩
def jkU:FnD where
 N:=72
 np:=1
 cs:=[j3x,j4f,j5v,j3m,j3n]
 ds:=[⟨0,[.s (.one (.bp 64 0)),.s (.one (.ol 1000000)),.s (.one (.d ty52)),sI,sI,.b (.cell [.d ty62,.d ty52,.d ty26,.d ty74] false),.b (.lst 4294967504 (.pair .str .bool) false)],[ty52,iT,iT,ty62,ty52,ty26,ty74,(.list (.pair .str .bool))],[⟨.ret,[sI],[iT]⟩,⟨.exit 0,[.s (.one (.bp 64 0)),.b (.cell [.d ty62,.d ty52,.d ty26,.d ty74] false)],[ty62,ty52,ty26,ty74]⟩],fun h=>Pw.j1q h.1 h.2.1 h.2.2.1 h.2.2.2.1 h.2.2.2.2.1 h.2.2.2.2.2.1 h.2.2.2.2.2.2.1 h.2.2.2.2.2.2.2⟩]
 modes:=[(145,[false,false,false]),(148,[false,true]),(149,[false,false]),(150,[false,false,false]),(154,[false,false,false])]
 keep:=[(0,⟨[1,4,39,40,41],[64],[⟨1000000,4294967504,(.pair .str .bool),[.slot 4],false⟩],[]⟩)]
 keepX:=[(0,.ret,⟨[2],[],[],[]⟩),
  (0,.exit 0,⟨[1],[64],[],[]⟩)]
 ro:=[false]
theorem jjv:Con.OK Tryz.prog j9i:=
 cOf j0c j00 jkU j9i Tryz.func99 (j9 j6m (j9 jcO (j9 jeH (j9 jap (j9 jar trivial))))) (j9 (fun h=>by kernel_rfl) trivial)
def jgT:Con:=⟨223,[.v ty61],[ty61],⟨[.v ty25,.v iT],[]⟩,[ty25,iT],fun h=>Pw.jff h⟩
def jsU:FnD where
 N:=16
 np:=1
 cs:=[j4Y]
 ds:=[]
 modes:=[(266,[false])]
 ro:=[false,false]
theorem jrt:Con.OK Tryz.prog jgT:=
 cOf j0c j00 jsU jgT Tryz.func223 (j9 jbH trivial) trivial
def jbM:Con:=⟨158,[.v ty62],[ty62],⟨[.own 140 ty29],[]⟩,[ty29],fun h=>Pw.j97 h⟩
def jnn:FnD where
 N:=25
 np:=1
 cs:=[jgT]
 ds:=[⟨0,[.s (.one (.ol 1000000)),.s (.one (.d ty62)),sI,sI,.b (.lst 140 ty25 false)],[ty62,iT,iT,ty29],[⟨.exit 0,[.s (.one (.ol 1500100)),.b (.lst 140 ty25 false)],[ty29]⟩],fun h=>Pw.j1N h.1 h.2.1 h.2.2.1 h.2.2.2⟩]
 modes:=[(223,[false])]
 keep:=[(0,⟨[3,8,9,10],[],[⟨1000000,140,ty25,[.slot 3],false⟩],[]⟩)]
 keepX:=[(0,.exit 0,⟨[3],[],[⟨1500100,140,ty25,[.slot 3],false⟩],[]⟩)]
 ro:=[true]
theorem jlF:Con.OK Tryz.prog jbM:=
 cOf j0c j00 jnn jbM Tryz.func158 (j9 jrt trivial) (j9 (fun h=>by kernel_rfl) trivial)
def je9:Con:=⟨100,[.v ty80],[ty80],⟨[.v ty82],[]⟩,[ty82],fun h=>Pw.jbm h⟩
def jpM:FnD where
 N:=8
 np:=1
 cs:=[jbM]
 ds:=[]
 modes:=[(158,[false])]
 ro:=[false]
 dw:=[(1,[[],[],[],[384],[],[128]])]
theorem joJ:Con.OK Tryz.prog je9:=
 cOf j0c j00 jpM je9 Tryz.func100 (j9 jlF trivial) trivial
end Go.Proofs.Pk
