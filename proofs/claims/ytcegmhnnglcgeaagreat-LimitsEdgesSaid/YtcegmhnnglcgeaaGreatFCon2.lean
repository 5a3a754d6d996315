/- Contracts: each given function is its plain function, printed by a program. -/
import Derived.Test.YtcegmhnnglcgeaaGreatFCon1
noncomputable section
open Go Go.Lft
set_option linter.unusedVariables false
set_option maxRecDepth 100000
namespace Go.Proofs.Pk
def j25:Con:=⟨215,[.v (.list iT),.clo 216 []],[(.list iT)],⟨[.v .bool],[]⟩,[.bool],fun h=>Pw.j18 h⟩
def j84:FnD where
 N:=9
 np:=2
 cs:=[j2M]
 ds:=[]
 modes:=[(192,[false,false])]
 ro:=[false]
theorem j7H:Con.OK Tryz.prog j25:=
 cOf j0c j01 j84 j25 Tryz.func215 (j6 j9t trivial) trivial
def j3D:Con:=⟨153,[.v ty80,.v ty22],[ty80,ty22],⟨[.v iT],[]⟩,[iT],fun h=>Pw.j2c h.1 h.2⟩
def jbF:FnD where
 N:=46
 np:=2
 cs:=[j24,j25]
 ds:=[⟨1,[.s (.one (.bp 192 0)),sI,sI,.b (.cell [.d .str,.d iT,.d (.list iT)] false)],[iT,iT,.str,iT,(.list iT)],[⟨.ret,[sI],[iT]⟩,⟨.exit 1,[],[]⟩],fun h=>Pw.j4l h.1 h.2.1 h.2.2.1 h.2.2.2.1 h.2.2.2.2⟩]
 modes:=[(212,[false,false]),(215,[false,false])]
 keep:=[(1,⟨[3,25,26],[192],[],[]⟩)]
 keepX:=[(1,.ret,⟨[4],[],[],[]⟩),
  (1,.exit 1,⟨[],[],[],[]⟩)]
 ro:=[false]
theorem jb4:Con.OK Tryz.prog j3D:=
 cOf j0c j01 jbF j3D Tryz.func153 (j6 j4q (j6 j7H trivial)) (j6 (fun h=>by kernel_rfl) trivial)
def j5g:Con:=⟨152,[.v ty22,.ip [ty62,ty52,ty26,ty74]],[ty22,ty62,ty52,ty26,ty74],⟨[.v iT],[]⟩,[iT],fun h=>Pw.j4m h.1 h.2.1 h.2.2.1 h.2.2.2.1 h.2.2.2.2⟩
def jeX:FnD where
 N:=7
 np:=2
 cs:=[j3D]
 ds:=[]
 modes:=[(153,[false,false])]
 ro:=[false]
theorem je2:Con.OK Tryz.prog j5g:=
 cOf j0c j01 jeX j5g Tryz.func152 (j6 jb4 trivial) trivial
def j2n:Con:=⟨150,[.v ty26,.clo 151 [],.clo 152 [.p [ty62,ty52,ty26,ty74]]],[ty26,ty62,ty52,ty26,ty74],⟨[.v iT],[]⟩,[iT],fun h=>Pw.j1j h.1 h.2.1 h.2.2.1 h.2.2.2.1 h.2.2.2.2⟩
def j8D:FnD where
 N:=34
 np:=3
 cs:=[j2x,j5f,j5g]
 ds:=[⟨0,[.s (.one (.clo 151 [])),.s (.one (.clo 152 [.p [ty62,ty52,ty26,ty74]])),.s (.one (.ol 1000000)),.s (.one (.d ty26)),sI,sI,.b (.lst 4294967504 (.pair .str .bool) false)],[ty62,ty52,ty26,ty74,ty26,iT,iT,(.list (.pair .str .bool))],[⟨.ret,[sI],[iT]⟩,⟨.exit 0,[],[]⟩],fun h=>Pw.j0x h.1 h.2.1 h.2.2.1 h.2.2.2.1 h.2.2.2.2.1 h.2.2.2.2.2.1 h.2.2.2.2.2.2.1 h.2.2.2.2.2.2.2⟩]
 modes:=[(148,[false,true]),(151,[false]),(152,[false])]
 keep:=[(0,⟨[1,2,7,13,14,15],[],[⟨1000000,4294967504,(.pair .str .bool),[.slot 7],false⟩],[]⟩)]
 keepX:=[(0,.ret,⟨[6],[],[],[]⟩),
  (0,.exit 0,⟨[],[],[],[]⟩)]
 ro:=[false]
theorem j85:Con.OK Tryz.prog j2n:=
 cOf j0c j01 j8D j2n Tryz.func150 (j6 j4L (j6 je1 (j6 je2 trivial))) (j6 (fun h=>by kernel_rfl) trivial)
def j5h:Con:=⟨155,[.v ty73],[ty73],⟨[.v .str],[]⟩,[.str],fun h=>Pw.jc5 h⟩
def jeY:FnD where
 N:=5
 np:=1
 cs:=[]
 ds:=[]
 ro:=[false]
theorem je3:Con.OK Tryz.prog j5h:=
 cOf j0c j01 jeY j5h Tryz.func155 trivial trivial
def j2N:Con:=⟨219,[.v ty68],[ty68],⟨[.v .str],[]⟩,[.str],fun h=>Pw.j6b h⟩
def j9Y:FnD where
 N:=5
 np:=1
 cs:=[]
 ds:=[]
 ro:=[false]
theorem j9u:Con.OK Tryz.prog j2N:=
 cOf j0c j01 j9Y j2N Tryz.func219 trivial trivial
def j3E:Con:=⟨272,[.v iT,.ip [ty62,ty52,ty26,ty74]],[iT,ty62,ty52,ty26,ty74],⟨[.v .bool],[]⟩,[.bool],fun h=>Pw.j7A h.1 h.2.1 h.2.2.1 h.2.2.2.1 h.2.2.2.2⟩
def jbG:FnD where
 N:=10
 np:=2
 cs:=[j24]
 ds:=[]
 modes:=[(212,[false,false])]
 ro:=[false]
theorem jb5:Con.OK Tryz.prog j3E:=
 cOf j0c j01 jbG j3E Tryz.func272 (j6 j4q trivial) trivial
def j26:Con:=⟨192,[.v (.list iT),.clo 272 [.p [ty62,ty52,ty26,ty74]]],[(.list iT),ty62,ty52,ty26,ty74],⟨[.v iT],[]⟩,[iT],fun h=>Pw.j19 h.1 h.2.1 h.2.2.1 h.2.2.2.1 h.2.2.2.2⟩
def j86:FnD where
 N:=19
 np:=2
 cs:=[j3E]
 ds:=[⟨0,[.s (.one (.d (.list iT))),.s (.one (.clo 272 [.p [ty62,ty52,ty26,ty74]])),sI,sI],[(.list iT),ty62,ty52,ty26,ty74,iT,iT],[⟨.ret,[sI],[iT]⟩,⟨.exit 0,[],[]⟩],fun h=>Pw.j2W h.1 h.2.1 h.2.2.1 h.2.2.2.1 h.2.2.2.2.1 h.2.2.2.2.2.1 h.2.2.2.2.2.2⟩]
 modes:=[(272,[false])]
 keep:=[(0,⟨[0,1,7,8],[],[],[]⟩)]
 keepX:=[(0,.ret,⟨[4],[],[],[]⟩),
  (0,.exit 0,⟨[],[],[],[]⟩)]
 ro:=[false]
theorem j7I:Con.OK Tryz.prog j26:=
 cOf j0c j01 j86 j26 Tryz.func192 (j6 jb5 trivial) (j6 (fun h=>by kernel_rfl) trivial)
def j1J:Con:=⟨215,[.v (.list iT),.clo 272 [.p [ty62,ty52,ty26,ty74]]],[(.list iT),ty62,ty52,ty26,ty74],⟨[.v .bool],[]⟩,[.bool],fun h=>Pw.j0T h.1 h.2.1 h.2.2.1 h.2.2.2.1 h.2.2.2.2⟩
def j6O:FnD where
 N:=9
 np:=2
 cs:=[j26]
 ds:=[]
 modes:=[(192,[false,false])]
 ro:=[false]
theorem j6A:Con.OK Tryz.prog j1J:=
 cOf j0c j01 j6O j1J Tryz.func215 (j6 j7I trivial) trivial
def j4y:Con:=⟨221,[.v ty80,.v ty68],[ty80,ty68],⟨[.v iT],[]⟩,[iT],fun h=>Pw.j3k h.1 h.2⟩
def jdo:FnD where
 N:=91
 np:=2
 cs:=[j24,j7r,j5C,j4P,j1J]
 ds:=[]
 modes:=[(212,[false,false]),(213,[false]),(215,[false,false]),(217,[false]),(270,[false,false,false])]
 ro:=[false]
theorem jcV:Con.OK Tryz.prog j4y:=
 cOf j0c j01 jdo j4y Tryz.func221 (j6 j4q (j6 jeV (j6 jbE (j6 jaw (j6 j6A trivial))))) trivial
def j2O:Con:=⟨220,[.v ty68,.ip [ty62,ty52,ty26,ty74]],[ty68,ty62,ty52,ty26,ty74],⟨[.v iT],[]⟩,[iT],fun h=>Pw.j1B h.1 h.2.1 h.2.2.1 h.2.2.2.1 h.2.2.2.2⟩
def j9Z:FnD where
 N:=7
 np:=2
 cs:=[j4y]
 ds:=[]
 modes:=[(221,[false,false])]
 ro:=[false]
theorem j9v:Con.OK Tryz.prog j2O:=
 cOf j0c j01 j9Z j2O Tryz.func220 (j6 jcV trivial) trivial
def j33:Con:=⟨218,[.v ty69,.clo 219 [],.clo 220 [.p [ty62,ty52,ty26,ty74]]],[ty69,ty62,ty52,ty26,ty74],⟨[.v iT],[]⟩,[iT],fun h=>Pw.j1O h.1 h.2.1 h.2.2.1 h.2.2.2.1 h.2.2.2.2⟩
def jax:FnD where
 N:=34
 np:=3
 cs:=[j2x,j2N,j2O]
 ds:=[⟨0,[.s (.one (.clo 219 [])),.s (.one (.clo 220 [.p [ty62,ty52,ty26,ty74]])),.s (.one (.ol 1000000)),.s (.one (.d ty69)),sI,sI,.b (.lst 4294967504 (.pair .str .bool) false)],[ty62,ty52,ty26,ty74,ty69,iT,iT,(.list (.pair .str .bool))],[⟨.ret,[sI],[iT]⟩,⟨.exit 0,[],[]⟩],fun h=>Pw.j0M h.1 h.2.1 h.2.2.1 h.2.2.2.1 h.2.2.2.2.1 h.2.2.2.2.2.1 h.2.2.2.2.2.2.1 h.2.2.2.2.2.2.2⟩]
 modes:=[(148,[false,true]),(219,[false]),(220,[false])]
 keep:=[(0,⟨[1,2,7,13,14,15],[],[⟨1000000,4294967504,(.pair .str .bool),[.slot 7],false⟩],[]⟩)]
 keepX:=[(0,.ret,⟨[6],[],[],[]⟩),
  (0,.exit 0,⟨[],[],[],[]⟩)]
 ro:=[false]
theorem ja0:Con.OK Tryz.prog j33:=
 cOf j0c j01 jax j33 Tryz.func218 (j6 j4L (j6 j9u (j6 j9v trivial))) (j6 (fun h=>by kernel_rfl) trivial)
def j4Q:Con:=⟨222,[.v ty80,.v ty38],[ty80,ty38],⟨[.v iT],[]⟩,[iT],fun h=>Pw.j3P h.1 h.2⟩
def je4:FnD where
 N:=83
 np:=2
 cs:=[j24,j5C,j4P]
 ds:=[]
 modes:=[(212,[false,false]),(217,[false]),(270,[false,false,false])]
 ro:=[false]
theorem jdp:Con.OK Tryz.prog j4Q:=
 cOf j0c j01 je4 j4Q Tryz.func222 (j6 j4q (j6 jbE (j6 jaw trivial))) trivial
def j3F:Con:=⟨157,[.v ty80,.v ty73],[ty80,ty73],⟨[.v iT],[]⟩,[iT],fun h=>Pw.j2e h.1 h.2⟩
def jbH:FnD where
 N:=40
 np:=2
 cs:=[j33,j4Q]
 ds:=[⟨0,[.s (.one (.bp 128 0)),.s (.one (.d ty40)),sI,sI,.b (.cell [.d ty62,.d ty52,.d ty26,.d ty74] true)],[ty40,iT,iT,ty62,ty52,ty26,ty74],[⟨.ret,[sI],[iT]⟩,⟨.exit 0,[],[]⟩],fun h=>Pw.j0W h.1 h.2.1 h.2.2.1 h.2.2.2.1 h.2.2.2.2.1 h.2.2.2.2.2.1 h.2.2.2.2.2.2⟩]
 modes:=[(218,[false,false,false]),(222,[false,false])]
 keep:=[(0,⟨[2,27,28,29],[128],[],[]⟩)]
 keepX:=[(0,.ret,⟨[4],[],[],[]⟩),
  (0,.exit 0,⟨[],[],[],[]⟩)]
 ro:=[false]
theorem jb6:Con.OK Tryz.prog j3F:=
 cOf j0c j01 jbH j3F Tryz.func157 (j6 ja0 (j6 jdp trivial)) (j6 (fun h=>by kernel_rfl) trivial)
def j5i:Con:=⟨156,[.v ty73,.ip [ty62,ty52,ty26,ty74]],[ty73,ty62,ty52,ty26,ty74],⟨[.v iT],[]⟩,[iT],fun h=>Pw.j4n h.1 h.2.1 h.2.2.1 h.2.2.2.1 h.2.2.2.2⟩
def jeZ:FnD where
 N:=7
 np:=2
 cs:=[j3F]
 ds:=[]
 modes:=[(157,[false,false])]
 ro:=[false]
theorem je5:Con.OK Tryz.prog j5i:=
 cOf j0c j01 jeZ j5i Tryz.func156 (j6 jb6 trivial) trivial
def j2o:Con:=⟨154,[.v ty74,.clo 155 [],.clo 156 [.p [ty62,ty52,ty26,ty74]]],[ty74,ty62,ty52,ty26,ty74],⟨[.v iT],[]⟩,[iT],fun h=>Pw.j1k h.1 h.2.1 h.2.2.1 h.2.2.2.1 h.2.2.2.2⟩
def j8E:FnD where
 N:=34
 np:=3
 cs:=[j2x,j5h,j5i]
 ds:=[⟨0,[.s (.one (.clo 155 [])),.s (.one (.clo 156 [.p [ty62,ty52,ty26,ty74]])),.s (.one (.ol 1000000)),.s (.one (.d ty74)),sI,sI,.b (.lst 4294967504 (.pair .str .bool) false)],[ty62,ty52,ty26,ty74,ty74,iT,iT,(.list (.pair .str .bool))],[⟨.ret,[sI],[iT]⟩,⟨.exit 0,[],[]⟩],fun h=>Pw.j0y h.1 h.2.1 h.2.2.1 h.2.2.2.1 h.2.2.2.2.1 h.2.2.2.2.2.1 h.2.2.2.2.2.2.1 h.2.2.2.2.2.2.2⟩]
 modes:=[(148,[false,true]),(155,[false]),(156,[false])]
 keep:=[(0,⟨[1,2,7,13,14,15],[],[⟨1000000,4294967504,(.pair .str .bool),[.slot 7],false⟩],[]⟩)]
 keepX:=[(0,.ret,⟨[6],[],[],[]⟩),
  (0,.exit 0,⟨[],[],[],[]⟩)]
 ro:=[false]
theorem j87:Con.OK Tryz.prog j2o:=
 cOf j0c j01 j8E j2o Tryz.func154 (j6 j4L (j6 je3 (j6 je5 trivial))) (j6 (fun h=>by kernel_rfl) trivial)
def j7d:Con:=⟨99,[.v ty80],[ty80],⟨[.v iT],[]⟩,[iT],fun h=>Pw.j6o h⟩
def jhw:FnD where
 N:=72
 np:=1
 cs:=[j2x,j39,j4a,j2n,j2o]
 ds:=[⟨0,[.s (.one (.bp 64 0)),.s (.one (.ol 1000000)),.s (.one (.d ty52)),sI,sI,.b (.cell [.d ty62,.d ty52,.d ty26,.d ty74] false),.b (.lst 4294967504 (.pair .str .bool) false)],[ty52,iT,iT,ty62,ty52,ty26,ty74,(.list (.pair .str .bool))],[⟨.ret,[sI],[iT]⟩,⟨.exit 0,[.s (.one (.bp 64 0)),.b (.cell [.d ty62,.d ty52,.d ty26,.d ty74] false)],[ty62,ty52,ty26,ty74]⟩],fun h=>Pw.j2f h.1 h.2.1 h.2.2.1 h.2.2.2.1 h.2.2.2.2.1 h.2.2.2.2.2.1 h.2.2.2.2.2.2.1 h.2.2.2.2.2.2.2⟩]
 modes:=[(145,[false,false,false]),(148,[false,true]),(149,[false,false]),(150,[false,false,false]),(154,[false,false,false])]
 keep:=[(0,⟨[1,4,39,40,41],[64],[⟨1000000,4294967504,(.pair .str .bool),[.slot 4],false⟩],[]⟩)]
 keepX:=[(0,.ret,⟨[2],[],[],[]⟩),
  (0,.exit 0,⟨[1],[64],[],[]⟩)]
 ro:=[false]
theorem jgf:Con.OK Tryz.prog j7d:=
 cOf j0c j01 jhw j7d Tryz.func99 (j6 j4L (j6 jau (j6 jce (j6 j85 (j6 j87 trivial))))) (j6 (fun h=>by kernel_rfl) trivial)
def je6:Con:=⟨223,[.v ty61],[ty61],⟨[.v ty25,.v iT],[]⟩,[ty25,iT],fun h=>Pw.jhp h⟩
def jof:FnD where
 N:=16
 np:=1
 cs:=[j3J]
 ds:=[]
 modes:=[(266,[false])]
 ro:=[false,false]
theorem jmU:Con.OK Tryz.prog je6:=
 cOf j0c j01 jof je6 Tryz.func223 (j6 j9r trivial) trivial
def j9w:Con:=⟨158,[.v ty62],[ty62],⟨[.own 140 ty29],[]⟩,[ty29],fun h=>Pw.j94 h⟩
def jjF:FnD where
 N:=25
 np:=1
 cs:=[je6]
 ds:=[⟨0,[.s (.one (.ol 1000000)),.s (.one (.d ty62)),sI,sI,.b (.lst 140 ty25 false)],[ty62,iT,iT,ty29],[⟨.exit 0,[.s (.one (.ol 1500100)),.b (.lst 140 ty25 false)],[ty29]⟩],fun h=>Pw.j2X h.1 h.2.1 h.2.2.1 h.2.2.2⟩]
 modes:=[(223,[false])]
 keep:=[(0,⟨[3,8,9,10],[],[⟨1000000,140,ty25,[.slot 3],false⟩],[]⟩)]
 keepX:=[(0,.exit 0,⟨[3],[],[⟨1500100,140,ty25,[.slot 3],false⟩],[]⟩)]
 ro:=[true]
theorem ji6:Con.OK Tryz.prog j9w:=
 cOf j0c j01 jjF j9w Tryz.func158 (j6 jmU trivial) (j6 (fun h=>by kernel_rfl) trivial)
def jbI:Con:=⟨100,[.v ty80],[ty80],⟨[.v ty82],[]⟩,[ty82],fun h=>Pw.jcM h⟩
def jlE:FnD where
 N:=8
 np:=1
 cs:=[j9w]
 ds:=[]
 modes:=[(158,[false])]
 ro:=[false]
 dw:=[(1,[[],[],[],[384],[],[128]])]
theorem jkO:Con.OK Tryz.prog jbI:=
 cOf j0c j01 jlE jbI Tryz.func100 (j6 ji6 trivial) trivial
end Go.Proofs.Pk
