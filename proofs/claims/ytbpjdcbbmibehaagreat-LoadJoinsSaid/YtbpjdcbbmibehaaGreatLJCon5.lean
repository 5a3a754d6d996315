/- cL: each given function is its plain function, printed by a program. -/
import Derived.Test.YtbpjdcbbmibehaaGreatLJCon4
noncomputable section
open Go Go.Lft
set_option linter.unusedVariables false
set_option maxRecDepth 100000
namespace Go.Proofs.Pk
def H7:Con:=⟨203,[.v cG,.v iT],[cG,iT],⟨[.v iT],[]⟩,[iT],Pw.unc2 Pw.j3Q⟩
def jfx:FnD where
 N:=16
 np:=2
 cs:=[]
 ds:=[]
 ro:=[false]
theorem VK:Con.OK Tryz.prog H7:=
 cOf aC aD jfx H7 Tryz.func203 trivial trivial
def EJ:Con:=⟨139,[.v cG,.v iT,.v iT],[cG,iT,iT],⟨[.own 213 ai],[]⟩,[ai],Pw.unc3 Pw.j1F⟩
def jfy:FnD where
 N:=41
 np:=3
 cs:=[H6,H7]
 ds:=[⟨0,[sI,sI,.s (.one (.bp 192 0)),.s (.one (.ol 1000000)),.b (.cell [.d iT,.d aa] false),.b (.lst 213 ar false)],[iT,iT,iT,aa,ai],[⟨.exit 0,[.s (.one (.ol 1500100)),.b (.lst 213 ar false)],[ai]⟩],Pw.unc5 (Pw.j0v)⟩]
 modes:=[(202,[false,false]),(203,[false,false])]
 keep:=[(0,⟨[1,2,3,7],[192],[⟨1000000,213,ar,[.slot 7],false⟩],[]⟩)]
 keepX:=[(0,.exit 0,⟨[7],[],[⟨1500100,213,ar,[.slot 7],false⟩],[]⟩)]
 ro:=[true]
theorem NZ:Con.OK Tryz.prog EJ:=
 cOf aC aD jfy EJ Tryz.func139 (j9 VJ (j9 VK trivial)) (j9 (λh=>by kernel_rfl) trivial)
def N0:Con:=⟨389,[.v aF],[aF],⟨[.v iT],[]⟩,[iT],λh=>Pw.j3P h⟩
def jkk:FnD where
 N:=11
 np:=1
 cs:=[]
 ds:=[]
 ro:=[false]
theorem jjr:Con.OK Tryz.prog N0:=
 cOf aC aD jkk N0 Tryz.func389 trivial trivial
def N1:Con:=⟨363,[.v cG,.v aF],[cG,aF],⟨[.v iT,.v .bool],[]⟩,[iT,.bool],Pw.unc2 Pw.j2F⟩
def jgy:FnD where
 N:=30
 np:=2
 cs:=[EJ,N0]
 ds:=[⟨0,[.s (.one (.bp 192 0)),.s (.one (.ol 1000000)),sI,sI,.b (.cell [.d iT,.d iT] false),.b (.lst 213 ar false)],[iT,iT,iT,iT,ai],[⟨.ret,[sI,.s (.one (.d .bool))],[iT,.bool]⟩,⟨.exit 0,[],[]⟩],Pw.unc5 (Pw.j1a)⟩]
 modes:=[(139,[false,false,false]),(389,[false])]
 keep:=[(0,⟨[3,10,11,12],[192],[⟨1000000,213,ar,[.slot 10],false⟩],[]⟩)]
 keepX:=[(0,.ret,⟨[4,5],[],[],[]⟩),
  (0,.exit 0,⟨[],[],[],[]⟩)]
 ro:=[false,false]
theorem jfz:Con.OK Tryz.prog N1:=
 cOf aC aD jgy N1 Tryz.func363 (j9 NZ (j9 jjr trivial)) (j9 (λh=>by kernel_rfl) trivial)
def EK:Con:=⟨323,[.v cG,.v cX,.v iT],[cG,cX,iT],⟨[.v iT,.v .bool],[]⟩,[iT,.bool],Pw.unc3 Pw.j0H⟩
def jgz:FnD where
 N:=50
 np:=3
 cs:=[H5,N1]
 ds:=[]
 modes:=[(362,[false]),(363,[false,false])]
 ro:=[false,false]
 dw:=[(5,[[],[],[],[],[],[],[],[],[512]])]
theorem N2:Con.OK Tryz.prog EK:=
 cOf aC aD jgz EK Tryz.func323 (j9 VI (j9 jfz trivial)) trivial
def VL:Con:=⟨205,[.v aa],[aa],⟨[.own 72 aa],[]⟩,[aa],λh=>Pw.j32 h⟩
def j8t:FnD where
 N:=8
 np:=1
 cs:=[]
 ds:=[]
 ro:=[true]
theorem j8k:Con.OK Tryz.prog VL:=
 TR aC aD j8t 205 aF 72 Tryz.f205 (Tryz.f205.body.getD .skip) Tryz.func205 (by kernel_rfl) (by kernel_rfl) (ql (by kernel_rfl)) (by kernel_rfl) trivial (by kernel_rfl)
  (λh R k=>by kernel_rfl)
def H8:Con:=⟨206,[.v aF],[aF],⟨[.v .bool],[]⟩,[.bool],λh=>Pw.j80 h⟩
def jjs:FnD where
 N:=8
 np:=1
 cs:=[]
 ds:=[]
 ro:=[false]
theorem VM:Con.OK Tryz.prog H8:=
 cOf aC aD jjs H8 Tryz.func206 trivial trivial
def N3:Con:=⟨283,[.rl 72 aa,.clo 206 []],[aa],⟨[.v iT],[.rl aa]⟩,[iT,aa],λh=>Pw.j2h h⟩
def j7i:FnD where
 N:=19
 np:=2
 cs:=[H8]
 ds:=[⟨0,[.s (.one (.ol 0)),.s (.one (.clo 206 [])),sI,sI,.b (.lst 72 aF false)],[iT,iT,aa],[⟨.ret,[sI,.b (.lst 72 aF false)],[iT,aa]⟩,⟨.exit 0,[.b (.lst 72 aF false)],[aa]⟩],Pw.unc3 (Pw.j0r)⟩]
 modes:=[(206,[false])]
 keep:=[(0,⟨[0,1,7,8],[0],[],[]⟩)]
 keepX:=[(0,.ret,⟨[4],[0],[],[]⟩),
  (0,.exit 0,⟨[],[0],[],[]⟩)]
 ro:=[false]
theorem j75:Con.OK Tryz.prog N3:=
 cOf aC aD j7i N3 Tryz.func283 (j9 VM trivial) (j9 (λh=>by kernel_rfl) trivial)
def N4:Con:=⟨204,[.rl 72 aa,.clo 206 []],[aa],⟨[.hd],[.rl aa]⟩,[iT,aa],λh=>Pw.j1i h⟩
def j76:FnD where
 N:=42
 np:=2
 cs:=[H8,N3]
 ds:=[⟨0,[.s (.one (.ol 0)),.s (.one (.clo 206 [])),sI,sI,.b (.lst 72 aF false)],[iT,iT,aa],[⟨.exit 0,[.s (.one (.ol 0)),sI,.b (.lst 72 aF false)],[iT,aa]⟩],Pw.unc3 (Pw.j0o)⟩]
 modes:=[(206,[false]),(283,[true,false])]
 keep:=[(0,⟨[0,1,5,6],[0],[],[]⟩)]
 keepX:=[(0,.exit 0,⟨[0,5],[0],[],[]⟩)]
 ro:=[false]
 hd:=true
theorem j6L:Con.OK Tryz.prog N4:=
 cOf aC aD j76 N4 Tryz.func204 (j9 VM (j9 j75 trivial)) (j9 (λh=>by kernel_rfl) trivial)
def N5:Con:=⟨208,[.v aF,.v aF],[aF,aF],⟨[.v iT],[]⟩,[iT],Pw.unc2 Pw.j6C⟩
def jjt:FnD where
 N:=10
 np:=2
 cs:=[]
 ds:=[]
 ro:=[false]
theorem js0:Con.OK Tryz.prog N5:=
 cOf aC aD jjt N5 Tryz.func208 trivial trivial
def VN:Con:=⟨207,[.rl 72 aa,.clo 208 []],[aa],⟨[],[.rl aa]⟩,[aa],λh=>Pw.j0M h⟩
def jan:FnD where
 N:=14
 np:=2
 cs:=[N5]
 ds:=[]
 modes:=[(208,[false,false])]
theorem j3M:Con.OK Tryz.prog VN:=
 Ue Tryz.sort207 (aF) rfl 72 (by kernel_rfl) Tryz.isAgg72 Tryz.sizeOf72 _ 208 (enters_of Tryz.func208 (by kernel_rfl) rfl) jpu jpv 207 rfl
def yN:Con:=⟨140,[.v aa],[aa],⟨[.own 72 aa],[]⟩,[aa],λh=>Pw.j7J h⟩
def jom:FnD where
 N:=54
 np:=1
 cs:=[VL,N4,VN]
 ds:=[⟨0,[.s (.one (.ol 1000000)),.s (.one (.ol 1000001)),sI,sI,.b (.lst 72 aF false),.b (.lst 72 aF false)],[iT,iT,aa,aa],[⟨.exit 0,[.s (.one (.ol 1500100)),.b (.lst 72 aF false)],[aa]⟩],Pw.unc4 (Pw.j3i)⟩]
 modes:=[(204,[true,false]),(205,[false]),(207,[true,false])]
 keep:=[(0,⟨[4,13,14,15],[],[⟨1000000,72,aF,[.slot 4],false⟩,⟨1000001,72,aF,[.slot 13],false⟩],[]⟩)]
 keepX:=[(0,.exit 0,⟨[4],[],[⟨1500100,72,aF,[.slot 4],false⟩],[]⟩)]
 ro:=[true]
 dw:=[(9,[[],[],[],[],[],[],[],[],[],[],[],[],[],[],[1000000]])]
theorem EL:Con.OK Tryz.prog yN:=
 cOf aC aD jom yN Tryz.func140 (j9 j8k (j9 j6L (j9 j3M trivial))) (j9 (λh=>by kernel_rfl) trivial)
def H9:Con:=⟨74,[.v cG,.v aa,.v iT,.v iT],[cG,aa,iT,iT],⟨[.own 72 aa],[]⟩,[aa],Pw.unc4 Pw.j33⟩
def jkl:FnD where
 N:=73
 np:=4
 cs:=[EJ,yN]
 ds:=[⟨0,[.s (.one (.d aa)),.s (.one (.ol 1000000)),.s (.one (.ol 1000001)),sI,sI,.b (.lst 72 aF false),.b (.lst 213 ar false)],[aa,iT,iT,aa,ai],[⟨.exit 0,[.s (.one (.ol 1500100)),.b (.lst 72 aF false)],[aa]⟩],Pw.unc5 (Pw.j3y)⟩,
  ⟨2,[.s (.one (.d aa)),.s (.one (.ol 1002000)),.s (.one (.bp 704 0)),sI,.s (.one (.ol 1002001)),sI,sI,.b (.cell [.d iT,.d iT,.d iT] false),.b (.lst 72 aF false),.b (.lst 213 ar false)],[aa,iT,iT,iT,iT,iT,iT,aa,ai],[⟨.exit 2,[.s (.one (.d aa)),.s (.one (.ol 1502300)),.s (.one (.ol 1502301)),sI,sI,.b (.lst 72 aF false),.b (.lst 213 ar false)],[aa,iT,iT,aa,ai]⟩],Pw.unc9 (Pw.j3x)⟩,
  ⟨4,[.s (.one (.d aa)),.s (.one (.ol 1004000)),.s (.one (.bp 704 0)),sI,.s (.one (.ol 1004001)),sI,sI,.s (.one (.d aa)),sI,sI,.b (.cell [.d iT,.d iT,.d iT] false),.b (.lst 72 aF false),.b (.lst 213 ar false)],[aa,iT,iT,iT,aa,iT,iT,iT,iT,iT,aa,ai],[⟨.exit 4,[.s (.one (.d aa)),.s (.one (.ol 1504500)),.s (.one (.bp 704 0)),sI,.s (.one (.ol 1504501)),sI,sI,.b (.cell [.d iT,.d iT,.d iT] false),.b (.lst 72 aF false),.b (.lst 213 ar false)],[aa,iT,iT,iT,iT,iT,iT,aa,ai]⟩],Pw.jvu (Pw.j3w)⟩]
 modes:=[(139,[false,false,false]),(140,[false])]
 keep:=[(0,⟨[1,9,19,20,21],[],[⟨1000000,72,aF,[.slot 9],false⟩,⟨1000001,213,ar,[.slot 19],false⟩],[]⟩),
  (2,⟨[1,9,11,13,19,20,21],[704],[⟨1002000,72,aF,[.slot 9],false⟩,⟨1002001,213,ar,[.slot 19],false⟩],[]⟩),
  (4,⟨[1,9,11,13,19,20,21,45,46,47],[704],[⟨1004000,72,aF,[.slot 9],false⟩,⟨1004001,213,ar,[.slot 19],false⟩],[]⟩)]
 keepX:=[(0,.exit 0,⟨[9],[],[⟨1500100,72,aF,[.slot 9],false⟩],[]⟩),
  (2,.exit 2,⟨[1,9,19,20,21],[],[⟨1502300,72,aF,[.slot 9],false⟩,⟨1502301,213,ar,[.slot 19],false⟩],[]⟩),
  (4,.exit 4,⟨[1,9,11,13,19,20,21],[704],[⟨1504500,72,aF,[.slot 9],false⟩,⟨1504501,213,ar,[.slot 19],false⟩],[]⟩)]
 ro:=[true]
theorem VO:Con.OK Tryz.prog H9:=
 cOf aC aD jkl H9 Tryz.func74 (j9 NZ (j9 EL trivial)) (j9 (λh=>by kernel_rfl) (j9 (λh=>by kernel_rfl) (j9 (λh=>by kernel_rfl) trivial)))
def N6:Con:=⟨361,[.v fP,.v fy,.v iT,.v iT],[fP,fy,iT,iT],⟨[.own 72 aa],[]⟩,[aa],Pw.unc4 Pw.j20⟩
def jhX:FnD where
 N:=58
 np:=4
 cs:=[EJ,yN]
 ds:=[⟨0,[.s (.one (.bp 320 0)),.s (.one (.ol 1000000)),.s (.one (.ol 1000001)),sI,sI,.b (.cell [.d .str,.d iT,.d (.list iT)] false),.b (.lst 72 aF false),.b (.lst 213 ar false)],[iT,iT,.str,iT,(.list iT),aa,ai],[⟨.exit 0,[.s (.one (.ol 1500100)),.b (.lst 72 aF false)],[aa]⟩],Pw.unc7 (Pw.j2L)⟩,
  ⟨2,[.s (.one (.bp 320 0)),.s (.one (.ol 1002000)),.s (.one (.bp 704 0)),.s (.one (.ol 1002001)),sI,sI,.s (.one (.d (.list iT))),sI,sI,.b (.cell [.d .str,.d iT,.d (.list iT)] false),.b (.cell [.d iT,.d iT,.d iT] false),.b (.lst 72 aF false),.b (.lst 213 ar false)],[iT,iT,(.list iT),iT,iT,.str,iT,(.list iT),iT,iT,iT,aa,ai],[⟨.exit 2,[.s (.one (.bp 320 0)),.s (.one (.ol 1502300)),.s (.one (.ol 1502301)),sI,sI,.b (.cell [.d .str,.d iT,.d (.list iT)] false),.b (.lst 72 aF false),.b (.lst 213 ar false)],[iT,iT,.str,iT,(.list iT),aa,ai]⟩],Pw.jvv (Pw.j2K)⟩]
 modes:=[(139,[false,false,false]),(140,[false])]
 keep:=[(0,⟨[5,9,23,24,25],[320],[⟨1000000,72,aF,[.slot 9],false⟩,⟨1000001,213,ar,[.slot 23],false⟩],[]⟩),
  (2,⟨[5,9,11,23,24,25,30,31,32],[320,704],[⟨1002000,72,aF,[.slot 9],false⟩,⟨1002001,213,ar,[.slot 23],false⟩],[]⟩)]
 keepX:=[(0,.exit 0,⟨[9],[],[⟨1500100,72,aF,[.slot 9],false⟩],[]⟩),
  (2,.exit 2,⟨[5,9,23,24,25],[320],[⟨1502300,72,aF,[.slot 9],false⟩,⟨1502301,213,ar,[.slot 23],false⟩],[]⟩)]
 ro:=[true]
theorem jhe:Con.OK Tryz.prog N6:=
 cOf aC aD jhX N6 Tryz.func361 (j9 NZ (j9 EL trivial)) (j9 (λh=>by kernel_rfl) (j9 (λh=>by kernel_rfl) trivial))
def EM:Con:=⟨270,[.v aa,.v aa],[aa,aa],⟨[.own 72 aa],[]⟩,[aa],Pw.unc2 Pw.j2G⟩
def jkm:FnD where
 N:=89
 np:=2
 cs:=[]
 ds:=[⟨0,[.s (.one (.d aa)),.s (.one (.ol 1000000)),sI,.s (.one (.d aa)),sI,sI,.b (.lst 72 aF false)],[aa,iT,aa,iT,iT,aa],[⟨.exit 0,[.s (.one (.ol 1500100)),.b (.lst 72 aF false)],[aa]⟩],Pw.unc6 (Pw.j3B)⟩,
  ⟨2,[.s (.one (.d aa)),.s (.one (.ol 1002000)),sI,.s (.one (.bp 512 0)),.s (.one (.d aa)),sI,sI,.b (.cell [.d iT,.d iT] false),.b (.lst 72 aF false)],[aa,iT,aa,iT,iT,iT,iT,aa],[⟨.exit 2,[.s (.one (.d aa)),.s (.one (.ol 1502300)),sI,.s (.one (.bp 512 0)),.s (.one (.d aa)),sI,sI,.b (.cell [.d iT,.d iT] false),.b (.lst 72 aF false)],[aa,iT,aa,iT,iT,iT,iT,aa]⟩],Pw.unc8 (Pw.j3z)⟩,
  ⟨4,[.s (.one (.d aa)),.s (.one (.ol 1004000)),sI,.s (.one (.bp 512 0)),sI,sI,.s (.one (.d aa)),sI,sI,.b (.cell [.d iT,.d iT] false),.b (.lst 72 aF false)],[aa,iT,iT,iT,aa,iT,iT,iT,iT,aa],[⟨.exit 4,[.s (.one (.d aa)),.s (.one (.ol 1504500)),sI,.s (.one (.bp 512 0)),sI,.s (.one (.d aa)),sI,sI,.b (.cell [.d iT,.d iT] false),.b (.lst 72 aF false)],[aa,iT,iT,aa,iT,iT,iT,iT,aa]⟩],Pw.jvs (Pw.j3A)⟩]
 keep:=[(0,⟨[1,5,6,11,12,13],[],[⟨1000000,72,aF,[.slot 5],false⟩],[]⟩),
  (2,⟨[1,5,6,8,11,12,13],[512],[⟨1002000,72,aF,[.slot 5],false⟩],[]⟩),
  (4,⟨[1,5,6,8,9,10,11,12,13],[512],[⟨1004000,72,aF,[.slot 5],false⟩],[]⟩)]
 keepX:=[(0,.exit 0,⟨[5],[],[⟨1500100,72,aF,[.slot 5],false⟩],[]⟩),
  (2,.exit 2,⟨[1,5,6,8,11,12,13],[512],[⟨1502300,72,aF,[.slot 5],false⟩],[]⟩),
  (4,.exit 4,⟨[1,5,6,8,9,11,12,13],[512],[⟨1504500,72,aF,[.slot 5],false⟩],[]⟩)]
 ro:=[true]
theorem N7:Con.OK Tryz.prog EM:=
 cOf aC aD jkm EM Tryz.func270 trivial (j9 (λh=>by kernel_rfl) (j9 (λh=>by kernel_rfl) (j9 (λh=>by kernel_rfl) trivial)))
def Ia:Con:=⟨76,[.v aa,.v aa],[aa,aa],⟨[.own 72 aa],[]⟩,[aa],Pw.unc2 Pw.j7w⟩
def jmw:FnD where
 N:=67
 np:=2
 cs:=[]
 ds:=[⟨0,[.s (.one (.d aa)),.s (.one (.d aa)),.s (.one (.ol 1000000)),sI,sI,.b (.lst 72 aF false)],[aa,aa,iT,iT,aa],[⟨.exit 0,[.s (.one (.ol 1500100)),.b (.lst 72 aF false)],[aa]⟩],Pw.unc5 (Pw.j5w)⟩]
 keep:=[(0,⟨[0,1,5,6,7],[],[⟨1000000,72,aF,[.slot 5],false⟩],[]⟩)]
 keepX:=[(0,.exit 0,⟨[5],[],[⟨1500100,72,aF,[.slot 5],false⟩],[]⟩)]
 ro:=[true]
 dw:=[(4,[[],[],[],[],[],[],[],[],[],[],[],[],[],[],[],[],[],[],[],[],[],[],[],[512],[512]])]
theorem VP:Con.OK Tryz.prog Ia:=
 cOf aC aD jmw Ia Tryz.func76 trivial (j9 (λh=>by kernel_rfl) trivial)
def N8:Con:=⟨321,[.v fP,.v cX,.v iT,.v iT],[fP,cX,iT,iT],⟨[.own 72 aa],[]⟩,[aa],Pw.unc4 Pw.j6f⟩
def jhf:FnD where
 N:=90
 np:=4
 cs:=[EK,H9,N6,EM,Ia]
 ds:=[]
 modes:=[(74,[false,false,false,false]),(76,[false,false]),(270,[false,false]),(323,[false,false,false]),(361,[false,false,false,false])]
 ro:=[true]
 dw:=[(7,[[],[],[],[],[],[],[],[],[],[],[3584],[]]),(10,[[],[],[],[],[],[],[],[],[],[],[],[4608],[4672],[]]),(12,[[],[],[],[],[],[],[],[],[],[],[],[5568],[5632],[]])]
theorem jgA:Con.OK Tryz.prog N8:=
 cOf aC aD jhf N8 Tryz.func321 (j9 N2 (j9 VO (j9 jhe (j9 N7 (j9 VP trivial))))) trivial
def N9:Con:=⟨215,[.v cG,.v iT],[cG,iT],⟨[.v iT],[]⟩,[iT],Pw.unc2 Pw.j6D⟩
def jfA:FnD where
 N:=10
 np:=2
 cs:=[H6,H7]
 ds:=[]
 modes:=[(202,[false,false]),(203,[false,false])]
 ro:=[false]
theorem jeL:Con.OK Tryz.prog N9:=
 cOf aC aD jfA N9 Tryz.func215 (j9 VJ (j9 VK trivial)) trivial
def Oa:Con:=⟨214,[.v iT],[iT],⟨[.v aF],[]⟩,[aF],λh=>Pw.jew h⟩
def jon:FnD where
 N:=17
 np:=1
 cs:=[]
 ds:=[]
 ro:=[false]
theorem jmx:Con.OK Tryz.prog Oa:=
 cOf aC aD jon Oa Tryz.func214 trivial trivial
def Ob:Con:=⟨146,[.v cG,.v iT],[cG,iT],⟨[.v aF],[]⟩,[aF],Pw.unc2 Pw.j22⟩
def jgB:FnD where
 N:=11
 np:=2
 cs:=[N9,Oa]
 ds:=[]
 modes:=[(214,[false]),(215,[false,false])]
 ro:=[false]
theorem jfB:Con.OK Tryz.prog Ob:=
 cOf aC aD jgB Ob Tryz.func146 (j9 jeL (j9 jmx trivial)) trivial
end Go.Proofs.Pk
