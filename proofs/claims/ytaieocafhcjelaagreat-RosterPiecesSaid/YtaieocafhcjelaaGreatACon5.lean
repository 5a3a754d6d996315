/- Contracts: each given function is its plain function, printed by a program. -/
import Derived.Test.YtaieocafhcjelaaGreatACon4
noncomputable section
open Go Go.Lft
set_option linter.unusedVariables false
set_option maxRecDepth 100000
namespace Go.Proofs.Pk
def jbv:Con:=⟨305,[.v ty77,.v iT],[ty77,iT],⟨[.own 99 ty13],[]⟩,[ty13],Pw.unc2 Pw.j4z⟩
def jo7:FnD where
 N:=35
 np:=2
 cs:=[j5F]
 ds:=[⟨0,[sI,.s (.one (.ol 1000000)),.s (.one (.d ty44)),sI,sI,.b (.lst 99 ty8 false)],[iT,ty44,iT,iT,ty13],[⟨.exit 0,[.s (.one (.ol 1500100)),.b (.lst 99 ty8 false)],[ty13]⟩],Pw.unc5 (Pw.j4m)⟩]
 modes:=[(185,[false])]
 keep:=[(0,⟨[1,5,9,10,11],[],[⟨1000000,99,ty8,[.slot 5],false⟩],[]⟩)]
 keepX:=[(0,.exit 0,⟨[5],[],[⟨1500100,99,ty8,[.slot 5],false⟩],[]⟩)]
 ro:=[true]
theorem jne:Con.OK Tryz.prog jbv:=
 cOf j0c j03 jo7 jbv Tryz.func305 (j9 j9t trivial) (j9 (fun h=>by kernel_rfl) trivial)
def jam:Con:=⟨218,[.v ty77,.v ty26],[ty77,ty26],⟨[.own 41 ty26],[]⟩,[ty26],Pw.unc2 Pw.j5f⟩
def jnf:FnD where
 N:=68
 np:=2
 cs:=[j6M,jbv]
 ds:=[⟨0,[.s (.one (.bp 128 0)),.s (.one (.ol 1000000)),.s (.one (.ol 1000001)),.s (.one (.d ty26)),sI,sI,.b (.cell [.d .str,.d ty73,.d ty44] false),.b (.lst 4294967637 ty28 false),.b (.lst 41 ty21 false)],[ty26,iT,iT,.str,ty73,ty44,ty33,ty26],[⟨.exit 0,[.s (.one (.ol 1500100)),.b (.lst 41 ty21 false)],[ty26]⟩],Pw.unc8 (Pw.j1P)⟩,
  ⟨2,[.s (.one (.bp 128 0)),.s (.one (.ol 1002000)),.s (.one (.ol 1002001)),.s (.one (.bp 512 0)),.s (.one (.d ty26)),sI,sI,.s (.one (.ol 1002002)),sI,sI,.b (.cell [.d .str,.d ty73,.d ty44] false),.b (.cell [.d iT,.d iT,.d iT] false),.b (.lst 4294967637 ty28 false),.b (.lst 41 ty21 false),.b (.lst 99 ty8 false)],[ty26,iT,iT,iT,iT,.str,ty73,ty44,iT,iT,iT,ty33,ty26,ty13],[⟨.exit 2,[.s (.one (.bp 128 0)),.s (.one (.ol 1502300)),.s (.one (.ol 1502301)),.s (.one (.d ty26)),sI,sI,.b (.cell [.d .str,.d ty73,.d ty44] false),.b (.lst 4294967637 ty28 false),.b (.lst 41 ty21 false)],[ty26,iT,iT,.str,ty73,ty44,ty33,ty26]⟩],Pw.jnS (Pw.j3P)⟩]
 modes:=[(220,[false,false]),(305,[false,false])]
 keep:=[(0,⟨[2,5,6,14,15,16],[128],[⟨1000000,4294967637,ty28,[.slot 5],false⟩,⟨1000001,41,ty21,[.slot 6],false⟩],[]⟩),
  (2,⟨[2,5,6,8,14,15,16,49,50,51],[128,512],[⟨1002000,4294967637,ty28,[.slot 5],false⟩,⟨1002001,41,ty21,[.slot 6],false⟩,⟨1002002,99,ty8,[.slot 49],false⟩],[]⟩)]
 keepX:=[(0,.exit 0,⟨[6],[],[⟨1500100,41,ty21,[.slot 6],false⟩],[]⟩),
  (2,.exit 2,⟨[2,5,6,14,15,16],[128],[⟨1502300,4294967637,ty28,[.slot 5],false⟩,⟨1502301,41,ty21,[.slot 6],false⟩],[]⟩)]
 ro:=[true]
 dw:=[(9,[[],[],[],[],[],[],[2432],[2432,1000000]])]
theorem jlB:Con.OK Tryz.prog jam:=
 cOf j0c j03 jnf jam Tryz.func218 (j9 jcS (j9 jne trivial)) (j9 (fun h=>by kernel_rfl) (j9 (fun h=>by kernel_rfl) trivial))
def jbw:Con:=⟨217,[.v ty26,.v ty13],[ty26,ty13],⟨[.own 41 ty26],[]⟩,[ty26],Pw.unc2 Pw.j7n⟩
def jo8:FnD where
 N:=72
 np:=2
 cs:=[]
 ds:=[⟨0,[.s (.one (.d ty26)),.s (.one (.d ty13)),.s (.one (.ol 1000000)),sI,sI,.b (.lst 41 ty21 false)],[ty26,ty13,iT,iT,ty26],[⟨.exit 0,[.s (.one (.ol 1500100)),.b (.lst 41 ty21 false)],[ty26]⟩],Pw.unc5 (Pw.j5M)⟩]
 keep:=[(0,⟨[0,1,5,6,7],[],[⟨1000000,41,ty21,[.slot 5],false⟩],[]⟩)]
 keepX:=[(0,.exit 0,⟨[5],[],[⟨1500100,41,ty21,[.slot 5],false⟩],[]⟩)]
 ro:=[true]
 dw:=[(4,[[],[],[],[],[],[],[],[],[],[],[],[],[],[],[],[],[],[],[],[],[],[],[],[],[],[],[],[],[512],[512]])]
theorem jng:Con.OK Tryz.prog jbw:=
 cOf j0c j03 jo8 jbw Tryz.func217 trivial (j9 (fun h=>by kernel_rfl) trivial)
def jcV:Con:=⟨221,[.v ty26],[ty26],⟨[.own 99 ty13],[]⟩,[ty13],fun h=>Pw.j7o h⟩
def jq2:FnD where
 N:=23
 np:=1
 cs:=[j5F]
 ds:=[⟨0,[.s (.one (.ol 1000000)),.s (.one (.d ty26)),sI,sI,.b (.lst 99 ty8 false)],[ty26,iT,iT,ty13],[⟨.exit 0,[.s (.one (.ol 1500100)),.b (.lst 99 ty8 false)],[ty13]⟩],Pw.unc4 (Pw.j4K)⟩]
 modes:=[(185,[false])]
 keep:=[(0,⟨[3,6,7,8],[],[⟨1000000,99,ty8,[.slot 3],false⟩],[]⟩)]
 keepX:=[(0,.exit 0,⟨[3],[],[⟨1500100,99,ty8,[.slot 3],false⟩],[]⟩)]
 ro:=[true]
theorem jo9:Con.OK Tryz.prog jcV:=
 cOf j0c j03 jq2 jcV Tryz.func221 (j9 j9t trivial) (j9 (fun h=>by kernel_rfl) trivial)
def j6r:Con:=⟨223,[.v ty21,.v ty21],[ty21,ty21],⟨[.v iT],[]⟩,[iT],Pw.unc2 Pw.j3y⟩
def jgT:FnD where
 N:=10
 np:=2
 cs:=[]
 ds:=[]
 ro:=[false]
theorem jqF:Con.OK Tryz.prog j6r:=
 cOf j0c j03 jgT j6r Tryz.func223 trivial trivial
def j1b:Con:=⟨222,[.rl 41 ty26,.clo 223 []],[ty26],⟨[],[.rl ty26]⟩,[ty26],fun h=>Pw.j0K h⟩
def j95:FnD where
 N:=14
 np:=2
 cs:=[j6r]
 ds:=[]
 modes:=[(223,[false,false])]
theorem j35:Con.OK Tryz.prog j1b:=
 juE Tryz.sort222 (ty21) rfl 41 (by kernel_rfl) Tryz.isAgg41 Tryz.sizeOf41 _ 223 (enters_of Tryz.func223 (by kernel_rfl) rfl) jt9 jta 222 rfl
def j8b:Con:=⟨151,[.v ty86,.v ty77,.v iT,.v iT],[ty86,ty77,iT,iT],⟨[.own 41 ty26],[]⟩,[ty26],Pw.unc4 Pw.j2K⟩
def jjT:FnD where
 N:=63
 np:=4
 cs:=[j1o,j6M,j8w,j6V,jam,jbw,jcV,j1b]
 ds:=[⟨0,[sI,.s (.one (.bp 256 0)),.s (.one (.bp 320 0)),.s (.one (.bp 384 0)),.s (.one (.bp 448 0)),.s (.one (.bp 576 0)),.s (.one (.bp 640 0)),.s (.one (.clo 261 [.p [ty73]])),.b (.cell [.d ty66,.d ty56,.d ty29,.d ty78,.d ty33] false),.b (.cell [.d .str,.d ty73,.d ty44] false),.b (.cell [.d iT] false),.b (.cell [.d iT] false),.b (.cell [.ol 1000000] false),.b (.cell [.ol 1000001] false),.b (.lst 99 ty8 false),.b (.lst 41 ty21 false)],[iT,ty73,ty66,ty56,ty29,ty78,ty33,.str,ty73,ty44,iT,iT,ty13,ty26],[⟨.normal,[.s (.one (.bp 576 0)),.s (.one (.bp 640 0)),.b (.cell [.ol 1500050] false),.b (.cell [.ol 1500051] false),.b (.lst 99 ty8 false),.b (.lst 41 ty21 false)],[ty13,ty26]⟩],Pw.jnS (Pw.j19)⟩,
  ⟨2,[.s (.one (.bp 640 0)),.s (.one (.ol 1002000)),sI,sI,.b (.cell [.ol 1002001] false),.b (.lst 99 ty8 false),.b (.lst 41 ty21 false)],[iT,iT,ty13,ty26],[⟨.exit 2,[.s (.one (.bp 640 0)),.b (.cell [.ol 1502300] false),.b (.lst 41 ty21 false)],[ty26]⟩],Pw.unc4 (Pw.j2Y)⟩]
 modes:=[(153,[false]),(180,[false]),(217,[false,false]),(218,[false,false]),(219,[false,false,false,false]),(220,[false,false]),(221,[false]),(222,[true,false])]
 keep:=[(0,⟨[4,5,6,7,9,10,25],[256,320,384,448,576,640],[⟨1000000,99,ty8,[.cell 576 0],false⟩,⟨1000001,41,ty21,[.cell 640 0],false⟩],[]⟩),
  (2,⟨[10,44,45,46],[640],[⟨1002000,99,ty8,[.slot 44],false⟩,⟨1002001,41,ty21,[.cell 640 0],false⟩],[]⟩)]
 keepX:=[(0,.normal,⟨[9,10],[576,640],[⟨1500050,99,ty8,[.cell 576 0],false⟩,⟨1500051,41,ty21,[.cell 640 0],false⟩],[]⟩),
  (2,.exit 2,⟨[10],[640],[⟨1502300,41,ty21,[.cell 640 0],false⟩],[]⟩)]
 ro:=[true]
 dw:=[(7,[[],[],[],[],[],[2112],[2176],[],[2304],[]]),(9,[[],[],[2688],[2752],[576]])]
 bw:=[(261,(false,ty72))]
theorem juF:ItOK Tryz.prog 261 false (ty72):=jD4 <| jBU j0c Tryz.func261 (fn:=Tryz.f261) (A0:=bwA Tryz.f261 0) (A1:=bwA Tryz.f261 1) (A2:=bwA Tryz.f261 2) (A3:=bwA Tryz.f261 3) (by kernel_rfl) (by kernel_rfl) (by kernel_rfl) (by kernel_rfl) (by kernel_rfl) (by kernel_rfl) (by kernel_rfl) (by kernel_rfl) (by kernel_rfl) (by kernel_rfl) (by kernel_rfl) ⟨(by kernel_rfl),(by kernel_rfl)⟩
 (fun xs=>by kernel_rfl) (fun i=>by kernel_rfl) (fun i=>by kernel_rfl) (fun xs i=>by kernel_rfl) (fun b i=>by kernel_rfl)
theorem jiF:Con.OK Tryz.prog j8b:=
 cOf j0c j03 jjT j8b Tryz.func151 (j9 j46 (j9 jcS (j9 jfm (j9 jgS (j9 jlB (j9 jng (j9 jo9 (j9 j35 trivial)))))))) (j9 (fun h=>by kernel_rfl) (j9 (fun h=>by kernel_rfl) trivial)) (j9 juF trivial)
def jan:Con:=⟨309,[.v iT],[iT],⟨[.v .bool],[]⟩,[.bool],fun h=>Pw.jbR h⟩
def jnh:FnD where
 N:=6
 np:=1
 cs:=[]
 ds:=[]
 ro:=[false]
theorem jlC:Con.OK Tryz.prog jan:=
 cOf j0c j03 jnh jan Tryz.func309 trivial trivial
def jbx:Con:=⟨224,[.v iT,.v iT],[iT,iT],⟨[.v .bool],[]⟩,[.bool],Pw.unc2 Pw.jdB⟩
def joa:FnD where
 N:=17
 np:=2
 cs:=[jan]
 ds:=[]
 modes:=[(309,[false])]
 ro:=[false]
theorem jni:Con.OK Tryz.prog jbx:=
 cOf j0c j03 joa jbx Tryz.func224 (j9 jlC trivial) trivial
def j8c:Con:=⟨225,[.v iT],[iT],⟨[.v .bool],[]⟩,[.bool],fun h=>Pw.j6z h⟩
def jjU:FnD where
 N:=6
 np:=1
 cs:=[]
 ds:=[]
 ro:=[false]
theorem jiG:Con.OK Tryz.prog j8c:=
 cOf j0c j03 jjU j8c Tryz.func225 trivial trivial
def j2v:Con:=⟨152,[.v (.list iT),.v iT],[(.list iT),iT],⟨[.v iT,.v .bool],[]⟩,[iT,.bool],Pw.unc2 Pw.j0i⟩
def jby:FnD where
 N:=54
 np:=2
 cs:=[jbx,j8c]
 ds:=[⟨0,[.s (.one (.d (.list iT))),sI,sI,sI,sI],[(.list iT),iT,iT,iT,iT],[⟨.exit 0,[.s (.one (.d (.list iT))),sI,sI,sI],[(.list iT),iT,iT,iT]⟩],Pw.unc5 (Pw.j1W)⟩]
 modes:=[(224,[false,false]),(225,[false])]
 keep:=[(0,⟨[0,1,6,7,8],[],[],[]⟩)]
 keepX:=[(0,.exit 0,⟨[0,1,6,7],[],[],[]⟩)]
 ro:=[false,false]
theorem j6c:Con.OK Tryz.prog j2v:=
 cOf j0c j03 jby j2v Tryz.func152 (j9 jni (j9 jiG trivial)) (j9 (fun h=>by kernel_rfl) trivial)
def jcW:Con:=⟨101,[.v ty42,.v iT],[ty42,iT],⟨[.v .bool],[]⟩,[.bool],Pw.unc2 Pw.jiq⟩
def jq3:FnD where
 N:=15
 np:=2
 cs:=[]
 ds:=[]
 ro:=[false]
theorem job:Con.OK Tryz.prog jcW:=
 cOf j0c j03 jq3 jcW Tryz.func101 trivial trivial
def jbX:Con:=⟨42,[.v ty44,.v iT,.v iT],[ty44,iT,iT],⟨[.v iT],[]⟩,[iT],Pw.unc3 Pw.j9e⟩
def jtf:FnD where
 N:=51
 np:=3
 cs:=[jcW]
 ds:=[⟨0,[sI,sI,.s (.one (.d ty44)),sI,sI],[iT,iT,ty44,iT,iT],[⟨.exit 0,[sI],[iT]⟩],Pw.unc5 (Pw.j5Z)⟩]
 modes:=[(101,[false,false])]
 keep:=[(0,⟨[1,2,9,10,11],[],[],[]⟩)]
 keepX:=[(0,.exit 0,⟨[1],[],[],[]⟩)]
 ro:=[false]
theorem jlk:Con.OK Tryz.prog jbX:=
 cOf j0c j03 jtf jbX Tryz.func42 (j9 job trivial) (j9 (fun h=>by kernel_rfl) trivial)
def j6s:Con:=⟨76,[.v ty86,.v ty77,.v iT,.v iT],[ty86,ty77,iT,iT],⟨[.own 41 ty26],[]⟩,[ty26],Pw.unc4 Pw.j3d⟩
def jkJ:FnD where
 N:=88
 np:=4
 cs:=[jfl,j8w,j8b,j2v,jbX]
 ds:=[⟨0,[sI,sI,.s (.one (.bp 256 0)),.s (.one (.bp 320 0)),.s (.one (.ol 1000000)),.s (.one (.d ty44)),sI,sI,.b (.cell [.d ty66,.d ty56,.d ty29,.d ty78,.d ty33] false),.b (.cell [.d .str,.d ty73,.d ty44] false),.b (.lst 3 iT false)],[iT,iT,ty44,iT,iT,ty66,ty56,ty29,ty78,ty33,.str,ty73,ty44,(.list iT)],[⟨.exit 0,[sI,sI,.s (.one (.bp 256 0)),.s (.one (.bp 320 0)),.s (.one (.ol 1500100)),.b (.cell [.d ty66,.d ty56,.d ty29,.d ty78,.d ty33] false),.b (.cell [.d .str,.d ty73,.d ty44] false),.b (.lst 3 iT false)],[iT,iT,ty66,ty56,ty29,ty78,ty33,.str,ty73,ty44,(.list iT)]⟩],Pw.jnS (Pw.j3a)⟩,
  ⟨2,[.s (.one (.bp 320 0)),.s (.one (.ol 1002000)),.s (.one (.ol 1002001)),.s (.one (.ol 1002002)),sI,sI,.b (.cell [.d .str,.d ty73,.d ty44] false),.b (.lst 3 iT false),.b (.lst 41 ty21 false),.b (.lst 41 ty21 false)],[iT,iT,.str,ty73,ty44,(.list iT),ty26,ty26],[⟨.exit 2,[.s (.one (.ol 1502300)),.b (.lst 41 ty21 false)],[ty26]⟩],Pw.unc8 (Pw.j1n)⟩,
  ⟨4,[.s (.one (.bp 320 0)),.s (.one (.ol 1004000)),.s (.one (.ol 1004001)),.s (.one (.bp 960 0)),sI,sI,.s (.one (.ol 1004002)),sI,sI,.b (.cell [.d .str,.d ty73,.d ty44] false),.b (.cell [.d iT,.d iT,.d iT] false),.b (.lst 3 iT false),.b (.lst 41 ty21 false),.b (.lst 41 ty21 false)],[iT,iT,iT,iT,.str,ty73,ty44,iT,iT,iT,(.list iT),ty26,ty26],[⟨.exit 4,[.s (.one (.bp 320 0)),.s (.one (.ol 1504500)),.s (.one (.ol 1504501)),.s (.one (.ol 1504502)),sI,sI,.b (.cell [.d .str,.d ty73,.d ty44] false),.b (.lst 3 iT false),.b (.lst 41 ty21 false),.b (.lst 41 ty21 false)],[iT,iT,.str,ty73,ty44,(.list iT),ty26,ty26]⟩],Pw.jvw (Pw.j1m)⟩]
 modes:=[(42,[false,false,false]),(150,[false,false,false]),(151,[false,false,false,false]),(152,[false,false]),(153,[false])]
 keep:=[(0,⟨[2,3,4,5,9,21,22,23],[256,320],[⟨1000000,3,iT,[.slot 9],false⟩],[]⟩),
  (2,⟨[5,12,13,43,44,45],[320],[⟨1002000,3,iT,[.slot 12],false⟩,⟨1002001,41,ty21,[.slot 13],false⟩,⟨1002002,41,ty21,[.slot 43],false⟩],[]⟩),
  (4,⟨[5,12,13,15,16,18,43,44,45],[320,960],[⟨1004000,3,iT,[.slot 12],false⟩,⟨1004001,41,ty21,[.slot 13],false⟩,⟨1004002,41,ty21,[.slot 43],false⟩],[]⟩)]
 keepX:=[(0,.exit 0,⟨[2,3,4,5,9],[256,320],[⟨1500100,3,iT,[.slot 9],false⟩],[]⟩),
  (2,.exit 2,⟨[13],[],[⟨1502300,41,ty21,[.slot 13],false⟩],[]⟩),
  (4,.exit 4,⟨[5,12,13,43,44,45],[320],[⟨1504500,3,iT,[.slot 12],false⟩,⟨1504501,41,ty21,[.slot 13],false⟩,⟨1504502,41,ty21,[.slot 43],false⟩],[]⟩)]
 ro:=[true]
theorem jdC:Con.OK Tryz.prog j6s:=
 cOf j0c j03 jkJ j6s Tryz.func76 (j9 jrH (j9 jfm (j9 jiF (j9 j6c (j9 jlk trivial))))) (j9 (fun h=>by kernel_rfl) (j9 (fun h=>by kernel_rfl) (j9 (fun h=>by kernel_rfl) trivial)))
def j3D:Con:=⟨23,[.v ty84,.v iT,.v iT,.v iT],[ty84,iT,iT,iT],⟨[.own 41 ty26,.v iT],[]⟩,[ty26,iT],Pw.unc4 Pw.j2o⟩
def jkK:FnD where
 N:=37
 np:=4
 cs:=[j9q,j6s]
 ds:=[]
 modes:=[(75,[false,false,false,false]),(76,[false,false,false,false])]
 ro:=[true,false]
 dw:=[(4,[[],[],[],[],[],[],[],[],[2048],[]])]
theorem j79:Con.OK Tryz.prog j3D:=
 cOf j0c j03 jkK j3D Tryz.func23 (j9 ji3 (j9 jdC trivial)) trivial
def j7a:Con:=⟨79,[.v ty26],[ty26],⟨[.clo 157 [.p [ty26]]],[]⟩,[ty26],fun h=>Pw.jdN h⟩
def jlD:FnD where
 N:=4
 np:=1
 cs:=[]
 ds:=[]
 ro:=[false]
theorem jeE:Con.OK Tryz.prog j7a:=
 cOf j0c j03 jlD j7a Tryz.func79 trivial trivial
def j9v:Con:=⟨28,[.v ty84,.v iT,.v iT,.v iT],[ty84,iT,iT,iT],⟨[.own 63 ty26,.v iT],[]⟩,[ty26,iT],Pw.unc4 Pw.j8p⟩
def jlE:FnD where
 N:=33
 np:=4
 cs:=[j3D,j7a]
 ds:=[⟨0,[sI,.s (.one (.bp 768 0)),.s (.one (.clo 157 [.p [ty26]])),.b (.cell [.ol 1000000] false),.b (.lst 63 ty21 false)],[iT,ty26,ty26],[⟨.normal,[.s (.one (.bp 768 0)),.b (.cell [.ol 1500050] false),.b (.lst 63 ty21 false)],[ty26]⟩],Pw.unc3 (Pw.j9V)⟩]
 modes:=[(23,[false,false,false,false]),(79,[false])]
 keep:=[(0,⟨[12,26],[768],[⟨1000000,63,ty21,[.cell 768 0],false⟩],[]⟩)]
 keepX:=[(0,.normal,⟨[12],[768],[⟨1500050,63,ty21,[.cell 768 0],false⟩],[]⟩)]
 ro:=[true,false]
 bw:=[(157,(true,ty21))]
theorem juG:ItOK Tryz.prog 157 true (ty21):=
 jAV j0c j03 Tryz.func157 (fn:=Tryz.f157) (by kernel_rfl) (by kernel_rfl) (by kernel_rfl) (by kernel_rfl) (by kernel_rfl) (by kernel_rfl) (by kernel_rfl) (by kernel_rfl) (by kernel_rfl) (by kernel_rfl) (by kernel_rfl) (by kernel_rfl)
  (fun xs i=>by kernel_rfl) (fun i=>by kernel_rfl) (fun xs i=>by kernel_rfl) (fun b i=>by kernel_rfl)
theorem jkL:Con.OK Tryz.prog j9v:=
 cOf j0c j03 jlE j9v Tryz.func28 (j9 j79 (j9 jeE trivial)) (j9 (fun h=>by kernel_rfl) trivial) (j9 juG trivial)
def jao:Con:=⟨183,[.v ty8],[ty8],⟨[.v iT],[]⟩,[iT],fun h=>Pw.j3H h⟩
def jnj:FnD where
 N:=10
 np:=1
 cs:=[j7M]
 ds:=[]
 modes:=[(263,[false])]
 ro:=[false]
theorem jlF:Con.OK Tryz.prog jao:=
 cOf j0c j03 jnj jao Tryz.func183 (j9 jg0 trivial) trivial
def jgU:Con:=⟨182,[.v ty13,.v iT],[ty13,iT],⟨[.v .bool],[]⟩,[.bool],Pw.unc2 Pw.jf4⟩
def jvy:FnD where
 N:=24
 np:=2
 cs:=[]
 ds:=[⟨0,[sI,.s (.one (.d ty13)),sI,sI],[iT,ty13,iT,iT],[⟨.ret,[.s (.one (.d .bool))],[.bool]⟩,⟨.exit 0,[],[]⟩],Pw.unc4 (Pw.j6A)⟩]
 keep:=[(0,⟨[1,7,8,9],[],[],[]⟩)]
 keepX:=[(0,.ret,⟨[4],[],[],[]⟩),
  (0,.exit 0,⟨[],[],[],[]⟩)]
 ro:=[false]
theorem jtg:Con.OK Tryz.prog jgU:=
 cOf j0c j03 jvy jgU Tryz.func182 trivial (j9 (fun h=>by kernel_rfl) trivial)
def jbz:Con:=⟨262,[.v ty86,.v ty72,.v iT],[ty86,ty72,iT],⟨[.v iT,.v .bool],[]⟩,[iT,.bool],Pw.unc3 Pw.j4A⟩
def joc:FnD where
 N:=79
 np:=3
 cs:=[j5Q,j7Q,j2v,jao,jgU]
 ds:=[]
 modes:=[(152,[false,false]),(182,[false,false]),(183,[false]),(184,[false,false]),(307,[false,false,false])]
 ro:=[false,false]
theorem jnk:Con.OK Tryz.prog jbz:=
 cOf j0c j03 joc jbz Tryz.func262 (j9 jcU (j9 jg2 (j9 j6c (j9 jlF (j9 jtg trivial))))) trivial
end Go.Proofs.Pk
