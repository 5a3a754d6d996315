/- Contracts: each given function is its plain function, printed by a program. -/
import Derived.Test.YtaieocafhcjelaaGreatBCon4
noncomputable section
open Go Go.Lft
set_option linter.unusedVariables false
set_option maxRecDepth 100000
namespace Go.Proofs.Pk
def j9Y:Con:=⟨305,[.v ty77,.v iT],[ty77,iT],⟨[.own 99 ty13],[]⟩,[ty13],Pw.unc2 Pw.j4c⟩
def jkh:FnD where
 N:=35
 np:=2
 cs:=[j54]
 ds:=[⟨0,[sI,.s (.one (.ol 1000000)),.s (.one (.d ty44)),sI,sI,.b (.lst 99 ty8 false)],[iT,ty44,iT,iT,ty13],[⟨.exit 0,[.s (.one (.ol 1500100)),.b (.lst 99 ty8 false)],[ty13]⟩],Pw.unc5 (Pw.j40)⟩]
 modes:=[(185,[false])]
 keep:=[(0,⟨[1,5,9,10,11],[],[⟨1000000,99,ty8,[.slot 5],false⟩],[]⟩)]
 keepX:=[(0,.exit 0,⟨[5],[],[⟨1500100,99,ty8,[.slot 5],false⟩],[]⟩)]
 ro:=[true]
theorem jjx:Con.OK Tryz.prog j9Y:=
 cOf j0n j04 jkh j9Y Tryz.func305 (j9 j8j trivial) (j9 (fun h=>by kernel_rfl) trivial)
def j96:Con:=⟨218,[.v ty77,.v ty26],[ty77,ty26],⟨[.own 41 ty26],[]⟩,[ty26],Pw.unc2 Pw.j4L⟩
def jjy:FnD where
 N:=68
 np:=2
 cs:=[j5X,j9Y]
 ds:=[⟨0,[.s (.one (.bp 128 0)),.s (.one (.ol 1000000)),.s (.one (.ol 1000001)),.s (.one (.d ty26)),sI,sI,.b (.cell [.d .str,.d ty73,.d ty44] false),.b (.lst 4294967637 ty28 false),.b (.lst 41 ty21 false)],[ty26,iT,iT,.str,ty73,ty44,ty33,ty26],[⟨.exit 0,[.s (.one (.ol 1500100)),.b (.lst 41 ty21 false)],[ty26]⟩],Pw.unc8 (Pw.j1N)⟩,
  ⟨2,[.s (.one (.bp 128 0)),.s (.one (.ol 1002000)),.s (.one (.ol 1002001)),.s (.one (.bp 512 0)),.s (.one (.d ty26)),sI,sI,.s (.one (.ol 1002002)),sI,sI,.b (.cell [.d .str,.d ty73,.d ty44] false),.b (.cell [.d iT,.d iT,.d iT] false),.b (.lst 4294967637 ty28 false),.b (.lst 41 ty21 false),.b (.lst 99 ty8 false)],[ty26,iT,iT,iT,iT,.str,ty73,ty44,iT,iT,iT,ty33,ty26,ty13],[⟨.exit 2,[.s (.one (.bp 128 0)),.s (.one (.ol 1502300)),.s (.one (.ol 1502301)),.s (.one (.d ty26)),sI,sI,.b (.cell [.d .str,.d ty73,.d ty44] false),.b (.lst 4294967637 ty28 false),.b (.lst 41 ty21 false)],[ty26,iT,iT,.str,ty73,ty44,ty33,ty26]⟩],Pw.jk2 (Pw.j3E)⟩]
 modes:=[(220,[false,false]),(305,[false,false])]
 keep:=[(0,⟨[2,5,6,14,15,16],[128],[⟨1000000,4294967637,ty28,[.slot 5],false⟩,⟨1000001,41,ty21,[.slot 6],false⟩],[]⟩),
  (2,⟨[2,5,6,8,14,15,16,49,50,51],[128,512],[⟨1002000,4294967637,ty28,[.slot 5],false⟩,⟨1002001,41,ty21,[.slot 6],false⟩,⟨1002002,99,ty8,[.slot 49],false⟩],[]⟩)]
 keepX:=[(0,.exit 0,⟨[6],[],[⟨1500100,41,ty21,[.slot 6],false⟩],[]⟩),
  (2,.exit 2,⟨[2,5,6,14,15,16],[128],[⟨1502300,4294967637,ty28,[.slot 5],false⟩,⟨1502301,41,ty21,[.slot 6],false⟩],[]⟩)]
 ro:=[true]
 dw:=[(9,[[],[],[],[],[],[],[2432],[2432,1000000]])]
theorem jhZ:Con.OK Tryz.prog j96:=
 cOf j0n j04 jjy j96 Tryz.func218 (j9 jb2 (j9 jjx trivial)) (j9 (fun h=>by kernel_rfl) (j9 (fun h=>by kernel_rfl) trivial))
def j9Z:Con:=⟨217,[.v ty26,.v ty13],[ty26,ty13],⟨[.own 41 ty26],[]⟩,[ty26],Pw.unc2 Pw.j6u⟩
def jki:FnD where
 N:=72
 np:=2
 cs:=[]
 ds:=[⟨0,[.s (.one (.d ty26)),.s (.one (.d ty13)),.s (.one (.ol 1000000)),sI,sI,.b (.lst 41 ty21 false)],[ty26,ty13,iT,iT,ty26],[⟨.exit 0,[.s (.one (.ol 1500100)),.b (.lst 41 ty21 false)],[ty26]⟩],Pw.unc5 (Pw.j5b)⟩]
 keep:=[(0,⟨[0,1,5,6,7],[],[⟨1000000,41,ty21,[.slot 5],false⟩],[]⟩)]
 keepX:=[(0,.exit 0,⟨[5],[],[⟨1500100,41,ty21,[.slot 5],false⟩],[]⟩)]
 ro:=[true]
 dw:=[(4,[[],[],[],[],[],[],[],[],[],[],[],[],[],[],[],[],[],[],[],[],[],[],[],[],[],[],[],[],[512],[512]])]
theorem jjz:Con.OK Tryz.prog j9Z:=
 cOf j0n j04 jki j9Z Tryz.func217 trivial (j9 (fun h=>by kernel_rfl) trivial)
def jb5:Con:=⟨221,[.v ty26],[ty26],⟨[.own 99 ty13],[]⟩,[ty13],fun h=>Pw.j6v h⟩
def jm6:FnD where
 N:=23
 np:=1
 cs:=[j54]
 ds:=[⟨0,[.s (.one (.ol 1000000)),.s (.one (.d ty26)),sI,sI,.b (.lst 99 ty8 false)],[ty26,iT,iT,ty13],[⟨.exit 0,[.s (.one (.ol 1500100)),.b (.lst 99 ty8 false)],[ty13]⟩],Pw.unc4 (Pw.j4m)⟩]
 modes:=[(185,[false])]
 keep:=[(0,⟨[3,6,7,8],[],[⟨1000000,99,ty8,[.slot 3],false⟩],[]⟩)]
 keepX:=[(0,.exit 0,⟨[3],[],[⟨1500100,99,ty8,[.slot 3],false⟩],[]⟩)]
 ro:=[true]
theorem jkj:Con.OK Tryz.prog jb5:=
 cOf j0n j04 jm6 jb5 Tryz.func221 (j9 j8j trivial) (j9 (fun h=>by kernel_rfl) trivial)
def j5N:Con:=⟨223,[.v ty21,.v ty21],[ty21,ty21],⟨[.v iT],[]⟩,[iT],Pw.unc2 Pw.j3n⟩
def jec:FnD where
 N:=10
 np:=2
 cs:=[]
 ds:=[]
 ro:=[false]
theorem jmB:Con.OK Tryz.prog j5N:=
 cOf j0n j04 jec j5N Tryz.func223 trivial trivial
def j19:Con:=⟨222,[.rl 41 ty26,.clo 223 []],[ty26],⟨[],[.rl ty26]⟩,[ty26],fun h=>Pw.j0I h⟩
def j80:FnD where
 N:=14
 np:=2
 cs:=[j5N]
 ds:=[]
 modes:=[(223,[false,false])]
theorem j2Y:Con.OK Tryz.prog j19:=
 jpL Tryz.sort222 (ty21) rfl 41 (by kernel_rfl) Tryz.isAgg41 Tryz.sizeOf41 _ 223 (enters_of Tryz.func223 (by kernel_rfl) rfl) joG joH 222 rfl
def j7b:Con:=⟨151,[.v ty86,.v ty77,.v iT,.v iT],[ty86,ty77,iT,iT],⟨[.own 41 ty26],[]⟩,[ty26],Pw.unc4 Pw.j2F⟩
def jgx:FnD where
 N:=63
 np:=4
 cs:=[j1n,j5X,j7w,j65,j96,j9Z,jb5,j19]
 ds:=[⟨0,[sI,.s (.one (.bp 256 0)),.s (.one (.bp 320 0)),.s (.one (.bp 384 0)),.s (.one (.bp 448 0)),.s (.one (.bp 576 0)),.s (.one (.bp 640 0)),.s (.one (.clo 261 [.p [ty73]])),.b (.cell [.d ty66,.d ty56,.d ty29,.d ty78,.d ty33] false),.b (.cell [.d .str,.d ty73,.d ty44] false),.b (.cell [.d iT] false),.b (.cell [.d iT] false),.b (.cell [.ol 1000000] false),.b (.cell [.ol 1000001] false),.b (.lst 99 ty8 false),.b (.lst 41 ty21 false)],[iT,ty73,ty66,ty56,ty29,ty78,ty33,.str,ty73,ty44,iT,iT,ty13,ty26],[⟨.normal,[.s (.one (.bp 576 0)),.s (.one (.bp 640 0)),.b (.cell [.ol 1500050] false),.b (.cell [.ol 1500051] false),.b (.lst 99 ty8 false),.b (.lst 41 ty21 false)],[ty13,ty26]⟩],Pw.jk2 (Pw.j17)⟩,
  ⟨2,[.s (.one (.bp 640 0)),.s (.one (.ol 1002000)),sI,sI,.b (.cell [.ol 1002001] false),.b (.lst 99 ty8 false),.b (.lst 41 ty21 false)],[iT,iT,ty13,ty26],[⟨.exit 2,[.s (.one (.bp 640 0)),.b (.cell [.ol 1502300] false),.b (.lst 41 ty21 false)],[ty26]⟩],Pw.unc4 (Pw.j2T)⟩]
 modes:=[(153,[false]),(180,[false]),(217,[false,false]),(218,[false,false]),(219,[false,false,false,false]),(220,[false,false]),(221,[false]),(222,[true,false])]
 keep:=[(0,⟨[4,5,6,7,9,10,25],[256,320,384,448,576,640],[⟨1000000,99,ty8,[.cell 576 0],false⟩,⟨1000001,41,ty21,[.cell 640 0],false⟩],[]⟩),
  (2,⟨[10,44,45,46],[640],[⟨1002000,99,ty8,[.slot 44],false⟩,⟨1002001,41,ty21,[.cell 640 0],false⟩],[]⟩)]
 keepX:=[(0,.normal,⟨[9,10],[576,640],[⟨1500050,99,ty8,[.cell 576 0],false⟩,⟨1500051,41,ty21,[.cell 640 0],false⟩],[]⟩),
  (2,.exit 2,⟨[10],[640],[⟨1502300,41,ty21,[.cell 640 0],false⟩],[]⟩)]
 ro:=[true]
 dw:=[(7,[[],[],[],[],[],[2112],[2176],[],[2304],[]]),(9,[[],[],[2688],[2752],[576]])]
 bw:=[(261,(false,ty72))]
theorem jpM:ItOK Tryz.prog 261 false (ty72):=jx4 <| jw5 j0n Tryz.func261 (fn:=Tryz.f261) (A0:=bwA Tryz.f261 0) (A1:=bwA Tryz.f261 1) (A2:=bwA Tryz.f261 2) (A3:=bwA Tryz.f261 3) (by kernel_rfl) (by kernel_rfl) (by kernel_rfl) (by kernel_rfl) (by kernel_rfl) (by kernel_rfl) (by kernel_rfl) (by kernel_rfl) (by kernel_rfl) (by kernel_rfl) (by kernel_rfl) ⟨(by kernel_rfl),(by kernel_rfl)⟩
 (fun xs=>by kernel_rfl) (fun i=>by kernel_rfl) (fun i=>by kernel_rfl) (fun xs i=>by kernel_rfl) (fun b i=>by kernel_rfl)
theorem jfC:Con.OK Tryz.prog j7b:=
 cOf j0n j04 jgx j7b Tryz.func151 (j9 j3M (j9 jb2 (j9 jdb (j9 jeb (j9 jhZ (j9 jjz (j9 jkj (j9 j2Y trivial)))))))) (j9 (fun h=>by kernel_rfl) (j9 (fun h=>by kernel_rfl) trivial)) (j9 jpM trivial)
def j97:Con:=⟨309,[.v iT],[iT],⟨[.v .bool],[]⟩,[.bool],fun h=>Pw.jaj h⟩
def jjA:FnD where
 N:=6
 np:=1
 cs:=[]
 ds:=[]
 ro:=[false]
theorem ji0:Con.OK Tryz.prog j97:=
 cOf j0n j04 jjA j97 Tryz.func309 trivial trivial
def ja0:Con:=⟨224,[.v iT,.v iT],[iT,iT],⟨[.v .bool],[]⟩,[.bool],Pw.unc2 Pw.jbJ⟩
def jkk:FnD where
 N:=17
 np:=2
 cs:=[j97]
 ds:=[]
 modes:=[(309,[false])]
 ro:=[false]
theorem jjB:Con.OK Tryz.prog ja0:=
 cOf j0n j04 jkk ja0 Tryz.func224 (j9 ji0 trivial) trivial
def j7c:Con:=⟨225,[.v iT],[iT],⟨[.v .bool],[]⟩,[.bool],fun h=>Pw.j5U h⟩
def jgy:FnD where
 N:=6
 np:=1
 cs:=[]
 ds:=[]
 ro:=[false]
theorem jfD:Con.OK Tryz.prog j7c:=
 cOf j0n j04 jgy j7c Tryz.func225 trivial trivial
def j2r:Con:=⟨152,[.v (.list iT),.v iT],[(.list iT),iT],⟨[.v iT,.v .bool],[]⟩,[iT,.bool],Pw.unc2 Pw.j0h⟩
def ja1:FnD where
 N:=54
 np:=2
 cs:=[ja0,j7c]
 ds:=[⟨0,[.s (.one (.d (.list iT))),sI,sI,sI,sI],[(.list iT),iT,iT,iT,iT],[⟨.exit 0,[.s (.one (.d (.list iT))),sI,sI,sI],[(.list iT),iT,iT,iT]⟩],Pw.unc5 (Pw.j1T)⟩]
 modes:=[(224,[false,false]),(225,[false])]
 keep:=[(0,⟨[0,1,6,7,8],[],[],[]⟩)]
 keepX:=[(0,.exit 0,⟨[0,1,6,7],[],[],[]⟩)]
 ro:=[false,false]
theorem j5z:Con.OK Tryz.prog j2r:=
 cOf j0n j04 ja1 j2r Tryz.func152 (j9 jjB (j9 jfD trivial)) (j9 (fun h=>by kernel_rfl) trivial)
def jb6:Con:=⟨101,[.v ty42,.v iT],[ty42,iT],⟨[.v .bool],[]⟩,[.bool],Pw.unc2 Pw.jfo⟩
def jm7:FnD where
 N:=15
 np:=2
 cs:=[]
 ds:=[]
 ro:=[false]
theorem jkl:Con.OK Tryz.prog jb6:=
 cOf j0n j04 jm7 jb6 Tryz.func101 trivial trivial
def jao:Con:=⟨42,[.v ty44,.v iT,.v iT],[ty44,iT,iT],⟨[.v iT],[]⟩,[iT],Pw.unc3 Pw.j7p⟩
def joM:FnD where
 N:=51
 np:=3
 cs:=[jb6]
 ds:=[⟨0,[sI,sI,.s (.one (.d ty44)),sI,sI],[iT,iT,ty44,iT,iT],[⟨.exit 0,[sI],[iT]⟩],Pw.unc5 (Pw.j5o)⟩]
 modes:=[(101,[false,false])]
 keep:=[(0,⟨[1,2,9,10,11],[],[],[]⟩)]
 keepX:=[(0,.exit 0,⟨[1],[],[],[]⟩)]
 ro:=[false]
theorem jhP:Con.OK Tryz.prog jao:=
 cOf j0n j04 joM jao Tryz.func42 (j9 jkl trivial) (j9 (fun h=>by kernel_rfl) trivial)
def j5O:Con:=⟨76,[.v ty86,.v ty77,.v iT,.v iT],[ty86,ty77,iT,iT],⟨[.own 41 ty26],[]⟩,[ty26],Pw.unc4 Pw.j2B⟩
def jhk:FnD where
 N:=88
 np:=4
 cs:=[jda,j7w,j7b,j2r,jao]
 ds:=[⟨0,[sI,sI,.s (.one (.bp 256 0)),.s (.one (.bp 320 0)),.s (.one (.ol 1000000)),.s (.one (.d ty44)),sI,sI,.b (.cell [.d ty66,.d ty56,.d ty29,.d ty78,.d ty33] false),.b (.cell [.d .str,.d ty73,.d ty44] false),.b (.lst 3 iT false)],[iT,iT,ty44,iT,iT,ty66,ty56,ty29,ty78,ty33,.str,ty73,ty44,(.list iT)],[⟨.exit 0,[sI,sI,.s (.one (.bp 256 0)),.s (.one (.bp 320 0)),.s (.one (.ol 1500100)),.b (.cell [.d ty66,.d ty56,.d ty29,.d ty78,.d ty33] false),.b (.cell [.d .str,.d ty73,.d ty44] false),.b (.lst 3 iT false)],[iT,iT,ty66,ty56,ty29,ty78,ty33,.str,ty73,ty44,(.list iT)]⟩],Pw.jk2 (Pw.j33)⟩,
  ⟨2,[.s (.one (.bp 320 0)),.s (.one (.ol 1002000)),.s (.one (.ol 1002001)),.s (.one (.ol 1002002)),sI,sI,.b (.cell [.d .str,.d ty73,.d ty44] false),.b (.lst 3 iT false),.b (.lst 41 ty21 false),.b (.lst 41 ty21 false)],[iT,iT,.str,ty73,ty44,(.list iT),ty26,ty26],[⟨.exit 2,[.s (.one (.ol 1502300)),.b (.lst 41 ty21 false)],[ty26]⟩],Pw.unc8 (Pw.j1m)⟩,
  ⟨4,[.s (.one (.bp 320 0)),.s (.one (.ol 1004000)),.s (.one (.ol 1004001)),.s (.one (.bp 960 0)),sI,sI,.s (.one (.ol 1004002)),sI,sI,.b (.cell [.d .str,.d ty73,.d ty44] false),.b (.cell [.d iT,.d iT,.d iT] false),.b (.lst 3 iT false),.b (.lst 41 ty21 false),.b (.lst 41 ty21 false)],[iT,iT,iT,iT,.str,ty73,ty44,iT,iT,iT,(.list iT),ty26,ty26],[⟨.exit 4,[.s (.one (.bp 320 0)),.s (.one (.ol 1504500)),.s (.one (.ol 1504501)),.s (.one (.ol 1504502)),sI,sI,.b (.cell [.d .str,.d ty73,.d ty44] false),.b (.lst 3 iT false),.b (.lst 41 ty21 false),.b (.lst 41 ty21 false)],[iT,iT,.str,ty73,ty44,(.list iT),ty26,ty26]⟩],Pw.jqz (Pw.j1l)⟩]
 modes:=[(42,[false,false,false]),(150,[false,false,false]),(151,[false,false,false,false]),(152,[false,false]),(153,[false])]
 keep:=[(0,⟨[2,3,4,5,9,21,22,23],[256,320],[⟨1000000,3,iT,[.slot 9],false⟩],[]⟩),
  (2,⟨[5,12,13,43,44,45],[320],[⟨1002000,3,iT,[.slot 12],false⟩,⟨1002001,41,ty21,[.slot 13],false⟩,⟨1002002,41,ty21,[.slot 43],false⟩],[]⟩),
  (4,⟨[5,12,13,15,16,18,43,44,45],[320,960],[⟨1004000,3,iT,[.slot 12],false⟩,⟨1004001,41,ty21,[.slot 13],false⟩,⟨1004002,41,ty21,[.slot 43],false⟩],[]⟩)]
 keepX:=[(0,.exit 0,⟨[2,3,4,5,9],[256,320],[⟨1500100,3,iT,[.slot 9],false⟩],[]⟩),
  (2,.exit 2,⟨[13],[],[⟨1502300,41,ty21,[.slot 13],false⟩],[]⟩),
  (4,.exit 4,⟨[5,12,13,43,44,45],[320],[⟨1504500,3,iT,[.slot 12],false⟩,⟨1504501,41,ty21,[.slot 13],false⟩,⟨1504502,41,ty21,[.slot 43],false⟩],[]⟩)]
 ro:=[true]
theorem jbK:Con.OK Tryz.prog j5O:=
 cOf j0n j04 jhk j5O Tryz.func76 (j9 jnA (j9 jdb (j9 jfC (j9 j5z (j9 jhP trivial))))) (j9 (fun h=>by kernel_rfl) (j9 (fun h=>by kernel_rfl) (j9 (fun h=>by kernel_rfl) trivial)))
def j4q:Con:=⟨23,[.v ty84,.v iT,.v iT,.v iT],[ty84,iT,iT,iT],⟨[.own 41 ty26,.v iT],[]⟩,[ty26,iT],Pw.unc4 Pw.j2C⟩
def jhl:FnD where
 N:=37
 np:=4
 cs:=[j8g,j5O]
 ds:=[]
 modes:=[(75,[false,false,false,false]),(76,[false,false,false,false])]
 ro:=[true,false]
 dw:=[(4,[[],[],[],[],[],[],[],[],[2048],[]])]
theorem j8l:Con.OK Tryz.prog j4q:=
 cOf j0n j04 jhl j4q Tryz.func23 (j9 jf1 (j9 jbK trivial)) trivial
def j6g:Con:=⟨79,[.v ty26],[ty26],⟨[.clo 157 [.p [ty26]]],[]⟩,[ty26],fun h=>Pw.j7q h⟩
def ji1:FnD where
 N:=4
 np:=1
 cs:=[]
 ds:=[]
 ro:=[false]
theorem jcz:Con.OK Tryz.prog j6g:=
 cOf j0n j04 ji1 j6g Tryz.func79 trivial trivial
def j6h:Con:=⟨28,[.v ty84,.v iT,.v iT,.v iT],[ty84,iT,iT,iT],⟨[.own 63 ty26,.v iT],[]⟩,[ty26,iT],Pw.unc4 Pw.j4Z⟩
def ji2:FnD where
 N:=33
 np:=4
 cs:=[j4q,j6g]
 ds:=[⟨0,[sI,.s (.one (.bp 768 0)),.s (.one (.clo 157 [.p [ty26]])),.b (.cell [.ol 1000000] false),.b (.lst 63 ty21 false)],[iT,ty26,ty26],[⟨.normal,[.s (.one (.bp 768 0)),.b (.cell [.ol 1500050] false),.b (.lst 63 ty21 false)],[ty26]⟩],Pw.unc3 (Pw.j3g)⟩]
 modes:=[(23,[false,false,false,false]),(79,[false])]
 keep:=[(0,⟨[12,26],[768],[⟨1000000,63,ty21,[.cell 768 0],false⟩],[]⟩)]
 keepX:=[(0,.normal,⟨[12],[768],[⟨1500050,63,ty21,[.cell 768 0],false⟩],[]⟩)]
 ro:=[true,false]
 bw:=[(157,(true,ty21))]
theorem jpN:ItOK Tryz.prog 157 true (ty21):=
 jv6 j0n j04 Tryz.func157 (fn:=Tryz.f157) (by kernel_rfl) (by kernel_rfl) (by kernel_rfl) (by kernel_rfl) (by kernel_rfl) (by kernel_rfl) (by kernel_rfl) (by kernel_rfl) (by kernel_rfl) (by kernel_rfl) (by kernel_rfl) (by kernel_rfl)
  (fun xs i=>by kernel_rfl) (fun i=>by kernel_rfl) (fun xs i=>by kernel_rfl) (fun b i=>by kernel_rfl)
theorem jcA:Con.OK Tryz.prog j6h:=
 cOf j0n j04 ji2 j6h Tryz.func28 (j9 j8l (j9 jcz trivial)) (j9 (fun h=>by kernel_rfl) trivial) (j9 jpN trivial)
def j98:Con:=⟨183,[.v ty8],[ty8],⟨[.v iT],[]⟩,[iT],fun h=>Pw.j3w h⟩
def jjC:FnD where
 N:=10
 np:=1
 cs:=[j6M]
 ds:=[]
 modes:=[(263,[false])]
 ro:=[false]
theorem ji3:Con.OK Tryz.prog j98:=
 cOf j0n j04 jjC j98 Tryz.func183 (j9 jdu trivial) trivial
def jed:Con:=⟨182,[.v ty13,.v iT],[ty13,iT],⟨[.v .bool],[]⟩,[.bool],Pw.unc2 Pw.jcY⟩
def jqB:FnD where
 N:=24
 np:=2
 cs:=[]
 ds:=[⟨0,[sI,.s (.one (.d ty13)),sI,sI],[iT,ty13,iT,iT],[⟨.ret,[.s (.one (.d .bool))],[.bool]⟩,⟨.exit 0,[],[]⟩],Pw.unc4 (Pw.j5V)⟩]
 keep:=[(0,⟨[1,7,8,9],[],[],[]⟩)]
 keepX:=[(0,.ret,⟨[4],[],[],[]⟩),
  (0,.exit 0,⟨[],[],[],[]⟩)]
 ro:=[false]
theorem joN:Con.OK Tryz.prog jed:=
 cOf j0n j04 jqB jed Tryz.func182 trivial (j9 (fun h=>by kernel_rfl) trivial)
def ja2:Con:=⟨262,[.v ty86,.v ty72,.v iT],[ty86,ty72,iT],⟨[.v iT,.v .bool],[]⟩,[iT,.bool],Pw.unc3 Pw.j4d⟩
def jkm:FnD where
 N:=79
 np:=3
 cs:=[j5f,j6Q,j2r,j98,jed]
 ds:=[]
 modes:=[(152,[false,false]),(182,[false,false]),(183,[false]),(184,[false,false]),(307,[false,false,false])]
 ro:=[false,false]
theorem jjD:Con.OK Tryz.prog ja2:=
 cOf j0n j04 jkm ja2 Tryz.func262 (j9 jb4 (j9 jdw (j9 j5z (j9 ji3 (j9 joN trivial))))) trivial
end Go.Proofs.Pk
