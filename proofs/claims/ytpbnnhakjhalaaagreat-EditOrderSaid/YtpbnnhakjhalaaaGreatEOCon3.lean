/- Contracts: each given function is its plain function, printed by a program. -/
import Derived.Test.YtpbnnhakjhalaaaGreatEOCon2
noncomputable section
open Go Go.Lft
set_option linter.unusedVariables false
set_option maxRecDepth 100000
namespace Go.Proofs.Pk
def j2x:Con:=⟨216,[.v ty29],[ty29],⟨[.own 120 ty29],[]⟩,[ty29],fun h=>Pw.j2Y h⟩
def j5x:FnD where
 N:=8
 np:=1
 cs:=[]
 ds:=[]
 ro:=[true]
theorem j5l:Con.OK Tryz.prog j2x:=
 j7f j0e j03 j5x 216 ty24 120 Tryz.f216 (Tryz.f216.body.getD .skip) Tryz.func216 (by kernel_rfl) (by kernel_rfl) (k9 (by kernel_rfl)) (by kernel_rfl) trivial (by kernel_rfl)
  (fun h R k=>by kernel_rfl)
def j2y:Con:=⟨217,[.v ty78],[ty78],⟨[.own 38 ty78],[]⟩,[ty78],fun h=>Pw.j2Z h⟩
def j5y:FnD where
 N:=8
 np:=1
 cs:=[]
 ds:=[]
 ro:=[true]
theorem j5m:Con.OK Tryz.prog j2y:=
 j7f j0e j03 j5y 217 ty77 38 Tryz.f217 (Tryz.f217.body.getD .skip) Tryz.func217 (by kernel_rfl) (by kernel_rfl) (k9 (by kernel_rfl)) (by kernel_rfl) trivial (by kernel_rfl)
  (fun h R k=>by kernel_rfl)
def j2z:Con:=⟨218,[.v ty58],[ty58],⟨[.own 211 ty58],[]⟩,[ty58],fun h=>Pw.j30 h⟩
def j5z:FnD where
 N:=8
 np:=1
 cs:=[]
 ds:=[]
 ro:=[true]
theorem j5n:Con.OK Tryz.prog j2z:=
 j7f j0e j03 j5z 218 ty55 211 Tryz.f218 (Tryz.f218.body.getD .skip) Tryz.func218 (by kernel_rfl) (by kernel_rfl) (k9 (by kernel_rfl)) (by kernel_rfl) trivial (by kernel_rfl)
  (fun h R k=>by kernel_rfl)
def j32:Con:=⟨219,[.v ty13],[ty13],⟨[.own 182 ty13],[]⟩,[ty13],fun h=>Pw.j2e h⟩
def j6I:FnD where
 N:=8
 np:=1
 cs:=[]
 ds:=[]
 ro:=[true]
theorem j6r:Con.OK Tryz.prog j32:=
 j7f j0e j03 j6I 219 ty8 182 Tryz.f219 (Tryz.f219.body.getD .skip) Tryz.func219 (by kernel_rfl) (by kernel_rfl) (k9 (by kernel_rfl)) (by kernel_rfl) trivial (by kernel_rfl)
  (fun h R k=>by kernel_rfl)
def j75:Con:=⟨220,[.v (.list iT)],[(.list iT)],⟨[.own 3 (.list iT)],[]⟩,[(.list iT)],fun h=>Pw.j6j h⟩
def jd4:FnD where
 N:=8
 np:=1
 cs:=[]
 ds:=[]
 ro:=[true]
theorem jct:Con.OK Tryz.prog j75:=
 j7f j0e j03 jd4 220 iT 3 Tryz.f220 (Tryz.f220.body.getD .skip) Tryz.func220 (by kernel_rfl) (by kernel_rfl) (k9 (by kernel_rfl)) (by kernel_rfl) trivial (by kernel_rfl)
  (fun h R k=>by kernel_rfl)
def j3q:Con:=⟨221,[.v ty73],[ty73],⟨[.own 111 ty73],[]⟩,[ty73],fun h=>Pw.j2A h⟩
def j77:FnD where
 N:=8
 np:=1
 cs:=[]
 ds:=[]
 ro:=[true]
theorem j6S:Con.OK Tryz.prog j3q:=
 j7f j0e j03 j77 221 ty72 111 Tryz.f221 (Tryz.f221.body.getD .skip) Tryz.func221 (by kernel_rfl) (by kernel_rfl) (k9 (by kernel_rfl)) (by kernel_rfl) trivial (by kernel_rfl)
  (fun h R k=>by kernel_rfl)
def j3G:Con:=⟨222,[.v ty44],[ty44],⟨[.own 46 ty44],[]⟩,[ty44],fun h=>Pw.j2N h⟩
def j7G:FnD where
 N:=8
 np:=1
 cs:=[]
 ds:=[]
 ro:=[true]
theorem j7t:Con.OK Tryz.prog j3G:=
 j7f j0e j03 j7G 222 ty42 46 Tryz.f222 (Tryz.f222.body.getD .skip) Tryz.func222 (by kernel_rfl) (by kernel_rfl) (k9 (by kernel_rfl)) (by kernel_rfl) trivial (by kernel_rfl)
  (fun h R k=>by kernel_rfl)
def jcu:Con:=⟨145,[.v ty84],[ty84],⟨[.raw [1508900,1508901,1508902,1600007,1508903,1508904] [.s (.st [.ol 1508900,.ol 1508901,.ol 1508902,.s1 1600007]),.b (.lst 68 ty65 false),.b (.lst 71 ty53 false),.b (.lst 120 ty24 false),.b (.cell [.d .str,.ol 1508903,.ol 1508904] false),.b (.lst 111 ty72 false),.b (.lst 46 ty42 false)]],[]⟩,[ty66,ty56,ty29,.str,ty73,ty44],fun h=>Pw.jdD h⟩
def joD:FnD where
 N:=151
 np:=1
 cs:=[j3F,j31,j2x,j2y,j2z,j32,j75,j3q,j3G]
 ds:=[⟨0,[.s (.one (.bp 64 0)),.s (.one (.bp 128 0)),sI,sI,.b (.cell [.ol 1000000,.ol 1000001,.ol 1000002,.s1 1600007] false),.b (.cell [.nil,.nil,.nil,.nil] false),.b (.cell [.d .str,.d ty73,.d ty44] false),.b (.lst 68 ty65 false),.b (.lst 71 ty53 false),.b (.lst 120 ty24 false)],[iT,iT,.str,ty73,ty44,ty66,ty56,ty29],[⟨.exit 0,[.s (.one (.bp 64 0)),.s (.one (.bp 128 0)),.b (.cell [.ol 1500100,.ol 1500101,.ol 1500102,.s1 1600007] false),.b (.cell [.nil,.nil,.nil,.nil] false),.b (.cell [.d .str,.d ty73,.d ty44] false),.b (.lst 68 ty65 false),.b (.lst 71 ty53 false),.b (.lst 120 ty24 false)],[.str,ty73,ty44,ty66,ty56,ty29]⟩],Pw.unc8 (Pw.jbC)⟩,
  ⟨2,[.s (.one (.bp 64 0)),.s (.one (.bp 128 0)),sI,sI,.b (.cell [.ol 1002000,.ol 1002001,.ol 1002002,.s1 1600007] false),.b (.cell [.nil,.nil,.nil,.nil] false),.b (.cell [.d .str,.d ty73,.d ty44] false),.b (.lst 68 ty65 false),.b (.lst 71 ty53 false),.b (.lst 120 ty24 false)],[iT,iT,.str,ty73,ty44,ty66,ty56,ty29],[⟨.exit 2,[.s (.one (.bp 64 0)),.s (.one (.bp 128 0)),.b (.cell [.ol 1502300,.ol 1502301,.ol 1502302,.s1 1600007] false),.b (.cell [.nil,.nil,.nil,.nil] false),.b (.cell [.d .str,.d ty73,.d ty44] false),.b (.lst 68 ty65 false),.b (.lst 71 ty53 false),.b (.lst 120 ty24 false)],[.str,ty73,ty44,ty66,ty56,ty29]⟩],Pw.unc8 (Pw.jbD)⟩,
  ⟨4,[.s (.one (.bp 64 0)),.s (.one (.bp 128 0)),sI,sI,.b (.cell [.ol 1004000,.ol 1004001,.ol 1004002,.s1 1600007] false),.b (.cell [.nil,.nil,.nil,.nil] false),.b (.cell [.d .str,.d ty73,.d ty44] false),.b (.lst 68 ty65 false),.b (.lst 71 ty53 false),.b (.lst 120 ty24 false)],[iT,iT,.str,ty73,ty44,ty66,ty56,ty29],[⟨.exit 4,[.s (.one (.bp 64 0)),.s (.one (.bp 128 0)),.b (.cell [.ol 1504500,.ol 1504501,.ol 1504502,.s1 1600007] false),.b (.cell [.nil,.nil,.nil,.nil] false),.b (.cell [.d .str,.d ty73,.d ty44] false),.b (.lst 68 ty65 false),.b (.lst 71 ty53 false),.b (.lst 120 ty24 false)],[.str,ty73,ty44,ty66,ty56,ty29]⟩],Pw.unc8 (Pw.jbE)⟩,
  ⟨6,[],[],[],fun _=>none⟩,
  ⟨8,[.s (.one (.bp 64 0)),.s (.one (.bp 128 0)),.s (.one (.bp 1600007 0)),sI,sI,sI,sI,.b (.cell [.ol 1008000,.ol 1008001,.ol 1008002,.s1 1600007] false),.b (.cell [.nil,.nil,.nil,.nil] false),.b (.cell [.d .str,.ol 1008003,.ol 1008004] false),.b (.lst 68 ty65 false),.b (.lst 71 ty53 false),.b (.lst 120 ty24 false),.b (.lst 111 ty72 false),.b (.lst 46 ty42 false)],[iT,iT,iT,iT,.str,ty66,ty56,ty29,ty73,ty44],[⟨.exit 8,[.s (.one (.bp 64 0)),.s (.one (.bp 128 0)),sI,sI,.b (.cell [.ol 1508900,.ol 1508901,.ol 1508902,.s1 1600007] false),.b (.cell [.nil,.nil,.nil,.nil] false),.b (.cell [.d .str,.ol 1508903,.ol 1508904] false),.b (.lst 68 ty65 false),.b (.lst 71 ty53 false),.b (.lst 120 ty24 false),.b (.lst 111 ty72 false),.b (.lst 46 ty42 false)],[iT,iT,.str,ty66,ty56,ty29,ty73,ty44]⟩],Pw.jjO (Pw.jbF)⟩]
 modes:=[(214,[false]),(215,[false]),(216,[false]),(217,[false]),(218,[false]),(219,[false]),(220,[false]),(221,[false]),(222,[false])]
 keep:=[(0,⟨[1,2,27,28],[64,128,1600007],[⟨1000000,68,ty65,[.cell 64 0],false⟩,⟨1000001,71,ty53,[.cell 64 1],false⟩,⟨1000002,120,ty24,[.cell 64 2],false⟩],[]⟩),
  (2,⟨[1,2,46,47],[64,128,1600007],[⟨1002000,68,ty65,[.cell 64 0],false⟩,⟨1002001,71,ty53,[.cell 64 1],false⟩,⟨1002002,120,ty24,[.cell 64 2],false⟩],[]⟩),
  (4,⟨[1,2,65,66],[64,128,1600007],[⟨1004000,68,ty65,[.cell 64 0],false⟩,⟨1004001,71,ty53,[.cell 64 1],false⟩,⟨1004002,120,ty24,[.cell 64 2],false⟩],[]⟩),
  (8,⟨[1,2,7,84,85,112,113],[64,128,1600007],[⟨1008000,68,ty65,[.cell 64 0],false⟩,⟨1008001,71,ty53,[.cell 64 1],false⟩,⟨1008002,120,ty24,[.cell 64 2],false⟩,⟨1008003,111,ty72,[.cell 1600007 1],false⟩,⟨1008004,46,ty42,[.cell 1600007 2],false⟩],[]⟩)]
 keepX:=[(0,.exit 0,⟨[1,2],[64,128,1600007],[⟨1500100,68,ty65,[.cell 64 0],false⟩,⟨1500101,71,ty53,[.cell 64 1],false⟩,⟨1500102,120,ty24,[.cell 64 2],false⟩],[]⟩),
  (2,.exit 2,⟨[1,2],[64,128,1600007],[⟨1502300,68,ty65,[.cell 64 0],false⟩,⟨1502301,71,ty53,[.cell 64 1],false⟩,⟨1502302,120,ty24,[.cell 64 2],false⟩],[]⟩),
  (4,.exit 4,⟨[1,2],[64,128,1600007],[⟨1504500,68,ty65,[.cell 64 0],false⟩,⟨1504501,71,ty53,[.cell 64 1],false⟩,⟨1504502,120,ty24,[.cell 64 2],false⟩],[]⟩),
  (8,.exit 8,⟨[1,2,84,85],[64,128,1600007],[⟨1508900,68,ty65,[.cell 64 0],false⟩,⟨1508901,71,ty53,[.cell 64 1],false⟩,⟨1508902,120,ty24,[.cell 64 2],false⟩,⟨1508903,111,ty72,[.cell 1600007 1],false⟩,⟨1508904,46,ty42,[.cell 1600007 2],false⟩],[]⟩)]
 dw:=[(1,[[],[],[704],[],[],[896],[],[],[1088],[],[],[1280],[],[64],[],[64],[],[64],[],[64]]),(5,[[],[],[],[],[],[],[],[],[],[2560],[],[],[2560,1000000]]),(10,[[],[],[],[],[],[],[],[],[],[3776],[],[],[3776,1002001]]),(15,[[],[],[],[],[],[],[],[],[],[4992],[],[],[4992,1004002]]),(21,[[],[],[],[],[],[],[6272,1508903],[],[],[],[],[6592],[],[],[1600007],[],[],[1600007]]),(25,[[],[],[],[],[],[],[],[],[],[],[],[],[],[],[],[],[],[],[8576],[],[],[],[],[],[],[],[],[9152],[],[],[8576,1008003],[],[],[9152,1008003]])]
 un:=[6]
 pre:=[(2,[.ex 64 3 1600007])]
 rw:=true
 rn:=[1508900,1508901,1508902,1600007,1508903,1508904]
theorem jng:Con.OK Tryz.prog jcu:=
 cOf j0e j03 joD jcu Tryz.func145 (j9 j7s (j9 j6q (j9 j5l (j9 j5m (j9 j5n (j9 j6r (j9 jct (j9 j6S (j9 j7t trivial))))))))) (j9 (fun h=>by kernel_rfl) (j9 (fun h=>by kernel_rfl) (j9 (fun h=>by kernel_rfl) (j9 (fun h=>by kernel_rfl) (j9 (fun h=>by kernel_rfl) trivial)))))
def j9y:Con:=⟨68,[.v ty84,.v iT],[ty84,iT],⟨[.raw [1508900,1508901,1508902,1600007,1508903,1508904] [.s (.st [.ol 1508900,.ol 1508901,.ol 1508902,.s1 1600007]),sI,.b (.lst 68 ty65 false),.b (.lst 71 ty53 false),.b (.lst 120 ty24 false),.b (.cell [.d .str,.ol 1508903,.ol 1508904] false),.b (.lst 111 ty72 false),.b (.lst 46 ty42 false)]],[]⟩,[iT,ty66,ty56,ty29,.str,ty73,ty44],Pw.unc2 Pw.jbG⟩
def joE:FnD where
 N:=17
 np:=2
 cs:=[j4G,j7r,jcu]
 ds:=[]
 modes:=[(75,[false]),(77,[false,false]),(145,[false])]
 rw:=true
 rn:=[1508900,1508901,1508902,1600007,1508903,1508904]
theorem jhs:Con.OK Tryz.prog j9y:=
 cOf j0e j03 joE j9y Tryz.func68 (j9 j9b (j9 jeO (j9 jng trivial))) trivial
def jb7:Con:=⟨24,[.v ty84,.v iT,.v ty42],[ty84,iT,ty42],⟨[.v ty84,.v iT],[]⟩,[ty84,iT],Pw.unc3 Pw.j9H⟩
def jnh:FnD where
 N:=42
 np:=3
 cs:=[j4G,j9y]
 ds:=[]
 modes:=[(68,[false,false]),(75,[false])]
 ro:=[false,false]
 dw:=[(5,[[],[],[],[],[],[],[1984],[2048,1508904],[],[],[1600007]])]
 pre:=[(6,[.se 1600007])]
theorem jlI:Con.OK Tryz.prog jb7:=
 cOf j0e j03 jnh jb7 Tryz.func24 (j9 j9b (j9 jhs trivial)) trivial
def j23:Con:=⟨69,[.rl 46 ty44,.v iT,.v iT],[ty44,iT,iT],⟨[.hd],[.rl ty44]⟩,[iT,ty44],Pw.unc3 Pw.j4v⟩
def j7u:FnD where
 N:=33
 np:=3
 cs:=[]
 ds:=[]
 ro:=[false]
 dw:=[(5,[[],[],[],[],[],[],[0],[]])]
 hd:=true
theorem j78:Con.OK Tryz.prog j23:=
 cOf j0e j03 j7u j23 Tryz.func69 trivial trivial
def jag:Con:=⟨21,[.v ty84,.v iT,.v iT],[ty84,iT,iT],⟨[.v ty84,.v iT],[]⟩,[ty84,iT],Pw.unc3 Pw.j82⟩
def jlJ:FnD where
 N:=48
 np:=3
 cs:=[j9y,j23]
 ds:=[]
 modes:=[(68,[false,false]),(69,[true,false,false])]
 ro:=[false,false]
 pre:=[(8,[.se 1600007])]
theorem jjW:Con.OK Tryz.prog jag:=
 cOf j0e j03 jlJ jag Tryz.func21 (j9 jhs (j9 j78 trivial)) trivial
def jfi:Con:=⟨117,[.v ty65],[ty65],⟨[.v ty28,.v iT],[]⟩,[ty28,iT],fun h=>Pw.jdE h⟩
def jsA:FnD where
 N:=16
 np:=1
 cs:=[j4n]
 ds:=[]
 modes:=[(201,[false])]
 ro:=[false,false]
theorem jqM:Con.OK Tryz.prog jfi:=
 cOf j0e j03 jsA jfi Tryz.func117 (j9 jab trivial) trivial
def jah:Con:=⟨237,[.v ty66],[ty66],⟨[.own 154 ty33],[]⟩,[ty33],fun h=>Pw.j83 h⟩
def jlK:FnD where
 N:=25
 np:=1
 cs:=[jfi]
 ds:=[⟨0,[.s (.one (.ol 1000000)),.s (.one (.d ty66)),sI,sI,.b (.lst 154 ty28 false)],[ty66,iT,iT,ty33],[⟨.exit 0,[.s (.one (.ol 1500100)),.b (.lst 154 ty28 false)],[ty33]⟩],Pw.unc4 (Pw.j1E)⟩]
 modes:=[(117,[false])]
 keep:=[(0,⟨[3,8,9,10],[],[⟨1000000,154,ty28,[.slot 3],false⟩],[]⟩)]
 keepX:=[(0,.exit 0,⟨[3],[],[⟨1500100,154,ty28,[.slot 3],false⟩],[]⟩)]
 ro:=[true]
theorem jjX:Con.OK Tryz.prog jah:=
 cOf j0e j03 jlK jah Tryz.func237 (j9 jqM trivial) (j9 (fun h=>by kernel_rfl) trivial)
def jcv:Con:=⟨162,[.v ty84],[ty84],⟨[.v ty86],[]⟩,[ty86],fun h=>Pw.j9T h⟩
def joF:FnD where
 N:=8
 np:=1
 cs:=[jah]
 ds:=[]
 modes:=[(237,[false])]
 ro:=[false]
 dw:=[(1,[[],[],[],[384],[],[128]])]
theorem jni:Con.OK Tryz.prog jcv:=
 cOf j0e j03 joF jcv Tryz.func162 (j9 jjX trivial) trivial
def jfj:Con:=⟨76,[.v ty84],[ty84],⟨[.v ty86,.v .bool],[]⟩,[ty86,.bool],fun h=>Pw.jf6 h⟩
def jsB:FnD where
 N:=10
 np:=1
 cs:=[j4G,jcv]
 ds:=[]
 modes:=[(75,[false]),(162,[false])]
 ro:=[false,false]
theorem jqN:Con.OK Tryz.prog jfj:=
 cOf j0e j03 jsB jfj Tryz.func76 (j9 j9b (j9 jni trivial)) trivial
def j1G:Con:=⟨168,[.v ty73],[ty73],⟨[.clo 248 [.p [ty73]]],[]⟩,[ty73],fun h=>Pw.j21 h⟩
def j6s:FnD where
 N:=4
 np:=1
 cs:=[]
 ds:=[]
 ro:=[false]
theorem j6c:Con.OK Tryz.prog j1G:=
 cOf j0e j03 j6s j1G Tryz.func168 trivial trivial
def j8m:Con:=⟨357,[.v ty72],[ty72],⟨[.v iT],[]⟩,[iT],fun h=>Pw.j84 h⟩
def jnj:FnD where
 N:=11
 np:=1
 cs:=[]
 ds:=[]
 ro:=[false]
theorem jgq:Con.OK Tryz.prog j8m:=
 cOf j0e j03 jnj j8m Tryz.func357 trivial trivial
def j4X:Con:=⟨328,[.v iT,.ip [iT,ty13],.ip [iT]],[iT,iT,ty13,iT],⟨[.v .bool],[]⟩,[.bool],Pw.unc4 Pw.j6Q⟩
def jdV:FnD where
 N:=13
 np:=3
 cs:=[]
 ds:=[]
 ro:=[false]
theorem jd5:Con.OK Tryz.prog j4X:=
 cOf j0e j03 jdV j4X Tryz.func328 trivial trivial
def jai:Con:=⟨327,[.v iT,.clo 328 [.p [iT,ty13],.p [iT]]],[iT,iT,ty13,iT],⟨[.v iT],[]⟩,[iT],Pw.unc4 Pw.j85⟩
def jlL:FnD where
 N:=26
 np:=2
 cs:=[j4X]
 ds:=[⟨0,[.s (.one (.clo 328 [.p [iT,ty13],.p [iT]])),sI,sI],[iT,ty13,iT,iT,iT],[⟨.exit 0,[sI],[iT]⟩],Pw.unc5 (Pw.j2D)⟩]
 modes:=[(328,[false])]
 keep:=[(0,⟨[1,5,6],[],[],[]⟩)]
 keepX:=[(0,.exit 0,⟨[5],[],[],[]⟩)]
 ro:=[false]
theorem jjY:Con.OK Tryz.prog jai:=
 cOf j0e j03 jlL jai Tryz.func327 (j9 jd5 trivial) (j9 (fun h=>by kernel_rfl) trivial)
end Go.Proofs.Pk
