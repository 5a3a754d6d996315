/- Contracts: each given function is its plain function, printed by a program. -/
import Derived.Test.YtpbnnhakjhalaaaGreatELCon2
noncomputable section
open Go Go.Lft
set_option linter.unusedVariables false
set_option maxRecDepth 100000
namespace Go.Proofs.Pk
def j2H:Con:=⟨216,[.v ty29],[ty29],⟨[.own 120 ty29],[]⟩,[ty29],fun h=>Pw.j17 h⟩
def j5d:FnD where
 N:=8
 np:=1
 cs:=[]
 ds:=[]
 ro:=[true]
theorem j52:Con.OK Tryz.prog j2H:=
 j6U j0n j04 j5d 216 ty24 120 Tryz.f216 (Tryz.f216.body.getD .skip) Tryz.func216 (by kernel_rfl) (by kernel_rfl) (k5 (by kernel_rfl)) (by kernel_rfl) trivial (by kernel_rfl)
  (fun h R k=>by kernel_rfl)
def j2I:Con:=⟨217,[.v ty78],[ty78],⟨[.own 38 ty78],[]⟩,[ty78],fun h=>Pw.j18 h⟩
def j5e:FnD where
 N:=8
 np:=1
 cs:=[]
 ds:=[]
 ro:=[true]
theorem j53:Con.OK Tryz.prog j2I:=
 j6U j0n j04 j5e 217 ty77 38 Tryz.f217 (Tryz.f217.body.getD .skip) Tryz.func217 (by kernel_rfl) (by kernel_rfl) (k5 (by kernel_rfl)) (by kernel_rfl) trivial (by kernel_rfl)
  (fun h R k=>by kernel_rfl)
def j2J:Con:=⟨218,[.v ty58],[ty58],⟨[.own 211 ty58],[]⟩,[ty58],fun h=>Pw.j19 h⟩
def j5f:FnD where
 N:=8
 np:=1
 cs:=[]
 ds:=[]
 ro:=[true]
theorem j54:Con.OK Tryz.prog j2J:=
 j6U j0n j04 j5f 218 ty55 211 Tryz.f218 (Tryz.f218.body.getD .skip) Tryz.func218 (by kernel_rfl) (by kernel_rfl) (k5 (by kernel_rfl)) (by kernel_rfl) trivial (by kernel_rfl)
  (fun h R k=>by kernel_rfl)
def j30:Con:=⟨219,[.v ty13],[ty13],⟨[.own 182 ty13],[]⟩,[ty13],fun h=>Pw.j0V h⟩
def j6r:FnD where
 N:=8
 np:=1
 cs:=[]
 ds:=[]
 ro:=[true]
theorem j6c:Con.OK Tryz.prog j30:=
 j6U j0n j04 j6r 219 ty8 182 Tryz.f219 (Tryz.f219.body.getD .skip) Tryz.func219 (by kernel_rfl) (by kernel_rfl) (k5 (by kernel_rfl)) (by kernel_rfl) trivial (by kernel_rfl)
  (fun h R k=>by kernel_rfl)
def j6L:Con:=⟨220,[.v (.list iT)],[(.list iT)],⟨[.own 3 (.list iT)],[]⟩,[(.list iT)],fun h=>Pw.j3a h⟩
def jbM:FnD where
 N:=8
 np:=1
 cs:=[]
 ds:=[]
 ro:=[true]
theorem jbr:Con.OK Tryz.prog j6L:=
 j6U j0n j04 jbM 220 iT 3 Tryz.f220 (Tryz.f220.body.getD .skip) Tryz.func220 (by kernel_rfl) (by kernel_rfl) (k5 (by kernel_rfl)) (by kernel_rfl) trivial (by kernel_rfl)
  (fun h R k=>by kernel_rfl)
def j3o:Con:=⟨221,[.v ty73],[ty73],⟨[.own 111 ty73],[]⟩,[ty73],fun h=>Pw.j1a h⟩
def j6M:FnD where
 N:=8
 np:=1
 cs:=[]
 ds:=[]
 ro:=[true]
theorem j6A:Con.OK Tryz.prog j3o:=
 j6U j0n j04 j6M 221 ty72 111 Tryz.f221 (Tryz.f221.body.getD .skip) Tryz.func221 (by kernel_rfl) (by kernel_rfl) (k5 (by kernel_rfl)) (by kernel_rfl) trivial (by kernel_rfl)
  (fun h R k=>by kernel_rfl)
def j3B:Con:=⟨222,[.v ty44],[ty44],⟨[.own 46 ty44],[]⟩,[ty44],fun h=>Pw.j1m h⟩
def j7j:FnD where
 N:=8
 np:=1
 cs:=[]
 ds:=[]
 ro:=[true]
theorem j77:Con.OK Tryz.prog j3B:=
 j6U j0n j04 j7j 222 ty42 46 Tryz.f222 (Tryz.f222.body.getD .skip) Tryz.func222 (by kernel_rfl) (by kernel_rfl) (k5 (by kernel_rfl)) (by kernel_rfl) trivial (by kernel_rfl)
  (fun h R k=>by kernel_rfl)
def jbs:Con:=⟨145,[.v ty84],[ty84],⟨[.raw [1508900,1508901,1508902,1600007,1508903,1508904] [.s (.st [.ol 1508900,.ol 1508901,.ol 1508902,.s1 1600007]),.b (.lst 68 ty65 false),.b (.lst 71 ty53 false),.b (.lst 120 ty24 false),.b (.cell [.d .str,.ol 1508903,.ol 1508904] false),.b (.lst 111 ty72 false),.b (.lst 46 ty42 false)]],[]⟩,[ty66,ty56,ty29,.str,ty73,ty44],fun h=>Pw.j9d h⟩
def jm6:FnD where
 N:=151
 np:=1
 cs:=[j3A,j2Z,j2H,j2I,j2J,j30,j6L,j3o,j3B]
 ds:=[⟨0,[.s (.one (.bp 64 0)),.s (.one (.bp 128 0)),sI,sI,.b (.cell [.ol 1000000,.ol 1000001,.ol 1000002,.s1 1600007] false),.b (.cell [.nil,.nil,.nil,.nil] false),.b (.cell [.d .str,.d ty73,.d ty44] false),.b (.lst 68 ty65 false),.b (.lst 71 ty53 false),.b (.lst 120 ty24 false)],[iT,iT,.str,ty73,ty44,ty66,ty56,ty29],[⟨.exit 0,[.s (.one (.bp 64 0)),.s (.one (.bp 128 0)),.b (.cell [.ol 1500100,.ol 1500101,.ol 1500102,.s1 1600007] false),.b (.cell [.nil,.nil,.nil,.nil] false),.b (.cell [.d .str,.d ty73,.d ty44] false),.b (.lst 68 ty65 false),.b (.lst 71 ty53 false),.b (.lst 120 ty24 false)],[.str,ty73,ty44,ty66,ty56,ty29]⟩],Pw.unc8 (Pw.j4l)⟩,
  ⟨2,[.s (.one (.bp 64 0)),.s (.one (.bp 128 0)),sI,sI,.b (.cell [.ol 1002000,.ol 1002001,.ol 1002002,.s1 1600007] false),.b (.cell [.nil,.nil,.nil,.nil] false),.b (.cell [.d .str,.d ty73,.d ty44] false),.b (.lst 68 ty65 false),.b (.lst 71 ty53 false),.b (.lst 120 ty24 false)],[iT,iT,.str,ty73,ty44,ty66,ty56,ty29],[⟨.exit 2,[.s (.one (.bp 64 0)),.s (.one (.bp 128 0)),.b (.cell [.ol 1502300,.ol 1502301,.ol 1502302,.s1 1600007] false),.b (.cell [.nil,.nil,.nil,.nil] false),.b (.cell [.d .str,.d ty73,.d ty44] false),.b (.lst 68 ty65 false),.b (.lst 71 ty53 false),.b (.lst 120 ty24 false)],[.str,ty73,ty44,ty66,ty56,ty29]⟩],Pw.unc8 (Pw.j4m)⟩,
  ⟨4,[.s (.one (.bp 64 0)),.s (.one (.bp 128 0)),sI,sI,.b (.cell [.ol 1004000,.ol 1004001,.ol 1004002,.s1 1600007] false),.b (.cell [.nil,.nil,.nil,.nil] false),.b (.cell [.d .str,.d ty73,.d ty44] false),.b (.lst 68 ty65 false),.b (.lst 71 ty53 false),.b (.lst 120 ty24 false)],[iT,iT,.str,ty73,ty44,ty66,ty56,ty29],[⟨.exit 4,[.s (.one (.bp 64 0)),.s (.one (.bp 128 0)),.b (.cell [.ol 1504500,.ol 1504501,.ol 1504502,.s1 1600007] false),.b (.cell [.nil,.nil,.nil,.nil] false),.b (.cell [.d .str,.d ty73,.d ty44] false),.b (.lst 68 ty65 false),.b (.lst 71 ty53 false),.b (.lst 120 ty24 false)],[.str,ty73,ty44,ty66,ty56,ty29]⟩],Pw.unc8 (Pw.j4n)⟩,
  ⟨6,[],[],[],fun _=>none⟩,
  ⟨8,[.s (.one (.bp 64 0)),.s (.one (.bp 128 0)),.s (.one (.bp 1600007 0)),sI,sI,sI,sI,.b (.cell [.ol 1008000,.ol 1008001,.ol 1008002,.s1 1600007] false),.b (.cell [.nil,.nil,.nil,.nil] false),.b (.cell [.d .str,.ol 1008003,.ol 1008004] false),.b (.lst 68 ty65 false),.b (.lst 71 ty53 false),.b (.lst 120 ty24 false),.b (.lst 111 ty72 false),.b (.lst 46 ty42 false)],[iT,iT,iT,iT,.str,ty66,ty56,ty29,ty73,ty44],[⟨.exit 8,[.s (.one (.bp 64 0)),.s (.one (.bp 128 0)),sI,sI,.b (.cell [.ol 1508900,.ol 1508901,.ol 1508902,.s1 1600007] false),.b (.cell [.nil,.nil,.nil,.nil] false),.b (.cell [.d .str,.ol 1508903,.ol 1508904] false),.b (.lst 68 ty65 false),.b (.lst 71 ty53 false),.b (.lst 120 ty24 false),.b (.lst 111 ty72 false),.b (.lst 46 ty42 false)],[iT,iT,.str,ty66,ty56,ty29,ty73,ty44]⟩],Pw.jqK (Pw.j4o)⟩]
 modes:=[(214,[false]),(215,[false]),(216,[false]),(217,[false]),(218,[false]),(219,[false]),(220,[false]),(221,[false]),(222,[false])]
 keep:=[(0,⟨[1,2,27,28],[64,128,1600007],[⟨1000000,68,ty65,[.cell 64 0],false⟩,⟨1000001,71,ty53,[.cell 64 1],false⟩,⟨1000002,120,ty24,[.cell 64 2],false⟩],[]⟩),
  (2,⟨[1,2,46,47],[64,128,1600007],[⟨1002000,68,ty65,[.cell 64 0],false⟩,⟨1002001,71,ty53,[.cell 64 1],false⟩,⟨1002002,120,ty24,[.cell 64 2],false⟩],[]⟩),
  (4,⟨[1,2,65,66],[64,128,1600007],[⟨1004000,68,ty65,[.cell 64 0],false⟩,⟨1004001,71,ty53,[.cell 64 1],false⟩,⟨1004002,120,ty24,[.cell 64 2],false⟩],[]⟩),
  (8,⟨[1,2,7,84,85,112,113],[64,128,1600007],[⟨1008000,68,ty65,[.cell 64 0],false⟩,⟨1008001,71,ty53,[.cell 64 1],false⟩,⟨1008002,120,ty24,[.cell 64 2],false⟩,⟨1008003,111,ty72,[.cell 1600007 1],false⟩,⟨1008004,46,ty42,[.cell 1600007 2],false⟩],[]⟩)]
 keepX:=[(0,.exit 0,⟨[1,2],[64,128,1600007],[⟨1500100,68,ty65,[.cell 64 0],false⟩,⟨1500101,71,ty53,[.cell 64 1],false⟩,⟨1500102,120,ty24,[.cell 64 2],false⟩],[]⟩),
  (2,.exit 2,⟨[1,2],[64,128,1600007],[⟨1502300,68,ty65,[.cell 64 0],false⟩,⟨1502301,71,ty53,[.cell 64 1],false⟩,⟨1502302,120,ty24,[.cell 64 2],false⟩],[]⟩),
  (4,.exit 4,⟨[1,2],[64,128,1600007],[⟨1504500,68,ty65,[.cell 64 0],false⟩,⟨1504501,71,ty53,[.cell 64 1],false⟩,⟨1504502,120,ty24,[.cell 64 2],false⟩],[]⟩),
  (8,.exit 8,⟨[1,2,84,85],[64,128,1600007],[⟨1508900,68,ty65,[.cell 64 0],false⟩,⟨1508901,71,ty53,[.cell 64 1],false⟩,⟨1508902,120,ty24,[.cell 64 2],false⟩,⟨1508903,111,ty72,[.cell 1600007 1],false⟩,⟨1508904,46,ty42,[.cell 1600007 2],false⟩],[]⟩)]
 dw:=[(1,[[],[],[704],[],[],[896],[],[],[1088],[],[],[1280],[],[64],[],[64],[],[64],[],[64]]),(5,[[],[],[],[],[],[],[],[],[],[2560],[],[],[2560,1000000]]),(10,[[],[],[],[],[],[],[],[],[],[3776],[],[],[3776,1002001]]),(15,[[],[],[],[],[],[],[],[],[],[4992],[],[],[4992,1004002]]),(21,[[],[],[],[],[],[],[6272,1508903],[],[],[],[],[6592],[],[],[1600007],[],[],[1600007]]),(25,[[],[],[],[],[],[],[],[],[],[],[],[],[],[],[],[],[],[],[8576],[],[],[],[],[],[],[],[],[9152],[],[],[8576,1008003],[],[],[9152,1008003]])]
 un:=[6]
 pre:=[(2,[.ex 64 3 1600007])]
 rw:=true
 rn:=[1508900,1508901,1508902,1600007,1508903,1508904]
theorem jkY:Con.OK Tryz.prog jbs:=
 cOf j0n j04 jm6 jbs Tryz.func145 (j9 j76 (j9 j6b (j9 j52 (j9 j53 (j9 j54 (j9 j6c (j9 jbr (j9 j6A (j9 j77 trivial))))))))) (j9 (fun h=>by kernel_rfl) (j9 (fun h=>by kernel_rfl) (j9 (fun h=>by kernel_rfl) (j9 (fun h=>by kernel_rfl) (j9 (fun h=>by kernel_rfl) trivial)))))
def j90:Con:=⟨68,[.v ty84,.v iT],[ty84,iT],⟨[.raw [1508900,1508901,1508902,1600007,1508903,1508904] [.s (.st [.ol 1508900,.ol 1508901,.ol 1508902,.s1 1600007]),sI,.b (.lst 68 ty65 false),.b (.lst 71 ty53 false),.b (.lst 120 ty24 false),.b (.cell [.d .str,.ol 1508903,.ol 1508904] false),.b (.lst 111 ty72 false),.b (.lst 46 ty42 false)]],[]⟩,[iT,ty66,ty56,ty29,.str,ty73,ty44],Pw.unc2 Pw.j84⟩
def jm7:FnD where
 N:=17
 np:=2
 cs:=[j4t,j75,jbs]
 ds:=[]
 modes:=[(75,[false]),(77,[false,false]),(145,[false])]
 rw:=true
 rn:=[1508900,1508901,1508902,1600007,1508903,1508904]
theorem jfH:Con.OK Tryz.prog j90:=
 cOf j0n j04 jm7 j90 Tryz.func68 (j9 j8F (j9 jdd (j9 jkY trivial))) trivial
def j7V:Con:=⟨24,[.v ty84,.v iT,.v ty42],[ty84,iT,ty42],⟨[.v ty84,.v iT],[]⟩,[ty84,iT],Pw.unc3 Pw.j4X⟩
def jkZ:FnD where
 N:=42
 np:=3
 cs:=[j4t,j90]
 ds:=[]
 modes:=[(68,[false,false]),(75,[false])]
 ro:=[false,false]
 dw:=[(5,[[],[],[],[],[],[],[1984],[2048,1508904],[],[],[1600007]])]
 pre:=[(6,[.se 1600007])]
theorem jeJ:Con.OK Tryz.prog j7V:=
 cOf j0n j04 jkZ j7V Tryz.func24 (j9 j8F (j9 jfH trivial)) trivial
def j2b:Con:=⟨69,[.rl 46 ty44,.v iT,.v iT],[ty44,iT,iT],⟨[.hd],[.rl ty44]⟩,[iT,ty44],Pw.unc3 Pw.j1P⟩
def j78:FnD where
 N:=33
 np:=3
 cs:=[]
 ds:=[]
 ro:=[false]
 dw:=[(5,[[],[],[],[],[],[],[0],[]])]
 hd:=true
theorem j6N:Con.OK Tryz.prog j2b:=
 cOf j0n j04 j78 j2b Tryz.func69 trivial trivial
def j79:Con:=⟨21,[.v ty84,.v iT,.v iT],[ty84,iT,iT],⟨[.v ty84,.v iT],[]⟩,[ty84,iT],Pw.unc3 Pw.j41⟩
def jjB:FnD where
 N:=48
 np:=3
 cs:=[j90,j2b]
 ds:=[]
 modes:=[(68,[false,false]),(69,[true,false,false])]
 ro:=[false,false]
 pre:=[(8,[.se 1600007])]
theorem jde:Con.OK Tryz.prog j79:=
 cOf j0n j04 jjB j79 Tryz.func21 (j9 jfH (j9 j6N trivial)) trivial
def jdI:Con:=⟨117,[.v ty65],[ty65],⟨[.v ty28,.v iT],[]⟩,[ty28,iT],fun h=>Pw.jcm h⟩
def jpt:FnD where
 N:=16
 np:=1
 cs:=[j4e]
 ds:=[]
 modes:=[(201,[false])]
 ro:=[false,false]
theorem jnP:Con.OK Tryz.prog jdI:=
 cOf j0n j04 jpt jdI Tryz.func117 (j9 j9q trivial) trivial
def j9v:Con:=⟨237,[.v ty66],[ty66],⟨[.own 154 ty33],[]⟩,[ty33],fun h=>Pw.j7G h⟩
def jjC:FnD where
 N:=25
 np:=1
 cs:=[jdI]
 ds:=[⟨0,[.s (.one (.ol 1000000)),.s (.one (.d ty66)),sI,sI,.b (.lst 154 ty28 false)],[ty66,iT,iT,ty33],[⟨.exit 0,[.s (.one (.ol 1500100)),.b (.lst 154 ty28 false)],[ty33]⟩],Pw.unc4 (Pw.j1I)⟩]
 modes:=[(117,[false])]
 keep:=[(0,⟨[3,8,9,10],[],[⟨1000000,154,ty28,[.slot 3],false⟩],[]⟩)]
 keepX:=[(0,.exit 0,⟨[3],[],[⟨1500100,154,ty28,[.slot 3],false⟩],[]⟩)]
 ro:=[true]
theorem jhV:Con.OK Tryz.prog j9v:=
 cOf j0n j04 jjC j9v Tryz.func237 (j9 jnP trivial) (j9 (fun h=>by kernel_rfl) trivial)
def jbt:Con:=⟨162,[.v ty84],[ty84],⟨[.v ty86],[]⟩,[ty86],fun h=>Pw.j9e h⟩
def jm8:FnD where
 N:=8
 np:=1
 cs:=[j9v]
 ds:=[]
 modes:=[(237,[false])]
 ro:=[false]
 dw:=[(1,[[],[],[],[384],[],[128]])]
theorem jl0:Con.OK Tryz.prog jbt:=
 cOf j0n j04 jm8 jbt Tryz.func162 (j9 jhV trivial) trivial
def jdJ:Con:=⟨76,[.v ty84],[ty84],⟨[.v ty86,.v .bool],[]⟩,[ty86,.bool],fun h=>Pw.jdw h⟩
def jpu:FnD where
 N:=10
 np:=1
 cs:=[j4t,jbt]
 ds:=[]
 modes:=[(75,[false]),(162,[false])]
 ro:=[false,false]
theorem jnQ:Con.OK Tryz.prog jdJ:=
 cOf j0n j04 jpu jdJ Tryz.func76 (j9 j8F (j9 jl0 trivial)) trivial
def j1K:Con:=⟨168,[.v ty73],[ty73],⟨[.clo 248 [.p [ty73]]],[]⟩,[ty73],fun h=>Pw.j29 h⟩
def j6d:FnD where
 N:=4
 np:=1
 cs:=[]
 ds:=[]
 ro:=[false]
theorem j5Y:Con.OK Tryz.prog j1K:=
 cOf j0n j04 j6d j1K Tryz.func168 trivial trivial
def j7W:Con:=⟨357,[.v ty72],[ty72],⟨[.v iT],[]⟩,[iT],fun h=>Pw.j7H h⟩
def jl1:FnD where
 N:=11
 np:=1
 cs:=[]
 ds:=[]
 ro:=[false]
theorem jeK:Con.OK Tryz.prog j7W:=
 cOf j0n j04 jl1 j7W Tryz.func357 trivial trivial
def j4I:Con:=⟨328,[.v iT,.ip [iT,ty13],.ip [iT]],[iT,iT,ty13,iT],⟨[.v .bool],[]⟩,[.bool],Pw.unc4 Pw.j6z⟩
def jcs:FnD where
 N:=13
 np:=3
 cs:=[]
 ds:=[]
 ro:=[false]
theorem jbN:Con.OK Tryz.prog j4I:=
 cOf j0n j04 jcs j4I Tryz.func328 trivial trivial
def j9w:Con:=⟨327,[.v iT,.clo 328 [.p [iT,ty13],.p [iT]]],[iT,iT,ty13,iT],⟨[.v iT],[]⟩,[iT],Pw.unc4 Pw.j7I⟩
def jjD:FnD where
 N:=26
 np:=2
 cs:=[j4I]
 ds:=[⟨0,[.s (.one (.clo 328 [.p [iT,ty13],.p [iT]])),sI,sI],[iT,ty13,iT,iT,iT],[⟨.exit 0,[sI],[iT]⟩],Pw.unc5 (Pw.j2L)⟩]
 modes:=[(328,[false])]
 keep:=[(0,⟨[1,5,6],[],[],[]⟩)]
 keepX:=[(0,.exit 0,⟨[5],[],[],[]⟩)]
 ro:=[false]
theorem jhW:Con.OK Tryz.prog j9w:=
 cOf j0n j04 jjD j9w Tryz.func327 (j9 jbN trivial) (j9 (fun h=>by kernel_rfl) trivial)
end Go.Proofs.Pk
