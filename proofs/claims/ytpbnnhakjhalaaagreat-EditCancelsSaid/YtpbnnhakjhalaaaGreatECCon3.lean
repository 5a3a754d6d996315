/- Contracts: each given function is its plain function, printed by a program. -/
import Derived.Test.YtpbnnhakjhalaaaGreatECCon2
noncomputable section
open Go Go.Lft
set_option linter.unusedVariables false
set_option maxRecDepth 100000
namespace Go.Proofs.Pk
def j2p:Con:=⟨216,[.v ty29],[ty29],⟨[.own 120 ty29],[]⟩,[ty29],fun h=>Pw.j11 h⟩
def j5d:FnD where
 N:=8
 np:=1
 cs:=[]
 ds:=[]
 ro:=[true]
theorem j52:Con.OK Tryz.prog j2p:=
 j71 j0f j02 j5d 216 ty24 120 Tryz.f216 (Tryz.f216.body.getD .skip) Tryz.func216 (by kernel_rfl) (by kernel_rfl) (k7 (by kernel_rfl)) (by kernel_rfl) trivial (by kernel_rfl)
  (fun h R k=>by kernel_rfl)
def j2q:Con:=⟨217,[.v ty78],[ty78],⟨[.own 38 ty78],[]⟩,[ty78],fun h=>Pw.j12 h⟩
def j5e:FnD where
 N:=8
 np:=1
 cs:=[]
 ds:=[]
 ro:=[true]
theorem j53:Con.OK Tryz.prog j2q:=
 j71 j0f j02 j5e 217 ty77 38 Tryz.f217 (Tryz.f217.body.getD .skip) Tryz.func217 (by kernel_rfl) (by kernel_rfl) (k7 (by kernel_rfl)) (by kernel_rfl) trivial (by kernel_rfl)
  (fun h R k=>by kernel_rfl)
def j2r:Con:=⟨218,[.v ty58],[ty58],⟨[.own 211 ty58],[]⟩,[ty58],fun h=>Pw.j13 h⟩
def j5f:FnD where
 N:=8
 np:=1
 cs:=[]
 ds:=[]
 ro:=[true]
theorem j54:Con.OK Tryz.prog j2r:=
 j71 j0f j02 j5f 218 ty55 211 Tryz.f218 (Tryz.f218.body.getD .skip) Tryz.func218 (by kernel_rfl) (by kernel_rfl) (k7 (by kernel_rfl)) (by kernel_rfl) trivial (by kernel_rfl)
  (fun h R k=>by kernel_rfl)
def j2S:Con:=⟨219,[.v ty13],[ty13],⟨[.own 182 ty13],[]⟩,[ty13],fun h=>Pw.j0O h⟩
def j6u:FnD where
 N:=8
 np:=1
 cs:=[]
 ds:=[]
 ro:=[true]
theorem j6c:Con.OK Tryz.prog j2S:=
 j71 j0f j02 j6u 219 ty8 182 Tryz.f219 (Tryz.f219.body.getD .skip) Tryz.func219 (by kernel_rfl) (by kernel_rfl) (k7 (by kernel_rfl)) (by kernel_rfl) trivial (by kernel_rfl)
  (fun h R k=>by kernel_rfl)
def j6R:Con:=⟨220,[.v (.list iT)],[(.list iT)],⟨[.own 3 (.list iT)],[]⟩,[(.list iT)],fun h=>Pw.j32 h⟩
def jcr:FnD where
 N:=8
 np:=1
 cs:=[]
 ds:=[]
 ro:=[true]
theorem jbV:Con.OK Tryz.prog j6R:=
 j71 j0f j02 jcr 220 iT 3 Tryz.f220 (Tryz.f220.body.getD .skip) Tryz.func220 (by kernel_rfl) (by kernel_rfl) (k7 (by kernel_rfl)) (by kernel_rfl) trivial (by kernel_rfl)
  (fun h R k=>by kernel_rfl)
def j3c:Con:=⟨221,[.v ty73],[ty73],⟨[.own 111 ty73],[]⟩,[ty73],fun h=>Pw.j14 h⟩
def j6T:FnD where
 N:=8
 np:=1
 cs:=[]
 ds:=[]
 ro:=[true]
theorem j6D:Con.OK Tryz.prog j3c:=
 j71 j0f j02 j6T 221 ty72 111 Tryz.f221 (Tryz.f221.body.getD .skip) Tryz.func221 (by kernel_rfl) (by kernel_rfl) (k7 (by kernel_rfl)) (by kernel_rfl) trivial (by kernel_rfl)
  (fun h R k=>by kernel_rfl)
def j3r:Con:=⟨222,[.v ty44],[ty44],⟨[.own 46 ty44],[]⟩,[ty44],fun h=>Pw.j1f h⟩
def j7p:FnD where
 N:=8
 np:=1
 cs:=[]
 ds:=[]
 ro:=[true]
theorem j7e:Con.OK Tryz.prog j3r:=
 j71 j0f j02 j7p 222 ty42 46 Tryz.f222 (Tryz.f222.body.getD .skip) Tryz.func222 (by kernel_rfl) (by kernel_rfl) (k7 (by kernel_rfl)) (by kernel_rfl) trivial (by kernel_rfl)
  (fun h R k=>by kernel_rfl)
def jbW:Con:=⟨145,[.v ty84],[ty84],⟨[.raw [1508900,1508901,1508902,1600007,1508903,1508904] [.s (.st [.ol 1508900,.ol 1508901,.ol 1508902,.s1 1600007]),.b (.lst 68 ty65 false),.b (.lst 71 ty53 false),.b (.lst 120 ty24 false),.b (.cell [.d .str,.ol 1508903,.ol 1508904] false),.b (.lst 111 ty72 false),.b (.lst 46 ty42 false)]],[]⟩,[ty66,ty56,ty29,.str,ty73,ty44],fun h=>Pw.j9v h⟩
def jno:FnD where
 N:=151
 np:=1
 cs:=[j3q,j2R,j2p,j2q,j2r,j2S,j6R,j3c,j3r]
 ds:=[⟨0,[.s (.one (.bp 64 0)),.s (.one (.bp 128 0)),sI,sI,.b (.cell [.ol 1000000,.ol 1000001,.ol 1000002,.s1 1600007] false),.b (.cell [.nil,.nil,.nil,.nil] false),.b (.cell [.d .str,.d ty73,.d ty44] false),.b (.lst 68 ty65 false),.b (.lst 71 ty53 false),.b (.lst 120 ty24 false)],[iT,iT,.str,ty73,ty44,ty66,ty56,ty29],[⟨.exit 0,[.s (.one (.bp 64 0)),.s (.one (.bp 128 0)),.b (.cell [.ol 1500100,.ol 1500101,.ol 1500102,.s1 1600007] false),.b (.cell [.nil,.nil,.nil,.nil] false),.b (.cell [.d .str,.d ty73,.d ty44] false),.b (.lst 68 ty65 false),.b (.lst 71 ty53 false),.b (.lst 120 ty24 false)],[.str,ty73,ty44,ty66,ty56,ty29]⟩],Pw.unc8 (Pw.j4b)⟩,
  ⟨2,[.s (.one (.bp 64 0)),.s (.one (.bp 128 0)),sI,sI,.b (.cell [.ol 1002000,.ol 1002001,.ol 1002002,.s1 1600007] false),.b (.cell [.nil,.nil,.nil,.nil] false),.b (.cell [.d .str,.d ty73,.d ty44] false),.b (.lst 68 ty65 false),.b (.lst 71 ty53 false),.b (.lst 120 ty24 false)],[iT,iT,.str,ty73,ty44,ty66,ty56,ty29],[⟨.exit 2,[.s (.one (.bp 64 0)),.s (.one (.bp 128 0)),.b (.cell [.ol 1502300,.ol 1502301,.ol 1502302,.s1 1600007] false),.b (.cell [.nil,.nil,.nil,.nil] false),.b (.cell [.d .str,.d ty73,.d ty44] false),.b (.lst 68 ty65 false),.b (.lst 71 ty53 false),.b (.lst 120 ty24 false)],[.str,ty73,ty44,ty66,ty56,ty29]⟩],Pw.unc8 (Pw.j4c)⟩,
  ⟨4,[.s (.one (.bp 64 0)),.s (.one (.bp 128 0)),sI,sI,.b (.cell [.ol 1004000,.ol 1004001,.ol 1004002,.s1 1600007] false),.b (.cell [.nil,.nil,.nil,.nil] false),.b (.cell [.d .str,.d ty73,.d ty44] false),.b (.lst 68 ty65 false),.b (.lst 71 ty53 false),.b (.lst 120 ty24 false)],[iT,iT,.str,ty73,ty44,ty66,ty56,ty29],[⟨.exit 4,[.s (.one (.bp 64 0)),.s (.one (.bp 128 0)),.b (.cell [.ol 1504500,.ol 1504501,.ol 1504502,.s1 1600007] false),.b (.cell [.nil,.nil,.nil,.nil] false),.b (.cell [.d .str,.d ty73,.d ty44] false),.b (.lst 68 ty65 false),.b (.lst 71 ty53 false),.b (.lst 120 ty24 false)],[.str,ty73,ty44,ty66,ty56,ty29]⟩],Pw.unc8 (Pw.j4d)⟩,
  ⟨6,[],[],[],fun _=>none⟩,
  ⟨8,[.s (.one (.bp 64 0)),.s (.one (.bp 128 0)),.s (.one (.bp 1600007 0)),sI,sI,sI,sI,.b (.cell [.ol 1008000,.ol 1008001,.ol 1008002,.s1 1600007] false),.b (.cell [.nil,.nil,.nil,.nil] false),.b (.cell [.d .str,.ol 1008003,.ol 1008004] false),.b (.lst 68 ty65 false),.b (.lst 71 ty53 false),.b (.lst 120 ty24 false),.b (.lst 111 ty72 false),.b (.lst 46 ty42 false)],[iT,iT,iT,iT,.str,ty66,ty56,ty29,ty73,ty44],[⟨.exit 8,[.s (.one (.bp 64 0)),.s (.one (.bp 128 0)),sI,sI,.b (.cell [.ol 1508900,.ol 1508901,.ol 1508902,.s1 1600007] false),.b (.cell [.nil,.nil,.nil,.nil] false),.b (.cell [.d .str,.ol 1508903,.ol 1508904] false),.b (.lst 68 ty65 false),.b (.lst 71 ty53 false),.b (.lst 120 ty24 false),.b (.lst 111 ty72 false),.b (.lst 46 ty42 false)],[iT,iT,.str,ty66,ty56,ty29,ty73,ty44]⟩],Pw.jiY (Pw.j4e)⟩]
 modes:=[(214,[false]),(215,[false]),(216,[false]),(217,[false]),(218,[false]),(219,[false]),(220,[false]),(221,[false]),(222,[false])]
 keep:=[(0,⟨[1,2,27,28],[64,128,1600007],[⟨1000000,68,ty65,[.cell 64 0],false⟩,⟨1000001,71,ty53,[.cell 64 1],false⟩,⟨1000002,120,ty24,[.cell 64 2],false⟩],[]⟩),
  (2,⟨[1,2,46,47],[64,128,1600007],[⟨1002000,68,ty65,[.cell 64 0],false⟩,⟨1002001,71,ty53,[.cell 64 1],false⟩,⟨1002002,120,ty24,[.cell 64 2],false⟩],[]⟩),
  (4,⟨[1,2,65,66],[64,128,1600007],[⟨1004000,68,ty65,[.cell 64 0],false⟩,⟨1004001,71,ty53,[.cell 64 1],false⟩,⟨1004002,120,ty24,[.cell 64 2],false⟩],[]⟩),
  (8,⟨[1,2,7,84,85,112,113],[64,128,1600007],[⟨1008000,68,ty65,[.cell 64 0],false⟩,⟨1008001,71,ty53,[.cell 64 1],false⟩,⟨1008002,120,ty24,[.cell 64 2],false⟩,⟨1008003,111,ty72,[.cell 1600007 1],false⟩,⟨1008004,46,ty42,[.cell 1600007 2],false⟩],[]⟩)]
 keepX:=[(0,.exit 0,⟨[1,2],[64,128,1600007],[⟨1500100,68,ty65,[.cell 64 0],false⟩,⟨1500101,71,ty53,[.cell 64 1],false⟩,⟨1500102,120,ty24,[.cell 64 2],false⟩],[]⟩),
  (2,.exit 2,⟨[1,2],[64,128,1600007],[⟨1502300,68,ty65,[.cell 64 0],false⟩,⟨1502301,71,ty53,[.cell 64 1],false⟩,⟨1502302,120,ty24,[.cell 64 2],false⟩],[]⟩),
  (4,.exit 4,⟨[1,2],[64,128,1600007],[⟨1504500,68,ty65,[.cell 64 0],false⟩,⟨1504501,71,ty53,[.cell 64 1],false⟩,⟨1504502,120,ty24,[.cell 64 2],false⟩],[]⟩),
  (8,.exit 8,⟨[1,2,84,85],[64,128,1600007],[⟨1508900,68,ty65,[.cell 64 0],false⟩,⟨1508901,71,ty53,[.cell 64 1],false⟩,⟨1508902,120,ty24,[.cell 64 2],false⟩,⟨1508903,111,ty72,[.cell 1600007 1],false⟩,⟨1508904,46,ty42,[.cell 1600007 2],false⟩],[]⟩)]
 dw:=[(1,[[],[],[704],[],[],[896],[],[],[1088],[],[],[1280],[],[64],[],[64],[],[64],[],[64]]),(5,[[],[],[],[],[],[],[],[],[],[2560],[],[],[2560,1000000]]),(10,[[],[],[],[],[],[],[],[],[],[3776],[],[],[3776,1002001]]),(15,[[],[],[],[],[],[],[],[],[],[4992],[],[],[4992,1004002]]),(21,[[],[],[],[],[],[],[6272,1508903],[],[],[],[],[6592],[],[],[1600007],[],[],[1600007]]),(25,[[],[],[],[],[],[],[],[],[],[],[],[],[],[],[],[],[],[],[8576],[],[],[],[],[],[],[],[],[9152],[],[],[8576,1008003],[],[],[9152,1008003]])]
 un:=[6]
 pre:=[(2,[.ex 64 3 1600007])]
 rw:=true
 rn:=[1508900,1508901,1508902,1600007,1508903,1508904]
theorem jmc:Con.OK Tryz.prog jbW:=
 cOf j0f j02 jno jbW Tryz.func145 (j8 j7d (j8 j6b (j8 j52 (j8 j53 (j8 j54 (j8 j6c (j8 jbV (j8 j6D (j8 j7e trivial))))))))) (j8 (fun h=>by kernel_rfl) (j8 (fun h=>by kernel_rfl) (j8 (fun h=>by kernel_rfl) (j8 (fun h=>by kernel_rfl) (j8 (fun h=>by kernel_rfl) trivial)))))
def j9d:Con:=⟨68,[.v ty84,.v iT],[ty84,iT],⟨[.raw [1508900,1508901,1508902,1600007,1508903,1508904] [.s (.st [.ol 1508900,.ol 1508901,.ol 1508902,.s1 1600007]),sI,.b (.lst 68 ty65 false),.b (.lst 71 ty53 false),.b (.lst 120 ty24 false),.b (.cell [.d .str,.ol 1508903,.ol 1508904] false),.b (.lst 111 ty72 false),.b (.lst 46 ty42 false)]],[]⟩,[iT,ty66,ty56,ty29,.str,ty73,ty44],Pw.unc2 Pw.j88⟩
def jnp:FnD where
 N:=17
 np:=2
 cs:=[j4o,j7c,jbW]
 ds:=[]
 modes:=[(75,[false]),(77,[false,false]),(145,[false])]
 rw:=true
 rn:=[1508900,1508901,1508902,1600007,1508903,1508904]
theorem jgI:Con.OK Tryz.prog j9d:=
 cOf j0f j02 jnp j9d Tryz.func68 (j8 j8T (j8 je6 (j8 jmc trivial))) trivial
def jaL:Con:=⟨24,[.v ty84,.v iT,.v ty42],[ty84,iT,ty42],⟨[.v ty84,.v iT],[]⟩,[ty84,iT],Pw.unc3 Pw.j9k⟩
def jmd:FnD where
 N:=42
 np:=3
 cs:=[j4o,j9d]
 ds:=[]
 modes:=[(68,[false,false]),(75,[false])]
 ro:=[false,false]
 dw:=[(5,[[],[],[],[],[],[],[1984],[2048,1508904],[],[],[1600007]])]
 pre:=[(6,[.se 1600007])]
theorem jkN:Con.OK Tryz.prog jaL:=
 cOf j0f j02 jmd jaL Tryz.func24 (j8 j8T (j8 jgI trivial)) trivial
def j1T:Con:=⟨69,[.rl 46 ty44,.v iT,.v iT],[ty44,iT,iT],⟨[.hd],[.rl ty44]⟩,[iT,ty44],Pw.unc3 Pw.j1A⟩
def j7f:FnD where
 N:=33
 np:=3
 cs:=[]
 ds:=[]
 ro:=[false]
 dw:=[(5,[[],[],[],[],[],[],[0],[]])]
 hd:=true
theorem j6U:Con.OK Tryz.prog j1T:=
 cOf j0f j02 j7f j1T Tryz.func69 trivial trivial
def j7g:Con:=⟨21,[.v ty84,.v iT,.v iT],[ty84,iT,iT],⟨[.v ty84,.v iT],[]⟩,[ty84,iT],Pw.unc3 Pw.j19⟩
def jkO:FnD where
 N:=48
 np:=3
 cs:=[j9d,j1T]
 ds:=[]
 modes:=[(68,[false,false]),(69,[true,false,false])]
 ro:=[false,false]
 pre:=[(8,[.se 1600007])]
theorem je7:Con.OK Tryz.prog j7g:=
 cOf j0f j02 jkO j7g Tryz.func21 (j8 jgI (j8 j6U trivial)) trivial
def jeA:Con:=⟨117,[.v ty65],[ty65],⟨[.v ty28,.v iT],[]⟩,[ty28,iT],fun h=>Pw.jie h⟩
def jqY:FnD where
 N:=16
 np:=1
 cs:=[j43]
 ds:=[]
 modes:=[(201,[false])]
 ro:=[false,false]
theorem jpg:Con.OK Tryz.prog jeA:=
 cOf j0f j02 jqY jeA Tryz.func117 (j8 j9Q trivial) trivial
def j9V:Con:=⟨237,[.v ty66],[ty66],⟨[.own 154 ty33],[]⟩,[ty33],fun h=>Pw.j9w h⟩
def jkP:FnD where
 N:=25
 np:=1
 cs:=[jeA]
 ds:=[⟨0,[.s (.one (.ol 1000000)),.s (.one (.d ty66)),sI,sI,.b (.lst 154 ty28 false)],[ty66,iT,iT,ty33],[⟨.exit 0,[.s (.one (.ol 1500100)),.b (.lst 154 ty28 false)],[ty33]⟩],Pw.unc4 (Pw.j3g)⟩]
 modes:=[(117,[false])]
 keep:=[(0,⟨[3,8,9,10],[],[⟨1000000,154,ty28,[.slot 3],false⟩],[]⟩)]
 keepX:=[(0,.exit 0,⟨[3],[],[⟨1500100,154,ty28,[.slot 3],false⟩],[]⟩)]
 ro:=[true]
theorem jj6:Con.OK Tryz.prog j9V:=
 cOf j0f j02 jkP j9V Tryz.func237 (j8 jpg trivial) (j8 (fun h=>by kernel_rfl) trivial)
def jbX:Con:=⟨162,[.v ty84],[ty84],⟨[.v ty86],[]⟩,[ty86],fun h=>Pw.jd1 h⟩
def jnq:FnD where
 N:=8
 np:=1
 cs:=[j9V]
 ds:=[]
 modes:=[(237,[false])]
 ro:=[false]
 dw:=[(1,[[],[],[],[384],[],[128]])]
theorem jme:Con.OK Tryz.prog jbX:=
 cOf j0f j02 jnq jbX Tryz.func162 (j8 jj6 trivial) trivial
def jeB:Con:=⟨76,[.v ty84],[ty84],⟨[.v ty86,.v .bool],[]⟩,[ty86,.bool],fun h=>Pw.jif h⟩
def jqZ:FnD where
 N:=10
 np:=1
 cs:=[j4o,jbX]
 ds:=[]
 modes:=[(75,[false]),(162,[false])]
 ro:=[false,false]
theorem jph:Con.OK Tryz.prog jeB:=
 cOf j0f j02 jqZ jeB Tryz.func76 (j8 j8T (j8 jme trivial)) trivial
def j1x:Con:=⟨168,[.v ty73],[ty73],⟨[.clo 248 [.p [ty73]]],[]⟩,[ty73],fun h=>Pw.j3h h⟩
def j6d:FnD where
 N:=4
 np:=1
 cs:=[]
 ds:=[]
 ro:=[false]
theorem j5X:Con.OK Tryz.prog j1x:=
 cOf j0f j02 j6d j1x Tryz.func168 trivial trivial
def j80:Con:=⟨357,[.v ty72],[ty72],⟨[.v iT],[]⟩,[iT],fun h=>Pw.jgh h⟩
def jmf:FnD where
 N:=11
 np:=1
 cs:=[]
 ds:=[]
 ro:=[false]
theorem jfH:Con.OK Tryz.prog j80:=
 cOf j0f j02 jmf j80 Tryz.func357 trivial trivial
def j4C:Con:=⟨328,[.v iT,.ip [iT,ty13],.ip [iT]],[iT,iT,ty13,iT],⟨[.v .bool],[]⟩,[.bool],Pw.unc4 Pw.j9x⟩
def jde:FnD where
 N:=13
 np:=3
 cs:=[]
 ds:=[]
 ro:=[false]
theorem jcs:Con.OK Tryz.prog j4C:=
 cOf j0f j02 jde j4C Tryz.func328 trivial trivial
def j9W:Con:=⟨327,[.v iT,.clo 328 [.p [iT,ty13],.p [iT]]],[iT,iT,ty13,iT],⟨[.v iT],[]⟩,[iT],Pw.unc4 Pw.j9z⟩
def jkQ:FnD where
 N:=26
 np:=2
 cs:=[j4C]
 ds:=[⟨0,[.s (.one (.clo 328 [.p [iT,ty13],.p [iT]])),sI,sI],[iT,ty13,iT,iT,iT],[⟨.exit 0,[sI],[iT]⟩],Pw.unc5 (Pw.j9y)⟩]
 modes:=[(328,[false])]
 keep:=[(0,⟨[1,5,6],[],[],[]⟩)]
 keepX:=[(0,.exit 0,⟨[5],[],[],[]⟩)]
 ro:=[false]
theorem jj7:Con.OK Tryz.prog j9W:=
 cOf j0f j02 jkQ j9W Tryz.func327 (j8 jcs trivial) (j8 (fun h=>by kernel_rfl) trivial)
end Go.Proofs.Pk
