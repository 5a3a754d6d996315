/- Contracts: each given function is its plain function, printed by a program. -/
import Derived.Test.YthpdddnkpjnllaaGreatGCon3
noncomputable section
open Go Go.Lft
set_option linter.unusedVariables false
set_option maxRecDepth 100000
namespace Go.Proofs.Pk
def j36:Con:=⟨175,[.rl 3 (.list iT),.clo 213 [.p [iT],.p [iT]]],[(.list iT),iT,iT],⟨[.v iT],[.rl (.list iT)]⟩,[iT,(.list iT)],fun h=>Pw.j1M h.1 h.2.1 h.2.2⟩
def jaI:FnD where
 N:=19
 np:=2
 cs:=[j7P]
 ds:=[⟨0,[.s (.one (.ol 0)),.s (.one (.clo 213 [.p [iT],.p [iT]])),sI,sI,.b (.lst 3 iT false)],[iT,iT,iT,iT,(.list iT)],[⟨.ret,[sI,.b (.lst 3 iT false)],[iT,(.list iT)]⟩,⟨.exit 0,[.b (.lst 3 iT false)],[(.list iT)]⟩],fun h=>Pw.j44 h.1 h.2.1 h.2.2.1 h.2.2.2.1 h.2.2.2.2⟩]
 modes:=[(213,[false])]
 keep:=[(0,⟨[0,1,7,8],[0],[],[]⟩)]
 keepX:=[(0,.ret,⟨[4],[0],[],[]⟩),
  (0,.exit 0,⟨[],[0],[],[]⟩)]
 ro:=[false]
theorem jam:Con.OK Tryz.prog j36:=
 cOf j07 j02 jaI j36 Tryz.func175 (j9 jgq trivial) (j9 (fun h=>by kernel_rfl) trivial)
def j3C:Con:=⟨211,[.rl 3 (.list iT),.clo 213 [.p [iT],.p [iT]]],[(.list iT),iT,iT],⟨[.hd],[.rl (.list iT)]⟩,[iT,(.list iT)],fun h=>Pw.j29 h.1 h.2.1 h.2.2⟩
def jcn:FnD where
 N:=42
 np:=2
 cs:=[j7P,j36]
 ds:=[⟨0,[.s (.one (.ol 0)),.s (.one (.clo 213 [.p [iT],.p [iT]])),sI,sI,.b (.lst 3 iT false)],[iT,iT,iT,iT,(.list iT)],[⟨.exit 0,[.s (.one (.ol 0)),sI,.b (.lst 3 iT false)],[iT,(.list iT)]⟩],fun h=>Pw.j4t h.1 h.2.1 h.2.2.1 h.2.2.2.1 h.2.2.2.2⟩]
 modes:=[(175,[true,false]),(213,[false])]
 keep:=[(0,⟨[0,1,5,6],[0],[],[]⟩)]
 keepX:=[(0,.exit 0,⟨[0,5],[0],[],[]⟩)]
 ro:=[false]
 hd:=true
theorem jbg:Con.OK Tryz.prog j3C:=
 cOf j07 j02 jcn j3C Tryz.func211 (j9 jgq (j9 jam trivial)) (j9 (fun h=>by kernel_rfl) trivial)
def j7Z:Con:=⟨207,[.v (.int .u64)],[(.int .u64)],⟨[.v iT],[]⟩,[iT],fun h=>Pw.jg6 h⟩
def jkm:FnD where
 N:=25
 np:=1
 cs:=[]
 ds:=[]
 ro:=[false]
theorem jjv:Con.OK Tryz.prog j7Z:=
 cOf j07 j02 jkm j7Z Tryz.func207 trivial trivial
def j9C:Con:=⟨162,[.v (.int .u64)],[(.int .u64)],⟨[.v iT],[]⟩,[iT],fun h=>Pw.jj3 h⟩
def jmv:FnD where
 N:=8
 np:=1
 cs:=[j7Z]
 ds:=[]
 modes:=[(207,[false])]
 ro:=[false]
theorem jl5:Con.OK Tryz.prog j9C:=
 cOf j07 j02 jmv j9C Tryz.func162 (j9 jjv trivial) trivial
def j9D:Con:=⟨243,[.v iT],[iT],⟨[.v .bool],[]⟩,[.bool],fun h=>Pw.jba h⟩
def jmw:FnD where
 N:=6
 np:=1
 cs:=[]
 ds:=[]
 ro:=[false]
theorem jl6:Con.OK Tryz.prog j9D:=
 cOf j07 j02 jmw j9D Tryz.func243 trivial trivial
def j7Q:Con:=⟨216,[.v iT,.v iT],[iT,iT],⟨[.v .bool],[]⟩,[.bool],fun h=>Pw.j9Z h.1 h.2⟩
def jnr:FnD where
 N:=17
 np:=2
 cs:=[j9D]
 ds:=[]
 modes:=[(243,[false])]
 ro:=[false]
theorem jgr:Con.OK Tryz.prog j7Q:=
 cOf j07 j02 jnr j7Q Tryz.func216 (j9 jl6 trivial) trivial
def j2o:Con:=⟨261,[.rl 3 (.list iT),.v iT,.v iT],[(.list iT),iT,iT],⟨[],[.rl (.list iT)]⟩,[(.list iT)],fun h=>Pw.j1j h.1 h.2.1 h.2.2⟩
def j8H:FnD where
 N:=49
 np:=3
 cs:=[j7Q]
 ds:=[⟨0,[.s (.one (.ol 0)),sI,sI,sI,.b (.lst 3 iT false)],[iT,iT,iT,(.list iT)],[⟨.exit 0,[.b (.lst 3 iT false)],[(.list iT)]⟩],fun h=>Pw.j0G h.1 h.2.1 h.2.2.1 h.2.2.2⟩,
  ⟨2,[.s (.one (.ol 0)),sI,sI,sI,sI,.b (.lst 3 iT false)],[iT,iT,iT,iT,(.list iT)],[⟨.exit 2,[.s (.one (.ol 0)),sI,sI,sI,.b (.lst 3 iT false)],[iT,iT,iT,(.list iT)]⟩],fun h=>Pw.j3e h.1 h.2.1 h.2.2.1 h.2.2.2.1 h.2.2.2.2⟩]
 modes:=[(216,[false,false])]
 keep:=[(0,⟨[0,1,2,6],[0],[],[]⟩),
  (2,⟨[0,1,2,6,7],[0],[],[]⟩)]
 keepX:=[(0,.exit 0,⟨[],[0],[],[]⟩),
  (2,.exit 2,⟨[0,1,2,6],[0],[],[]⟩)]
 dw:=[(6,[[],[],[],[],[],[],[],[],[],[],[],[],[],[],[],[0],[],[0]])]
theorem j8g:Con.OK Tryz.prog j2o:=
 cOf j07 j02 j8H j2o Tryz.func261 (j9 jgr trivial) (j9 (fun h=>by kernel_rfl) (j9 (fun h=>by kernel_rfl) trivial))
def j3D:Con:=⟨242,[.rl 3 (.list iT),.v iT,.v iT,.v iT],[(.list iT),iT,iT,iT],⟨[],[.rl (.list iT)]⟩,[(.list iT)],fun h=>Pw.j2a h.1 h.2.1 h.2.2.1 h.2.2.2⟩
def jco:FnD where
 N:=134
 np:=4
 cs:=[j2o]
 ds:=[⟨0,[.s (.one (.ol 0)),sI,sI,sI,.s (.one (.d .bool)),.s (.one (.d .bool)),.b (.lst 3 iT false)],[iT,iT,iT,.bool,.bool,(.list iT)],[⟨.ret,[.b (.lst 3 iT false)],[(.list iT)]⟩],fun h=>Pw.j16 h.1 h.2.1 h.2.2.1 h.2.2.2.1 h.2.2.2.2.1 h.2.2.2.2.2⟩]
 modes:=[(261,[true,false,false])]
 keep:=[(0,⟨[0,1,2,3,8,9],[0],[],[]⟩)]
 keepX:=[(0,.ret,⟨[],[0],[],[]⟩)]
theorem jbh:Con.OK Tryz.prog j3D:=
 cOf j07 j02 jco j3D Tryz.func242 (j9 j8g trivial) (j9 (fun h=>by kernel_rfl) trivial)
def j5C:Con:=⟨214,[.rl 3 (.list iT)],[(.list iT)],⟨[],[.rl (.list iT)]⟩,[(.list iT)],fun h=>Pw.j45 h⟩
def jgs:FnD where
 N:=11
 np:=1
 cs:=[j9C,j3D]
 ds:=[]
 modes:=[(162,[false]),(242,[true,false,false,false])]
theorem jfB:Con.OK Tryz.prog j5C:=
 cOf j07 j02 jgs j5C Tryz.func214 (j9 jl5 (j9 jbh trivial)) trivial
def j4g:Con:=⟨215,[.rl 3 (.list iT)],[(.list iT)],⟨[.hd],[.rl (.list iT)]⟩,[iT,(.list iT)],fun h=>Pw.j2X h⟩
def jea:FnD where
 N:=61
 np:=1
 cs:=[]
 ds:=[⟨0,[.s (.one (.ol 0)),sI,.b (.lst 3 iT false)],[iT,(.list iT)],[⟨.ret,[.s (.one (.hd 0)),.b (.lst 3 iT false)],[iT,(.list iT)]⟩,⟨.exit 0,[.s (.one (.ol 0)),.b (.lst 3 iT false)],[(.list iT)]⟩],fun h=>Pw.j1p h.1 h.2⟩,
  ⟨2,[.s (.one (.ol 0)),sI,.s (.one (.tl 0)),sI,.b (.lst 3 iT false)],[iT,iT,iT,(.list iT)],[⟨.exit 2,[.s (.one (.ol 0)),sI,.b (.lst 3 iT false)],[iT,(.list iT)]⟩],fun h=>Pw.j5l h.1 h.2.1 h.2.2.1 h.2.2.2⟩]
 keep:=[(0,⟨[0,3],[0],[],[]⟩),
  (2,⟨[0,3,4,5],[0],[],[]⟩)]
 keepX:=[(0,.ret,⟨[2],[0],[],[]⟩),
  (0,.exit 0,⟨[0],[0],[],[]⟩),
  (2,.exit 2,⟨[0,3],[0],[],[]⟩)]
 ro:=[false]
 hd:=true
theorem jdu:Con.OK Tryz.prog j4g:=
 cOf j07 j02 jea j4g Tryz.func215 trivial (j9 (fun h=>by kernel_rfl) (j9 (fun h=>by kernel_rfl) trivial))
def jeQ:Con:=⟨167,[.v (.list iT),.v iT,.v iT],[(.list iT),iT,iT],⟨[.own 3 (.list iT)],[]⟩,[(.list iT)],fun h=>Pw.jg7 h.1 h.2.1 h.2.2⟩
def jsc:FnD where
 N:=19
 np:=3
 cs:=[j8e,j3C,j5C,j4g]
 ds:=[]
 modes:=[(211,[true,false]),(212,[false]),(214,[true]),(215,[true])]
 ro:=[true]
 dw:=[(3,[[],[704,960],[],[1088],[960,1152],[]])]
theorem jqN:Con.OK Tryz.prog jeQ:=
 cOf j07 j02 jsc jeQ Tryz.func167 (j9 jeP (j9 jbg (j9 jfB (j9 jdu trivial)))) trivial
def j17:Con:=⟨102,[.v ty68],[ty68],⟨[.clo 155 [.p [ty68]]],[]⟩,[ty68],fun h=>Pw.j2n h⟩
def j7h:FnD where
 N:=4
 np:=1
 cs:=[]
 ds:=[]
 ro:=[false]
theorem j3r:Con.OK Tryz.prog j17:=
 cOf j07 j02 j7h j17 Tryz.func102 trivial trivial
def j4d:Con:=⟨194,[.v ty12],[ty12],⟨[.own 113 ty12],[]⟩,[ty12],fun h=>Pw.j5m h⟩
def j90:FnD where
 N:=8
 np:=1
 cs:=[]
 ds:=[]
 ro:=[true]
theorem j8I:Con.OK Tryz.prog j4d:=
 jqr j07 j02 j90 194 ty8 113 Tryz.f194 (Tryz.f194.body.getD .skip) Tryz.func194 (by kernel_rfl) (by kernel_rfl) (Nat.le_of_ble_eq_true (by kernel_rfl)) (by kernel_rfl) trivial (by kernel_rfl)
  (fun h R k=>by kernel_rfl)
def j6Y:Con:=⟨195,[.v ty8],[ty8],⟨[.v .bool],[]⟩,[.bool],fun h=>Pw.jey h⟩
def jmx:FnD where
 N:=8
 np:=1
 cs:=[]
 ds:=[]
 ro:=[false]
theorem jfq:Con.OK Tryz.prog j6Y:=
 cOf j07 j02 jmx j6Y Tryz.func195 trivial trivial
def j1X:Con:=⟨233,[.rl 113 ty12,.clo 195 []],[ty12],⟨[.v iT],[.rl ty12]⟩,[iT,ty12],fun h=>Pw.j11 h⟩
def j7D:FnD where
 N:=19
 np:=2
 cs:=[j6Y]
 ds:=[⟨0,[.s (.one (.ol 0)),.s (.one (.clo 195 [])),sI,sI,.b (.lst 113 ty8 false)],[iT,iT,ty12],[⟨.ret,[sI,.b (.lst 113 ty8 false)],[iT,ty12]⟩,⟨.exit 0,[.b (.lst 113 ty8 false)],[ty12]⟩],fun h=>Pw.j2U h.1 h.2.1 h.2.2⟩]
 modes:=[(195,[false])]
 keep:=[(0,⟨[0,1,7,8],[0],[],[]⟩)]
 keepX:=[(0,.ret,⟨[4],[0],[],[]⟩),
  (0,.exit 0,⟨[],[0],[],[]⟩)]
 ro:=[false]
theorem j7i:Con.OK Tryz.prog j1X:=
 cOf j07 j02 j7D j1X Tryz.func233 (j9 jfq trivial) (j9 (fun h=>by kernel_rfl) trivial)
def j1O:Con:=⟨193,[.rl 113 ty12,.clo 195 []],[ty12],⟨[.hd],[.rl ty12]⟩,[iT,ty12],fun h=>Pw.j0S h⟩
def j7j:FnD where
 N:=42
 np:=2
 cs:=[j6Y,j1X]
 ds:=[⟨0,[.s (.one (.ol 0)),.s (.one (.clo 195 [])),sI,sI,.b (.lst 113 ty8 false)],[iT,iT,ty12],[⟨.exit 0,[.s (.one (.ol 0)),sI,.b (.lst 113 ty8 false)],[iT,ty12]⟩],fun h=>Pw.j2G h.1 h.2.1 h.2.2⟩]
 modes:=[(195,[false]),(233,[true,false])]
 keep:=[(0,⟨[0,1,5,6],[0],[],[]⟩)]
 keepX:=[(0,.exit 0,⟨[0,5],[0],[],[]⟩)]
 ro:=[false]
 hd:=true
theorem j6Z:Con.OK Tryz.prog j1O:=
 cOf j07 j02 j7j j1O Tryz.func193 (j9 jfq (j9 j7i trivial)) (j9 (fun h=>by kernel_rfl) trivial)
def j9E:Con:=⟨197,[.v ty8,.v ty8],[ty8,ty8],⟨[.v iT],[]⟩,[iT],fun h=>Pw.jbb h.1 h.2⟩
def jmy:FnD where
 N:=10
 np:=2
 cs:=[]
 ds:=[]
 ro:=[false]
theorem juN:Con.OK Tryz.prog j9E:=
 cOf j07 j02 jmy j9E Tryz.func197 trivial trivial
def j1y:Con:=⟨196,[.rl 113 ty12,.clo 197 []],[ty12],⟨[],[.rl ty12]⟩,[ty12],fun h=>Pw.j1Q h⟩
def jbw:FnD where
 N:=14
 np:=2
 cs:=[j9E]
 ds:=[]
 modes:=[(197,[false,false])]
theorem j3R:Con.OK Tryz.prog j1y:=
 jts Tryz.sort196 (ty8) rfl 113 (by kernel_rfl) Tryz.isAgg113 Tryz.sizeOf113 _ 197 (enters_of Tryz.func197 (by kernel_rfl) rfl) js4 js5 196 rfl
def j4U:Con:=⟨160,[.v ty12],[ty12],⟨[.own 113 ty12],[]⟩,[ty12],fun h=>Pw.j6T h⟩
def jqO:FnD where
 N:=54
 np:=1
 cs:=[j4d,j1O,j1y]
 ds:=[⟨0,[.s (.one (.ol 1000000)),.s (.one (.ol 1000001)),sI,sI,.b (.lst 113 ty8 false),.b (.lst 113 ty8 false)],[iT,iT,ty12,ty12],[⟨.exit 0,[.s (.one (.ol 1500100)),.b (.lst 113 ty8 false)],[ty12]⟩],fun h=>Pw.jd3 h.1 h.2.1 h.2.2.1 h.2.2.2⟩]
 modes:=[(193,[true,false]),(194,[false]),(196,[true,false])]
 keep:=[(0,⟨[4,13,14,15],[],[⟨1000000,113,ty8,[.slot 4],false⟩,⟨1000001,113,ty8,[.slot 13],false⟩],[]⟩)]
 keepX:=[(0,.exit 0,⟨[4],[],[⟨1500100,113,ty8,[.slot 4],false⟩],[]⟩)]
 ro:=[true]
 dw:=[(9,[[],[],[],[],[],[],[],[],[],[],[],[],[],[],[1000000]])]
theorem j8J:Con.OK Tryz.prog j4U:=
 cOf j07 j02 jqO j4U Tryz.func160 (j9 j8I (j9 j6Z (j9 j3R trivial))) (j9 (fun h=>by kernel_rfl) trivial)
def jaJ:Con:=⟨190,[.v ty25,.v ty12,.v iT,.v iT],[ty25,ty12,iT,iT],⟨[.own 113 ty12],[]⟩,[ty12],fun h=>Pw.ja0 h.1 h.2.1 h.2.2.1 h.2.2.2⟩
def jns:FnD where
 N:=73
 np:=4
 cs:=[j3o,j4U]
 ds:=[⟨0,[.s (.one (.d ty12)),.s (.one (.ol 1000000)),.s (.one (.ol 1000001)),sI,sI,.b (.lst 113 ty8 false),.b (.lst 212 ty20 false)],[ty12,iT,iT,ty12,ty24],[⟨.exit 0,[.s (.one (.ol 1500100)),.b (.lst 113 ty8 false)],[ty12]⟩],fun h=>Pw.j3G h.1 h.2.1 h.2.2.1 h.2.2.2.1 h.2.2.2.2⟩,
  ⟨2,[.s (.one (.d ty12)),.s (.one (.ol 1002000)),.s (.one (.bp 704 0)),sI,.s (.one (.ol 1002001)),sI,sI,.b (.cell [.d iT,.d iT,.d iT] false),.b (.lst 113 ty8 false),.b (.lst 212 ty20 false)],[ty12,iT,iT,iT,iT,iT,iT,ty12,ty24],[⟨.exit 2,[.s (.one (.d ty12)),.s (.one (.ol 1502300)),.s (.one (.ol 1502301)),sI,sI,.b (.lst 113 ty8 false),.b (.lst 212 ty20 false)],[ty12,iT,iT,ty12,ty24]⟩],fun h=>Pw.j3F h.1 h.2.1 h.2.2.1 h.2.2.2.1 h.2.2.2.2.1 h.2.2.2.2.2.1 h.2.2.2.2.2.2.1 h.2.2.2.2.2.2.2.1 h.2.2.2.2.2.2.2.2⟩,
  ⟨4,[.s (.one (.d ty12)),.s (.one (.ol 1004000)),.s (.one (.bp 704 0)),sI,.s (.one (.ol 1004001)),sI,sI,.s (.one (.d ty12)),sI,sI,.b (.cell [.d iT,.d iT,.d iT] false),.b (.lst 113 ty8 false),.b (.lst 212 ty20 false)],[ty12,iT,iT,iT,ty12,iT,iT,iT,iT,iT,ty12,ty24],[⟨.exit 4,[.s (.one (.d ty12)),.s (.one (.ol 1504500)),.s (.one (.bp 704 0)),sI,.s (.one (.ol 1504501)),sI,sI,.b (.cell [.d iT,.d iT,.d iT] false),.b (.lst 113 ty8 false),.b (.lst 212 ty20 false)],[ty12,iT,iT,iT,iT,iT,iT,ty12,ty24]⟩],fun h=>Pw.jb0 h.1 h.2.1 h.2.2.1 h.2.2.2.1 h.2.2.2.2.1 h.2.2.2.2.2.1 h.2.2.2.2.2.2.1 h.2.2.2.2.2.2.2.1 h.2.2.2.2.2.2.2.2.1 h.2.2.2.2.2.2.2.2.2.1 h.2.2.2.2.2.2.2.2.2.2.1 h.2.2.2.2.2.2.2.2.2.2.2⟩]
 modes:=[(160,[false]),(165,[false,false,false])]
 keep:=[(0,⟨[1,9,19,20,21],[],[⟨1000000,113,ty8,[.slot 9],false⟩,⟨1000001,212,ty20,[.slot 19],false⟩],[]⟩),
  (2,⟨[1,9,11,13,19,20,21],[704],[⟨1002000,113,ty8,[.slot 9],false⟩,⟨1002001,212,ty20,[.slot 19],false⟩],[]⟩),
  (4,⟨[1,9,11,13,19,20,21,45,46,47],[704],[⟨1004000,113,ty8,[.slot 9],false⟩,⟨1004001,212,ty20,[.slot 19],false⟩],[]⟩)]
 keepX:=[(0,.exit 0,⟨[9],[],[⟨1500100,113,ty8,[.slot 9],false⟩],[]⟩),
  (2,.exit 2,⟨[1,9,19,20,21],[],[⟨1502300,113,ty8,[.slot 9],false⟩,⟨1502301,212,ty20,[.slot 19],false⟩],[]⟩),
  (4,.exit 4,⟨[1,9,11,13,19,20,21],[704],[⟨1504500,113,ty8,[.slot 9],false⟩,⟨1504501,212,ty20,[.slot 19],false⟩],[]⟩)]
 ro:=[true]
theorem jmz:Con.OK Tryz.prog jaJ:=
 cOf j07 j02 jns jaJ Tryz.func190 (j9 j7g (j9 j8J trivial)) (j9 (fun h=>by kernel_rfl) (j9 (fun h=>by kernel_rfl) (j9 (fun h=>by kernel_rfl) trivial)))
end Go.Proofs.Pk
