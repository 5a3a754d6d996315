/- Contracts: each given function is its plain function, printed by a program. -/
import Derived.Test.YthpdddnkpjnllaaGreatDCon3
noncomputable section
open Go Go.Lft
set_option linter.unusedVariables false
set_option maxRecDepth 100000
namespace Go.Proofs.Pk
def j3I:Con:=⟨175,[.rl 3 (.list iT),.clo 213 [.p [iT],.p [iT]]],[(.list iT),iT,iT],⟨[.v iT],[.rl (.list iT)]⟩,[iT,(.list iT)],fun h=>Pw.j1K h.1 h.2.1 h.2.2⟩
def jbA:FnD where
 N:=19
 np:=2
 cs:=[j8O]
 ds:=[⟨0,[.s (.one (.ol 0)),.s (.one (.clo 213 [.p [iT],.p [iT]])),sI,sI,.b (.lst 3 iT false)],[iT,iT,iT,iT,(.list iT)],[⟨.ret,[sI,.b (.lst 3 iT false)],[iT,(.list iT)]⟩,⟨.exit 0,[.b (.lst 3 iT false)],[(.list iT)]⟩],fun h=>Pw.j17 h.1 h.2.1 h.2.2.1 h.2.2.2.1 h.2.2.2.2⟩]
 modes:=[(213,[false])]
 keep:=[(0,⟨[0,1,7,8],[0],[],[]⟩)]
 keepX:=[(0,.ret,⟨[4],[0],[],[]⟩),
  (0,.exit 0,⟨[],[0],[],[]⟩)]
 ro:=[false]
theorem jbc:Con.OK Tryz.prog j3I:=
 cOf j0a j03 jbA j3I Tryz.func175 (j9 jhb trivial) (j9 (fun h=>by kernel_rfl) trivial)
def j4k:Con:=⟨211,[.rl 3 (.list iT),.clo 213 [.p [iT],.p [iT]]],[(.list iT),iT,iT],⟨[.hd],[.rl (.list iT)]⟩,[iT,(.list iT)],fun h=>Pw.j1w h.1 h.2.1 h.2.2⟩
def jd3:FnD where
 N:=42
 np:=2
 cs:=[j8O,j3I]
 ds:=[⟨0,[.s (.one (.ol 0)),.s (.one (.clo 213 [.p [iT],.p [iT]])),sI,sI,.b (.lst 3 iT false)],[iT,iT,iT,iT,(.list iT)],[⟨.exit 0,[.s (.one (.ol 0)),sI,.b (.lst 3 iT false)],[iT,(.list iT)]⟩],fun h=>Pw.j1o h.1 h.2.1 h.2.2.1 h.2.2.2.1 h.2.2.2.2⟩]
 modes:=[(175,[true,false]),(213,[false])]
 keep:=[(0,⟨[0,1,5,6],[0],[],[]⟩)]
 keepX:=[(0,.exit 0,⟨[0,5],[0],[],[]⟩)]
 ro:=[false]
 hd:=true
theorem jc5:Con.OK Tryz.prog j4k:=
 cOf j0a j03 jd3 j4k Tryz.func211 (j9 jhb (j9 jbc trivial)) (j9 (fun h=>by kernel_rfl) trivial)
def j8Y:Con:=⟨207,[.v (.int .u64)],[(.int .u64)],⟨[.v iT],[]⟩,[iT],fun h=>Pw.jgP h⟩
def jlf:FnD where
 N:=25
 np:=1
 cs:=[]
 ds:=[]
 ro:=[false]
theorem jki:Con.OK Tryz.prog j8Y:=
 cOf j0a j03 jlf j8Y Tryz.func207 trivial trivial
def jar:Con:=⟨162,[.v (.int .u64)],[(.int .u64)],⟨[.v iT],[]⟩,[iT],fun h=>Pw.jfi h⟩
def jnz:FnD where
 N:=8
 np:=1
 cs:=[j8Y]
 ds:=[]
 modes:=[(207,[false])]
 ro:=[false]
theorem jm7:Con.OK Tryz.prog jar:=
 cOf j0a j03 jnz jar Tryz.func162 (j9 jki trivial) trivial
def jas:Con:=⟨243,[.v iT],[iT],⟨[.v .bool],[]⟩,[.bool],fun h=>Pw.jc0 h⟩
def jnA:FnD where
 N:=6
 np:=1
 cs:=[]
 ds:=[]
 ro:=[false]
theorem jm8:Con.OK Tryz.prog jas:=
 cOf j0a j03 jnA jas Tryz.func243 trivial trivial
def j8P:Con:=⟨216,[.v iT,.v iT],[iT,iT],⟨[.v .bool],[]⟩,[.bool],fun h=>Pw.jaP h.1 h.2⟩
def jou:FnD where
 N:=17
 np:=2
 cs:=[jas]
 ds:=[]
 modes:=[(243,[false])]
 ro:=[false]
theorem jhc:Con.OK Tryz.prog j8P:=
 cOf j0a j03 jou j8P Tryz.func216 (j9 jm8 trivial) trivial
def j2W:Con:=⟨261,[.rl 3 (.list iT),.v iT,.v iT],[(.list iT),iT,iT],⟨[],[.rl (.list iT)]⟩,[(.list iT)],fun h=>Pw.j0Q h.1 h.2.1 h.2.2⟩
def j9A:FnD where
 N:=49
 np:=3
 cs:=[j8P]
 ds:=[⟨0,[.s (.one (.ol 0)),sI,sI,sI,.b (.lst 3 iT false)],[iT,iT,iT,(.list iT)],[⟨.exit 0,[.b (.lst 3 iT false)],[(.list iT)]⟩],fun h=>Pw.j0h h.1 h.2.1 h.2.2.1 h.2.2.2⟩,
  ⟨2,[.s (.one (.ol 0)),sI,sI,sI,sI,.b (.lst 3 iT false)],[iT,iT,iT,iT,(.list iT)],[⟨.exit 2,[.s (.one (.ol 0)),sI,sI,sI,.b (.lst 3 iT false)],[iT,iT,iT,(.list iT)]⟩],fun h=>Pw.j0Y h.1 h.2.1 h.2.2.1 h.2.2.2.1 h.2.2.2.2⟩]
 modes:=[(216,[false,false])]
 keep:=[(0,⟨[0,1,2,6],[0],[],[]⟩),
  (2,⟨[0,1,2,6,7],[0],[],[]⟩)]
 keepX:=[(0,.exit 0,⟨[],[0],[],[]⟩),
  (2,.exit 2,⟨[0,1,2,6],[0],[],[]⟩)]
 dw:=[(6,[[],[],[],[],[],[],[],[],[],[],[],[],[],[],[],[0],[],[0]])]
theorem j9f:Con.OK Tryz.prog j2W:=
 cOf j0a j03 j9A j2W Tryz.func261 (j9 jhc trivial) (j9 (fun h=>by kernel_rfl) (j9 (fun h=>by kernel_rfl) trivial))
def j4l:Con:=⟨242,[.rl 3 (.list iT),.v iT,.v iT,.v iT],[(.list iT),iT,iT,iT],⟨[],[.rl (.list iT)]⟩,[(.list iT)],fun h=>Pw.j1x h.1 h.2.1 h.2.2.1 h.2.2.2⟩
def jd4:FnD where
 N:=134
 np:=4
 cs:=[j2W]
 ds:=[⟨0,[.s (.one (.ol 0)),sI,sI,sI,.s (.one (.d .bool)),.s (.one (.d .bool)),.b (.lst 3 iT false)],[iT,iT,iT,.bool,.bool,(.list iT)],[⟨.ret,[.b (.lst 3 iT false)],[(.list iT)]⟩],fun h=>Pw.j0J h.1 h.2.1 h.2.2.1 h.2.2.2.1 h.2.2.2.2.1 h.2.2.2.2.2⟩]
 modes:=[(261,[true,false,false])]
 keep:=[(0,⟨[0,1,2,3,8,9],[0],[],[]⟩)]
 keepX:=[(0,.ret,⟨[],[0],[],[]⟩)]
theorem jc6:Con.OK Tryz.prog j4l:=
 cOf j0a j03 jd4 j4l Tryz.func242 (j9 j9f trivial) (j9 (fun h=>by kernel_rfl) trivial)
def j6A:Con:=⟨214,[.rl 3 (.list iT)],[(.list iT)],⟨[],[.rl (.list iT)]⟩,[(.list iT)],fun h=>Pw.j2T h⟩
def jhd:FnD where
 N:=11
 np:=1
 cs:=[jar,j4l]
 ds:=[]
 modes:=[(162,[false]),(242,[true,false,false,false])]
theorem jgk:Con.OK Tryz.prog j6A:=
 cOf j0a j03 jhd j6A Tryz.func214 (j9 jm7 (j9 jc6 trivial)) trivial
def j4Y:Con:=⟨215,[.rl 3 (.list iT)],[(.list iT)],⟨[.hd],[.rl (.list iT)]⟩,[iT,(.list iT)],fun h=>Pw.j2b h⟩
def jeU:FnD where
 N:=61
 np:=1
 cs:=[]
 ds:=[⟨0,[.s (.one (.ol 0)),sI,.b (.lst 3 iT false)],[iT,(.list iT)],[⟨.ret,[.s (.one (.hd 0)),.b (.lst 3 iT false)],[iT,(.list iT)]⟩,⟨.exit 0,[.s (.one (.ol 0)),.b (.lst 3 iT false)],[(.list iT)]⟩],fun h=>Pw.j0H h.1 h.2⟩,
  ⟨2,[.s (.one (.ol 0)),sI,.s (.one (.tl 0)),sI,.b (.lst 3 iT false)],[iT,iT,iT,(.list iT)],[⟨.exit 2,[.s (.one (.ol 0)),sI,.b (.lst 3 iT false)],[iT,(.list iT)]⟩],fun h=>Pw.j1S h.1 h.2.1 h.2.2.1 h.2.2.2⟩]
 keep:=[(0,⟨[0,3],[0],[],[]⟩),
  (2,⟨[0,3,4,5],[0],[],[]⟩)]
 keepX:=[(0,.ret,⟨[2],[0],[],[]⟩),
  (0,.exit 0,⟨[0],[0],[],[]⟩),
  (2,.exit 2,⟨[0,3],[0],[],[]⟩)]
 ro:=[false]
 hd:=true
theorem jef:Con.OK Tryz.prog j4Y:=
 cOf j0a j03 jeU j4Y Tryz.func215 trivial (j9 (fun h=>by kernel_rfl) (j9 (fun h=>by kernel_rfl) trivial))
def jfy:Con:=⟨167,[.v (.list iT),.v iT,.v iT],[(.list iT),iT,iT],⟨[.own 3 (.list iT)],[]⟩,[(.list iT)],fun h=>Pw.jcx h.1 h.2.1 h.2.2⟩
def jtv:FnD where
 N:=19
 np:=3
 cs:=[j9d,j4k,j6A,j4Y]
 ds:=[]
 modes:=[(211,[true,false]),(212,[false]),(214,[true]),(215,[true])]
 ro:=[true]
 dw:=[(3,[[],[704,960],[],[1088],[960,1152],[]])]
theorem js1:Con.OK Tryz.prog jfy:=
 cOf j0a j03 jtv jfy Tryz.func167 (j9 jfx (j9 jc5 (j9 jgk (j9 jef trivial)))) trivial
def j1s:Con:=⟨102,[.v ty68],[ty68],⟨[.clo 155 [.p [ty68]]],[]⟩,[ty68],fun h=>Pw.j1Y h⟩
def j8l:FnD where
 N:=4
 np:=1
 cs:=[]
 ds:=[]
 ro:=[false]
theorem j4a:Con.OK Tryz.prog j1s:=
 cOf j0a j03 j8l j1s Tryz.func102 trivial trivial
def j4V:Con:=⟨194,[.v ty12],[ty12],⟨[.own 113 ty12],[]⟩,[ty12],fun h=>Pw.j3R h⟩
def j9T:FnD where
 N:=8
 np:=1
 cs:=[]
 ds:=[]
 ro:=[true]
theorem j9B:Con.OK Tryz.prog j4V:=
 jrE j0a j03 j9T 194 ty8 113 Tryz.f194 (Tryz.f194.body.getD .skip) Tryz.func194 (by kernel_rfl) (by kernel_rfl) (Nat.le_of_ble_eq_true (by kernel_rfl)) (by kernel_rfl) trivial (by kernel_rfl)
  (fun h R k=>by kernel_rfl)
def j80:Con:=⟨195,[.v ty8],[ty8],⟨[.v .bool],[]⟩,[.bool],fun h=>Pw.j9n h⟩
def jnB:FnD where
 N:=8
 np:=1
 cs:=[]
 ds:=[]
 ro:=[false]
theorem jga:Con.OK Tryz.prog j80:=
 cOf j0a j03 jnB j80 Tryz.func195 trivial trivial
def j2z:Con:=⟨233,[.rl 113 ty12,.clo 195 []],[ty12],⟨[.v iT],[.rl ty12]⟩,[iT,ty12],fun h=>Pw.j0V h⟩
def j8F:FnD where
 N:=19
 np:=2
 cs:=[j80]
 ds:=[⟨0,[.s (.one (.ol 0)),.s (.one (.clo 195 [])),sI,sI,.b (.lst 113 ty8 false)],[iT,iT,ty12],[⟨.ret,[sI,.b (.lst 113 ty8 false)],[iT,ty12]⟩,⟨.exit 0,[.b (.lst 113 ty8 false)],[ty12]⟩],fun h=>Pw.j0N h.1 h.2.1 h.2.2⟩]
 modes:=[(195,[false])]
 keep:=[(0,⟨[0,1,7,8],[0],[],[]⟩)]
 keepX:=[(0,.ret,⟨[4],[0],[],[]⟩),
  (0,.exit 0,⟨[],[0],[],[]⟩)]
 ro:=[false]
theorem j8m:Con.OK Tryz.prog j2z:=
 cOf j0a j03 j8F j2z Tryz.func233 (j9 jga trivial) (j9 (fun h=>by kernel_rfl) trivial)
def j2t:Con:=⟨193,[.rl 113 ty12,.clo 195 []],[ty12],⟨[.hd],[.rl ty12]⟩,[iT,ty12],fun h=>Pw.j0A h⟩
def j8n:FnD where
 N:=42
 np:=2
 cs:=[j80,j2z]
 ds:=[⟨0,[.s (.one (.ol 0)),.s (.one (.clo 195 [])),sI,sI,.b (.lst 113 ty8 false)],[iT,iT,ty12],[⟨.exit 0,[.s (.one (.ol 0)),sI,.b (.lst 113 ty8 false)],[iT,ty12]⟩],fun h=>Pw.j0K h.1 h.2.1 h.2.2⟩]
 modes:=[(195,[false]),(233,[true,false])]
 keep:=[(0,⟨[0,1,5,6],[0],[],[]⟩)]
 keepX:=[(0,.exit 0,⟨[0,5],[0],[],[]⟩)]
 ro:=[false]
 hd:=true
theorem j81:Con.OK Tryz.prog j2t:=
 cOf j0a j03 j8n j2t Tryz.func193 (j9 jga (j9 j8m trivial)) (j9 (fun h=>by kernel_rfl) trivial)
def jat:Con:=⟨197,[.v ty8,.v ty8],[ty8,ty8],⟨[.v iT],[]⟩,[iT],fun h=>Pw.j7X h.1 h.2⟩
def jnC:FnD where
 N:=10
 np:=2
 cs:=[]
 ds:=[]
 ro:=[false]
theorem jwr:Con.OK Tryz.prog jat:=
 cOf j0a j03 jnC jat Tryz.func197 trivial trivial
def j29:Con:=⟨196,[.rl 113 ty12,.clo 197 []],[ty12],⟨[],[.rl ty12]⟩,[ty12],fun h=>Pw.j1f h⟩
def jcm:FnD where
 N:=14
 np:=2
 cs:=[jat]
 ds:=[]
 modes:=[(197,[false,false])]
theorem j4A:Con.OK Tryz.prog j29:=
 juT Tryz.sort196 (ty8) rfl 113 (by kernel_rfl) Tryz.isAgg113 Tryz.sizeOf113 _ 197 (enters_of Tryz.func197 (by kernel_rfl) rfl) jtm jtn 196 rfl
def j5F:Con:=⟨160,[.v ty12],[ty12],⟨[.own 113 ty12],[]⟩,[ty12],fun h=>Pw.j5Y h⟩
def js2:FnD where
 N:=54
 np:=1
 cs:=[j4V,j2t,j29]
 ds:=[⟨0,[.s (.one (.ol 1000000)),.s (.one (.ol 1000001)),sI,sI,.b (.lst 113 ty8 false),.b (.lst 113 ty8 false)],[iT,iT,ty12,ty12],[⟨.exit 0,[.s (.one (.ol 1500100)),.b (.lst 113 ty8 false)],[ty12]⟩],fun h=>Pw.j48 h.1 h.2.1 h.2.2.1 h.2.2.2⟩]
 modes:=[(193,[true,false]),(194,[false]),(196,[true,false])]
 keep:=[(0,⟨[4,13,14,15],[],[⟨1000000,113,ty8,[.slot 4],false⟩,⟨1000001,113,ty8,[.slot 13],false⟩],[]⟩)]
 keepX:=[(0,.exit 0,⟨[4],[],[⟨1500100,113,ty8,[.slot 4],false⟩],[]⟩)]
 ro:=[true]
 dw:=[(9,[[],[],[],[],[],[],[],[],[],[],[],[],[],[],[1000000]])]
theorem j9C:Con.OK Tryz.prog j5F:=
 cOf j0a j03 js2 j5F Tryz.func160 (j9 j9B (j9 j81 (j9 j4A trivial))) (j9 (fun h=>by kernel_rfl) trivial)
def jbB:Con:=⟨190,[.v ty25,.v ty12,.v iT,.v iT],[ty25,ty12,iT,iT],⟨[.own 113 ty12],[]⟩,[ty12],fun h=>Pw.j3S h.1 h.2.1 h.2.2.1 h.2.2.2⟩
def jov:FnD where
 N:=73
 np:=4
 cs:=[j44,j5F]
 ds:=[⟨0,[.s (.one (.d ty12)),.s (.one (.ol 1000000)),.s (.one (.ol 1000001)),sI,sI,.b (.lst 113 ty8 false),.b (.lst 212 ty20 false)],[ty12,iT,iT,ty12,ty24],[⟨.exit 0,[.s (.one (.ol 1500100)),.b (.lst 113 ty8 false)],[ty12]⟩],fun h=>Pw.j27 h.1 h.2.1 h.2.2.1 h.2.2.2.1 h.2.2.2.2⟩,
  ⟨2,[.s (.one (.d ty12)),.s (.one (.ol 1002000)),.s (.one (.bp 704 0)),sI,.s (.one (.ol 1002001)),sI,sI,.b (.cell [.d iT,.d iT,.d iT] false),.b (.lst 113 ty8 false),.b (.lst 212 ty20 false)],[ty12,iT,iT,iT,iT,iT,iT,ty12,ty24],[⟨.exit 2,[.s (.one (.d ty12)),.s (.one (.ol 1502300)),.s (.one (.ol 1502301)),sI,sI,.b (.lst 113 ty8 false),.b (.lst 212 ty20 false)],[ty12,iT,iT,ty12,ty24]⟩],fun h=>Pw.j26 h.1 h.2.1 h.2.2.1 h.2.2.2.1 h.2.2.2.2.1 h.2.2.2.2.2.1 h.2.2.2.2.2.2.1 h.2.2.2.2.2.2.2.1 h.2.2.2.2.2.2.2.2⟩,
  ⟨4,[.s (.one (.d ty12)),.s (.one (.ol 1004000)),.s (.one (.bp 704 0)),sI,.s (.one (.ol 1004001)),sI,sI,.s (.one (.d ty12)),sI,sI,.b (.cell [.d iT,.d iT,.d iT] false),.b (.lst 113 ty8 false),.b (.lst 212 ty20 false)],[ty12,iT,iT,iT,ty12,iT,iT,iT,iT,iT,ty12,ty24],[⟨.exit 4,[.s (.one (.d ty12)),.s (.one (.ol 1504500)),.s (.one (.bp 704 0)),sI,.s (.one (.ol 1504501)),sI,sI,.b (.cell [.d iT,.d iT,.d iT] false),.b (.lst 113 ty8 false),.b (.lst 212 ty20 false)],[ty12,iT,iT,iT,iT,iT,iT,ty12,ty24]⟩],fun h=>Pw.j4p h.1 h.2.1 h.2.2.1 h.2.2.2.1 h.2.2.2.2.1 h.2.2.2.2.2.1 h.2.2.2.2.2.2.1 h.2.2.2.2.2.2.2.1 h.2.2.2.2.2.2.2.2.1 h.2.2.2.2.2.2.2.2.2.1 h.2.2.2.2.2.2.2.2.2.2.1 h.2.2.2.2.2.2.2.2.2.2.2⟩]
 modes:=[(160,[false]),(165,[false,false,false])]
 keep:=[(0,⟨[1,9,19,20,21],[],[⟨1000000,113,ty8,[.slot 9],false⟩,⟨1000001,212,ty20,[.slot 19],false⟩],[]⟩),
  (2,⟨[1,9,11,13,19,20,21],[704],[⟨1002000,113,ty8,[.slot 9],false⟩,⟨1002001,212,ty20,[.slot 19],false⟩],[]⟩),
  (4,⟨[1,9,11,13,19,20,21,45,46,47],[704],[⟨1004000,113,ty8,[.slot 9],false⟩,⟨1004001,212,ty20,[.slot 19],false⟩],[]⟩)]
 keepX:=[(0,.exit 0,⟨[9],[],[⟨1500100,113,ty8,[.slot 9],false⟩],[]⟩),
  (2,.exit 2,⟨[1,9,19,20,21],[],[⟨1502300,113,ty8,[.slot 9],false⟩,⟨1502301,212,ty20,[.slot 19],false⟩],[]⟩),
  (4,.exit 4,⟨[1,9,11,13,19,20,21],[704],[⟨1504500,113,ty8,[.slot 9],false⟩,⟨1504501,212,ty20,[.slot 19],false⟩],[]⟩)]
 ro:=[true]
theorem jnD:Con.OK Tryz.prog jbB:=
 cOf j0a j03 jov jbB Tryz.func190 (j9 j8k (j9 j9C trivial)) (j9 (fun h=>by kernel_rfl) (j9 (fun h=>by kernel_rfl) (j9 (fun h=>by kernel_rfl) trivial)))
end Go.Proofs.Pk
