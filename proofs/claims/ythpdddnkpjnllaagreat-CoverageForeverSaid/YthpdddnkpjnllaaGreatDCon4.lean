/- Contracts: each given function is its plain function, printed by a program. -/
import Derived.Test.YthpdddnkpjnllaaGreatDCon3
noncomputable section
open Go Go.Lft
set_option linter.unusedVariables false
set_option maxRecDepth 100000
namespace Go.Proofs.Pk
def j3S:Con:=⟨175,[.rl 3 (.list iT),.clo 213 [.p [iT],.p [iT]]],[(.list iT),iT,iT],⟨[.v iT],[.rl (.list iT)]⟩,[iT,(.list iT)],fun h=>Pw.j1O h.1 h.2.1 h.2.2⟩
def jbK:FnD where
 N:=19
 np:=2
 cs:=[j90]
 ds:=[⟨0,[.s (.one (.ol 0)),.s (.one (.clo 213 [.p [iT],.p [iT]])),sI,sI,.b (.lst 3 iT false)],[iT,iT,iT,iT,(.list iT)],[⟨.ret,[sI,.b (.lst 3 iT false)],[iT,(.list iT)]⟩,⟨.exit 0,[.b (.lst 3 iT false)],[(.list iT)]⟩],fun h=>Pw.j1a h.1 h.2.1 h.2.2.1 h.2.2.2.1 h.2.2.2.2⟩]
 modes:=[(213,[false])]
 keep:=[(0,⟨[0,1,7,8],[0],[],[]⟩)]
 keepX:=[(0,.ret,⟨[4],[0],[],[]⟩),
  (0,.exit 0,⟨[],[0],[],[]⟩)]
 ro:=[false]
theorem jbn:Con.OK Tryz.prog j3S:=
 cOf j0a j03 jbK j3S Tryz.func175 (j9 jhg trivial) (j9 (fun h=>by kernel_rfl) trivial)
def j4t:Con:=⟨211,[.rl 3 (.list iT),.clo 213 [.p [iT],.p [iT]]],[(.list iT),iT,iT],⟨[.hd],[.rl (.list iT)]⟩,[iT,(.list iT)],fun h=>Pw.j1z h.1 h.2.1 h.2.2⟩
def jd9:FnD where
 N:=42
 np:=2
 cs:=[j90,j3S]
 ds:=[⟨0,[.s (.one (.ol 0)),.s (.one (.clo 213 [.p [iT],.p [iT]])),sI,sI,.b (.lst 3 iT false)],[iT,iT,iT,iT,(.list iT)],[⟨.exit 0,[.s (.one (.ol 0)),sI,.b (.lst 3 iT false)],[iT,(.list iT)]⟩],fun h=>Pw.j1s h.1 h.2.1 h.2.2.1 h.2.2.2.1 h.2.2.2.2⟩]
 modes:=[(175,[true,false]),(213,[false])]
 keep:=[(0,⟨[0,1,5,6],[0],[],[]⟩)]
 keepX:=[(0,.exit 0,⟨[0,5],[0],[],[]⟩)]
 ro:=[false]
 hd:=true
theorem jce:Con.OK Tryz.prog j4t:=
 cOf j0a j03 jd9 j4t Tryz.func211 (j9 jhg (j9 jbn trivial)) (j9 (fun h=>by kernel_rfl) trivial)
def j98:Con:=⟨207,[.v (.int .u64)],[(.int .u64)],⟨[.v iT],[]⟩,[iT],fun h=>Pw.jgX h⟩
def jle:FnD where
 N:=25
 np:=1
 cs:=[]
 ds:=[]
 ro:=[false]
theorem jkk:Con.OK Tryz.prog j98:=
 cOf j0a j03 jle j98 Tryz.func207 trivial trivial
def jaD:Con:=⟨162,[.v (.int .u64)],[(.int .u64)],⟨[.v iT],[]⟩,[iT],fun h=>Pw.jfo h⟩
def jnq:FnD where
 N:=8
 np:=1
 cs:=[j98]
 ds:=[]
 modes:=[(207,[false])]
 ro:=[false]
theorem jm1:Con.OK Tryz.prog jaD:=
 cOf j0a j03 jnq jaD Tryz.func162 (j9 jkk trivial) trivial
def jaE:Con:=⟨243,[.v iT],[iT],⟨[.v .bool],[]⟩,[.bool],fun h=>Pw.jc8 h⟩
def jnr:FnD where
 N:=6
 np:=1
 cs:=[]
 ds:=[]
 ro:=[false]
theorem jm2:Con.OK Tryz.prog jaE:=
 cOf j0a j03 jnr jaE Tryz.func243 trivial trivial
def j91:Con:=⟨216,[.v iT,.v iT],[iT,iT],⟨[.v .bool],[]⟩,[.bool],fun h=>Pw.jb1 h.1 h.2⟩
def joo:FnD where
 N:=17
 np:=2
 cs:=[jaE]
 ds:=[]
 modes:=[(243,[false])]
 ro:=[false]
theorem jhh:Con.OK Tryz.prog j91:=
 cOf j0a j03 joo j91 Tryz.func216 (j9 jm2 trivial) trivial
def j33:Con:=⟨261,[.rl 3 (.list iT),.v iT,.v iT],[(.list iT),iT,iT],⟨[],[.rl (.list iT)]⟩,[(.list iT)],fun h=>Pw.j0R h.1 h.2.1 h.2.2⟩
def j9K:FnD where
 N:=49
 np:=3
 cs:=[j91]
 ds:=[⟨0,[.s (.one (.ol 0)),sI,sI,sI,.b (.lst 3 iT false)],[iT,iT,iT,(.list iT)],[⟨.exit 0,[.b (.lst 3 iT false)],[(.list iT)]⟩],fun h=>Pw.j0h h.1 h.2.1 h.2.2.1 h.2.2.2⟩,
  ⟨2,[.s (.one (.ol 0)),sI,sI,sI,sI,.b (.lst 3 iT false)],[iT,iT,iT,iT,(.list iT)],[⟨.exit 2,[.s (.one (.ol 0)),sI,sI,sI,.b (.lst 3 iT false)],[iT,iT,iT,(.list iT)]⟩],fun h=>Pw.j0Y h.1 h.2.1 h.2.2.1 h.2.2.2.1 h.2.2.2.2⟩]
 modes:=[(216,[false,false])]
 keep:=[(0,⟨[0,1,2,6],[0],[],[]⟩),
  (2,⟨[0,1,2,6,7],[0],[],[]⟩)]
 keepX:=[(0,.exit 0,⟨[],[0],[],[]⟩),
  (2,.exit 2,⟨[0,1,2,6],[0],[],[]⟩)]
 dw:=[(6,[[],[],[],[],[],[],[],[],[],[],[],[],[],[],[],[0],[],[0]])]
theorem j9o:Con.OK Tryz.prog j33:=
 cOf j0a j03 j9K j33 Tryz.func261 (j9 jhh trivial) (j9 (fun h=>by kernel_rfl) (j9 (fun h=>by kernel_rfl) trivial))
def j4u:Con:=⟨242,[.rl 3 (.list iT),.v iT,.v iT,.v iT],[(.list iT),iT,iT,iT],⟨[],[.rl (.list iT)]⟩,[(.list iT)],fun h=>Pw.j1A h.1 h.2.1 h.2.2.1 h.2.2.2⟩
def jda:FnD where
 N:=134
 np:=4
 cs:=[j33]
 ds:=[⟨0,[.s (.one (.ol 0)),sI,sI,sI,.s (.one (.d .bool)),.s (.one (.d .bool)),.b (.lst 3 iT false)],[iT,iT,iT,.bool,.bool,(.list iT)],[⟨.ret,[.b (.lst 3 iT false)],[(.list iT)]⟩],fun h=>Pw.j0J h.1 h.2.1 h.2.2.1 h.2.2.2.1 h.2.2.2.2.1 h.2.2.2.2.2⟩]
 modes:=[(261,[true,false,false])]
 keep:=[(0,⟨[0,1,2,3,8,9],[0],[],[]⟩)]
 keepX:=[(0,.ret,⟨[],[0],[],[]⟩)]
theorem jcf:Con.OK Tryz.prog j4u:=
 cOf j0a j03 jda j4u Tryz.func242 (j9 j9o trivial) (j9 (fun h=>by kernel_rfl) trivial)
def j6G:Con:=⟨214,[.rl 3 (.list iT)],[(.list iT)],⟨[],[.rl (.list iT)]⟩,[(.list iT)],fun h=>Pw.j30 h⟩
def jhi:FnD where
 N:=11
 np:=1
 cs:=[jaD,j4u]
 ds:=[]
 modes:=[(162,[false]),(242,[true,false,false,false])]
theorem jgt:Con.OK Tryz.prog j6G:=
 cOf j0a j03 jhi j6G Tryz.func214 (j9 jm1 (j9 jcf trivial)) trivial
def j5b:Con:=⟨215,[.rl 3 (.list iT)],[(.list iT)],⟨[.hd],[.rl (.list iT)]⟩,[iT,(.list iT)],fun h=>Pw.j2f h⟩
def jeZ:FnD where
 N:=61
 np:=1
 cs:=[]
 ds:=[⟨0,[.s (.one (.ol 0)),sI,.b (.lst 3 iT false)],[iT,(.list iT)],[⟨.ret,[.s (.one (.hd 0)),.b (.lst 3 iT false)],[iT,(.list iT)]⟩,⟨.exit 0,[.s (.one (.ol 0)),.b (.lst 3 iT false)],[(.list iT)]⟩],fun h=>Pw.j0H h.1 h.2⟩,
  ⟨2,[.s (.one (.ol 0)),sI,.s (.one (.tl 0)),sI,.b (.lst 3 iT false)],[iT,iT,iT,(.list iT)],[⟨.exit 2,[.s (.one (.ol 0)),sI,.b (.lst 3 iT false)],[iT,(.list iT)]⟩],fun h=>Pw.j1W h.1 h.2.1 h.2.2.1 h.2.2.2⟩]
 keep:=[(0,⟨[0,3],[0],[],[]⟩),
  (2,⟨[0,3,4,5],[0],[],[]⟩)]
 keepX:=[(0,.ret,⟨[2],[0],[],[]⟩),
  (0,.exit 0,⟨[0],[0],[],[]⟩),
  (2,.exit 2,⟨[0,3],[0],[],[]⟩)]
 ro:=[false]
 hd:=true
theorem jek:Con.OK Tryz.prog j5b:=
 cOf j0a j03 jeZ j5b Tryz.func215 trivial (j9 (fun h=>by kernel_rfl) (j9 (fun h=>by kernel_rfl) trivial))
def jfF:Con:=⟨167,[.v (.list iT),.v iT,.v iT],[(.list iT),iT,iT],⟨[.own 3 (.list iT)],[]⟩,[(.list iT)],fun h=>Pw.jcF h.1 h.2.1 h.2.2⟩
def jto:FnD where
 N:=19
 np:=3
 cs:=[j9m,j4t,j6G,j5b]
 ds:=[]
 modes:=[(211,[true,false]),(212,[false]),(214,[true]),(215,[true])]
 ro:=[true]
 dw:=[(3,[[],[704,960],[],[1088],[960,1152],[]])]
theorem jrY:Con.OK Tryz.prog jfF:=
 cOf j0a j03 jto jfF Tryz.func167 (j9 jfE (j9 jce (j9 jgt (j9 jek trivial)))) trivial
def j1v:Con:=⟨102,[.v ty68],[ty68],⟨[.clo 155 [.p [ty68]]],[]⟩,[ty68],fun h=>Pw.j22 h⟩
def j8v:FnD where
 N:=4
 np:=1
 cs:=[]
 ds:=[]
 ro:=[false]
theorem j4j:Con.OK Tryz.prog j1v:=
 cOf j0a j03 j8v j1v Tryz.func102 trivial trivial
def j58:Con:=⟨194,[.v ty12],[ty12],⟨[.own 113 ty12],[]⟩,[ty12],fun h=>Pw.j41 h⟩
def ja4:FnD where
 N:=8
 np:=1
 cs:=[]
 ds:=[]
 ro:=[true]
theorem j9L:Con.OK Tryz.prog j58:=
 jrB j0a j03 ja4 194 ty8 113 Tryz.f194 (Tryz.f194.body.getD .skip) Tryz.func194 (by kernel_rfl) (by kernel_rfl) (Nat.le_of_ble_eq_true (by kernel_rfl)) (by kernel_rfl) trivial (by kernel_rfl)
  (fun h R k=>by kernel_rfl)
def j8b:Con:=⟨195,[.v ty8],[ty8],⟨[.v .bool],[]⟩,[.bool],fun h=>Pw.j9x h⟩
def jns:FnD where
 N:=8
 np:=1
 cs:=[]
 ds:=[]
 ro:=[false]
theorem jgi:Con.OK Tryz.prog j8b:=
 cOf j0a j03 jns j8b Tryz.func195 trivial trivial
def j2G:Con:=⟨233,[.rl 113 ty12,.clo 195 []],[ty12],⟨[.v iT],[.rl ty12]⟩,[iT,ty12],fun h=>Pw.j0W h⟩
def j8Q:FnD where
 N:=19
 np:=2
 cs:=[j8b]
 ds:=[⟨0,[.s (.one (.ol 0)),.s (.one (.clo 195 [])),sI,sI,.b (.lst 113 ty8 false)],[iT,iT,ty12],[⟨.ret,[sI,.b (.lst 113 ty8 false)],[iT,ty12]⟩,⟨.exit 0,[.b (.lst 113 ty8 false)],[ty12]⟩],fun h=>Pw.j0N h.1 h.2.1 h.2.2⟩]
 modes:=[(195,[false])]
 keep:=[(0,⟨[0,1,7,8],[0],[],[]⟩)]
 keepX:=[(0,.ret,⟨[4],[0],[],[]⟩),
  (0,.exit 0,⟨[],[0],[],[]⟩)]
 ro:=[false]
theorem j8w:Con.OK Tryz.prog j2G:=
 cOf j0a j03 j8Q j2G Tryz.func233 (j9 jgi trivial) (j9 (fun h=>by kernel_rfl) trivial)
def j2z:Con:=⟨193,[.rl 113 ty12,.clo 195 []],[ty12],⟨[.hd],[.rl ty12]⟩,[iT,ty12],fun h=>Pw.j0B h⟩
def j8x:FnD where
 N:=42
 np:=2
 cs:=[j8b,j2G]
 ds:=[⟨0,[.s (.one (.ol 0)),.s (.one (.clo 195 [])),sI,sI,.b (.lst 113 ty8 false)],[iT,iT,ty12],[⟨.exit 0,[.s (.one (.ol 0)),sI,.b (.lst 113 ty8 false)],[iT,ty12]⟩],fun h=>Pw.j0K h.1 h.2.1 h.2.2⟩]
 modes:=[(195,[false]),(233,[true,false])]
 keep:=[(0,⟨[0,1,5,6],[0],[],[]⟩)]
 keepX:=[(0,.exit 0,⟨[0,5],[0],[],[]⟩)]
 ro:=[false]
 hd:=true
theorem j8c:Con.OK Tryz.prog j2z:=
 cOf j0a j03 j8x j2z Tryz.func193 (j9 jgi (j9 j8w trivial)) (j9 (fun h=>by kernel_rfl) trivial)
def jaF:Con:=⟨197,[.v ty8,.v ty8],[ty8,ty8],⟨[.v iT],[]⟩,[iT],fun h=>Pw.j86 h.1 h.2⟩
def jnt:FnD where
 N:=10
 np:=2
 cs:=[]
 ds:=[]
 ro:=[false]
theorem jwj:Con.OK Tryz.prog jaF:=
 cOf j0a j03 jnt jaF Tryz.func197 trivial trivial
def j2d:Con:=⟨196,[.rl 113 ty12,.clo 197 []],[ty12],⟨[],[.rl ty12]⟩,[ty12],fun h=>Pw.j1i h⟩
def jcu:FnD where
 N:=14
 np:=2
 cs:=[jaF]
 ds:=[]
 modes:=[(197,[false,false])]
theorem j4K:Con.OK Tryz.prog j2d:=
 juN Tryz.sort196 (ty8) rfl 113 (by kernel_rfl) Tryz.isAgg113 Tryz.sizeOf113 _ 197 (enters_of Tryz.func197 (by kernel_rfl) rfl) jtg jth 196 rfl
def j5P:Con:=⟨160,[.v ty12],[ty12],⟨[.own 113 ty12],[]⟩,[ty12],fun h=>Pw.j68 h⟩
def jrZ:FnD where
 N:=54
 np:=1
 cs:=[j58,j2z,j2d]
 ds:=[⟨0,[.s (.one (.ol 1000000)),.s (.one (.ol 1000001)),sI,sI,.b (.lst 113 ty8 false),.b (.lst 113 ty8 false)],[iT,iT,ty12,ty12],[⟨.exit 0,[.s (.one (.ol 1500100)),.b (.lst 113 ty8 false)],[ty12]⟩],fun h=>Pw.j4h h.1 h.2.1 h.2.2.1 h.2.2.2⟩]
 modes:=[(193,[true,false]),(194,[false]),(196,[true,false])]
 keep:=[(0,⟨[4,13,14,15],[],[⟨1000000,113,ty8,[.slot 4],false⟩,⟨1000001,113,ty8,[.slot 13],false⟩],[]⟩)]
 keepX:=[(0,.exit 0,⟨[4],[],[⟨1500100,113,ty8,[.slot 4],false⟩],[]⟩)]
 ro:=[true]
 dw:=[(9,[[],[],[],[],[],[],[],[],[],[],[],[],[],[],[1000000]])]
theorem j9M:Con.OK Tryz.prog j5P:=
 cOf j0a j03 jrZ j5P Tryz.func160 (j9 j9L (j9 j8c (j9 j4K trivial))) (j9 (fun h=>by kernel_rfl) trivial)
def jbL:Con:=⟨190,[.v ty25,.v ty12,.v iT,.v iT],[ty25,ty12,iT,iT],⟨[.own 113 ty12],[]⟩,[ty12],fun h=>Pw.j42 h.1 h.2.1 h.2.2.1 h.2.2.2⟩
def jop:FnD where
 N:=73
 np:=4
 cs:=[j4e,j5P]
 ds:=[⟨0,[.s (.one (.d ty12)),.s (.one (.ol 1000000)),.s (.one (.ol 1000001)),sI,sI,.b (.lst 113 ty8 false),.b (.lst 212 ty20 false)],[ty12,iT,iT,ty12,ty24],[⟨.exit 0,[.s (.one (.ol 1500100)),.b (.lst 113 ty8 false)],[ty12]⟩],fun h=>Pw.j2b h.1 h.2.1 h.2.2.1 h.2.2.2.1 h.2.2.2.2⟩,
  ⟨2,[.s (.one (.d ty12)),.s (.one (.ol 1002000)),.s (.one (.bp 704 0)),sI,.s (.one (.ol 1002001)),sI,sI,.b (.cell [.d iT,.d iT,.d iT] false),.b (.lst 113 ty8 false),.b (.lst 212 ty20 false)],[ty12,iT,iT,iT,iT,iT,iT,ty12,ty24],[⟨.exit 2,[.s (.one (.d ty12)),.s (.one (.ol 1502300)),.s (.one (.ol 1502301)),sI,sI,.b (.lst 113 ty8 false),.b (.lst 212 ty20 false)],[ty12,iT,iT,ty12,ty24]⟩],fun h=>Pw.j2a h.1 h.2.1 h.2.2.1 h.2.2.2.1 h.2.2.2.2.1 h.2.2.2.2.2.1 h.2.2.2.2.2.2.1 h.2.2.2.2.2.2.2.1 h.2.2.2.2.2.2.2.2⟩,
  ⟨4,[.s (.one (.d ty12)),.s (.one (.ol 1004000)),.s (.one (.bp 704 0)),sI,.s (.one (.ol 1004001)),sI,sI,.s (.one (.d ty12)),sI,sI,.b (.cell [.d iT,.d iT,.d iT] false),.b (.lst 113 ty8 false),.b (.lst 212 ty20 false)],[ty12,iT,iT,iT,ty12,iT,iT,iT,iT,iT,ty12,ty24],[⟨.exit 4,[.s (.one (.d ty12)),.s (.one (.ol 1504500)),.s (.one (.bp 704 0)),sI,.s (.one (.ol 1504501)),sI,sI,.b (.cell [.d iT,.d iT,.d iT] false),.b (.lst 113 ty8 false),.b (.lst 212 ty20 false)],[ty12,iT,iT,iT,iT,iT,iT,ty12,ty24]⟩],fun h=>Pw.j4y h.1 h.2.1 h.2.2.1 h.2.2.2.1 h.2.2.2.2.1 h.2.2.2.2.2.1 h.2.2.2.2.2.2.1 h.2.2.2.2.2.2.2.1 h.2.2.2.2.2.2.2.2.1 h.2.2.2.2.2.2.2.2.2.1 h.2.2.2.2.2.2.2.2.2.2.1 h.2.2.2.2.2.2.2.2.2.2.2⟩]
 modes:=[(160,[false]),(165,[false,false,false])]
 keep:=[(0,⟨[1,9,19,20,21],[],[⟨1000000,113,ty8,[.slot 9],false⟩,⟨1000001,212,ty20,[.slot 19],false⟩],[]⟩),
  (2,⟨[1,9,11,13,19,20,21],[704],[⟨1002000,113,ty8,[.slot 9],false⟩,⟨1002001,212,ty20,[.slot 19],false⟩],[]⟩),
  (4,⟨[1,9,11,13,19,20,21,45,46,47],[704],[⟨1004000,113,ty8,[.slot 9],false⟩,⟨1004001,212,ty20,[.slot 19],false⟩],[]⟩)]
 keepX:=[(0,.exit 0,⟨[9],[],[⟨1500100,113,ty8,[.slot 9],false⟩],[]⟩),
  (2,.exit 2,⟨[1,9,19,20,21],[],[⟨1502300,113,ty8,[.slot 9],false⟩,⟨1502301,212,ty20,[.slot 19],false⟩],[]⟩),
  (4,.exit 4,⟨[1,9,11,13,19,20,21],[704],[⟨1504500,113,ty8,[.slot 9],false⟩,⟨1504501,212,ty20,[.slot 19],false⟩],[]⟩)]
 ro:=[true]
theorem jnu:Con.OK Tryz.prog jbL:=
 cOf j0a j03 jop jbL Tryz.func190 (j9 j8u (j9 j9M trivial)) (j9 (fun h=>by kernel_rfl) (j9 (fun h=>by kernel_rfl) (j9 (fun h=>by kernel_rfl) trivial)))
end Go.Proofs.Pk
