/- Contracts: each given function is its plain function, printed by a program. -/
import Derived.Test.YtcegmhnnglcgeaaGreatFCon3
noncomputable section
open Go Go.Lft
set_option linter.unusedVariables false
set_option maxRecDepth 100000
namespace Go.Proofs.Pk
def j3K:Con:=⟨168,[.v ty25,.v iT],[ty25,iT],⟨[.v iT],[]⟩,[iT],fun h=>Pw.j3f h.1 h.2⟩
def jf3:FnD where
 N:=10
 np:=2
 cs:=[j9z]
 ds:=[]
 modes:=[(227,[false,false])]
 ro:=[false]
theorem j9A:Con.OK Tryz.prog j3K:=
 cOf j0c j01 jf3 j3K Tryz.func168 (j6 ji9 trivial) trivial
def j3r:Con:=⟨169,[.v ty25,.v iT],[ty25,iT],⟨[.v iT],[]⟩,[iT],fun h=>Pw.j4W h.1 h.2⟩
def je7:FnD where
 N:=16
 np:=2
 cs:=[]
 ds:=[]
 ro:=[false]
theorem j8x:Con.OK Tryz.prog j3r:=
 cOf j0c j01 je7 j3r Tryz.func169 trivial trivial
def j2p:Con:=⟨107,[.v ty25,.v iT,.v iT],[ty25,iT,iT],⟨[.own 178 ty24],[]⟩,[ty24],fun h=>Pw.j23 h.1 h.2.1 h.2.2⟩
def je8:FnD where
 N:=41
 np:=3
 cs:=[j3K,j3r]
 ds:=[⟨0,[sI,sI,.s (.one (.bp 192 0)),.s (.one (.ol 1000000)),.b (.cell [.d iT,.d ty12] false),.b (.lst 178 ty20 false)],[iT,iT,iT,ty12,ty24],[⟨.exit 0,[.s (.one (.ol 1500100)),.b (.lst 178 ty20 false)],[ty24]⟩],fun h=>Pw.j1q h.1 h.2.1 h.2.2.1 h.2.2.2.1 h.2.2.2.2⟩]
 modes:=[(168,[false,false]),(169,[false,false])]
 keep:=[(0,⟨[1,2,3,7],[192],[⟨1000000,178,ty20,[.slot 7],false⟩],[]⟩)]
 keepX:=[(0,.exit 0,⟨[7],[],[⟨1500100,178,ty20,[.slot 7],false⟩],[]⟩)]
 ro:=[true]
theorem j5k:Con.OK Tryz.prog j2p:=
 cOf j0c j01 je8 j2p Tryz.func107 (j6 j9A (j6 j8x trivial)) (j6 (fun h=>by kernel_rfl) trivial)
def j89:Con:=⟨225,[.v ty7],[ty7],⟨[.v iT],[]⟩,[iT],fun h=>Pw.jg8 h⟩
def jia:FnD where
 N:=11
 np:=1
 cs:=[]
 ds:=[]
 ro:=[false]
theorem jhz:Con.OK Tryz.prog j89:=
 cOf j0c j01 jia j89 Tryz.func225 trivial trivial
def j5l:Con:=⟨163,[.v ty25,.v ty7],[ty25,ty7],⟨[.v iT,.v .bool],[]⟩,[iT,.bool],fun h=>Pw.j3g h.1 h.2⟩
def jf4:FnD where
 N:=30
 np:=2
 cs:=[j2p,j89]
 ds:=[⟨0,[.s (.one (.bp 192 0)),.s (.one (.ol 1000000)),sI,sI,.b (.cell [.d iT,.d iT] false),.b (.lst 178 ty20 false)],[iT,iT,iT,iT,ty24],[⟨.ret,[sI,.s (.one (.d .bool))],[iT,.bool]⟩,⟨.exit 0,[],[]⟩],fun h=>Pw.j6c h.1 h.2.1 h.2.2.1 h.2.2.2.1 h.2.2.2.2⟩]
 modes:=[(107,[false,false,false]),(225,[false])]
 keep:=[(0,⟨[3,10,11,12],[192],[⟨1000000,178,ty20,[.slot 10],false⟩],[]⟩)]
 keepX:=[(0,.ret,⟨[4,5],[],[],[]⟩),
  (0,.exit 0,⟨[],[],[],[]⟩)]
 ro:=[false,false]
theorem je9:Con.OK Tryz.prog j5l:=
 cOf j0c j01 jf4 j5l Tryz.func163 (j6 j5k (j6 jhz trivial)) (j6 (fun h=>by kernel_rfl) trivial)
def j2F:Con:=⟨162,[.v ty25,.v ty68,.v iT],[ty25,ty68,iT],⟨[.v iT,.v .bool],[]⟩,[iT,.bool],fun h=>Pw.j1s h.1 h.2.1 h.2.2⟩
def jf5:FnD where
 N:=50
 np:=3
 cs:=[j7t,j5l]
 ds:=[]
 modes:=[(163,[false,false]),(224,[false])]
 ro:=[false,false]
 dw:=[(5,[[],[],[],[],[],[],[],[],[512]])]
theorem j63:Con.OK Tryz.prog j2F:=
 cOf j0c j01 jf5 j2F Tryz.func162 (j6 jf2 (j6 je9 trivial)) trivial
def j36:Con:=⟨141,[.v ty12],[ty12],⟨[.own 118 ty12],[]⟩,[ty12],fun h=>Pw.j44 h⟩
def j6P:FnD where
 N:=8
 np:=1
 cs:=[]
 ds:=[]
 ro:=[true]
theorem j6C:Con.OK Tryz.prog j36:=
 jkA j0c j01 j6P 141 ty7 118 Tryz.f141 (Tryz.f141.body.getD .skip) Tryz.func141 (by kernel_rfl) (by kernel_rfl) (Nat.le_of_ble_eq_true (by kernel_rfl)) (by kernel_rfl) trivial (by kernel_rfl)
  (fun h R k=>by kernel_rfl)
def j52:Con:=⟨142,[.v ty7],[ty7],⟨[.v .bool],[]⟩,[.bool],fun h=>Pw.jbx h⟩
def jhA:FnD where
 N:=8
 np:=1
 cs:=[]
 ds:=[]
 ro:=[false]
theorem jc8:Con.OK Tryz.prog j52:=
 cOf j0c j01 jhA j52 Tryz.func142 trivial trivial
def j1i:Con:=⟨206,[.rl 118 ty12,.clo 142 []],[ty12],⟨[.v iT],[.rl ty12]⟩,[iT,ty12],fun h=>Pw.j0z h⟩
def j5D:FnD where
 N:=19
 np:=2
 cs:=[j52]
 ds:=[⟨0,[.s (.one (.ol 0)),.s (.one (.clo 142 [])),sI,sI,.b (.lst 118 ty7 false)],[iT,iT,ty12],[⟨.ret,[sI,.b (.lst 118 ty7 false)],[iT,ty12]⟩,⟨.exit 0,[.b (.lst 118 ty7 false)],[ty12]⟩],fun h=>Pw.j1W h.1 h.2.1 h.2.2⟩]
 modes:=[(142,[false])]
 keep:=[(0,⟨[0,1,7,8],[0],[],[]⟩)]
 keepX:=[(0,.ret,⟨[4],[0],[],[]⟩),
  (0,.exit 0,⟨[],[0],[],[]⟩)]
 ro:=[false]
theorem j5m:Con.OK Tryz.prog j1i:=
 cOf j0c j01 j5D j1i Tryz.func206 (j6 jc8 trivial) (j6 (fun h=>by kernel_rfl) trivial)
def j1d:Con:=⟨140,[.rl 118 ty12,.clo 142 []],[ty12],⟨[.hd],[.rl ty12]⟩,[iT,ty12],fun h=>Pw.j0t h⟩
def j5n:FnD where
 N:=42
 np:=2
 cs:=[j52,j1i]
 ds:=[⟨0,[.s (.one (.ol 0)),.s (.one (.clo 142 [])),sI,sI,.b (.lst 118 ty7 false)],[iT,iT,ty12],[⟨.exit 0,[.s (.one (.ol 0)),sI,.b (.lst 118 ty7 false)],[iT,ty12]⟩],fun h=>Pw.j1P h.1 h.2.1 h.2.2⟩]
 modes:=[(142,[false]),(206,[true,false])]
 keep:=[(0,⟨[0,1,5,6],[0],[],[]⟩)]
 keepX:=[(0,.exit 0,⟨[0,5],[0],[],[]⟩)]
 ro:=[false]
 hd:=true
theorem j53:Con.OK Tryz.prog j1d:=
 cOf j0c j01 j5n j1d Tryz.func140 (j6 jc8 (j6 j5m trivial)) (j6 (fun h=>by kernel_rfl) trivial)
def j7g:Con:=⟨144,[.v ty7,.v ty7],[ty7,ty7],⟨[.v iT],[]⟩,[iT],fun h=>Pw.j8B h.1 h.2⟩
def jhB:FnD where
 N:=10
 np:=2
 cs:=[]
 ds:=[]
 ro:=[false]
theorem jmX:Con.OK Tryz.prog j7g:=
 cOf j0c j01 jhB j7g Tryz.func144 trivial trivial
def j0X:Con:=⟨143,[.rl 118 ty12,.clo 144 []],[ty12],⟨[],[.rl ty12]⟩,[ty12],fun h=>Pw.j1f h⟩
def j8V:FnD where
 N:=14
 np:=2
 cs:=[j7g]
 ds:=[]
 modes:=[(144,[false,false])]
theorem j2P:Con.OK Tryz.prog j0X:=
 jjt Tryz.sort143 (ty7) rfl 118 (by kernel_rfl) Tryz.isAgg118 Tryz.sizeOf118 _ 144 (enters_of Tryz.func144 (by kernel_rfl) rfl) jlx jly 143 rfl
def j2S:Con:=⟨98,[.v ty12],[ty12],⟨[.own 118 ty12],[]⟩,[ty12],fun h=>Pw.j4w h⟩
def jkR:FnD where
 N:=54
 np:=1
 cs:=[j36,j1d,j0X]
 ds:=[⟨0,[.s (.one (.ol 1000000)),.s (.one (.ol 1000001)),sI,sI,.b (.lst 118 ty7 false),.b (.lst 118 ty7 false)],[iT,iT,ty12,ty12],[⟨.exit 0,[.s (.one (.ol 1500100)),.b (.lst 118 ty7 false)],[ty12]⟩],fun h=>Pw.jad h.1 h.2.1 h.2.2.1 h.2.2.2⟩]
 modes:=[(140,[true,false]),(141,[false]),(143,[true,false])]
 keep:=[(0,⟨[4,13,14,15],[],[⟨1000000,118,ty7,[.slot 4],false⟩,⟨1000001,118,ty7,[.slot 13],false⟩],[]⟩)]
 keepX:=[(0,.exit 0,⟨[4],[],[⟨1500100,118,ty7,[.slot 4],false⟩],[]⟩)]
 ro:=[true]
 dw:=[(9,[[],[],[],[],[],[],[],[],[],[],[],[],[],[],[1000000]])]
theorem j54:Con.OK Tryz.prog j2S:=
 cOf j0c j01 jkR j2S Tryz.func98 (j6 j6C (j6 j53 (j6 j2P trivial))) (j6 (fun h=>by kernel_rfl) trivial)
def j5P:Con:=⟨70,[.v ty25,.v ty12,.v iT,.v iT],[ty25,ty12,iT,iT],⟨[.own 118 ty12],[]⟩,[ty12],fun h=>Pw.j3m h.1 h.2.1 h.2.2.1 h.2.2.2⟩
def jib:FnD where
 N:=73
 np:=4
 cs:=[j2p,j2S]
 ds:=[⟨0,[.s (.one (.d ty12)),.s (.one (.ol 1000000)),.s (.one (.ol 1000001)),sI,sI,.b (.lst 118 ty7 false),.b (.lst 178 ty20 false)],[ty12,iT,iT,ty12,ty24],[⟨.exit 0,[.s (.one (.ol 1500100)),.b (.lst 118 ty7 false)],[ty12]⟩],fun h=>Pw.j2C h.1 h.2.1 h.2.2.1 h.2.2.2.1 h.2.2.2.2⟩,
  ⟨2,[.s (.one (.d ty12)),.s (.one (.ol 1002000)),.s (.one (.bp 704 0)),sI,.s (.one (.ol 1002001)),sI,sI,.b (.cell [.d iT,.d iT,.d iT] false),.b (.lst 118 ty7 false),.b (.lst 178 ty20 false)],[ty12,iT,iT,iT,iT,iT,iT,ty12,ty24],[⟨.exit 2,[.s (.one (.d ty12)),.s (.one (.ol 1502300)),.s (.one (.ol 1502301)),sI,sI,.b (.lst 118 ty7 false),.b (.lst 178 ty20 false)],[ty12,iT,iT,ty12,ty24]⟩],fun h=>Pw.j2B h.1 h.2.1 h.2.2.1 h.2.2.2.1 h.2.2.2.2.1 h.2.2.2.2.2.1 h.2.2.2.2.2.2.1 h.2.2.2.2.2.2.2.1 h.2.2.2.2.2.2.2.2⟩,
  ⟨4,[.s (.one (.d ty12)),.s (.one (.ol 1004000)),.s (.one (.bp 704 0)),sI,.s (.one (.ol 1004001)),sI,sI,.s (.one (.d ty12)),sI,sI,.b (.cell [.d iT,.d iT,.d iT] false),.b (.lst 118 ty7 false),.b (.lst 178 ty20 false)],[ty12,iT,iT,iT,ty12,iT,iT,iT,iT,iT,ty12,ty24],[⟨.exit 4,[.s (.one (.d ty12)),.s (.one (.ol 1504500)),.s (.one (.bp 704 0)),sI,.s (.one (.ol 1504501)),sI,sI,.b (.cell [.d iT,.d iT,.d iT] false),.b (.lst 118 ty7 false),.b (.lst 178 ty20 false)],[ty12,iT,iT,iT,iT,iT,iT,ty12,ty24]⟩],fun h=>Pw.j8q h.1 h.2.1 h.2.2.1 h.2.2.2.1 h.2.2.2.2.1 h.2.2.2.2.2.1 h.2.2.2.2.2.2.1 h.2.2.2.2.2.2.2.1 h.2.2.2.2.2.2.2.2.1 h.2.2.2.2.2.2.2.2.2.1 h.2.2.2.2.2.2.2.2.2.2.1 h.2.2.2.2.2.2.2.2.2.2.2⟩]
 modes:=[(98,[false]),(107,[false,false,false])]
 keep:=[(0,⟨[1,9,19,20,21],[],[⟨1000000,118,ty7,[.slot 9],false⟩,⟨1000001,178,ty20,[.slot 19],false⟩],[]⟩),
  (2,⟨[1,9,11,13,19,20,21],[704],[⟨1002000,118,ty7,[.slot 9],false⟩,⟨1002001,178,ty20,[.slot 19],false⟩],[]⟩),
  (4,⟨[1,9,11,13,19,20,21,45,46,47],[704],[⟨1004000,118,ty7,[.slot 9],false⟩,⟨1004001,178,ty20,[.slot 19],false⟩],[]⟩)]
 keepX:=[(0,.exit 0,⟨[9],[],[⟨1500100,118,ty7,[.slot 9],false⟩],[]⟩),
  (2,.exit 2,⟨[1,9,19,20,21],[],[⟨1502300,118,ty7,[.slot 9],false⟩,⟨1502301,178,ty20,[.slot 19],false⟩],[]⟩),
  (4,.exit 4,⟨[1,9,11,13,19,20,21],[704],[⟨1504500,118,ty7,[.slot 9],false⟩,⟨1504501,178,ty20,[.slot 19],false⟩],[]⟩)]
 ro:=[true]
theorem jd0:Con.OK Tryz.prog j5P:=
 cOf j0c j01 jib j5P Tryz.func70 (j6 j5k (j6 j54 trivial)) (j6 (fun h=>by kernel_rfl) (j6 (fun h=>by kernel_rfl) (j6 (fun h=>by kernel_rfl) trivial)))
def j6D:Con:=⟨246,[.v ty82,.v ty22,.v iT,.v iT],[ty82,ty22,iT,iT],⟨[.own 118 ty12],[]⟩,[ty12],fun h=>Pw.j2R h.1 h.2.1 h.2.2.1 h.2.2.2⟩
def jgi:FnD where
 N:=58
 np:=4
 cs:=[j2p,j2S]
 ds:=[⟨0,[.s (.one (.bp 320 0)),.s (.one (.ol 1000000)),.s (.one (.ol 1000001)),sI,sI,.b (.cell [.d .str,.d iT,.d (.list iT)] false),.b (.lst 118 ty7 false),.b (.lst 178 ty20 false)],[iT,iT,.str,iT,(.list iT),ty12,ty24],[⟨.exit 0,[.s (.one (.ol 1500100)),.b (.lst 118 ty7 false)],[ty12]⟩],fun h=>Pw.j21 h.1 h.2.1 h.2.2.1 h.2.2.2.1 h.2.2.2.2.1 h.2.2.2.2.2.1 h.2.2.2.2.2.2⟩,
  ⟨2,[.s (.one (.bp 320 0)),.s (.one (.ol 1002000)),.s (.one (.bp 704 0)),.s (.one (.ol 1002001)),sI,sI,.s (.one (.d (.list iT))),sI,sI,.b (.cell [.d .str,.d iT,.d (.list iT)] false),.b (.cell [.d iT,.d iT,.d iT] false),.b (.lst 118 ty7 false),.b (.lst 178 ty20 false)],[iT,iT,(.list iT),iT,iT,.str,iT,(.list iT),iT,iT,iT,ty12,ty24],[⟨.exit 2,[.s (.one (.bp 320 0)),.s (.one (.ol 1502300)),.s (.one (.ol 1502301)),sI,sI,.b (.cell [.d .str,.d iT,.d (.list iT)] false),.b (.lst 118 ty7 false),.b (.lst 178 ty20 false)],[iT,iT,.str,iT,(.list iT),ty12,ty24]⟩],fun h=>Pw.j6W h.1 h.2.1 h.2.2.1 h.2.2.2.1 h.2.2.2.2.1 h.2.2.2.2.2.1 h.2.2.2.2.2.2.1 h.2.2.2.2.2.2.2.1 h.2.2.2.2.2.2.2.2.1 h.2.2.2.2.2.2.2.2.2.1 h.2.2.2.2.2.2.2.2.2.2.1 h.2.2.2.2.2.2.2.2.2.2.2.1 h.2.2.2.2.2.2.2.2.2.2.2.2⟩]
 modes:=[(98,[false]),(107,[false,false,false])]
 keep:=[(0,⟨[5,9,23,24,25],[320],[⟨1000000,118,ty7,[.slot 9],false⟩,⟨1000001,178,ty20,[.slot 23],false⟩],[]⟩),
  (2,⟨[5,9,11,23,24,25,30,31,32],[320,704],[⟨1002000,118,ty7,[.slot 9],false⟩,⟨1002001,178,ty20,[.slot 23],false⟩],[]⟩)]
 keepX:=[(0,.exit 0,⟨[9],[],[⟨1500100,118,ty7,[.slot 9],false⟩],[]⟩),
  (2,.exit 2,⟨[5,9,23,24,25],[320],[⟨1502300,118,ty7,[.slot 9],false⟩,⟨1502301,178,ty20,[.slot 23],false⟩],[]⟩)]
 ro:=[true]
theorem jfO:Con.OK Tryz.prog j6D:=
 cOf j0c j01 jgi j6D Tryz.func246 (j6 j5k (j6 j54 trivial)) (j6 (fun h=>by kernel_rfl) (j6 (fun h=>by kernel_rfl) trivial))
def j4r:Con:=⟨129,[.v ty12,.v ty12],[ty12,ty12],⟨[.own 118 ty12],[]⟩,[ty12],fun h=>Pw.j3n h.1 h.2⟩
def jic:FnD where
 N:=89
 np:=2
 cs:=[]
 ds:=[⟨0,[.s (.one (.d ty12)),.s (.one (.ol 1000000)),sI,.s (.one (.d ty12)),sI,sI,.b (.lst 118 ty7 false)],[ty12,iT,ty12,iT,iT,ty12],[⟨.exit 0,[.s (.one (.ol 1500100)),.b (.lst 118 ty7 false)],[ty12]⟩],fun h=>Pw.j2D h.1 h.2.1 h.2.2.1 h.2.2.2.1 h.2.2.2.2.1 h.2.2.2.2.2⟩,
  ⟨2,[.s (.one (.d ty12)),.s (.one (.ol 1002000)),sI,.s (.one (.bp 512 0)),.s (.one (.d ty12)),sI,sI,.b (.cell [.d iT,.d iT] false),.b (.lst 118 ty7 false)],[ty12,iT,ty12,iT,iT,iT,iT,ty12],[⟨.exit 2,[.s (.one (.d ty12)),.s (.one (.ol 1502300)),sI,.s (.one (.bp 512 0)),.s (.one (.d ty12)),sI,sI,.b (.cell [.d iT,.d iT] false),.b (.lst 118 ty7 false)],[ty12,iT,ty12,iT,iT,iT,iT,ty12]⟩],fun h=>Pw.j8r h.1 h.2.1 h.2.2.1 h.2.2.2.1 h.2.2.2.2.1 h.2.2.2.2.2.1 h.2.2.2.2.2.2.1 h.2.2.2.2.2.2.2⟩,
  ⟨4,[.s (.one (.d ty12)),.s (.one (.ol 1004000)),sI,.s (.one (.bp 512 0)),sI,sI,.s (.one (.d ty12)),sI,sI,.b (.cell [.d iT,.d iT] false),.b (.lst 118 ty7 false)],[ty12,iT,iT,iT,ty12,iT,iT,iT,iT,ty12],[⟨.exit 4,[.s (.one (.d ty12)),.s (.one (.ol 1504500)),sI,.s (.one (.bp 512 0)),sI,.s (.one (.d ty12)),sI,sI,.b (.cell [.d iT,.d iT] false),.b (.lst 118 ty7 false)],[ty12,iT,iT,ty12,iT,iT,iT,iT,ty12]⟩],fun h=>Pw.j8s h.1 h.2.1 h.2.2.1 h.2.2.2.1 h.2.2.2.2.1 h.2.2.2.2.2.1 h.2.2.2.2.2.2.1 h.2.2.2.2.2.2.2.1 h.2.2.2.2.2.2.2.2.1 h.2.2.2.2.2.2.2.2.2⟩]
 keep:=[(0,⟨[1,5,6,11,12,13],[],[⟨1000000,118,ty7,[.slot 5],false⟩],[]⟩),
  (2,⟨[1,5,6,8,11,12,13],[512],[⟨1002000,118,ty7,[.slot 5],false⟩],[]⟩),
  (4,⟨[1,5,6,8,9,10,11,12,13],[512],[⟨1004000,118,ty7,[.slot 5],false⟩],[]⟩)]
 keepX:=[(0,.exit 0,⟨[5],[],[⟨1500100,118,ty7,[.slot 5],false⟩],[]⟩),
  (2,.exit 2,⟨[1,5,6,8,11,12,13],[512],[⟨1502300,118,ty7,[.slot 5],false⟩],[]⟩),
  (4,.exit 4,⟨[1,5,6,8,9,11,12,13],[512],[⟨1504500,118,ty7,[.slot 5],false⟩],[]⟩)]
 ro:=[true]
theorem j9B:Con.OK Tryz.prog j4r:=
 cOf j0c j01 jic j4r Tryz.func129 trivial (j6 (fun h=>by kernel_rfl) (j6 (fun h=>by kernel_rfl) (j6 (fun h=>by kernel_rfl) trivial)))
def j6E:Con:=⟨69,[.v ty12,.v ty12],[ty12,ty12],⟨[.own 118 ty12],[]⟩,[ty12],fun h=>Pw.j3B h.1 h.2⟩
def jjI:FnD where
 N:=67
 np:=2
 cs:=[]
 ds:=[⟨0,[.s (.one (.d ty12)),.s (.one (.d ty12)),.s (.one (.ol 1000000)),sI,sI,.b (.lst 118 ty7 false)],[ty12,ty12,iT,iT,ty12],[⟨.exit 0,[.s (.one (.ol 1500100)),.b (.lst 118 ty7 false)],[ty12]⟩],fun h=>Pw.j9e h.1 h.2.1 h.2.2.1 h.2.2.2.1 h.2.2.2.2⟩]
 keep:=[(0,⟨[0,1,5,6,7],[],[⟨1000000,118,ty7,[.slot 5],false⟩],[]⟩)]
 keepX:=[(0,.exit 0,⟨[5],[],[⟨1500100,118,ty7,[.slot 5],false⟩],[]⟩)]
 ro:=[true]
 dw:=[(4,[[],[],[],[],[],[],[],[],[],[],[],[],[],[],[],[],[],[],[],[],[],[],[],[512],[512]])]
theorem jdE:Con.OK Tryz.prog j6E:=
 cOf j0c j01 jjI j6E Tryz.func69 trivial (j6 (fun h=>by kernel_rfl) trivial)
def j64:Con:=⟨196,[.v ty82,.v ty68,.v iT,.v iT],[ty82,ty68,iT,iT],⟨[.own 118 ty12],[]⟩,[ty12],fun h=>Pw.j4H h.1 h.2.1 h.2.2.1 h.2.2.2⟩
def jfP:FnD where
 N:=90
 np:=4
 cs:=[j2F,j5P,j6D,j4r,j6E]
 ds:=[]
 modes:=[(69,[false,false]),(70,[false,false,false,false]),(129,[false,false]),(162,[false,false,false]),(246,[false,false,false,false])]
 ro:=[true]
 dw:=[(7,[[],[],[],[],[],[],[],[],[],[],[3584],[]]),(10,[[],[],[],[],[],[],[],[],[],[],[],[4608],[4672],[]]),(12,[[],[],[],[],[],[],[],[],[],[],[],[5568],[5632],[]])]
theorem jf6:Con.OK Tryz.prog j64:=
 cOf j0c j01 jfP j64 Tryz.func196 (j6 j63 (j6 jd0 (j6 jfO (j6 j9B (j6 jdE trivial))))) trivial
def j4S:Con:=⟨115,[.v ty25,.v iT],[ty25,iT],⟨[.v iT],[]⟩,[iT],fun h=>Pw.j3R h.1 h.2⟩
def jea:FnD where
 N:=10
 np:=2
 cs:=[j3K,j3r]
 ds:=[]
 modes:=[(168,[false,false]),(169,[false,false])]
 ro:=[false]
theorem jdq:Con.OK Tryz.prog j4S:=
 cOf j0c j01 jea j4S Tryz.func115 (j6 j9A (j6 j8x trivial)) trivial
def jaA:Con:=⟨114,[.v iT],[iT],⟨[.v ty7],[]⟩,[ty7],fun h=>Pw.jiT h⟩
def jkS:FnD where
 N:=17
 np:=1
 cs:=[]
 ds:=[]
 ro:=[false]
theorem jjJ:Con.OK Tryz.prog jaA:=
 cOf j0c j01 jkS jaA Tryz.func114 trivial trivial
end Go.Proofs.Pk
